/- Proved: what each function of the program that the statements of this seat reach comes to, for whatever memory and arguments it is called with (on condition that its plain text tells a result). -/
import Derived.Test.YtkgjaklnbgdmiaaProg
import Derived.Below
import Derived.Deep.Draws
import Derived.Deep.AppendLies
import Derived.Maps.AppendAt
import Derived.OwnWalk
import Derived.Laws.BytesArg
import Derived.Laws.MakeOwn
import Derived.Laws.OwnMore
import Derived.Deep.OwnRows
import Derived.Tactics
import Derived.Lib.ConvBytes
import Derived.Laws.Slices
import Derived.WalkKit
import Derived.KernelRfl
import Derived.RowKit3
import Derived.Deep.LoopGhost
import Derived.Deep.QuietTactic
import Derived.BigQuiet
import Derived.WideLaws
import Derived.Deep.DeepCutAuto
import Derived.Deep.CutBlock
import Derived.Deep.RegionHeld3
import Derived.Laws.Rows
import Derived.Lib.AppendStr
import Derived.ArgAppend
import Derived.Laws.IdiomCopy
import Derived.OrdersHeld
import Derived.Laws.BitsLemmas
import Derived.RowKit
import Derived.Test.YtkgjaklnbgdmiaaU1
import Derived.Lib.SliceRun
import Derived.Maps.OwnSet
import Derived.StringKeys
import Derived.Laws.RangeString
import Derived.Laws.RangeAny
import Derived.Laws.Strings
import Derived.Laws.Strings2
import Derived.Laws.Strings3
import Derived.LoopTactic
namespace Go.Proofs.Ytkgjaklnbgdmiaa.P
open Go.RowKit Go.Proofs.YtkgjaklnbgdmiaaW.PrintWords Go.Proofs.YtkgjaklnbgdmiaaW.PrintLast Go.Proofs.YtkgjaklnbgdmiaaW.PrintMore
attribute [local go_sem] Zcs Zcu Zc7 Zc8 Zcc Zcd Zct Zcv
set_option linter.unusedVariables false
set_option linter.unusedSimpArgs false
def errW : Option Int → Value
 | none => .nilIface
 | some c => .iface 0 (.int .i64 c)
theorem Zar : errW none = .nilIface := rfl
theorem Zas (c : Int) : errW (some c) = .iface 0 (.int .i64 c) := rfl
theorem info3 : (Try.prog.info? 3).map (fun i => (i.zero, i.size, i.bytes)) = some (some (.int .i64 0), 1, 8) := by kernel_rfl
theorem info24 : (Try.prog.info? 24).map (fun i => (i.zero, i.size, i.bytes)) = some (some (.slice none 0 0), 1, 24) := by kernel_rfl
theorem info31 : (Try.prog.info? 31).map (fun i => (i.zero, i.size, i.bytes)) = some (some (.agg #[(.int .i64 0), (.slice none 0 0), (.slice none 0 0), (.int .i64 0), (.int .i64 0), (.slice none 0 0), (.int .i64 0)]), 7, 104) := by kernel_rfl
theorem info37 : (Try.prog.info? 37).map (fun i => (i.zero, i.size, i.bytes)) = some (some (.slice none 0 0), 1, 24) := by kernel_rfl
theorem info48 : (Try.prog.info? 48).map (fun i => (i.zero, i.size, i.bytes)) = some (some (.agg #[(.int .i64 0), (.int .i64 0)]), 2, 16) := by kernel_rfl
theorem info50 : (Try.prog.info? 50).map (fun i => (i.zero, i.size, i.bytes)) = some (some (.agg #[(.string ⟨#[]⟩), (.slice none 0 0)]), 2, 40) := by kernel_rfl
def Zc5 (xs : List (List Int)) (i : Int) : (List Int) := xs.getD i.toNat ([] : List Int)
theorem at_L1 {w : World} {A : Option Addr} {n : Nat} {xs : List (List Int)} (h : Kd.C (Kd.slice 3 (Kd.int .i64)) w A n xs) (i : Int) (h0 : 0 ≤ i) (h1 : i < n) : ∃ ad A0 c0, A = some ad ∧ w.cell? (ad.add i.toNat) = some (.slice A0 (Zc5 xs i).length c0) ∧ (Zc5 xs i).length ≤ c0 ∧ (Kd.int .i64).C w A0 (Zc5 xs i).length (Zc5 xs i) := by
 obtain ⟨ad, c, e, _, hK, hc0⟩ := Kd.C_get h ([] : List Int) i h0 h1
 have hc : ∀ j u, c[j]? = some u → w.cell? (ad.add (i.toNat * 1 + j)) = some u := hc0
 obtain ⟨A0, c0, rfl, l0, g0⟩ := hK
 exact ⟨ad, A0, c0, e, by have hq := hc 0 _ rfl; rwa [Nat.mul_one, Nat.add_zero] at hq, l0, g0⟩
structure S48 where
 f0 : Int
 f1 : Int
def z48 : S48 := ⟨(0 : Int), (0 : Int)⟩
def k48 : Kd S48 := Kd.iso (Kd.pair (Kd.int .i64) (Kd.int .i64)) (fun x : S48 => (x.f0, x.f1))
theorem k48_open {w : World} {x : S48} {cs : List Value} (h : k48.K w x cs) : cs = [.int .i64 x.f0, .int .i64 x.f1] := by
 obtain ⟨_, _, rfl, rfl, rfl⟩ := h
 exact rfl
theorem Zfo (w : World) (base : Nat) (ok : Nat → Prop) (x : S48)  : k48.M w base ok x [.int .i64 x.f0, .int .i64 x.f1] := ⟨[.int .i64 x.f0], [.int .i64 x.f1], rfl, rfl, rfl⟩
def Zb (xs : List S48) (i : Int) : S48 := xs.getD i.toNat z48
theorem Zeq {w : World} {A : Option Addr} {n : Nat} {xs : List S48} (h : Kd.C k48 w A n xs) (i : Int) (h0 : 0 ≤ i) (h1 : i < n) : ∃ ad , A = some ad ∧ w.cell? (ad.add (i.toNat * 2)) = some (.int .i64 (Zb xs i).f0) ∧ w.cell? ⟨(ad.add (i.toNat * 2)).block, (ad.add (i.toNat * 2)).off + 1, none⟩ = some (.int .i64 (Zb xs i).f1) := by
 obtain ⟨ad, c, e, _, hK, hc0⟩ := Kd.C_get h z48 i h0 h1
 have hc : ∀ j u, c[j]? = some u → w.cell? (ad.add (i.toNat * 2 + j)) = some u := hc0
 obtain rfl := k48_open hK
 exact ⟨ad, e, hc 0 _ rfl, by rw [← Zb9 _ _ 1 (by omega)]; exact hc 1 _ rfl⟩
def rd_L4 (xs : List (List S48)) (i : Int) : (List S48) := xs.getD i.toNat ([] : List S48)
theorem at_L4 {w : World} {A : Option Addr} {n : Nat} {xs : List (List S48)} (h : Kd.C (Kd.slice 48 k48) w A n xs) (i : Int) (h0 : 0 ≤ i) (h1 : i < n) : ∃ ad A0 c0, A = some ad ∧ w.cell? (ad.add i.toNat) = some (.slice A0 (rd_L4 xs i).length c0) ∧ (rd_L4 xs i).length ≤ c0 ∧ k48.C w A0 (rd_L4 xs i).length (rd_L4 xs i) := by
 obtain ⟨ad, c, e, _, hK, hc0⟩ := Kd.C_get h ([] : List S48) i h0 h1
 have hc : ∀ j u, c[j]? = some u → w.cell? (ad.add (i.toNat * 1 + j)) = some u := hc0
 obtain ⟨A0, c0, rfl, l0, g0⟩ := hK
 exact ⟨ad, A0, c0, e, by have hq := hc 0 _ rfl; rwa [Nat.mul_one, Nat.add_zero] at hq, l0, g0⟩
structure S50 where
 f0 : ByteArray
 f1 : (List S48)
def z50 : S50 := ⟨(⟨#[]⟩ : ByteArray), ([] : List S48)⟩
def k50 : Kd S50 := Kd.iso (Kd.pair Kd.string (Kd.slice 48 k48)) (fun x : S50 => (x.f0, x.f1))
theorem k50_open {w : World} {x : S50} {cs : List Value} (h : k50.K w x cs) : ∃ A1 c1, cs = [.string x.f0, .slice A1 x.f1.length c1] ∧ x.f1.length ≤ c1 ∧ k48.C w A1 x.f1.length x.f1 := by
 obtain ⟨_, _, rfl, rfl, ⟨A1, c1, rfl, l1, g1⟩⟩ := h
 exact ⟨A1, c1, rfl, l1, g1⟩
theorem k50_mk (w : World) (x : S50) {A1 : Option Addr} {c1 : Nat} (l1 : x.f1.length ≤ c1) (g1 : k48.C w A1 x.f1.length x.f1) : k50.K w x [.string x.f0, .slice A1 x.f1.length c1] := ⟨[.string x.f0], [.slice A1 x.f1.length c1], rfl, rfl, ⟨A1, c1, rfl, l1, g1⟩⟩
theorem k50_mkM (w : World) (base : Nat) (ok : Nat → Prop) (x : S50) {v1 : Value} (g1 : k48.R 48 w base ok v1 x.f1) : k50.M w base ok x [.string x.f0, v1] := ⟨[.string x.f0], [v1], rfl, rfl, ⟨v1, rfl, g1⟩⟩
theorem k50_mkF (W : World) (ok : Nat → Prop) (x : S50) {A1 : Option Addr} {c1 : Nat} (l1 : x.f1.length ≤ c1) (g1 : Kd.F k48 W ok A1 x.f1.length x.f1) : Kd.FK k50 W ok x [.string x.f0, .slice A1 x.f1.length c1] := fun W2 hW => k50_mk W2 x l1 (g1 W2 hW)
def Za4 (xs : List S50) (i : Int) : S50 := xs.getD i.toNat z50
theorem Zg {w : World} {A : Option Addr} {n : Nat} {xs : List S50} (h : Kd.C k50 w A n xs) (i : Int) (h0 : 0 ≤ i) (h1 : i < n) : ∃ ad A1 c1, A = some ad ∧ w.cell? (ad.add (i.toNat * 2)) = some (.string (Za4 xs i).f0) ∧ w.cell? ⟨(ad.add (i.toNat * 2)).block, (ad.add (i.toNat * 2)).off + 1, none⟩ = some (.slice A1 (Za4 xs i).f1.length c1) ∧ (Za4 xs i).f1.length ≤ c1 ∧ k48.C w A1 (Za4 xs i).f1.length (Za4 xs i).f1 := by
 obtain ⟨ad, c, e, _, hK, hc0⟩ := Kd.C_get h z50 i h0 h1
 have hc : ∀ j u, c[j]? = some u → w.cell? (ad.add (i.toNat * 2 + j)) = some u := hc0
 obtain ⟨A1, c1, rfl, l1, g1⟩ := k50_open hK
 exact ⟨ad, A1, c1, e, hc 0 _ rfl, by rw [← Zb9 _ _ 1 (by omega)]; exact hc 1 _ rfl, l1, g1⟩
structure S31 where
 f0 : Int
 f1 : (List Int)
 f2 : (List Int)
 f3 : Int
 f4 : Int
 f5 : (List (List Int))
 f6 : Int
def z31 : S31 := ⟨(0 : Int), ([] : List Int), ([] : List Int), (0 : Int), (0 : Int), ([] : List (List Int)), (0 : Int)⟩
def k31 : Kd S31 := Kd.iso (Kd.pair (Kd.int .i64) (Kd.pair (Kd.slice 3 (Kd.int .i64)) (Kd.pair (Kd.slice 3 (Kd.int .i64)) (Kd.pair (Kd.int .i64) (Kd.pair (Kd.int .i64) (Kd.pair (Kd.slice 24 (Kd.slice 3 (Kd.int .i64))) (Kd.int .i64))))))) (fun x : S31 => (x.f0, x.f1, x.f2, x.f3, x.f4, x.f5, x.f6))
theorem k31_open {w : World} {x : S31} {cs : List Value} (h : k31.K w x cs) : ∃ A1 c1 A2 c2 A5 c5, cs = [.int .i64 x.f0, .slice A1 x.f1.length c1, .slice A2 x.f2.length c2, .int .i64 x.f3, .int .i64 x.f4, .slice A5 x.f5.length c5, .int .i64 x.f6] ∧ x.f1.length ≤ c1 ∧ (Kd.int .i64).C w A1 x.f1.length x.f1 ∧ x.f2.length ≤ c2 ∧ (Kd.int .i64).C w A2 x.f2.length x.f2 ∧ x.f5.length ≤ c5 ∧ (Kd.slice 3 (Kd.int .i64)).C w A5 x.f5.length x.f5 := by
 obtain ⟨_, _, rfl, rfl, ⟨_, _, rfl, ⟨A1, c1, rfl, l1, g1⟩, ⟨_, _, rfl, ⟨A2, c2, rfl, l2, g2⟩, ⟨_, _, rfl, rfl, ⟨_, _, rfl, rfl, ⟨_, _, rfl, ⟨A5, c5, rfl, l5, g5⟩, rfl⟩⟩⟩⟩⟩⟩ := h
 exact ⟨A1, c1, A2, c2, A5, c5, rfl, l1, g1, l2, g2, l5, g5⟩
theorem Zet {w : World} {base : Nat} {ok : Nat → Prop} {x : S31} {cs : List Value} (h : k31.M w base ok x cs) : ∃ v1 v2 v5, cs = [.int .i64 x.f0, v1, v2, .int .i64 x.f3, .int .i64 x.f4, v5, .int .i64 x.f6] ∧ (Kd.int .i64).R 3 w base ok v1 x.f1 ∧ (Kd.int .i64).R 3 w base ok v2 x.f2 ∧ (Kd.slice 3 (Kd.int .i64)).R 24 w base ok v5 x.f5 := by
 obtain ⟨_, _, rfl, rfl, ⟨_, _, rfl, ⟨v1, rfl, g1⟩, ⟨_, _, rfl, ⟨v2, rfl, g2⟩, ⟨_, _, rfl, rfl, ⟨_, _, rfl, rfl, ⟨_, _, rfl, ⟨v5, rfl, g5⟩, rfl⟩⟩⟩⟩⟩⟩ := h
 exact ⟨v1, v2, v5, rfl, g1, g2, g5⟩
theorem k31_mk (w : World) (x : S31) {A1 : Option Addr} {c1 : Nat} (l1 : x.f1.length ≤ c1) (g1 : (Kd.int .i64).C w A1 x.f1.length x.f1) {A2 : Option Addr} {c2 : Nat} (l2 : x.f2.length ≤ c2) (g2 : (Kd.int .i64).C w A2 x.f2.length x.f2) {A5 : Option Addr} {c5 : Nat} (l5 : x.f5.length ≤ c5) (g5 : (Kd.slice 3 (Kd.int .i64)).C w A5 x.f5.length x.f5) : k31.K w x [.int .i64 x.f0, .slice A1 x.f1.length c1, .slice A2 x.f2.length c2, .int .i64 x.f3, .int .i64 x.f4, .slice A5 x.f5.length c5, .int .i64 x.f6] := ⟨[.int .i64 x.f0], [.slice A1 x.f1.length c1, .slice A2 x.f2.length c2, .int .i64 x.f3, .int .i64 x.f4, .slice A5 x.f5.length c5, .int .i64 x.f6], rfl, rfl, ⟨[.slice A1 x.f1.length c1], [.slice A2 x.f2.length c2, .int .i64 x.f3, .int .i64 x.f4, .slice A5 x.f5.length c5, .int .i64 x.f6], rfl, ⟨A1, c1, rfl, l1, g1⟩, ⟨[.slice A2 x.f2.length c2], [.int .i64 x.f3, .int .i64 x.f4, .slice A5 x.f5.length c5, .int .i64 x.f6], rfl, ⟨A2, c2, rfl, l2, g2⟩, ⟨[.int .i64 x.f3], [.int .i64 x.f4, .slice A5 x.f5.length c5, .int .i64 x.f6], rfl, rfl, ⟨[.int .i64 x.f4], [.slice A5 x.f5.length c5, .int .i64 x.f6], rfl, rfl, ⟨[.slice A5 x.f5.length c5], [.int .i64 x.f6], rfl, ⟨A5, c5, rfl, l5, g5⟩, rfl⟩⟩⟩⟩⟩⟩
theorem k31_mkM (w : World) (base : Nat) (ok : Nat → Prop) (x : S31) {v1 : Value} (g1 : (Kd.int .i64).R 3 w base ok v1 x.f1) {v2 : Value} (g2 : (Kd.int .i64).R 3 w base ok v2 x.f2) {v5 : Value} (g5 : (Kd.slice 3 (Kd.int .i64)).R 24 w base ok v5 x.f5) : k31.M w base ok x [.int .i64 x.f0, v1, v2, .int .i64 x.f3, .int .i64 x.f4, v5, .int .i64 x.f6] := ⟨[.int .i64 x.f0], [v1, v2, .int .i64 x.f3, .int .i64 x.f4, v5, .int .i64 x.f6], rfl, rfl, ⟨[v1], [v2, .int .i64 x.f3, .int .i64 x.f4, v5, .int .i64 x.f6], rfl, ⟨v1, rfl, g1⟩, ⟨[v2], [.int .i64 x.f3, .int .i64 x.f4, v5, .int .i64 x.f6], rfl, ⟨v2, rfl, g2⟩, ⟨[.int .i64 x.f3], [.int .i64 x.f4, v5, .int .i64 x.f6], rfl, rfl, ⟨[.int .i64 x.f4], [v5, .int .i64 x.f6], rfl, rfl, ⟨[v5], [.int .i64 x.f6], rfl, ⟨v5, rfl, g5⟩, rfl⟩⟩⟩⟩⟩⟩
theorem k31_mkF (W : World) (ok : Nat → Prop) (x : S31) {A1 : Option Addr} {c1 : Nat} (l1 : x.f1.length ≤ c1) (g1 : Kd.F (Kd.int .i64) W ok A1 x.f1.length x.f1) {A2 : Option Addr} {c2 : Nat} (l2 : x.f2.length ≤ c2) (g2 : Kd.F (Kd.int .i64) W ok A2 x.f2.length x.f2) {A5 : Option Addr} {c5 : Nat} (l5 : x.f5.length ≤ c5) (g5 : Kd.F (Kd.slice 3 (Kd.int .i64)) W ok A5 x.f5.length x.f5) : Kd.FK k31 W ok x [.int .i64 x.f0, .slice A1 x.f1.length c1, .slice A2 x.f2.length c2, .int .i64 x.f3, .int .i64 x.f4, .slice A5 x.f5.length c5, .int .i64 x.f6] := fun W2 hW => k31_mk W2 x l1 (g1 W2 hW) l2 (g2 W2 hW) l5 (g5 W2 hW)
def Zah (xs : List S31) (i : Int) : S31 := xs.getD i.toNat z31
theorem Zeg {w : World} {A : Option Addr} {n : Nat} {xs : List S31} (h : Kd.C k31 w A n xs) (i : Int) (h0 : 0 ≤ i) (h1 : i < n) : ∃ ad A1 c1 A2 c2 A5 c5, A = some ad ∧ w.cell? (ad.add (i.toNat * 7)) = some (.int .i64 (Zah xs i).f0) ∧ w.cell? ⟨(ad.add (i.toNat * 7)).block, (ad.add (i.toNat * 7)).off + 1, none⟩ = some (.slice A1 (Zah xs i).f1.length c1) ∧ w.cell? ⟨(ad.add (i.toNat * 7)).block, (ad.add (i.toNat * 7)).off + 2, none⟩ = some (.slice A2 (Zah xs i).f2.length c2) ∧ w.cell? ⟨(ad.add (i.toNat * 7)).block, (ad.add (i.toNat * 7)).off + 3, none⟩ = some (.int .i64 (Zah xs i).f3) ∧ w.cell? ⟨(ad.add (i.toNat * 7)).block, (ad.add (i.toNat * 7)).off + 4, none⟩ = some (.int .i64 (Zah xs i).f4) ∧ w.cell? ⟨(ad.add (i.toNat * 7)).block, (ad.add (i.toNat * 7)).off + 5, none⟩ = some (.slice A5 (Zah xs i).f5.length c5) ∧ w.cell? ⟨(ad.add (i.toNat * 7)).block, (ad.add (i.toNat * 7)).off + 6, none⟩ = some (.int .i64 (Zah xs i).f6) ∧ (Zah xs i).f1.length ≤ c1 ∧ (Kd.int .i64).C w A1 (Zah xs i).f1.length (Zah xs i).f1 ∧ (Zah xs i).f2.length ≤ c2 ∧ (Kd.int .i64).C w A2 (Zah xs i).f2.length (Zah xs i).f2 ∧ (Zah xs i).f5.length ≤ c5 ∧ (Kd.slice 3 (Kd.int .i64)).C w A5 (Zah xs i).f5.length (Zah xs i).f5 := by
 obtain ⟨ad, c, e, _, hK, hc0⟩ := Kd.C_get h z31 i h0 h1
 have hc : ∀ j u, c[j]? = some u → w.cell? (ad.add (i.toNat * 7 + j)) = some u := hc0
 obtain ⟨A1, c1, A2, c2, A5, c5, rfl, l1, g1, l2, g2, l5, g5⟩ := k31_open hK
 exact ⟨ad, A1, c1, A2, c2, A5, c5, e, hc 0 _ rfl, by rw [← Zb9 _ _ 1 (by omega)]; exact hc 1 _ rfl, by rw [← Zb9 _ _ 2 (by omega)]; exact hc 2 _ rfl, by rw [← Zb9 _ _ 3 (by omega)]; exact hc 3 _ rfl, by rw [← Zb9 _ _ 4 (by omega)]; exact hc 4 _ rfl, by rw [← Zb9 _ _ 5 (by omega)]; exact hc 5 _ rfl, by rw [← Zb9 _ _ 6 (by omega)]; exact hc 6 _ rfl, l1, g1, l2, g2, l5, g5⟩
end Go.Proofs.Ytkgjaklnbgdmiaa.P
/- Facts of a world, at a world that an alloc or a draw has moved: told by the class 'Mv', so that the texts stay short. -/
namespace Go.Proofs.Ytkgjaklnbgdmiaa.P
open Go.RowKit Go.Proofs.YtkgjaklnbgdmiaaW.PrintWords Go.Proofs.YtkgjaklnbgdmiaaW.PrintLast Go.Proofs.YtkgjaklnbgdmiaaW.PrintMore
class Mv (w w' : World) : Prop where
  out : Below w.heap.size w w'
instance (w : World) : Mv w w := ⟨Below.refl _ _⟩
instance (w w' : World) [h : Mv w w'] : Mv w w'.drew := ⟨Zaf h.out (Zdg (Below.refl _ _))⟩
instance (w w' : World) (n : Nat) [h : Mv w w'] : Mv w (w'.drewN n) := ⟨Zaf h.out (Zaa (Below.refl _ _) n)⟩
instance (w w' : World) (o : Obj) [h : Mv w w'] : Mv w (w'.alloc o) := ⟨Zaf h.out (Zab (Below.refl _ _) o)⟩
section
variable {α : Type} {d : Kd α} {e base : Nat} {ok : Nat → Prop} {w w' W : World} {v : Value} {xs : List α}
theorem mvR [m : Mv w w'] (h : d.R e w base ok v xs) : d.R e w' base ok v xs := Kd.Zb6 h m.out
theorem mvS [m : Mv w w'] (h : Kd.S d e w base ok v xs) : Kd.S d e w' base ok v xs := Kd.Zcw h m.out
theorem mvN [m : Mv w w'] (h : Kd.N d e w base ok v xs) : Kd.N d e w' base ok v xs := Kd.N_below h m.out
theorem mvB [m : Mv w w'] (h : Below W.heap.size W w) : Below W.heap.size W w' := Zaf h m.out
theorem mvK {g : Nat} {o : Obj} [m : Mv w w'] (h : w.heap[g]? = some o) : w'.heap[g]? = some o := Zap h m.out
theorem mvV [m : Mv w w'] (h : Kd.V d e w base ok v xs) : Kd.V d e w' base ok v xs := Kd.Zej h m.out
end
theorem withB {P : Program} {n m : Nat} {args : Array Value} {W w0 : World} {Q : Ending → World → Prop} (h : Below m w0 W) (k : Below m w0 W → Calls P n args W Q) : Calls P n args W Q := k h
end Go.Proofs.Ytkgjaklnbgdmiaa.P
namespace Go.Proofs.Ytkgjaklnbgdmiaa.P
open Go.RowKit Go.Proofs.YtkgjaklnbgdmiaaW.PrintWords Go.Proofs.YtkgjaklnbgdmiaaW.PrintLast Go.Proofs.YtkgjaklnbgdmiaaW.PrintMore
attribute [local go_sem] Zcs Zcu Zc7 Zc8 Zcc Zcd Zct Zcv
set_option linter.unusedVariables false
set_option linter.unusedSimpArgs false
def Zbs.l0 : Nat → List Int → List Int → Int → Option (Bool)
 | 0, _, _, _ => none
 | k + 1, x0, x1, x5 => if x5 < (x0.length : Int) then (if 0 ≤ x5 then (if x5 < (x1.length : Int) then (if (rd x0 x5) = (rd x1 x5) then (Zbs.l0 k x0 x1 (wrap64 (x5 + 1))) else (some false)) else (none)) else (none)) else (some true)
def Zbs.f (k : Nat) (l0 : List Int) (l1 : List Int) : Option (Bool) := if (l0.length : Int) = (l1.length : Int) then (Zbs.l0 k l0 l1 0) else (some false)
set_option maxHeartbeats 8000000 in
set_option maxRecDepth 100000 in
theorem Zbs.calls (k : Nat) (A0 : Option Addr) (c0 : Nat) (l0 : List Int) (A1 : Option Addr) (c1 : Nat) (l1 : List Int) (r : Bool) (w : World) (hr0 : Kd.C (Kd.int .i64) w A0 l0.length l0) (hc0 : l0.length ≤ c0) (hr1 : Kd.C (Kd.int .i64) w A1 l1.length l1) (hc1 : l1.length ≤ c1) (h : Zbs.f k l0 l1 = some r) :
  Calls Try.prog 16 #[.slice A0 l0.length c0, .slice A1 l1.length c1] w fun e w' => e = .returned (.bool r) ∧ Zbf w w' := by
 have HR0 := Za.mk hr0
 have HC0 := Za.mk hc0
 clear hr0 hc0
 have HR1 := Za.mk hr1
 have HC1 := Za.mk hc1
 clear hr1 hc1
 have H : (if (l0.length : Int) = (l1.length : Int) then (Zbs.l0 k l0 l1 0) else (some false)) = some r := h
 clear h
 by_cases c3 : (l0.length : Int) = (l1.length : Int)
 rotate_left
 ·rw [if_neg c3] at H
  have c3b0 : ((l0.length : Int) == (l1.length : Int)) = false := beq_eq_false_iff_ne.mpr c3
  have c3b1 : ((l0.length : Int) != (l1.length : Int)) = true := bne_iff_ne.mpr c3
  have c3b2 : (l0.length == l1.length) = false := by first | simpa using c3 | (simp at c3 ⊢; omega)
  obtain rfl := Option.some.inj H
  go_enter Try.func16, Try.ntmps16
  go_wp2
  repeat (go_quiet (fail); try go_wp2)
  go_ret
  exact ⟨by first | rfl | (simp; done) | (simp [*]; done), by repeat (first | exact Zbf.refl _ | apply Zbf.step)⟩
 rw [if_pos c3] at H
 have c3b0 : ((l0.length : Int) == (l1.length : Int)) = true := beq_iff_eq.mpr c3
 have c3b1 : ((l0.length : Int) != (l1.length : Int)) = false := bne_eq_false_iff_eq.mpr c3
 have c3b2 : (l0.length == l1.length) = true := by first | simpa using c3 | (simp at c3 ⊢; omega)
 clear c3
 have H' := Za.mk H
 clear H
 go_enter Try.func16, Try.ntmps16
 go_wp2
 repeat (go_quiet (fail); try go_wp2)
 go_loopg [5] k (fun kq v5 w' => ∃ (x5_1 : Int), v5 = .int .i64 x5_1 ∧ Za (Zbs.l0 kq l0 l1 x5_1 = some r) ∧ Za (kq ≤ k) ∧ Zbf w w')
 case atStart => exact ⟨(0), (by first | rfl | (simp; done) | (simp [*]; done)), H', ⟨Nat.le_refl _⟩, by repeat (first | exact Zbf.refl _ | apply Zbf.step)⟩
 case round =>
  clear H'
  try clear c1
  try clear p2
  try clear c3
  try clear c3b0
  try clear c3b1
  try clear c3b2
  obtain ⟨x5_1, rfl, HA, HK1, ⟨m1, rfl⟩⟩ := hrel
  cases gk with
  | zero => exact absurd HA.out (by simp [Zbs.l0])
  | succ k1 =>
   have H := HA.out
   clear HA
   simp only [Zbs.l0] at H
   by_cases c4 : x5_1 < (l0.length : Int)
   rotate_left
   ·rw [if_neg c4] at H
    have c4b0 : decide (x5_1 < (l0.length : Int)) = false := decide_eq_false c4
    clear c4
    obtain rfl := Option.some.inj H
    go_wp2
    repeat (go_quiet (fail); try go_wp2)
    go_ret
    exact ⟨by first | rfl | (simp; done) | (simp [*]; done), by repeat (first | exact Zbf.refl _ | apply Zbf.step)⟩
   rw [if_pos c4] at H
   have c4b0 : decide (x5_1 < (l0.length : Int)) = true := decide_eq_true c4
   clear c4
   by_cases c5 : 0 ≤ x5_1
   rotate_left
   ·rw [if_neg c5] at H
    exact absurd H (by simp)
   rw [if_pos c5] at H
   have c5b0 : decide (0 ≤ x5_1) = true := decide_eq_true c5
   clear c5
   by_cases c6 : x5_1 < (l1.length : Int)
   rotate_left
   ·rw [if_neg c6] at H
    exact absurd H (by simp)
   rw [if_pos c6] at H
   have c6b0 : decide (x5_1 < (l1.length : Int)) = true := decide_eq_true c6
   clear c6
   by_cases c7 : (rd l0 x5_1) = (rd l1 x5_1)
   rotate_left
   ·rw [if_neg c7] at H
    have c7b0 : ((rd l0 x5_1) == (rd l1 x5_1)) = false := beq_eq_false_iff_ne.mpr c7
    have c7b1 : ((rd l0 x5_1) != (rd l1 x5_1)) = true := bne_iff_ne.mpr c7
    obtain rfl := Option.some.inj H
    have p210 : 0 ≤ (x5_1 : Int) := of_decide_eq_true (by first | (with_reducible assumption) | assumption)
    have q210 : x5_1 < (l0.length : Int) := of_decide_eq_true (by first | (with_reducible assumption) | assumption)
    obtain ⟨ad210, e210, hx210_0⟩ := Kd.Zcq HR0.out x5_1 p210 q210
    cases e210
    replace p210 := eq_true p210
    replace q210 := eq_true q210
    have p211 : 0 ≤ (x5_1 : Int) := of_decide_eq_true (by first | (with_reducible assumption) | assumption)
    have q211 : x5_1 < (l1.length : Int) := of_decide_eq_true (by first | (with_reducible assumption) | assumption)
    obtain ⟨ad211, e211, hx211_0⟩ := Kd.Zcq HR1.out x5_1 p211 q211
    cases e211
    replace p211 := eq_true p211
    replace q211 := eq_true q211
    go_wp2
    repeat (go_quiet (fail); try go_wp2)
    go_ret
    exact ⟨by first | rfl | (simp; done) | (simp [*]; done), by repeat (first | exact Zbf.refl _ | apply Zbf.step)⟩
   rw [if_pos c7] at H
   have c7b0 : ((rd l0 x5_1) == (rd l1 x5_1)) = true := beq_iff_eq.mpr c7
   have c7b1 : ((rd l0 x5_1) != (rd l1 x5_1)) = false := bne_eq_false_iff_eq.mpr c7
   clear c7
   have H' := Za.mk H
   clear H
   have p210 : 0 ≤ (x5_1 : Int) := of_decide_eq_true (by first | (with_reducible assumption) | assumption)
   have q210 : x5_1 < (l0.length : Int) := of_decide_eq_true (by first | (with_reducible assumption) | assumption)
   obtain ⟨ad210, e210, hx210_0⟩ := Kd.Zcq HR0.out x5_1 p210 q210
   cases e210
   replace p210 := eq_true p210
   replace q210 := eq_true q210
   have p211 : 0 ≤ (x5_1 : Int) := of_decide_eq_true (by first | (with_reducible assumption) | assumption)
   have q211 : x5_1 < (l1.length : Int) := of_decide_eq_true (by first | (with_reducible assumption) | assumption)
   obtain ⟨ad211, e211, hx211_0⟩ := Kd.Zcq HR1.out x5_1 p211 q211
   cases e211
   replace p211 := eq_true p211
   replace q211 := eq_true q211
   go_wp2
   repeat (go_quiet (fail); try go_wp2)
   go_roundg k1
   case measure => have := HK1.out; omega
   case rel => exact ⟨(wrap64 (x5_1 + 1)), (by first | rfl | (simp; done) | (simp [*]; done)), H', ⟨by have := HK1.out; omega⟩, by repeat (first | exact Zbf.refl _ | apply Zbf.step)⟩
end Go.Proofs.Ytkgjaklnbgdmiaa.P
/- slices.Clone of whole numbers. -/
namespace Go.Proofs.Ytkgjaklnbgdmiaa.P
open Go.RowKit Go.Proofs.YtkgjaklnbgdmiaaW.PrintWords Go.Proofs.YtkgjaklnbgdmiaaW.PrintLast Go.Proofs.YtkgjaklnbgdmiaaW.PrintMore
set_option linter.unusedVariables false
set_option linter.unusedSimpArgs false
def cloneI.f (l0 : List Int) : Option (List Int) := if l0.length < 17592186044416 then some l0 else none
set_option maxRecDepth 100000 in
set_option maxHeartbeats 2000000 in
theorem cloneI.calls (A0 : Option Addr) (c0 : Nat) (l0 : List Int) (r : List Int) (w : World) (hr0 : Kd.C (Kd.int .i64) w A0 l0.length l0) (hc0 : l0.length ≤ c0) (h : cloneI.f l0 = some r) :
    Calls Try.prog 44 #[.slice A0 l0.length c0] w fun e w' => ∃ v0_ : Value, e = .returned (v0_) ∧ Kd.R (Kd.int .i64) 3 w' w.heap.size (fun _ => True) v0_ r ∧ Below w.heap.size w w' := by
  have hu := Try.underlying3
  have q22 : ∀ (w : World) (a : Option Addr) (n c n' c' : Nat), (binOp .eql 24 (.slice a n c) (.slice none n' c')).run Try.prog w = .ok (.bool a.isNone) w := fun w a n c n' c' => Lib.run_eql_slice_nil w _ _ a n c n' c' Try.underlying24
  unfold cloneI.f at h
  split at h
  case isFalse => cases h
  case isTrue hl =>
    obtain rfl := Option.some.inj h
    have HL := Za.mk hl
    clear h hl
    have HR := Za.mk hr0
    have hlen : l0.length ≤ 9223372036854775807 := hr0.2.1
    cases A0 with
    | none =>
      have h0 : l0 = [] := by
        rcases Nat.eq_zero_or_pos l0.length with h | h
        · exact List.length_eq_zero_iff.1 h
        obtain ⟨ad, e, _⟩ := hr0.2.2 h; cases e
      subst h0
      clear hr0
      go_enter Try.func44, Try.ntmps44
      go_wp2
      go_ret
      exact ⟨_, rfl, Kd.Zfa _ _ _ _ _, Below.refl _ _⟩
    | some ad =>
      clear hr0
      have HB := Za.mk (Below.refl w.heap.size w)
      go_enter Try.func44, Try.ntmps44
      go_wp2_with (first | ((with_reducible refine Zax (N := 5) rfl ?_); refine Kd.Zc9 (Kd.int .i64) _ 3 ?hg (N := 5) ?hd (xs := ([] : List Int)) (inner := []) (ok := fun _ => True) (okp := fun _ => True) ?hr ?hp (fun _ hk => hk) trivial (Below.refl w.heap.size w) (Nat.le_refl _) (by simp) ?_; (case hd => rfl); (case hg => rfl); (case hr => first | (go_simp; done) | (go_simp; rfl)); (case hp => exact (Reps.none _ _)); intro v1 w1 ho hb hg_ hnew_; have HO := Za.mk ho; have HB := Za.mk hb; clear ho hb hg_ hnew_) | ((with_reducible refine Zb7 (b := .append) (xs := #[.tmp 5, .tmp 6]) rfl ?_); at_builtin; go_loud (refine Kd.Zc6 (Kd.int .i64) (Rr := (Kd.int .i64).K w1) (w0 := w) w.heap.size rfl (.tmp 5) (.tmp 6) 24 3 (.int .i64 0) 8 rfl Try.underlying24 info3 rfl (by decide) (by omega) v1 ([] : List Int) l0 _ _ _ (fun _ => True) (fun _ => False) rfl rfl ?aO ?aR ?aK (fun _ h => h.elim) ?aF ?aB ?aS ?aL ?_; (case aR => exact Kd.Zal HR.out HB.out); (case aK => intro x cs h; have e_ := h; subst e_; rfl); (case aB => exact HB.out); (case aF => exact (fun _ _ => trivial)); (case aO => exact HO.out); (case aS => exact HB.out.size); (case aL => have := HL.out; simp; omega); intro v2 w2 ho2 hb2 hg hat; have HO2 := Za.mk ho2; have HB2 := Za.mk hb2; clear ho2 hb2 hg hat)))
      go_ret
      exact ⟨_, rfl, by simpa using HO2.out, HB2.out⟩
end Go.Proofs.Ytkgjaklnbgdmiaa.P
/- slices.Clone of ranges. -/
namespace Go.Proofs.Ytkgjaklnbgdmiaa.P
open Go.RowKit Go.Proofs.YtkgjaklnbgdmiaaW.PrintWords Go.Proofs.YtkgjaklnbgdmiaaW.PrintLast Go.Proofs.YtkgjaklnbgdmiaaW.PrintMore
set_option linter.unusedVariables false
set_option linter.unusedSimpArgs false
def cloneR.f (l0 : List S48) : Option (List S48) := if l0.length < 8796093022208 then some l0 else none
set_option maxRecDepth 100000 in
set_option maxHeartbeats 2000000 in
theorem cloneR.calls (A0 : Option Addr) (c0 : Nat) (l0 : List S48) (r : List S48) (w : World) (hr0 : Kd.C k48 w A0 l0.length l0) (hc0 : l0.length ≤ c0) (h : cloneR.f l0 = some r) :
    Calls Try.prog 48 #[.slice A0 l0.length c0] w fun e w' => ∃ v0_ : Value, e = .returned (v0_) ∧ Kd.R k48 48 w' w.heap.size (fun _ => True) v0_ r ∧ Below w.heap.size w w' := by
  have hu := Try.underlying48
  have q22 : ∀ (w : World) (a : Option Addr) (n c n' c' : Nat), (binOp .eql 37 (.slice a n c) (.slice none n' c')).run Try.prog w = .ok (.bool a.isNone) w := fun w a n c n' c' => Lib.run_eql_slice_nil w _ _ a n c n' c' Try.underlying37
  unfold cloneR.f at h
  split at h
  case isFalse => cases h
  case isTrue hl =>
    obtain rfl := Option.some.inj h
    have HL := Za.mk hl
    clear h hl
    have HR := Za.mk hr0
    have hlen : l0.length ≤ 9223372036854775807 := hr0.2.1
    cases A0 with
    | none =>
      have h0 : l0 = [] := by
        rcases Nat.eq_zero_or_pos l0.length with h | h
        · exact List.length_eq_zero_iff.1 h
        obtain ⟨ad, e, _⟩ := hr0.2.2 h; cases e
      subst h0
      clear hr0
      go_enter Try.func48, Try.ntmps48
      go_wp2
      go_ret
      exact ⟨_, rfl, Kd.Zfa _ _ _ _ _, Below.refl _ _⟩
    | some ad =>
      clear hr0
      have HB := Za.mk (Below.refl w.heap.size w)
      go_enter Try.func48, Try.ntmps48
      go_wp2_with (first | ((with_reducible refine Zax (N := 5) rfl ?_); refine Kd.Zc9 k48 _ 48 ?hg (N := 5) ?hd (xs := ([] : List S48)) (inner := []) (ok := fun _ => True) (okp := fun _ => True) ?hr ?hp (fun _ hk => hk) trivial (Below.refl w.heap.size w) (Nat.le_refl _) (by simp) ?_; (case hd => rfl); (case hg => rfl); (case hr => first | (go_simp; done) | (go_simp; rfl)); (case hp => exact (Reps.none _ _)); intro v1 w1 ho hb hg_ hnew_; have HO := Za.mk ho; have HB := Za.mk hb; clear ho hb hg_ hnew_) | ((with_reducible refine Zb7 (b := .append) (xs := #[.tmp 5, .tmp 6]) rfl ?_); at_builtin; go_loud (refine Kd.Zc6 k48 (Rr := k48.K w1) (w0 := w) w.heap.size rfl (.tmp 5) (.tmp 6) 37 48 (.agg #[(.int .i64 0), (.int .i64 0)]) 16 rfl Try.underlying37 info48 rfl (by decide) (by omega) v1 ([] : List S48) l0 _ _ _ (fun _ => True) (fun _ => False) rfl rfl ?aO ?aR ?aK (fun _ h => h.elim) ?aF ?aB ?aS ?aL ?_; (case aR => exact Kd.Zal HR.out HB.out); (case aK => intro x cs h; have e_ := k48_open h; subst e_; exact Zfo _ _ _ x); (case aB => exact HB.out); (case aF => exact (fun _ _ => trivial)); (case aO => exact HO.out); (case aS => exact HB.out.size); (case aL => have := HL.out; simp; omega); intro v2 w2 ho2 hb2 hg hat; have HO2 := Za.mk ho2; have HB2 := Za.mk hb2; clear ho2 hb2 hg hat)))
      go_ret
      exact ⟨_, rfl, by simpa using HO2.out, HB2.out⟩
end Go.Proofs.Ytkgjaklnbgdmiaa.P
namespace Go.Proofs.Ytkgjaklnbgdmiaa.P
open Go.RowKit Go.Proofs.YtkgjaklnbgdmiaaW.PrintWords Go.Proofs.YtkgjaklnbgdmiaaW.PrintLast Go.Proofs.YtkgjaklnbgdmiaaW.PrintMore
attribute [local go_sem] Zcs Zcu Zc7 Zc8 Zcc Zcd Zct Zcv
set_option linter.unusedVariables false
set_option linter.unusedSimpArgs false
mutual
def Za5.l0 : Nat → List (S50) → Int → Int → List (S50) → List (S31) → Int → List Int → List Int → List (S50) → Int → List Int → List Int → Option ((List (S50)) × (List (S31)) × Int × List Int × List Int)
 | 0, _, _, _, _, _, _, _, _, _, _, _, _ => none
 | k + 1, x25, x26, x27, x213000, x213001, x213002, x213003, x213004, x221000, x221002, x221003, x221004 => if x27 < x26 then (if 0 ≤ x27 then (if x27 < (x25.length : Int) then ((cloneR.f ((Za4 x25 x27).f1)).bind fun t223 => (if x221000.length < 3518437208883 then (Za5.l0 k x25 x26 (wrap64 (x27 + 1)) x213000 x213001 x213002 x213003 x213004 (x221000 ++ [(⟨(Za4 x25 x27).f0, t223⟩ : S50)]) x221002 x221003 x221004) else (none))) else (none)) else (none)) else (Za5.l1 k x213001 (x213001.length : Int) 0 x221000 ([] : List (S31)) x221002 x221003 x221004)
def Za5.l1 : Nat → List (S31) → Int → Int → List (S50) → List (S31) → Int → List Int → List Int → Option ((List (S50)) × (List (S31)) × Int × List Int × List Int)
 | 0, _, _, _, _, _, _, _, _ => none
 | k + 1, x44, x45, x46, x221000, x221001, x221002, x221003, x221004 => if x46 < x45 then (if 0 ≤ x46 then (if x46 < (x44.length : Int) then ((cloneI.f ((Zah x44 x46).f1)).bind fun t231 => ((cloneI.f ((Zah x44 x46).f2)).bind fun t234 => (Za5.l2 k ([] : List (List Int)) x44 x45 x46 ((Zah x44 x46).f5) (((Zah x44 x46).f5).length : Int) 0 x221000 x221001 x221002 x221003 x221004 ((Zah x44 x46).f0) t231 t234 ((Zah x44 x46).f3) ((Zah x44 x46).f4) ((Zah x44 x46).f5) ((Zah x44 x46).f6)))) else (none)) else (none)) else (some (x221000, x221001, x221002, x221003, x221004))
def Za5.l2 : Nat → List (List Int) → List (S31) → Int → Int → List (List Int) → Int → Int → List (S50) → List (S31) → Int → List Int → List Int → Int → List Int → List Int → Int → Int → List (List Int) → Int → Option ((List (S50)) × (List (S31)) × Int × List Int × List Int)
 | 0, _, _, _, _, _, _, _, _, _, _, _, _, _, _, _, _, _, _, _ => none
 | k + 1, x8, x44, x45, x46, x59, x60, x61, x221000, x221001, x221002, x221003, x221004, x231000, x231001, x231002, x231003, x231004, x231005, x231006 => if x61 < x60 then (if 0 ≤ x61 then (if x61 < (x59.length : Int) then ((cloneI.f (Zc5 x59 x61)).bind fun t238 => (if x8.length < 5864062014805 then (Za5.l2 k (x8 ++ [t238]) x44 x45 x46 x59 x60 (wrap64 (x61 + 1)) x221000 x221001 x221002 x221003 x221004 x231000 x231001 x231002 x231003 x231004 x231005 x231006) else (none))) else (none)) else (none)) else (if x221001.length < 1353245080339 then (Za5.l1 k x44 x45 (wrap64 (x46 + 1)) x221000 (x221001 ++ [(⟨x231000, x231001, x231002, x231003, x231004, x8, x231006⟩ : S31)]) x221002 x221003 x221004) else (none))
end
def Za5.f (k : Nat) (l0_0 : List (S50)) (l0_1 : List (S31)) (a0_2 : Int) (l0_3 : List Int) (l0_4 : List Int) : Option ((List (S50)) × (List (S31)) × Int × List Int × List Int) := (cloneI.f l0_3).bind fun t214 => ((cloneI.f l0_4).bind fun t217 => (Za5.l0 k l0_0 (l0_0.length : Int) 0 l0_0 l0_1 a0_2 l0_3 l0_4 ([] : List (S50)) a0_2 t214 t217))
def Za5.T1 : Bool × List (List Nat × List Nat) := (true, [([], []), ([0], [0]), ([1], [1]), ([], []), ([3], [3]), ([4], [4]), ([5], [5]), ([], []), ([7], [7]), ([8], [8]), ([9, 6], [9]), ([2, 6, 10], [2, 6, 10]), ([11], [11]), ([], []), ([13, 12, 10, 0, 1, 2, 3, 4, 5, 6, 7, 8, 9, 10, 11, 12, 13], [12, 13])])
def Za5.B1 : List Nat := [0, 1, 3, 0, 8, 24, 56, 0, 128, 384, 1016, 2047, 4095, 0, 16383]
theorem Za5.tab1 : rtab .any (opsOf Try.f24 1) = Za5.T1 := by kernel_rfl
theorem Za5.bits1 : waitsOk Za5.T1.2 Za5.B1 = true := by kernel_rfl
def Za5.T5 : Bool × List (List Nat × List Nat) := (true, [([], []), ([0], [0]), ([], []), ([2], [2]), ([], []), ([4], [4]), ([5], [5]), ([3, 6], [3, 6]), ([7], [7]), ([1, 8, 6], [1, 8]), ([0, 1, 2, 3, 4, 5, 6, 7, 8, 9], []), ([10, 9, 9, 0, 1, 2, 3, 4, 5, 6, 7, 8, 9], [9, 10])])
def Za5.B5 : List Nat := [0, 1, 0, 4, 0, 16, 48, 124, 252, 511, 1023, 2047]
theorem Za5.tab5 : rtab .any (opsOf Try.f24 5) = Za5.T5 := by kernel_rfl
theorem Za5.bits5 : waitsOk Za5.T5.2 Za5.B5 = true := by kernel_rfl
def Za5.T10 : Bool × List (List Nat × List Nat) := (true, [([], []), ([0], [0]), ([1], [1]), ([], []), ([3], [3]), ([4, 2], [4]), ([0, 1, 2, 3, 4], []), ([6, 2, 5, 0, 1, 2, 3, 4], [2, 6]), ([0, 1, 2, 3, 4, 5, 6, 7], []), ([8, 5, 7, 0, 1, 2, 3, 4, 5, 6, 7], [5, 8])])
def Za5.B10 : List Nat := [0, 1, 3, 0, 8, 31, 31, 127, 255, 511]
theorem Za5.tab10 : rtab .any (opsOf Try.f24 10) = Za5.T10 := by kernel_rfl
theorem Za5.bits10 : waitsOk Za5.T10.2 Za5.B10 = true := by kernel_rfl
set_option maxHeartbeats 8000000 in
set_option maxRecDepth 100000 in
theorem Za5.calls (k : Nat) (A0_0 : Option Addr) (c0_0 : Nat) (l0_0 : List (S50)) (A0_1 : Option Addr) (c0_1 : Nat) (l0_1 : List (S31)) (a0_2 : Int) (A0_3 : Option Addr) (c0_3 : Nat) (l0_3 : List Int) (A0_4 : Option Addr) (c0_4 : Nat) (l0_4 : List Int) (r1 : List (S50)) (r2 : List (S31)) (r3 : Int) (r4 : List Int) (r5 : List Int) (w : World) (hr0_0 : Kd.C k50 w A0_0 l0_0.length l0_0) (hc0_0 : l0_0.length ≤ c0_0) (hr0_1 : Kd.C k31 w A0_1 l0_1.length l0_1) (hc0_1 : l0_1.length ≤ c0_1) (hr0_3 : Kd.C (Kd.int .i64) w A0_3 l0_3.length l0_3) (hc0_3 : l0_3.length ≤ c0_3) (hr0_4 : Kd.C (Kd.int .i64) w A0_4 l0_4.length l0_4) (hc0_4 : l0_4.length ≤ c0_4) (h : Za5.f k l0_0 l0_1 a0_2 l0_3 l0_4 = some (r1, r2, r3, r4, r5)) :
  Calls Try.prog 24 #[.agg #[.slice A0_0 l0_0.length c0_0, .slice A0_1 l0_1.length c0_1, .int .i64 a0_2, .slice A0_3 l0_3.length c0_3, .slice A0_4 l0_4.length c0_4]] w fun e w' => ∃ v0_ v1_ v3_ v4_ : Value, e = .returned (.agg #[v0_, v1_, .int .i64 r3, v3_, v4_]) ∧ Kd.S k50 50 w' w.heap.size (fun _ => True) v0_ r1 ∧ Kd.R k31 31 w' w.heap.size (fun k_ => some k_ ≠ (v3_ : Value).ownBlock ∧ some k_ ≠ (v4_ : Value).ownBlock) v1_ r2 ∧ Kd.R (Kd.int .i64) 3 w' w.heap.size (fun k_ => some k_ ≠ (v4_ : Value).ownBlock) v3_ r4 ∧ Kd.R (Kd.int .i64) 3 w' w.heap.size (fun k_ => some k_ ≠ (v3_ : Value).ownBlock) v4_ r5 ∧ Below w.heap.size w w' := by
 have hu28 := Try.underlying28
 have hu26 := Try.underlying26
 have hu50 := Try.underlying50
 have hu31 := Try.underlying31
 have HR0_0 := Za.mk hr0_0
 have HC0_0 := Za.mk hc0_0
 clear hr0_0 hc0_0
 have HR0_1 := Za.mk hr0_1
 have HC0_1 := Za.mk hc0_1
 clear hr0_1 hc0_1
 have HR0_3 := Za.mk hr0_3
 have HC0_3 := Za.mk hc0_3
 clear hr0_3 hc0_3
 have HR0_4 := Za.mk hr0_4
 have HC0_4 := Za.mk hc0_4
 clear hr0_4 hc0_4
 have HB := Za.mk (Below.refl w.heap.size w)
 have H : ((cloneI.f l0_3).bind fun t214 => ((cloneI.f l0_4).bind fun t217 => (Za5.l0 k l0_0 (l0_0.length : Int) 0 l0_0 l0_1 a0_2 l0_3 l0_4 ([] : List (S50)) a0_2 t214 t217))) = some (r1, r2, r3, r4, r5) := h
 clear h
 replace H := Option.bind_eq_some_iff.mp H
 obtain ⟨t214, A20, H⟩ := H
 replace H : ((cloneI.f l0_4).bind fun t217 => (Za5.l0 k l0_0 (l0_0.length : Int) 0 l0_0 l0_1 a0_2 l0_3 l0_4 ([] : List (S50)) a0_2 t214 t217)) = some (r1, r2, r3, r4, r5) := H
 have A2 := Za.mk A20
 clear A20
 replace H := Option.bind_eq_some_iff.mp H
 obtain ⟨t217, A30, H⟩ := H
 replace H : (Za5.l0 k l0_0 (l0_0.length : Int) 0 l0_0 l0_1 a0_2 l0_3 l0_4 ([] : List (S50)) a0_2 t214 t217) = some (r1, r2, r3, r4, r5) := H
 have A3 := Za.mk A30
 clear A30
 have H' := Za.mk H
 clear H
 go_enter Try.func24, Try.ntmps24
 try go_wp2_with (first | ((with_reducible refine Zax (N := 1) rfl ?_); refine Za7 ?hg (N := 1) ?hd (cs := #[.slice A0_0 l0_0.length c0_0, .slice A0_1 l0_1.length c0_1, .int .i64 a0_2, .slice A0_3 l0_3.length c0_3, .slice A0_4 l0_4.length c0_4]) (t := 28) ?hr ?_; (case hd => rfl); (case hg => rfl); (case hr => first | (go_simp; done) | (go_simp; rfl)); intro gb212 hg w4 hbox hb; have n0_ := Za.mk (Zaf (by repeat (first | (with_reducible first | exact HB.out | apply Zab | apply Zaa | apply Zad) | exact HB.out)) hb); have n1_ := Za.mk (hbox); have n3_ := Za.mk ((by rw [hg]; exact (Zan (by repeat (first | (with_reducible first | exact HB.out | apply Zab | apply Zaa | apply Zad) | exact HB.out))) : w.heap.size ≤ gb212)); clear HB; have HB := n0_; have BK212 := n1_; have GE212 := n3_; clear n0_ n1_ n3_; clear hb hbox hg) | ((with_reducible refine Zax (N := 2) rfl ?_); refine Za7 ?hg (N := 2) ?hd (cs := #[.slice none 0 0, .slice none 0 0, .int .i64 0, .slice none 0 0, .slice none 0 0]) (t := 28) ?hr ?_; (case hd => rfl); (case hg => rfl); (case hr => first | (go_simp; done) | (go_simp; rfl)); intro gb213 hg w5 hbox hb; have n0_ := Za.mk (Zap (g := gb212) (o := .cells #[.slice A0_0 l0_0.length c0_0, .slice A0_1 l0_1.length c0_1, .int .i64 a0_2, .slice A0_3 l0_3.length c0_3, .slice A0_4 l0_4.length c0_4] 28 (0, 0)) (mvK BK212.out) hb); have n1_ := Za.mk (Zaf (by repeat (first | (with_reducible first | exact HB.out | apply Zab | apply Zaa | apply Zad | refine Zac ?_ GE212.out) | exact HB.out)) hb); have n2_ := Za.mk (hbox); have n4_ := Za.mk ((by rw [hg]; exact (Zan (by repeat (first | (with_reducible first | exact HB.out | apply Zab | apply Zaa | apply Zad | refine Zac ?_ GE212.out) | exact HB.out))) : w.heap.size ≤ gb213)); have n5_ := Za.mk ((by rw [hg]; exact Nat.ne_of_lt (Zbt (g := gb212) (o := .cells #[.slice A0_0 l0_0.length c0_0, .slice A0_1 l0_1.length c0_1, .int .i64 a0_2, .slice A0_3 l0_3.length c0_3, .slice A0_4 l0_4.length c0_4] 28 (0, 0)) (mvK BK212.out)) : gb212 ≠ gb213)); have n6_ := Za.mk ((by rw [hg]; exact Nat.ne_of_gt (Zbt (g := gb212) (o := .cells #[.slice A0_0 l0_0.length c0_0, .slice A0_1 l0_1.length c0_1, .int .i64 a0_2, .slice A0_3 l0_3.length c0_3, .slice A0_4 l0_4.length c0_4] 28 (0, 0)) (mvK BK212.out)) : gb213 ≠ gb212)); clear BK212; clear HB; have BK212 := n0_; have HB := n1_; have BK213 := n2_; have GE213 := n4_; have NB212_213 := n5_; have NB213_212 := n6_; clear n0_ n1_ n2_ n4_ n5_ n6_; clear hb hbox hg))
 have n0_ := Za.mk (Zai BK212.out)
 have n1_ := Za.mk (Zai BK213.out)
 have n2_ := Za.mk (Zad HB.out)
 clear BK212
 clear BK213
 clear HB
 have BK212 := n0_
 have BK213 := n1_
 have HB := n2_
 clear n0_ n1_ n2_
 refine Zfw (n := 15) (S := fun w' => w'.cell? ⟨gb212, 0, none⟩ = some (.slice A0_0 l0_0.length c0_0) ∧ w'.cell? ⟨gb212, 1, none⟩ = some (.slice A0_1 l0_1.length c0_1) ∧ w'.cell? ⟨gb212, 2, none⟩ = some (.int .i64 a0_2) ∧ w'.cell? ⟨gb212, 3, none⟩ = some (.slice A0_3 l0_3.length c0_3) ∧ w'.cell? ⟨gb212, 4, none⟩ = some (.slice A0_4 l0_4.length c0_4)) (ds := []) #[false, false, false, false, false, false, false, false, false, false, false, false, false, false, false] (by kernel_rfl) rfl rfl ⟨(Zaj BK212.out 0).trans rfl, (Zaj BK212.out 1).trans rfl, (Zaj BK212.out 2).trans rfl, (Zaj BK212.out 3).trans rfl, (Zaj BK212.out 4).trans rfl⟩ (fun hHeld => ?_); refine Zds Za5.tab1 Za5.bits1 (fun HT_ HW_ => ?_)
 generalize w5.drew = w6 at BK212 BK213 HB hHeld ⊢
 refine Zbx (i := 0) (N := some 11) (v := ?_) (a' := ?_) #[true, false, false, false, false, false, false, false, false, false, false, false, false, false, false] rfl rfl (Zbi HT_.out (by kernel_rfl)) (fun _ _ _ h => h) (Or.inl ⟨by rfl, ?_⟩) ?_ ?_
 rotate_left
 ·intro w'
  go_simp
  with_reducible rfl
 rotate_left
 ·simp only [Act.put, List.setIfInBounds_toArray, List.set_cons_zero, List.set_cons_succ, Zbb, Zbd]
  rfl
 refine Zbx (i := 1) (N := some 12) (v := ?_) (a' := ?_) #[true, true, false, false, false, false, false, false, false, false, false, false, false, false, false] rfl rfl (Zbi HT_.out (by kernel_rfl)) (fun _ _ _ h => h) (Or.inl ⟨by rfl, ?_⟩) ?_ ?_
 rotate_left
 ·intro w'
  go_simp
  with_reducible rfl
 rotate_left
 ·simp only [Act.put, List.setIfInBounds_toArray, List.set_cons_zero, List.set_cons_succ, Zbb, Zbd]
  rfl
 refine Zbx (i := 3) (N := some 14) (v := ?_) (a' := ?_) #[true, true, false, true, false, false, false, false, false, false, false, false, false, false, false] rfl rfl (Zbi HT_.out (by kernel_rfl)) (fun _ _ _ h => h) (Or.inl ⟨by rfl, ?_⟩) ?_ ?_
 rotate_left
 ·intro w'
  go_simp
  with_reducible rfl
 rotate_left
 ·simp only [Act.put, List.setIfInBounds_toArray, List.set_cons_zero, List.set_cons_succ, Zbb, Zbd]
  rfl
 refine Zbx (i := 4) (N := some 15) (v := ?_) (a' := ?_) #[true, true, false, true, true, false, false, false, false, false, false, false, false, false, false] rfl rfl (Zbi HT_.out (by kernel_rfl)) (fun _ _ _ h => h) (Or.inl ⟨by rfl, ?_⟩) ?_ ?_
 rotate_left
 ·intro w'
  go_simp
  with_reducible rfl
 rotate_left
 ·simp only [Act.put, List.setIfInBounds_toArray, List.set_cons_zero, List.set_cons_succ, Zbb, Zbd]
  rfl
 refine Zbx (i := 7) (N := some 18) (v := ?_) (a' := ?_) #[true, true, false, true, true, false, false, true, false, false, false, false, false, false, false] rfl rfl (Zbi HT_.out (by kernel_rfl)) (fun _ _ _ h => h) (Or.inl ⟨by rfl, ?_⟩) ?_ ?_
 rotate_left
 ·intro w'
  go_simp
  with_reducible rfl
 rotate_left
 ·simp only [Act.put, List.setIfInBounds_toArray, List.set_cons_zero, List.set_cons_succ, Zbb, Zbd]
  rfl
 refine Zbx (i := 8) (N := some 19) (v := ?_) (a' := ?_) #[true, true, false, true, true, false, false, true, true, false, false, false, false, false, false] rfl rfl (Zbi HT_.out (by kernel_rfl)) (fun _ _ _ h => h) (Or.inl ⟨by rfl, ?_⟩) ?_ ?_
 rotate_left
 ·intro w'
  go_simp
  with_reducible rfl
 rotate_left
 ·simp only [Act.put, List.setIfInBounds_toArray, List.set_cons_zero, List.set_cons_succ, Zbb, Zbd]
  rfl
 refine Zdj (i := 2) (N := some 13) (v := ?_) (a' := ?_) #[true, true, true, true, true, false, false, true, true, false, false, false, false, false, false] rfl rfl (Zb8 HT_.out HW_.out (by kernel_rfl)) (fun _ _ _ h => h) (Or.inl ⟨by rfl, ?_⟩) hHeld ?_ ?_
 rotate_left
 ·rintro w' ⟨s0, s1, s2, s3, s4⟩
  go_simp
  with_reducible rfl
 rotate_left
 ·simp only [Act.put, List.setIfInBounds_toArray, List.set_cons_zero, List.set_cons_succ, Zbb, Zbd]
  rfl
 refine Zdj (i := 5) (N := some 16) (v := ?_) (a' := ?_) #[true, true, true, true, true, true, false, true, true, false, false, false, false, false, false] rfl rfl (Zb8 HT_.out HW_.out (by kernel_rfl)) (fun _ _ _ h => h) (Or.inl ⟨by rfl, ?_⟩) hHeld ?_ ?_
 rotate_left
 ·rintro w' ⟨s0, s1, s2, s3, s4⟩
  go_simp
  with_reducible rfl
 rotate_left
 ·simp only [Act.put, List.setIfInBounds_toArray, List.set_cons_zero, List.set_cons_succ, Zbb, Zbd]
  rfl
 refine Zdj (i := 9) (N := some 20) (v := ?_) (a' := ?_) #[true, true, true, true, true, true, false, true, true, true, false, false, false, false, false] rfl rfl (Zb8 HT_.out HW_.out (by kernel_rfl)) (fun _ _ _ h => h) (Or.inl ⟨by rfl, ?_⟩) hHeld ?_ ?_
 rotate_left
 ·rintro w' ⟨s0, s1, s2, s3, s4⟩
  go_simp
  with_reducible rfl
 rotate_left
 ·simp only [Act.put, List.setIfInBounds_toArray, List.set_cons_zero, List.set_cons_succ, Zbb, Zbd]
  rfl
 refine join_ (σ := Value × Value × Nat) 1 #[true, true, true, true, true, true, true, true, true, true, true, true, true, true, false] (fun s_ => [(17, s_.1), (21, s_.2.1), (3, .pointer (some ⟨s_.2.2, 0, none⟩)), (22, .agg #[.int .i64 a0_2, s_.1, s_.2.1]), (23, .agg #[.slice none 0 0, .slice none 0 0, .int .i64 a0_2, s_.1, s_.2.1])]) (fun s_ w' => (w'.cell? ⟨gb212, 0, none⟩ = some (.slice A0_0 l0_0.length c0_0) ∧ w'.cell? ⟨gb212, 1, none⟩ = some (.slice A0_1 l0_1.length c0_1) ∧ w'.cell? ⟨gb212, 2, none⟩ = some (.int .i64 a0_2) ∧ w'.cell? ⟨gb212, 3, none⟩ = some (.slice A0_3 l0_3.length c0_3) ∧ w'.cell? ⟨gb212, 4, none⟩ = some (.slice A0_4 l0_4.length c0_4)) ∧ (Kd.R (Kd.int .i64) 3 w' w.heap.size (fun k_ => some k_ ≠ (s_.2.1 : Value).ownBlock) s_.1 t214) ∧ (Kd.R (Kd.int .i64) 3 w' w.heap.size (fun k_ => some k_ ≠ (s_.1 : Value).ownBlock) s_.2.1 t217) ∧ (w'.heap[gb212]? = some (.cells #[.slice A0_0 l0_0.length c0_0, .slice A0_1 l0_1.length c0_1, .int .i64 a0_2, .slice A0_3 l0_3.length c0_3, .slice A0_4 l0_4.length c0_4] 28 (0, 0))) ∧ (w'.heap[gb213]? = some (.cells #[.slice none 0 0, .slice none 0 0, .int .i64 0, .slice none 0 0, .slice none 0 0] 28 (0, 0))) ∧ (w'.heap[s_.2.2]? = some (.cells #[.slice none 0 0, .slice none 0 0, .int .i64 0, .slice none 0 0, .slice none 0 0] 28 (0, 0))) ∧ (w.heap.size ≤ s_.2.2) ∧ (w.heap.size ≤ s_.2.2) ∧ (gb212 ≠ s_.2.2) ∧ (s_.2.2 ≠ gb212) ∧ (gb213 ≠ s_.2.2) ∧ (s_.2.2 ≠ gb213) ∧ (Below w.heap.size w w')) ?_ ?_
 rotate_left
 ·intro hCont
  refine two_ (i := 6) (j := 13) (Ni := some 17) (Nj := some 3) #[true, true, true, true, true, true, true, true, true, true, false, false, false, false, false] #[true, true, true, true, true, true, false, true, true, true, false, false, false, true, false] rfl rfl rfl rfl (two_of HT_.out (by kernel_rfl)) (by decide) (by decide) (fun K hK => ?_) (fun K hK => ?_)
  ·skip
   refine Zd9 Try.func44 (by kernel_rfl) rfl #[.slice A0_3 l0_3.length c0_3] (by rfl) rfl rfl (by (try simp only [List.map_toArray, List.map_cons, List.map_nil]); first | done | rfl | (simp only [List.length_drop, List.length_take]; rfl)) ?_
   with_reducible refine (cloneI.calls _ _ l0_3 t214 _ ?side1 ?side2 A2.out).mono ?_
   (case side1 => repeat (first | exact (Kd.Zal HR0_3.out HB.out) | (with_reducible refine Kd.C_alloc ?_ _) | (with_reducible refine Kd.Zaw ?_ _) | (with_reducible refine Kd.C_drew ?_)))
   (case side2 => exact HC0_3.out)
   rintro e w7 ⟨v215, rfl, ho0, hb⟩
   refine ⟨_, rfl, ?_⟩
   have n0_ := Za.mk (Kd.Zbp ho0 (Zan (by repeat (first | (with_reducible first | exact HB.out | apply Zab | apply Zaa | apply Zad | refine Zac ?_ GE212.out | refine Zac ?_ GE213.out) | exact HB.out))))
   have n1_ := Za.mk (Zap (g := gb212) (o := .cells #[.slice A0_0 l0_0.length c0_0, .slice A0_1 l0_1.length c0_1, .int .i64 a0_2, .slice A0_3 l0_3.length c0_3, .slice A0_4 l0_4.length c0_4] 28 (0, 0)) (mvK BK212.out) hb)
   have n2_ := Za.mk (Zap (g := gb213) (o := .cells #[.slice none 0 0, .slice none 0 0, .int .i64 0, .slice none 0 0, .slice none 0 0] 28 (0, 0)) (mvK BK213.out) hb)
   have n3_ := Za.mk (Zaf (by repeat (first | (with_reducible first | exact HB.out | apply Zab | apply Zaa | apply Zad | refine Zac ?_ GE212.out | refine Zac ?_ GE213.out) | exact HB.out)) hb)
   clear BK212
   clear BK213
   clear HB
   have HO216 := n0_
   have BK212 := n1_
   have BK213 := n2_
   have HB := n3_
   clear n0_ n1_ n2_ n3_
   (try clear hb)
   (try clear hb2)
   (try clear hk)
   (try clear hi)
   (try clear ho0)
   refine hK.out _ _ ⟨(Zaj BK212.out 0).trans rfl, (Zaj BK212.out 1).trans rfl, (Zaj BK212.out 2).trans rfl, (Zaj BK212.out 3).trans rfl, (Zaj BK212.out 4).trans rfl⟩ (fun hHeld => ?_)
   clear hK K
   refine Zc4 (a' := ?_) ?_ ?_
   rotate_left
   ·show Act.put _ (some 17) _ = _
    simp only [Act.put, List.setIfInBounds_toArray, List.set_cons_zero, List.set_cons_succ, Zbb, Zbd]
    rfl
   refine two_ (i := 10) (j := 13) (Ni := some 21) (Nj := some 3) #[true, true, true, true, true, true, true, true, true, true, true, false, false, false, false] #[true, true, true, true, true, true, true, true, true, true, false, false, false, true, false] rfl rfl rfl rfl (two_of HT_.out (by kernel_rfl)) (by decide) (by decide) (fun K hK => ?_) (fun K hK => ?_)
   ·skip
    refine Zd9 Try.func44 (by kernel_rfl) rfl #[.slice A0_4 l0_4.length c0_4] (by rfl) rfl rfl (by (try simp only [List.map_toArray, List.map_cons, List.map_nil]); first | done | rfl | (simp only [List.length_drop, List.length_take]; rfl)) ?_
    with_reducible refine (cloneI.calls _ _ l0_4 t217 _ ?side1 ?side2 A3.out).mono ?_
    (case side1 => repeat (first | exact (Kd.Zal HR0_4.out HB.out) | (with_reducible refine Kd.C_alloc ?_ _) | (with_reducible refine Kd.Zaw ?_ _) | (with_reducible refine Kd.C_drew ?_)))
    (case side2 => exact HC0_4.out)
    rintro e w8 ⟨v218, rfl, ho0, hb⟩
    refine ⟨_, rfl, ?_⟩
    have n0_ := Za.mk (Kd.Zby (mvR HO216.out) (Kd.Zb4 ho0) hb)
    have n1_ := Za.mk (Kd.Zbp (Kd.Zc1 ho0 (Kd.R_lt (mvR HO216.out))) (Zan (by repeat (first | (with_reducible first | exact HB.out | apply Zab | apply Zaa | apply Zad | refine Zac ?_ GE212.out | refine Zac ?_ GE213.out) | exact HB.out))))
    have n2_ := Za.mk (Zap (g := gb212) (o := .cells #[.slice A0_0 l0_0.length c0_0, .slice A0_1 l0_1.length c0_1, .int .i64 a0_2, .slice A0_3 l0_3.length c0_3, .slice A0_4 l0_4.length c0_4] 28 (0, 0)) (mvK BK212.out) hb)
    have n3_ := Za.mk (Zap (g := gb213) (o := .cells #[.slice none 0 0, .slice none 0 0, .int .i64 0, .slice none 0 0, .slice none 0 0] 28 (0, 0)) (mvK BK213.out) hb)
    have n4_ := Za.mk (Zaf (by repeat (first | (with_reducible first | exact HB.out | apply Zab | apply Zaa | apply Zad | refine Zac ?_ GE212.out | refine Zac ?_ GE213.out) | exact HB.out)) hb)
    clear HO216
    clear BK212
    clear BK213
    clear HB
    have HO216 := n0_
    have HO219 := n1_
    have BK212 := n2_
    have BK213 := n3_
    have HB := n4_
    clear n0_ n1_ n2_ n3_ n4_
    (try clear hb)
    (try clear hb2)
    (try clear hk)
    (try clear hi)
    (try clear ho0)
    obtain ⟨Ao9, co9, eo9⟩ := Kd.Za9 HO219.out
    (first | subst eo9 | (injection eo9 with f1_ f2_ f3_; have f4_ := f1_.symm; have f5_ := f3_.symm; clear f1_ f2_ f3_; subst f4_; subst f5_))
    obtain ⟨Ao10, co10, eo10⟩ := Kd.Za9 HO216.out
    (first | subst eo10 | (injection eo10 with f1_ f2_ f3_; have f4_ := f1_.symm; have f5_ := f3_.symm; clear f1_ f2_ f3_; subst f4_; subst f5_))
    refine hK.out _ _ ⟨(Zaj BK212.out 0).trans rfl, (Zaj BK212.out 1).trans rfl, (Zaj BK212.out 2).trans rfl, (Zaj BK212.out 3).trans rfl, (Zaj BK212.out 4).trans rfl⟩ (fun hHeld => ?_)
    clear hK K
    refine Zc4 (a' := ?_) ?_ ?_
    rotate_left
    ·show Act.put _ (some 21) _ = _
     simp only [Act.put, List.setIfInBounds_toArray, List.set_cons_zero, List.set_cons_succ, Zbb, Zbd]
     rfl
    refine Zbx (i := 11) (N := some 22) (v := ?_) (a' := ?_) #[true, true, true, true, true, true, true, true, true, true, true, true, false, false, false] rfl rfl (Zbi HT_.out (by kernel_rfl)) (fun _ _ _ h => h) (Or.inl ⟨by rfl, ?_⟩) ?_ ?_
    rotate_left
    ·intro w'
     go_simp
     with_reducible rfl
    rotate_left
    ·simp only [Act.put, List.setIfInBounds_toArray, List.set_cons_zero, List.set_cons_succ, Zbb, Zbd]
     rfl
    refine Zbx (i := 12) (N := some 23) (v := ?_) (a' := ?_) #[true, true, true, true, true, true, true, true, true, true, true, true, true, false, false] rfl rfl (Zbi HT_.out (by kernel_rfl)) (fun _ _ _ h => h) (Or.inl ⟨by rfl, ?_⟩) ?_ ?_
    rotate_left
    ·intro w'
     go_simp
     with_reducible rfl
    rotate_left
    ·simp only [Act.put, List.setIfInBounds_toArray, List.set_cons_zero, List.set_cons_succ, Zbb, Zbd]
     rfl
    refine one_ (i := 13) (N := some 3) #[true, true, true, true, true, true, true, true, true, true, true, true, true, true, false] rfl rfl (Zck HT_.out (by kernel_rfl)) (by decide) (fun K hK => ?_)
    refine box_step ?hg (N := 3) ?hd (cs := #[.slice none 0 0, .slice none 0 0, .int .i64 0, .slice none 0 0, .slice none 0 0]) (t := 28) ?hr ?_; (case hd => rfl); (case hg => rfl); (case hr => first | (go_simp; done) | (go_simp; rfl))
    intro gb220 hg w11 hbox hb
    have n0_ := Za.mk (Kd.Zb6 (mvR HO216.out) hb)
    have n1_ := Za.mk (Kd.Zb6 (mvR HO219.out) hb)
    have n2_ := Za.mk (Zap (g := gb212) (o := .cells #[.slice A0_0 l0_0.length c0_0, .slice A0_1 l0_1.length c0_1, .int .i64 a0_2, .slice A0_3 l0_3.length c0_3, .slice A0_4 l0_4.length c0_4] 28 (0, 0)) (mvK BK212.out) hb)
    have n3_ := Za.mk (Zap (g := gb213) (o := .cells #[.slice none 0 0, .slice none 0 0, .int .i64 0, .slice none 0 0, .slice none 0 0] 28 (0, 0)) (mvK BK213.out) hb)
    have n4_ := Za.mk (Zaf (by repeat (first | (with_reducible first | exact HB.out | apply Zab | apply Zaa | apply Zad | refine Zac ?_ GE212.out | refine Zac ?_ GE213.out) | exact HB.out)) hb)
    have n5_ := Za.mk (hbox)
    have n6_ := Za.mk ((by rw [hg]; exact (Zan (by repeat (first | (with_reducible first | exact HB.out | apply Zab | apply Zaa | apply Zad | refine Zac ?_ GE212.out | refine Zac ?_ GE213.out) | exact HB.out))) : w.heap.size ≤ gb220))
    have n7_ := Za.mk ((by rw [hg]; exact (Zan (by repeat (first | (with_reducible first | exact HB.out | apply Zab | apply Zaa | apply Zad | refine Zac ?_ GE212.out | refine Zac ?_ GE213.out) | exact HB.out))) : w.heap.size ≤ gb220))
    have n8_ := Za.mk ((by rw [hg]; exact Nat.ne_of_lt (Zbt (g := gb212) (o := .cells #[.slice A0_0 l0_0.length c0_0, .slice A0_1 l0_1.length c0_1, .int .i64 a0_2, .slice A0_3 l0_3.length c0_3, .slice A0_4 l0_4.length c0_4] 28 (0, 0)) (mvK BK212.out)) : gb212 ≠ gb220))
    have n9_ := Za.mk ((by rw [hg]; exact Nat.ne_of_gt (Zbt (g := gb212) (o := .cells #[.slice A0_0 l0_0.length c0_0, .slice A0_1 l0_1.length c0_1, .int .i64 a0_2, .slice A0_3 l0_3.length c0_3, .slice A0_4 l0_4.length c0_4] 28 (0, 0)) (mvK BK212.out)) : gb220 ≠ gb212))
    have n10_ := Za.mk ((by rw [hg]; exact Nat.ne_of_lt (Zbt (g := gb213) (o := .cells #[.slice none 0 0, .slice none 0 0, .int .i64 0, .slice none 0 0, .slice none 0 0] 28 (0, 0)) (mvK BK213.out)) : gb213 ≠ gb220))
    have n11_ := Za.mk ((by rw [hg]; exact Nat.ne_of_gt (Zbt (g := gb213) (o := .cells #[.slice none 0 0, .slice none 0 0, .int .i64 0, .slice none 0 0, .slice none 0 0] 28 (0, 0)) (mvK BK213.out)) : gb220 ≠ gb213))
    clear HO216
    clear HO219
    clear BK212
    clear BK213
    clear HB
    have HO216 := n0_
    have HO219 := n1_
    have BK212 := n2_
    have BK213 := n3_
    have HB := n4_
    have BK220 := n5_
    have GW220 := n6_
    have GE220 := n7_
    have NB212_220 := n8_
    have NB220_212 := n9_
    have NB213_220 := n10_
    have NB220_213 := n11_
    clear n0_ n1_ n2_ n3_ n4_ n5_ n6_ n7_ n8_ n9_ n10_ n11_
    clear hb hbox hg
    refine hK.out _ _ ⟨(Zaj BK212.out 0).trans rfl, (Zaj BK212.out 1).trans rfl, (Zaj BK212.out 2).trans rfl, (Zaj BK212.out 3).trans rfl, (Zaj BK212.out 4).trans rfl⟩ (fun hHeld => ?_)
    clear hK K
    refine Zc4 (a' := ?_) ?_ ?_
    rotate_left
    ·show Act.put _ (some 3) _ = _
     simp only [Act.put, List.setIfInBounds_toArray, List.set_cons_zero, List.set_cons_succ, Zbb, Zbd]
     rfl
    exact Zc4 (by simp only [putAll, Act.put, List.setIfInBounds_toArray, List.set_cons_zero, List.set_cons_succ]) (hCont (.slice Ao10 t214.length co10, .slice Ao9 t217.length co9, gb220) _ ⟨hHeld, (mvR (Kd.Za2 HO216.out (fun _ hk => hk.2))), (mvR (Kd.Za2 HO219.out (fun _ hk => hk.2))), (mvK BK212.out), (mvK BK213.out), (mvK BK220.out), GW220.out, GE220.out, NB212_220.out, NB220_212.out, NB213_220.out, NB220_213.out, (by repeat (first | (with_reducible first | exact HB.out | apply Zab | apply Zaa | apply Zad | refine Zac ?_ GE212.out | refine Zac ?_ GE213.out | refine Zac ?_ GE220.out) | exact HB.out))⟩)
   skip
   refine box_step ?hg (N := 3) ?hd (cs := #[.slice none 0 0, .slice none 0 0, .int .i64 0, .slice none 0 0, .slice none 0 0]) (t := 28) ?hr ?_; (case hd => rfl); (case hg => rfl); (case hr => first | (go_simp; done) | (go_simp; rfl))
   intro gb220 hg w8 hbox hb
   have n0_ := Za.mk (Kd.Zb6 (mvR HO216.out) hb)
   have n1_ := Za.mk (Zap (g := gb212) (o := .cells #[.slice A0_0 l0_0.length c0_0, .slice A0_1 l0_1.length c0_1, .int .i64 a0_2, .slice A0_3 l0_3.length c0_3, .slice A0_4 l0_4.length c0_4] 28 (0, 0)) (mvK BK212.out) hb)
   have n2_ := Za.mk (Zap (g := gb213) (o := .cells #[.slice none 0 0, .slice none 0 0, .int .i64 0, .slice none 0 0, .slice none 0 0] 28 (0, 0)) (mvK BK213.out) hb)
   have n3_ := Za.mk (Zaf (by repeat (first | (with_reducible first | exact HB.out | apply Zab | apply Zaa | apply Zad | refine Zac ?_ GE212.out | refine Zac ?_ GE213.out) | exact HB.out)) hb)
   have n4_ := Za.mk (hbox)
   have n5_ := Za.mk ((by rw [hg]; exact (Zan (by repeat (first | (with_reducible first | exact HB.out | apply Zab | apply Zaa | apply Zad | refine Zac ?_ GE212.out | refine Zac ?_ GE213.out) | exact HB.out))) : w.heap.size ≤ gb220))
   have n6_ := Za.mk ((by rw [hg]; exact (Zan (by repeat (first | (with_reducible first | exact HB.out | apply Zab | apply Zaa | apply Zad | refine Zac ?_ GE212.out | refine Zac ?_ GE213.out) | exact HB.out))) : w.heap.size ≤ gb220))
   have n7_ := Za.mk ((by rw [hg]; exact Nat.ne_of_lt (Zbt (g := gb212) (o := .cells #[.slice A0_0 l0_0.length c0_0, .slice A0_1 l0_1.length c0_1, .int .i64 a0_2, .slice A0_3 l0_3.length c0_3, .slice A0_4 l0_4.length c0_4] 28 (0, 0)) (mvK BK212.out)) : gb212 ≠ gb220))
   have n8_ := Za.mk ((by rw [hg]; exact Nat.ne_of_gt (Zbt (g := gb212) (o := .cells #[.slice A0_0 l0_0.length c0_0, .slice A0_1 l0_1.length c0_1, .int .i64 a0_2, .slice A0_3 l0_3.length c0_3, .slice A0_4 l0_4.length c0_4] 28 (0, 0)) (mvK BK212.out)) : gb220 ≠ gb212))
   have n9_ := Za.mk ((by rw [hg]; exact Nat.ne_of_lt (Zbt (g := gb213) (o := .cells #[.slice none 0 0, .slice none 0 0, .int .i64 0, .slice none 0 0, .slice none 0 0] 28 (0, 0)) (mvK BK213.out)) : gb213 ≠ gb220))
   have n10_ := Za.mk ((by rw [hg]; exact Nat.ne_of_gt (Zbt (g := gb213) (o := .cells #[.slice none 0 0, .slice none 0 0, .int .i64 0, .slice none 0 0, .slice none 0 0] 28 (0, 0)) (mvK BK213.out)) : gb220 ≠ gb213))
   clear HO216
   clear BK212
   clear BK213
   clear HB
   have HO216 := n0_
   have BK212 := n1_
   have BK213 := n2_
   have HB := n3_
   have BK220 := n4_
   have GW220 := n5_
   have GE220 := n6_
   have NB212_220 := n7_
   have NB220_212 := n8_
   have NB213_220 := n9_
   have NB220_213 := n10_
   clear n0_ n1_ n2_ n3_ n4_ n5_ n6_ n7_ n8_ n9_ n10_
   clear hb hbox hg
   refine hK.out _ _ ⟨(Zaj BK212.out 0).trans rfl, (Zaj BK212.out 1).trans rfl, (Zaj BK212.out 2).trans rfl, (Zaj BK212.out 3).trans rfl, (Zaj BK212.out 4).trans rfl⟩ (fun hHeld => ?_)
   clear hK K
   refine Zc4 (a' := ?_) ?_ ?_
   rotate_left
   ·show Act.put _ (some 3) _ = _
    simp only [Act.put, List.setIfInBounds_toArray, List.set_cons_zero, List.set_cons_succ, Zbb, Zbd]
    rfl
   refine one_ (i := 10) (N := some 21) #[true, true, true, true, true, true, true, true, true, true, true, false, false, true, false] rfl rfl (Zck HT_.out (by kernel_rfl)) (by decide) (fun K hK => ?_)
   refine Zd9 Try.func44 (by kernel_rfl) rfl #[.slice A0_4 l0_4.length c0_4] (by rfl) rfl rfl (by (try simp only [List.map_toArray, List.map_cons, List.map_nil]); first | done | rfl | (simp only [List.length_drop, List.length_take]; rfl)) ?_
   with_reducible refine (cloneI.calls _ _ l0_4 t217 _ ?side1 ?side2 A3.out).mono ?_
   (case side1 => repeat (first | exact (Kd.Zal HR0_4.out HB.out) | (with_reducible refine Kd.C_alloc ?_ _) | (with_reducible refine Kd.Zaw ?_ _) | (with_reducible refine Kd.C_drew ?_)))
   (case side2 => exact HC0_4.out)
   rintro e w9 ⟨v218, rfl, ho0, hb⟩
   refine ⟨_, rfl, ?_⟩
   have n0_ := Za.mk (Kd.Zby (mvR HO216.out) (Kd.Zb4 ho0) hb)
   have n1_ := Za.mk (Kd.Zbp (Kd.Zc1 ho0 (Kd.R_lt (mvR HO216.out))) (Zan (by repeat (first | (with_reducible first | exact HB.out | apply Zab | apply Zaa | apply Zad | refine Zac ?_ GE212.out | refine Zac ?_ GE213.out | refine Zac ?_ GE220.out) | exact HB.out))))
   have n2_ := Za.mk (Zap (g := gb212) (o := .cells #[.slice A0_0 l0_0.length c0_0, .slice A0_1 l0_1.length c0_1, .int .i64 a0_2, .slice A0_3 l0_3.length c0_3, .slice A0_4 l0_4.length c0_4] 28 (0, 0)) (mvK BK212.out) hb)
   have n3_ := Za.mk (Zap (g := gb213) (o := .cells #[.slice none 0 0, .slice none 0 0, .int .i64 0, .slice none 0 0, .slice none 0 0] 28 (0, 0)) (mvK BK213.out) hb)
   have n4_ := Za.mk (Zap (g := gb220) (o := .cells #[.slice none 0 0, .slice none 0 0, .int .i64 0, .slice none 0 0, .slice none 0 0] 28 (0, 0)) (mvK BK220.out) hb)
   have n5_ := Za.mk (Zaf (by repeat (first | (with_reducible first | exact HB.out | apply Zab | apply Zaa | apply Zad | refine Zac ?_ GE212.out | refine Zac ?_ GE213.out | refine Zac ?_ GE220.out) | exact HB.out)) hb)
   clear HO216
   clear BK212
   clear BK213
   clear BK220
   clear HB
   have HO216 := n0_
   have HO219 := n1_
   have BK212 := n2_
   have BK213 := n3_
   have BK220 := n4_
   have HB := n5_
   clear n0_ n1_ n2_ n3_ n4_ n5_
   (try clear hb)
   (try clear hb2)
   (try clear hk)
   (try clear hi)
   (try clear ho0)
   obtain ⟨Ao10, co10, eo10⟩ := Kd.Za9 HO219.out
   (first | subst eo10 | (injection eo10 with f1_ f2_ f3_; have f4_ := f1_.symm; have f5_ := f3_.symm; clear f1_ f2_ f3_; subst f4_; subst f5_))
   obtain ⟨Ao11, co11, eo11⟩ := Kd.Za9 HO216.out
   (first | subst eo11 | (injection eo11 with f1_ f2_ f3_; have f4_ := f1_.symm; have f5_ := f3_.symm; clear f1_ f2_ f3_; subst f4_; subst f5_))
   refine hK.out _ _ ⟨(Zaj BK212.out 0).trans rfl, (Zaj BK212.out 1).trans rfl, (Zaj BK212.out 2).trans rfl, (Zaj BK212.out 3).trans rfl, (Zaj BK212.out 4).trans rfl⟩ (fun hHeld => ?_)
   clear hK K
   refine Zc4 (a' := ?_) ?_ ?_
   rotate_left
   ·show Act.put _ (some 21) _ = _
    simp only [Act.put, List.setIfInBounds_toArray, List.set_cons_zero, List.set_cons_succ, Zbb, Zbd]
    rfl
   refine Zbx (i := 11) (N := some 22) (v := ?_) (a' := ?_) #[true, true, true, true, true, true, true, true, true, true, true, true, false, true, false] rfl rfl (Zbi HT_.out (by kernel_rfl)) (fun _ _ _ h => h) (Or.inl ⟨by rfl, ?_⟩) ?_ ?_
   rotate_left
   ·intro w'
    go_simp
    with_reducible rfl
   rotate_left
   ·simp only [Act.put, List.setIfInBounds_toArray, List.set_cons_zero, List.set_cons_succ, Zbb, Zbd]
    rfl
   refine Zbx (i := 12) (N := some 23) (v := ?_) (a' := ?_) #[true, true, true, true, true, true, true, true, true, true, true, true, true, true, false] rfl rfl (Zbi HT_.out (by kernel_rfl)) (fun _ _ _ h => h) (Or.inl ⟨by rfl, ?_⟩) ?_ ?_
   rotate_left
   ·intro w'
    go_simp
    with_reducible rfl
   rotate_left
   ·simp only [Act.put, List.setIfInBounds_toArray, List.set_cons_zero, List.set_cons_succ, Zbb, Zbd]
    rfl
   exact Zc4 (by simp only [putAll, Act.put, List.setIfInBounds_toArray, List.set_cons_zero, List.set_cons_succ]) (hCont (.slice Ao11 t214.length co11, .slice Ao10 t217.length co10, gb220) _ ⟨hHeld, (mvR (Kd.Za2 HO216.out (fun _ hk => hk.2))), (mvR (Kd.Za2 HO219.out (fun _ hk => hk.2))), (mvK BK212.out), (mvK BK213.out), (mvK BK220.out), GW220.out, GE220.out, NB212_220.out, NB220_212.out, NB213_220.out, NB220_213.out, (by repeat (first | (with_reducible first | exact HB.out | apply Zab | apply Zaa | apply Zad | refine Zac ?_ GE212.out | refine Zac ?_ GE213.out | refine Zac ?_ GE220.out) | exact HB.out))⟩)
  skip
  refine box_step ?hg (N := 3) ?hd (cs := #[.slice none 0 0, .slice none 0 0, .int .i64 0, .slice none 0 0, .slice none 0 0]) (t := 28) ?hr ?_; (case hd => rfl); (case hg => rfl); (case hr => first | (go_simp; done) | (go_simp; rfl))
  intro gb220 hg w7 hbox hb
  have n0_ := Za.mk (Zap (g := gb212) (o := .cells #[.slice A0_0 l0_0.length c0_0, .slice A0_1 l0_1.length c0_1, .int .i64 a0_2, .slice A0_3 l0_3.length c0_3, .slice A0_4 l0_4.length c0_4] 28 (0, 0)) (mvK BK212.out) hb)
  have n1_ := Za.mk (Zap (g := gb213) (o := .cells #[.slice none 0 0, .slice none 0 0, .int .i64 0, .slice none 0 0, .slice none 0 0] 28 (0, 0)) (mvK BK213.out) hb)
  have n2_ := Za.mk (Zaf (by repeat (first | (with_reducible first | exact HB.out | apply Zab | apply Zaa | apply Zad | refine Zac ?_ GE212.out | refine Zac ?_ GE213.out) | exact HB.out)) hb)
  have n3_ := Za.mk (hbox)
  have n4_ := Za.mk ((by rw [hg]; exact (Zan (by repeat (first | (with_reducible first | exact HB.out | apply Zab | apply Zaa | apply Zad | refine Zac ?_ GE212.out | refine Zac ?_ GE213.out) | exact HB.out))) : w.heap.size ≤ gb220))
  have n5_ := Za.mk ((by rw [hg]; exact (Zan (by repeat (first | (with_reducible first | exact HB.out | apply Zab | apply Zaa | apply Zad | refine Zac ?_ GE212.out | refine Zac ?_ GE213.out) | exact HB.out))) : w.heap.size ≤ gb220))
  have n6_ := Za.mk ((by rw [hg]; exact Nat.ne_of_lt (Zbt (g := gb212) (o := .cells #[.slice A0_0 l0_0.length c0_0, .slice A0_1 l0_1.length c0_1, .int .i64 a0_2, .slice A0_3 l0_3.length c0_3, .slice A0_4 l0_4.length c0_4] 28 (0, 0)) (mvK BK212.out)) : gb212 ≠ gb220))
  have n7_ := Za.mk ((by rw [hg]; exact Nat.ne_of_gt (Zbt (g := gb212) (o := .cells #[.slice A0_0 l0_0.length c0_0, .slice A0_1 l0_1.length c0_1, .int .i64 a0_2, .slice A0_3 l0_3.length c0_3, .slice A0_4 l0_4.length c0_4] 28 (0, 0)) (mvK BK212.out)) : gb220 ≠ gb212))
  have n8_ := Za.mk ((by rw [hg]; exact Nat.ne_of_lt (Zbt (g := gb213) (o := .cells #[.slice none 0 0, .slice none 0 0, .int .i64 0, .slice none 0 0, .slice none 0 0] 28 (0, 0)) (mvK BK213.out)) : gb213 ≠ gb220))
  have n9_ := Za.mk ((by rw [hg]; exact Nat.ne_of_gt (Zbt (g := gb213) (o := .cells #[.slice none 0 0, .slice none 0 0, .int .i64 0, .slice none 0 0, .slice none 0 0] 28 (0, 0)) (mvK BK213.out)) : gb220 ≠ gb213))
  clear BK212
  clear BK213
  clear HB
  have BK212 := n0_
  have BK213 := n1_
  have HB := n2_
  have BK220 := n3_
  have GW220 := n4_
  have GE220 := n5_
  have NB212_220 := n6_
  have NB220_212 := n7_
  have NB213_220 := n8_
  have NB220_213 := n9_
  clear n0_ n1_ n2_ n3_ n4_ n5_ n6_ n7_ n8_ n9_
  clear hb hbox hg
  refine hK.out _ _ ⟨(Zaj BK212.out 0).trans rfl, (Zaj BK212.out 1).trans rfl, (Zaj BK212.out 2).trans rfl, (Zaj BK212.out 3).trans rfl, (Zaj BK212.out 4).trans rfl⟩ (fun hHeld => ?_)
  clear hK K
  refine Zc4 (a' := ?_) ?_ ?_
  rotate_left
  ·show Act.put _ (some 3) _ = _
   simp only [Act.put, List.setIfInBounds_toArray, List.set_cons_zero, List.set_cons_succ, Zbb, Zbd]
   rfl
  refine one_ (i := 6) (N := some 17) #[true, true, true, true, true, true, true, true, true, true, false, false, false, true, false] rfl rfl (Zck HT_.out (by kernel_rfl)) (by decide) (fun K hK => ?_)
  refine Zd9 Try.func44 (by kernel_rfl) rfl #[.slice A0_3 l0_3.length c0_3] (by rfl) rfl rfl (by (try simp only [List.map_toArray, List.map_cons, List.map_nil]); first | done | rfl | (simp only [List.length_drop, List.length_take]; rfl)) ?_
  with_reducible refine (cloneI.calls _ _ l0_3 t214 _ ?side1 ?side2 A2.out).mono ?_
  (case side1 => repeat (first | exact (Kd.Zal HR0_3.out HB.out) | (with_reducible refine Kd.C_alloc ?_ _) | (with_reducible refine Kd.Zaw ?_ _) | (with_reducible refine Kd.C_drew ?_)))
  (case side2 => exact HC0_3.out)
  rintro e w8 ⟨v215, rfl, ho0, hb⟩
  refine ⟨_, rfl, ?_⟩
  have n0_ := Za.mk (Kd.Zbp ho0 (Zan (by repeat (first | (with_reducible first | exact HB.out | apply Zab | apply Zaa | apply Zad | refine Zac ?_ GE212.out | refine Zac ?_ GE213.out | refine Zac ?_ GE220.out) | exact HB.out))))
  have n1_ := Za.mk (Zap (g := gb212) (o := .cells #[.slice A0_0 l0_0.length c0_0, .slice A0_1 l0_1.length c0_1, .int .i64 a0_2, .slice A0_3 l0_3.length c0_3, .slice A0_4 l0_4.length c0_4] 28 (0, 0)) (mvK BK212.out) hb)
  have n2_ := Za.mk (Zap (g := gb213) (o := .cells #[.slice none 0 0, .slice none 0 0, .int .i64 0, .slice none 0 0, .slice none 0 0] 28 (0, 0)) (mvK BK213.out) hb)
  have n3_ := Za.mk (Zap (g := gb220) (o := .cells #[.slice none 0 0, .slice none 0 0, .int .i64 0, .slice none 0 0, .slice none 0 0] 28 (0, 0)) (mvK BK220.out) hb)
  have n4_ := Za.mk (Zaf (by repeat (first | (with_reducible first | exact HB.out | apply Zab | apply Zaa | apply Zad | refine Zac ?_ GE212.out | refine Zac ?_ GE213.out | refine Zac ?_ GE220.out) | exact HB.out)) hb)
  clear BK212
  clear BK213
  clear BK220
  clear HB
  have HO216 := n0_
  have BK212 := n1_
  have BK213 := n2_
  have BK220 := n3_
  have HB := n4_
  clear n0_ n1_ n2_ n3_ n4_
  (try clear hb)
  (try clear hb2)
  (try clear hk)
  (try clear hi)
  (try clear ho0)
  refine hK.out _ _ ⟨(Zaj BK212.out 0).trans rfl, (Zaj BK212.out 1).trans rfl, (Zaj BK212.out 2).trans rfl, (Zaj BK212.out 3).trans rfl, (Zaj BK212.out 4).trans rfl⟩ (fun hHeld => ?_)
  clear hK K
  refine Zc4 (a' := ?_) ?_ ?_
  rotate_left
  ·show Act.put _ (some 17) _ = _
   simp only [Act.put, List.setIfInBounds_toArray, List.set_cons_zero, List.set_cons_succ, Zbb, Zbd]
   rfl
  refine one_ (i := 10) (N := some 21) #[true, true, true, true, true, true, true, true, true, true, true, false, false, true, false] rfl rfl (Zck HT_.out (by kernel_rfl)) (by decide) (fun K hK => ?_)
  refine Zd9 Try.func44 (by kernel_rfl) rfl #[.slice A0_4 l0_4.length c0_4] (by rfl) rfl rfl (by (try simp only [List.map_toArray, List.map_cons, List.map_nil]); first | done | rfl | (simp only [List.length_drop, List.length_take]; rfl)) ?_
  with_reducible refine (cloneI.calls _ _ l0_4 t217 _ ?side1 ?side2 A3.out).mono ?_
  (case side1 => repeat (first | exact (Kd.Zal HR0_4.out HB.out) | (with_reducible refine Kd.C_alloc ?_ _) | (with_reducible refine Kd.Zaw ?_ _) | (with_reducible refine Kd.C_drew ?_)))
  (case side2 => exact HC0_4.out)
  rintro e w9 ⟨v218, rfl, ho0, hb⟩
  refine ⟨_, rfl, ?_⟩
  have n0_ := Za.mk (Kd.Zby (mvR HO216.out) (Kd.Zb4 ho0) hb)
  have n1_ := Za.mk (Kd.Zbp (Kd.Zc1 ho0 (Kd.R_lt (mvR HO216.out))) (Zan (by repeat (first | (with_reducible first | exact HB.out | apply Zab | apply Zaa | apply Zad | refine Zac ?_ GE212.out | refine Zac ?_ GE213.out | refine Zac ?_ GE220.out) | exact HB.out))))
  have n2_ := Za.mk (Zap (g := gb212) (o := .cells #[.slice A0_0 l0_0.length c0_0, .slice A0_1 l0_1.length c0_1, .int .i64 a0_2, .slice A0_3 l0_3.length c0_3, .slice A0_4 l0_4.length c0_4] 28 (0, 0)) (mvK BK212.out) hb)
  have n3_ := Za.mk (Zap (g := gb213) (o := .cells #[.slice none 0 0, .slice none 0 0, .int .i64 0, .slice none 0 0, .slice none 0 0] 28 (0, 0)) (mvK BK213.out) hb)
  have n4_ := Za.mk (Zap (g := gb220) (o := .cells #[.slice none 0 0, .slice none 0 0, .int .i64 0, .slice none 0 0, .slice none 0 0] 28 (0, 0)) (mvK BK220.out) hb)
  have n5_ := Za.mk (Zaf (by repeat (first | (with_reducible first | exact HB.out | apply Zab | apply Zaa | apply Zad | refine Zac ?_ GE212.out | refine Zac ?_ GE213.out | refine Zac ?_ GE220.out) | exact HB.out)) hb)
  clear HO216
  clear BK212
  clear BK213
  clear BK220
  clear HB
  have HO216 := n0_
  have HO219 := n1_
  have BK212 := n2_
  have BK213 := n3_
  have BK220 := n4_
  have HB := n5_
  clear n0_ n1_ n2_ n3_ n4_ n5_
  (try clear hb)
  (try clear hb2)
  (try clear hk)
  (try clear hi)
  (try clear ho0)
  obtain ⟨Ao10, co10, eo10⟩ := Kd.Za9 HO219.out
  (first | subst eo10 | (injection eo10 with f1_ f2_ f3_; have f4_ := f1_.symm; have f5_ := f3_.symm; clear f1_ f2_ f3_; subst f4_; subst f5_))
  obtain ⟨Ao11, co11, eo11⟩ := Kd.Za9 HO216.out
  (first | subst eo11 | (injection eo11 with f1_ f2_ f3_; have f4_ := f1_.symm; have f5_ := f3_.symm; clear f1_ f2_ f3_; subst f4_; subst f5_))
  refine hK.out _ _ ⟨(Zaj BK212.out 0).trans rfl, (Zaj BK212.out 1).trans rfl, (Zaj BK212.out 2).trans rfl, (Zaj BK212.out 3).trans rfl, (Zaj BK212.out 4).trans rfl⟩ (fun hHeld => ?_)
  clear hK K
  refine Zc4 (a' := ?_) ?_ ?_
  rotate_left
  ·show Act.put _ (some 21) _ = _
   simp only [Act.put, List.setIfInBounds_toArray, List.set_cons_zero, List.set_cons_succ, Zbb, Zbd]
   rfl
  refine Zbx (i := 11) (N := some 22) (v := ?_) (a' := ?_) #[true, true, true, true, true, true, true, true, true, true, true, true, false, true, false] rfl rfl (Zbi HT_.out (by kernel_rfl)) (fun _ _ _ h => h) (Or.inl ⟨by rfl, ?_⟩) ?_ ?_
  rotate_left
  ·intro w'
   go_simp
   with_reducible rfl
  rotate_left
  ·simp only [Act.put, List.setIfInBounds_toArray, List.set_cons_zero, List.set_cons_succ, Zbb, Zbd]
   rfl
  refine Zbx (i := 12) (N := some 23) (v := ?_) (a' := ?_) #[true, true, true, true, true, true, true, true, true, true, true, true, true, true, false] rfl rfl (Zbi HT_.out (by kernel_rfl)) (fun _ _ _ h => h) (Or.inl ⟨by rfl, ?_⟩) ?_ ?_
  rotate_left
  ·intro w'
   go_simp
   with_reducible rfl
  rotate_left
  ·simp only [Act.put, List.setIfInBounds_toArray, List.set_cons_zero, List.set_cons_succ, Zbb, Zbd]
   rfl
  exact Zc4 (by simp only [putAll, Act.put, List.setIfInBounds_toArray, List.set_cons_zero, List.set_cons_succ]) (hCont (.slice Ao11 t214.length co11, .slice Ao10 t217.length co10, gb220) _ ⟨hHeld, (mvR (Kd.Za2 HO216.out (fun _ hk => hk.2))), (mvR (Kd.Za2 HO219.out (fun _ hk => hk.2))), (mvK BK212.out), (mvK BK213.out), (mvK BK220.out), GW220.out, GE220.out, NB212_220.out, NB220_212.out, NB213_220.out, NB220_213.out, (by repeat (first | (with_reducible first | exact HB.out | apply Zab | apply Zaa | apply Zad | refine Zac ?_ GE212.out | refine Zac ?_ GE213.out | refine Zac ?_ GE220.out) | exact HB.out))⟩)
 rintro ⟨v215, v218, gb220⟩ w12 ⟨hS_, h0_, h1_, h2_, h3_, h4_, h5_, h6_, h7_, h8_, h9_, h10_, h11_⟩
 have n0_ : Za (Kd.R (Kd.int .i64) 3 w12 w.heap.size (fun k_ => some k_ ≠ (v218 : Value).ownBlock) v215 t214) := ⟨h0_⟩
 have n1_ : Za (Kd.R (Kd.int .i64) 3 w12 w.heap.size (fun k_ => some k_ ≠ (v215 : Value).ownBlock) v218 t217) := ⟨h1_⟩
 have n2_ : Za (w12.heap[gb212]? = some (.cells #[.slice A0_0 l0_0.length c0_0, .slice A0_1 l0_1.length c0_1, .int .i64 a0_2, .slice A0_3 l0_3.length c0_3, .slice A0_4 l0_4.length c0_4] 28 (0, 0))) := ⟨h2_⟩
 have n3_ : Za (w12.heap[gb213]? = some (.cells #[.slice none 0 0, .slice none 0 0, .int .i64 0, .slice none 0 0, .slice none 0 0] 28 (0, 0))) := ⟨h3_⟩
 have n4_ : Za (w12.heap[gb220]? = some (.cells #[.slice none 0 0, .slice none 0 0, .int .i64 0, .slice none 0 0, .slice none 0 0] 28 (0, 0))) := ⟨h4_⟩
 have n5_ : Za (w.heap.size ≤ gb220) := ⟨h5_⟩
 have n6_ : Za (w.heap.size ≤ gb220) := ⟨h6_⟩
 have n7_ : Za (gb212 ≠ gb220) := ⟨h7_⟩
 have n8_ : Za (gb220 ≠ gb212) := ⟨h8_⟩
 have n9_ : Za (gb213 ≠ gb220) := ⟨h9_⟩
 have n10_ : Za (gb220 ≠ gb213) := ⟨h10_⟩
 have n11_ : Za (Below w.heap.size w w12) := ⟨h11_⟩
 clear BK212
 clear BK213
 clear HB
 clear h0_ h1_ h2_ h3_ h4_ h5_ h6_ h7_ h8_ h9_ h10_ h11_
 have HO216 := n0_
 have HO219 := n1_
 have BK212 := n2_
 have BK213 := n3_
 have BK220 := n4_
 have GW220 := n5_
 have GE220 := n6_
 have NB212_220 := n7_
 have NB220_212 := n8_
 have NB213_220 := n9_
 have NB220_213 := n10_
 have HB := n11_
 clear n0_ n1_ n2_ n3_ n4_ n5_ n6_ n7_ n8_ n9_ n10_ n11_
 have hHeld : w12.cell? ⟨gb212, 0, none⟩ = some (.slice A0_0 l0_0.length c0_0) ∧ w12.cell? ⟨gb212, 1, none⟩ = some (.slice A0_1 l0_1.length c0_1) ∧ w12.cell? ⟨gb212, 2, none⟩ = some (.int .i64 a0_2) ∧ w12.cell? ⟨gb212, 3, none⟩ = some (.slice A0_3 l0_3.length c0_3) ∧ w12.cell? ⟨gb212, 4, none⟩ = some (.slice A0_4 l0_4.length c0_4) := hS_
 obtain ⟨Ao13, co13, eo13⟩ := Kd.Za9 HO219.out
 (first | subst eo13 | (injection eo13 with f1_ f2_ f3_; have f4_ := f1_.symm; have f5_ := f3_.symm; clear f1_ f2_ f3_; subst f4_; subst f5_))
 obtain ⟨Ao14, co14, eo14⟩ := Kd.Za9 HO216.out
 (first | subst eo14 | (injection eo14 with f1_ f2_ f3_; have f4_ := f1_.symm; have f5_ := f3_.symm; clear f1_ f2_ f3_; subst f4_; subst f5_))
 refine Zc4 (a' := ?_) ?_ ?_
 rotate_left
 ·simp only [putAll, Act.put, List.setIfInBounds_toArray, List.set_cons_zero, List.set_cons_succ]
  rfl
 refine one_ (i := 14) (N := none) #[true, true, true, true, true, true, true, true, true, true, true, true, true, true, true] rfl rfl (Zck HT_.out (by kernel_rfl)) (by decide) (fun K hK => ?_)
 have hs15 : w12.cell? ⟨gb220, 0, none⟩ = some (.slice none 0 0) := (Zaj BK220.out 0).trans rfl
 have hfs15 := Zao BK220.out 0
 have hns15_0 := NB212_220.out
 have hns15_1 := NB213_220.out
 have hms15_0 := NB220_212.out
 have hms15_1 := NB220_213.out
 have hs16 : w12.cell? ⟨gb220, 1, none⟩ = some (.slice none 0 0) := (Zaj BK220.out 1).trans rfl
 have hfs16 := Zao BK220.out 1
 have hns16_0 := NB212_220.out
 have hns16_1 := NB213_220.out
 have hms16_0 := NB220_212.out
 have hms16_1 := NB220_213.out
 have hs17 : w12.cell? ⟨gb220, 2, none⟩ = some (.int .i64 0) := (Zaj BK220.out 2).trans rfl
 have hfs17 := Zao BK220.out 2
 have hns17_0 := NB212_220.out
 have hns17_1 := NB213_220.out
 have hms17_0 := NB220_212.out
 have hms17_1 := NB220_213.out
 have hs18 : w12.cell? ⟨gb220, 3, none⟩ = some (.slice none 0 0) := (Zaj BK220.out 3).trans rfl
 have hfs18 := Zao BK220.out 3
 have hns18_0 := NB212_220.out
 have hns18_1 := NB213_220.out
 have hms18_0 := NB220_212.out
 have hms18_1 := NB220_213.out
 have hs19 : w12.cell? ⟨gb220, 4, none⟩ = some (.slice none 0 0) := (Zaj BK220.out 4).trans rfl
 have hfs19 := Zao BK220.out 4
 have hns19_0 := NB212_220.out
 have hns19_1 := NB213_220.out
 have hms19_0 := NB220_212.out
 have hms19_1 := NB220_213.out
 refine skip_ (w1 := ?_) (by rfl) rfl ?_ ?_
 rotate_left
 ·go_simp
  rfl
 refine hK.out _ _ ⟨((cell_far (p := ⟨gb220, _, none⟩) NB212_220.out _).trans (((cell_far (p := ⟨gb220, _, none⟩) NB212_220.out _).trans (((cell_far (p := ⟨gb220, _, none⟩) NB212_220.out _).trans (((cell_far (p := ⟨gb220, _, none⟩) NB212_220.out _).trans (((cell_far (p := ⟨gb220, _, none⟩) NB212_220.out _).trans (hHeld.1)))))))))), ((cell_far (p := ⟨gb220, _, none⟩) NB212_220.out _).trans (((cell_far (p := ⟨gb220, _, none⟩) NB212_220.out _).trans (((cell_far (p := ⟨gb220, _, none⟩) NB212_220.out _).trans (((cell_far (p := ⟨gb220, _, none⟩) NB212_220.out _).trans (((cell_far (p := ⟨gb220, _, none⟩) NB212_220.out _).trans (hHeld.2.1)))))))))), ((cell_far (p := ⟨gb220, _, none⟩) NB212_220.out _).trans (((cell_far (p := ⟨gb220, _, none⟩) NB212_220.out _).trans (((cell_far (p := ⟨gb220, _, none⟩) NB212_220.out _).trans (((cell_far (p := ⟨gb220, _, none⟩) NB212_220.out _).trans (((cell_far (p := ⟨gb220, _, none⟩) NB212_220.out _).trans (hHeld.2.2.1)))))))))), ((cell_far (p := ⟨gb220, _, none⟩) NB212_220.out _).trans (((cell_far (p := ⟨gb220, _, none⟩) NB212_220.out _).trans (((cell_far (p := ⟨gb220, _, none⟩) NB212_220.out _).trans (((cell_far (p := ⟨gb220, _, none⟩) NB212_220.out _).trans (((cell_far (p := ⟨gb220, _, none⟩) NB212_220.out _).trans (hHeld.2.2.2.1)))))))))), ((cell_far (p := ⟨gb220, _, none⟩) NB212_220.out _).trans (((cell_far (p := ⟨gb220, _, none⟩) NB212_220.out _).trans (((cell_far (p := ⟨gb220, _, none⟩) NB212_220.out _).trans (((cell_far (p := ⟨gb220, _, none⟩) NB212_220.out _).trans (((cell_far (p := ⟨gb220, _, none⟩) NB212_220.out _).trans (hHeld.2.2.2.2))))))))))⟩ (fun hHeld => ?_)
 clear hK K
 refine done_ (Zek HT_.out (by kernel_rfl)) ?_
 have hnb20 := NB212_213.out
 have hnc20 := NB213_212.out
 have hnb21 := NB212_220.out
 have hnc21 := NB220_212.out
 obtain ⟨hcz22_0, hcz22_1, hcz22_2, hcz22_3, hcz22_4, hfz22_0, hfz22_1, hfz22_2, hfz22_3, hfz22_4⟩ := Zde BK212.out
 try go_wp2
 go_loopg [27] k (fun kq v27 w' => ∃ (x27_1 : Int) (x221000_1 : List (S50)) (u221000 : Value), v27 = .int .i64 x27_1 ∧ Za (Za5.l0 kq l0_0 (l0_0.length : Int) x27_1 l0_0 l0_1 a0_2 l0_3 l0_4 x221000_1 a0_2 t214 t217 = some (r1, r2, r3, r4, r5)) ∧ Za (kq ≤ k) ∧ Za (Kd.S k50 50 w' w.heap.size (fun _ => True) u221000 x221000_1) ∧ Za (Kd.R (Kd.int .i64) 3 w' w.heap.size (fun k_ => some k_ ≠ ((.slice Ao13 t217.length co13) : Value).ownBlock) (.slice Ao14 t214.length co14) t214) ∧ Za (Kd.R (Kd.int .i64) 3 w' w.heap.size (fun k_ => some k_ ≠ ((.slice Ao14 t214.length co14) : Value).ownBlock) (.slice Ao13 t217.length co13) t217) ∧ Za (w'.heap[gb212]? = some (.cells #[(.slice A0_0 l0_0.length c0_0), (.slice A0_1 l0_1.length c0_1), .int .i64 a0_2, (.slice A0_3 l0_3.length c0_3), (.slice A0_4 l0_4.length c0_4)] 28 (0, 0))) ∧ Za (w'.heap[gb213]? = some (.cells #[(.slice none 0 0), (.slice none 0 0), .int .i64 0, (.slice none 0 0), (.slice none 0 0)] 28 (0, 0))) ∧ Za (w'.heap[gb220]? = some (.cells #[u221000, (.slice none 0 0), .int .i64 a0_2, (.slice Ao14 t214.length co14), (.slice Ao13 t217.length co13)] 28 (0, 0))) ∧ Za (Below w.heap.size w w'))
 case atStart => exact ⟨(0), (([] : List (S50))), (.slice none 0 0), (by first | rfl | (simp; done) | (simp [*]; done)), H', ⟨Nat.le_refl _⟩, ⟨by first | exact Kd.S_nil _ _ _ _ _ | exact Kd.N_nil _ _ _ _ _ | exact Kd.Ze _ _ _ _ _ | exact Kd.Q_nil _ _ _ _ _ | exact Kd.Zfa _ _ _ _ _⟩, ⟨by (with_reducible repeat (first | apply Kd.Zat | apply Kd.Zau | apply Kd.Zaz)); exact Kd.Za2 (Kd.Za1 (p := ⟨gb220, 4, none⟩) (Kd.Za1 (p := ⟨gb220, 3, none⟩) (Kd.Za1 (p := ⟨gb220, 2, none⟩) (Kd.Za1 (p := ⟨gb220, 1, none⟩) (Kd.Za1 (p := ⟨gb220, 0, none⟩) (Kd.Zbc HO216.out BK220.out (by decide)) (fun _ hk => hk.2) (.slice none 0 0)) (fun _ hk => hk.2) (.slice none 0 0)) (fun _ hk => hk.2) (.int .i64 a0_2)) (fun _ hk => hk.2) (.slice Ao14 t214.length co14)) (fun _ hk => hk.2) (.slice Ao13 t217.length co13)) (fun _ hk => hk.1)⟩, ⟨by (with_reducible repeat (first | apply Kd.Zat | apply Kd.Zau | apply Kd.Zaz)); exact Kd.Za2 (Kd.Za1 (p := ⟨gb220, 4, none⟩) (Kd.Za1 (p := ⟨gb220, 3, none⟩) (Kd.Za1 (p := ⟨gb220, 2, none⟩) (Kd.Za1 (p := ⟨gb220, 1, none⟩) (Kd.Za1 (p := ⟨gb220, 0, none⟩) (Kd.Zbc HO219.out BK220.out (by decide)) (fun _ hk => hk.2) (.slice none 0 0)) (fun _ hk => hk.2) (.slice none 0 0)) (fun _ hk => hk.2) (.int .i64 a0_2)) (fun _ hk => hk.2) (.slice Ao14 t214.length co14)) (fun _ hk => hk.2) (.slice Ao13 t217.length co13)) (fun _ hk => hk.1)⟩, ⟨by (with_reducible repeat (first | refine Zag ?_ _ | refine Zai ?_ | refine Zae ?_ _)); refine Zav ?_ NB212_220.out _; (with_reducible repeat (first | refine Zag ?_ _ | refine Zai ?_ | refine Zae ?_ _)); refine Zav ?_ NB212_220.out _; (with_reducible repeat (first | refine Zag ?_ _ | refine Zai ?_ | refine Zae ?_ _)); refine Zav ?_ NB212_220.out _; (with_reducible repeat (first | refine Zag ?_ _ | refine Zai ?_ | refine Zae ?_ _)); refine Zav ?_ NB212_220.out _; (with_reducible repeat (first | refine Zag ?_ _ | refine Zai ?_ | refine Zae ?_ _)); refine Zav ?_ NB212_220.out _; (with_reducible repeat (first | refine Zag ?_ _ | refine Zai ?_ | refine Zae ?_ _)); exact BK212.out⟩, ⟨by (with_reducible repeat (first | refine Zag ?_ _ | refine Zai ?_ | refine Zae ?_ _)); refine Zav ?_ NB213_220.out _; (with_reducible repeat (first | refine Zag ?_ _ | refine Zai ?_ | refine Zae ?_ _)); refine Zav ?_ NB213_220.out _; (with_reducible repeat (first | refine Zag ?_ _ | refine Zai ?_ | refine Zae ?_ _)); refine Zav ?_ NB213_220.out _; (with_reducible repeat (first | refine Zag ?_ _ | refine Zai ?_ | refine Zae ?_ _)); refine Zav ?_ NB213_220.out _; (with_reducible repeat (first | refine Zag ?_ _ | refine Zai ?_ | refine Zae ?_ _)); refine Zav ?_ NB213_220.out _; (with_reducible repeat (first | refine Zag ?_ _ | refine Zai ?_ | refine Zae ?_ _)); exact BK213.out⟩, ⟨by (with_reducible repeat (first | refine Zag ?_ _ | refine Zai ?_ | refine Zae ?_ _)); refine Zaq (cs := #[.slice none 0 0, .slice none 0 0, .int .i64 a0_2, .slice Ao14 t214.length co14, .slice none 0 0]) ?_ 4 _ rfl; (with_reducible repeat (first | refine Zag ?_ _ | refine Zai ?_ | refine Zae ?_ _)); refine Zaq (cs := #[.slice none 0 0, .slice none 0 0, .int .i64 a0_2, .slice none 0 0, .slice none 0 0]) ?_ 3 _ rfl; (with_reducible repeat (first | refine Zag ?_ _ | refine Zai ?_ | refine Zae ?_ _)); refine Zaq (cs := #[.slice none 0 0, .slice none 0 0, .int .i64 0, .slice none 0 0, .slice none 0 0]) ?_ 2 _ rfl; (with_reducible repeat (first | refine Zag ?_ _ | refine Zai ?_ | refine Zae ?_ _)); refine Zaq (cs := #[.slice none 0 0, .slice none 0 0, .int .i64 0, .slice none 0 0, .slice none 0 0]) ?_ 1 _ rfl; (with_reducible repeat (first | refine Zag ?_ _ | refine Zai ?_ | refine Zae ?_ _)); refine Zaq (cs := #[.slice none 0 0, .slice none 0 0, .int .i64 0, .slice none 0 0, .slice none 0 0]) ?_ 0 _ rfl; (with_reducible repeat (first | refine Zag ?_ _ | refine Zai ?_ | refine Zae ?_ _)); exact BK220.out⟩, ⟨by repeat (first | (with_reducible first | exact HB.out | apply Zab | apply Zaa | apply Zad | refine Zac ?_ GE212.out | refine Zac ?_ GE213.out | refine Zac ?_ GE220.out) | exact HB.out)⟩⟩
 case round =>
  clear H'
  try clear c2
  try clear p2
  try clear c4
  try clear c20
  try clear c21
  try clear hcz22_0
  try clear hcz22_1
  try clear hcz22_2
  try clear hcz22_3
  try clear hcz22_4
  try clear hfz22_0
  try clear hfz22_1
  try clear hfz22_2
  try clear hfz22_3
  try clear hfz22_4
  obtain ⟨x27_1, x221000_1, u221000, rfl, HA, HK1, HO_221000, HO_221003, HO_221004, BK212, BK213, BK220, HB⟩ := hrel
  cases gk with
  | zero => exact absurd HA.out (by simp [Za5.l0])
  | succ k1 =>
   have H := HA.out
   clear HA
   simp only [Za5.l0] at H
   by_cases c23 : x27_1 < (l0_0.length : Int)
   ·rw [if_pos c23] at H
    have c23b0 : decide (x27_1 < (l0_0.length : Int)) = true := decide_eq_true c23
    clear c23
    by_cases c24 : 0 ≤ x27_1
    rotate_left
    ·rw [if_neg c24] at H
     exact absurd H (by simp)
    rw [if_pos c24] at H
    have c24b0 : decide (0 ≤ x27_1) = true := decide_eq_true c24
    clear c24
    by_cases c25 : x27_1 < (l0_0.length : Int)
    rotate_left
    ·rw [if_neg c25] at H
     exact absurd H (by simp)
    rw [if_pos c25] at H
    have c25b0 : decide (x27_1 < (l0_0.length : Int)) = true := decide_eq_true c25
    clear c25
    replace H := Option.bind_eq_some_iff.mp H
    obtain ⟨t223, A260, H⟩ := H
    replace H : (if x221000_1.length < 3518437208883 then (Za5.l0 k1 l0_0 (l0_0.length : Int) (wrap64 (x27_1 + 1)) l0_0 l0_1 a0_2 l0_3 l0_4 (x221000_1 ++ [(⟨(Za4 l0_0 x27_1).f0, t223⟩ : S50)]) a0_2 t214 t217) else (none)) = some (r1, r2, r3, r4, r5) := H
    have A26 := Za.mk A260
    clear A260
    by_cases c27 : x221000_1.length < 3518437208883
    rotate_left
    ·rw [if_neg c27] at H
     exact absurd H (by simp)
    rw [if_pos c27] at H
    have LMc27 := Za.mk c27
    clear c27
    obtain ⟨y226, hy226⟩ : ∃ y_ : List (S50), y_ = (x221000_1 ++ [(⟨(Za4 l0_0 x27_1).f0, t223⟩ : S50)]) := ⟨_, rfl⟩
    replace H : (Za5.l0 k1 l0_0 (l0_0.length : Int) (wrap64 (x27_1 + 1)) l0_0 l0_1 a0_2 l0_3 l0_4 y226 a0_2 t214 t217) = some (r1, r2, r3, r4, r5) := by first | (rw [hy226]; with_reducible exact H) | (have H2_ := (Option.bind_some _ _).symm.trans H; rw [hy226]; with_reducible exact H2_) | (have H2_ := (Option.bind_some _ _).symm.trans H; with_reducible exact H2_) | with_reducible exact H | (rw [hy226]; exact H) | exact H
    have Ny226 := Za.mk hy226
    clear hy226
    have H' := Za.mk H
    clear H
    have p221 : 0 ≤ (x27_1 : Int) := of_decide_eq_true (by first | (with_reducible assumption) | assumption)
    have q221 : x27_1 < (l0_0.length : Int) := of_decide_eq_true (by first | (with_reducible assumption) | assumption)
    obtain ⟨ad221, A221_1, c221_1, e221, hx221_0, hx221_1, hl221_1, hi221_1⟩ := Zg HR0_0.out x27_1 p221 q221
    cases e221
    replace hx221_0 := (HB.out.cell (World.block_lt_of_cell? w _ hx221_0)).trans hx221_0
    replace hx221_1 := (HB.out.cell (World.block_lt_of_cell? w _ hx221_1)).trans hx221_1
    have HR221_1 := Za.mk hi221_1
    have HC221_1 := Za.mk hl221_1
    clear hi221_1 hl221_1
    replace p221 := eq_true p221
    replace q221 := eq_true q221
    try go_wp2_with (first | ((with_reducible refine Zax (N := 5) rfl ?_); refine Za7 ?hg (N := 5) ?hd (cs := #[.string (⟨#[]⟩ : ByteArray), .slice none 0 0]) (t := 50) ?hr ?_; (case hd => rfl); (case hg => rfl); (case hr => first | (go_simp; done) | (go_simp; rfl)); intro gb222 hg w28 hbox hb; have n0_ := Za.mk (Kd.Zcw (Kd.S_elderB (mvS HO_221000.out) gb222 (Nat.le_of_eq hg.symm)) hb); have n1_ := Za.mk (Kd.Zb6 (mvR HO_221003.out) hb); have n2_ := Za.mk (Kd.Zb6 (mvR HO_221004.out) hb); have n3_ := Za.mk (Zap (g := gb212) (o := .cells #[.slice (some ad221) l0_0.length c0_0, .slice A0_1 l0_1.length c0_1, .int .i64 a0_2, .slice A0_3 l0_3.length c0_3, .slice A0_4 l0_4.length c0_4] 28 (0, 0)) (mvK BK212.out) hb); have n4_ := Za.mk (Zap (g := gb213) (o := .cells #[.slice none 0 0, .slice none 0 0, .int .i64 0, .slice none 0 0, .slice none 0 0] 28 (0, 0)) (mvK BK213.out) hb); have n5_ := Za.mk (Zap (g := gb220) (o := .cells #[u221000, .slice none 0 0, .int .i64 a0_2, .slice Ao14 t214.length co14, .slice Ao13 t217.length co13] 28 (0, 0)) (mvK BK220.out) hb); have n6_ := Za.mk (Zaf (by repeat (first | (with_reducible first | exact HB.out | apply Zab | apply Zaa | apply Zad | refine Zac ?_ GE212.out | refine Zac ?_ GE213.out | refine Zac ?_ GE220.out) | exact HB.out)) hb); have n7_ := Za.mk (hbox); have n9_ := Za.mk ((by rw [hg]; exact (Zan (by repeat (first | (with_reducible first | exact HB.out | apply Zab | apply Zaa | apply Zad | refine Zac ?_ GE212.out | refine Zac ?_ GE213.out | refine Zac ?_ GE220.out) | exact HB.out))) : w.heap.size ≤ gb222)); have n10_ := Za.mk ((by rw [hg]; exact Nat.ne_of_lt (Zbt (g := gb212) (o := .cells #[.slice (some ad221) l0_0.length c0_0, .slice A0_1 l0_1.length c0_1, .int .i64 a0_2, .slice A0_3 l0_3.length c0_3, .slice A0_4 l0_4.length c0_4] 28 (0, 0)) (mvK BK212.out)) : gb212 ≠ gb222)); have n11_ := Za.mk ((by rw [hg]; exact Nat.ne_of_gt (Zbt (g := gb212) (o := .cells #[.slice (some ad221) l0_0.length c0_0, .slice A0_1 l0_1.length c0_1, .int .i64 a0_2, .slice A0_3 l0_3.length c0_3, .slice A0_4 l0_4.length c0_4] 28 (0, 0)) (mvK BK212.out)) : gb222 ≠ gb212)); have n12_ := Za.mk ((by rw [hg]; exact Nat.ne_of_lt (Zbt (g := gb213) (o := .cells #[.slice none 0 0, .slice none 0 0, .int .i64 0, .slice none 0 0, .slice none 0 0] 28 (0, 0)) (mvK BK213.out)) : gb213 ≠ gb222)); have n13_ := Za.mk ((by rw [hg]; exact Nat.ne_of_gt (Zbt (g := gb213) (o := .cells #[.slice none 0 0, .slice none 0 0, .int .i64 0, .slice none 0 0, .slice none 0 0] 28 (0, 0)) (mvK BK213.out)) : gb222 ≠ gb213)); have n14_ := Za.mk ((by rw [hg]; exact Nat.ne_of_lt (Zbt (g := gb220) (o := .cells #[u221000, .slice none 0 0, .int .i64 a0_2, .slice Ao14 t214.length co14, .slice Ao13 t217.length co13] 28 (0, 0)) (mvK BK220.out)) : gb220 ≠ gb222)); have n15_ := Za.mk ((by rw [hg]; exact Nat.ne_of_gt (Zbt (g := gb220) (o := .cells #[u221000, .slice none 0 0, .int .i64 a0_2, .slice Ao14 t214.length co14, .slice Ao13 t217.length co13] 28 (0, 0)) (mvK BK220.out)) : gb222 ≠ gb220)); clear HO_221000; clear HO_221003; clear HO_221004; clear BK212; clear BK213; clear BK220; clear HB; have HO_221000 := n0_; have HO_221003 := n1_; have HO_221004 := n2_; have BK212 := n3_; have BK213 := n4_; have BK220 := n5_; have HB := n6_; have BK222 := n7_; have GE222 := n9_; have NB212_222 := n10_; have NB222_212 := n11_; have NB213_222 := n12_; have NB222_213 := n13_; have NB220_222 := n14_; have NB222_220 := n15_; clear n0_ n1_ n2_ n3_ n4_ n5_ n6_ n7_ n9_ n10_ n11_ n12_ n13_ n14_ n15_; clear hb hbox hg; have hnb29 := NB222_212.out; have hnc29 := NB212_222.out; have hnb30 := NB222_213.out; have hnc30 := NB213_222.out; have hnb31 := NB222_220.out; have hnc31 := NB220_222.out; obtain ⟨hcz32_0, hcz32_1, hfz32_0, hfz32_1⟩ := Zd8 BK222.out))
    have n0_ : Za (Kd.S k50 50 ((w28.setCell ⟨gb222, 0, none⟩ (.string ((Za4 l0_0 x27_1).f0))).setCell ⟨gb222, 1, none⟩ (.slice A221_1 ((Za4 l0_0 x27_1).f1).length c221_1)) w.heap.size (fun k_ => k_ ≠ gb222) u221000 x221000_1) := ⟨by (with_reducible repeat (first | apply Kd.Zbj | apply Kd.Zbk | apply Kd.Zbr)); exact Kd.Zcj (Kd.Zbv (p := ⟨gb222, 1, none⟩) (Kd.Zbv (p := ⟨gb222, 0, none⟩) (Kd.Zcj HO_221000.out (fun k_ hk => (⟨hk, hk.2⟩ : _ ∧ k_ ≠ gb222))) (fun _ hk => hk.2) (.string ((Za4 l0_0 x27_1).f0))) (fun _ hk => hk.2) (.slice A221_1 ((Za4 l0_0 x27_1).f1).length c221_1)) (fun _ hk => hk.1.2)⟩
    have n1_ : Za (Kd.R (Kd.int .i64) 3 ((w28.setCell ⟨gb222, 0, none⟩ (.string ((Za4 l0_0 x27_1).f0))).setCell ⟨gb222, 1, none⟩ (.slice A221_1 ((Za4 l0_0 x27_1).f1).length c221_1)) w.heap.size (fun k_ => some k_ ≠ (.slice Ao13 t217.length co13 : Value).ownBlock) (.slice Ao14 t214.length co14) t214) := ⟨by (with_reducible repeat (first | apply Kd.Zat | apply Kd.Zau | apply Kd.Zaz)); exact Kd.Za2 (Kd.Za1 (p := ⟨gb222, 1, none⟩) (Kd.Za1 (p := ⟨gb222, 0, none⟩) (Kd.Zbc HO_221003.out BK222.out (by decide)) (fun _ hk => hk.2) (.string ((Za4 l0_0 x27_1).f0))) (fun _ hk => hk.2) (.slice A221_1 ((Za4 l0_0 x27_1).f1).length c221_1)) (fun _ hk => hk.1)⟩
    have n2_ : Za (Kd.R (Kd.int .i64) 3 ((w28.setCell ⟨gb222, 0, none⟩ (.string ((Za4 l0_0 x27_1).f0))).setCell ⟨gb222, 1, none⟩ (.slice A221_1 ((Za4 l0_0 x27_1).f1).length c221_1)) w.heap.size (fun k_ => some k_ ≠ (.slice Ao14 t214.length co14 : Value).ownBlock) (.slice Ao13 t217.length co13) t217) := ⟨by (with_reducible repeat (first | apply Kd.Zat | apply Kd.Zau | apply Kd.Zaz)); exact Kd.Za2 (Kd.Za1 (p := ⟨gb222, 1, none⟩) (Kd.Za1 (p := ⟨gb222, 0, none⟩) (Kd.Zbc HO_221004.out BK222.out (by decide)) (fun _ hk => hk.2) (.string ((Za4 l0_0 x27_1).f0))) (fun _ hk => hk.2) (.slice A221_1 ((Za4 l0_0 x27_1).f1).length c221_1)) (fun _ hk => hk.1)⟩
    have n3_ : Za (((w28.setCell ⟨gb222, 0, none⟩ (.string ((Za4 l0_0 x27_1).f0))).setCell ⟨gb222, 1, none⟩ (.slice A221_1 ((Za4 l0_0 x27_1).f1).length c221_1)).heap[gb212]? = some (.cells #[.slice (some ad221) l0_0.length c0_0, .slice A0_1 l0_1.length c0_1, .int .i64 a0_2, .slice A0_3 l0_3.length c0_3, .slice A0_4 l0_4.length c0_4] 28 (0, 0))) := ⟨by (with_reducible repeat (first | refine Zag ?_ _ | refine Zai ?_ | refine Zae ?_ _)); refine Zav ?_ NB212_222.out _; (with_reducible repeat (first | refine Zag ?_ _ | refine Zai ?_ | refine Zae ?_ _)); refine Zav ?_ NB212_222.out _; (with_reducible repeat (first | refine Zag ?_ _ | refine Zai ?_ | refine Zae ?_ _)); exact BK212.out⟩
    have n4_ : Za (((w28.setCell ⟨gb222, 0, none⟩ (.string ((Za4 l0_0 x27_1).f0))).setCell ⟨gb222, 1, none⟩ (.slice A221_1 ((Za4 l0_0 x27_1).f1).length c221_1)).heap[gb213]? = some (.cells #[.slice none 0 0, .slice none 0 0, .int .i64 0, .slice none 0 0, .slice none 0 0] 28 (0, 0))) := ⟨by (with_reducible repeat (first | refine Zag ?_ _ | refine Zai ?_ | refine Zae ?_ _)); refine Zav ?_ NB213_222.out _; (with_reducible repeat (first | refine Zag ?_ _ | refine Zai ?_ | refine Zae ?_ _)); refine Zav ?_ NB213_222.out _; (with_reducible repeat (first | refine Zag ?_ _ | refine Zai ?_ | refine Zae ?_ _)); exact BK213.out⟩
    have n5_ : Za (((w28.setCell ⟨gb222, 0, none⟩ (.string ((Za4 l0_0 x27_1).f0))).setCell ⟨gb222, 1, none⟩ (.slice A221_1 ((Za4 l0_0 x27_1).f1).length c221_1)).heap[gb220]? = some (.cells #[u221000, .slice none 0 0, .int .i64 a0_2, .slice Ao14 t214.length co14, .slice Ao13 t217.length co13] 28 (0, 0))) := ⟨by (with_reducible repeat (first | refine Zag ?_ _ | refine Zai ?_ | refine Zae ?_ _)); refine Zav ?_ NB220_222.out _; (with_reducible repeat (first | refine Zag ?_ _ | refine Zai ?_ | refine Zae ?_ _)); refine Zav ?_ NB220_222.out _; (with_reducible repeat (first | refine Zag ?_ _ | refine Zai ?_ | refine Zae ?_ _)); exact BK220.out⟩
    have n6_ : Za (((w28.setCell ⟨gb222, 0, none⟩ (.string ((Za4 l0_0 x27_1).f0))).setCell ⟨gb222, 1, none⟩ (.slice A221_1 ((Za4 l0_0 x27_1).f1).length c221_1)).heap[gb222]? = some (.cells #[.string ((Za4 l0_0 x27_1).f0), .slice A221_1 ((Za4 l0_0 x27_1).f1).length c221_1] 50 (0, 0))) := ⟨by (with_reducible repeat (first | refine Zag ?_ _ | refine Zai ?_ | refine Zae ?_ _)); refine Zaq (cs := #[.string ((Za4 l0_0 x27_1).f0), .slice none 0 0]) ?_ 1 _ rfl; (with_reducible repeat (first | refine Zag ?_ _ | refine Zai ?_ | refine Zae ?_ _)); refine Zaq (cs := #[.string (⟨#[]⟩ : ByteArray), .slice none 0 0]) ?_ 0 _ rfl; (with_reducible repeat (first | refine Zag ?_ _ | refine Zai ?_ | refine Zae ?_ _)); exact BK222.out⟩
    have n7_ : Za (Below w.heap.size w ((w28.setCell ⟨gb222, 0, none⟩ (.string ((Za4 l0_0 x27_1).f0))).setCell ⟨gb222, 1, none⟩ (.slice A221_1 ((Za4 l0_0 x27_1).f1).length c221_1))) := ⟨by repeat (first | (with_reducible first | exact HB.out | apply Zab | apply Zaa | apply Zad | refine Zac ?_ GE212.out | refine Zac ?_ GE213.out | refine Zac ?_ GE220.out | refine Zac ?_ GE222.out) | exact HB.out)⟩
    (try clear HO_221000)
    (try clear HO_221003)
    (try clear HO_221004)
    (try clear BK212)
    (try clear BK213)
    (try clear BK220)
    (try clear BK222)
    (try clear HB)
    generalize ((w28.setCell ⟨gb222, 0, none⟩ (.string ((Za4 l0_0 x27_1).f0))).setCell ⟨gb222, 1, none⟩ (.slice A221_1 ((Za4 l0_0 x27_1).f1).length c221_1)) = w33 at n0_ n1_ n2_ n3_ n4_ n5_ n6_ n7_ ⊢
    have HO_221000 := n0_
    have HO_221003 := n1_
    have HO_221004 := n2_
    have BK212 := n3_
    have BK213 := n4_
    have BK220 := n5_
    have BK222 := n6_
    have HB := n7_
    clear n0_ n1_ n2_ n3_ n4_ n5_ n6_ n7_
    have n0_ := Za.mk (Kd.Zbr HO_221000.out)
    have n1_ := Za.mk (Kd.Zaz HO_221003.out)
    have n2_ := Za.mk (Kd.Zaz HO_221004.out)
    have n3_ := Za.mk (Zai BK212.out)
    have n4_ := Za.mk (Zai BK213.out)
    have n5_ := Za.mk (Zai BK220.out)
    have n6_ := Za.mk (Zai BK222.out)
    have n7_ := Za.mk (Zad HB.out)
    clear HO_221000
    clear HO_221003
    clear HO_221004
    clear BK212
    clear BK213
    clear BK220
    clear BK222
    clear HB
    have HO_221000 := n0_
    have HO_221003 := n1_
    have HO_221004 := n2_
    have BK212 := n3_
    have BK213 := n4_
    have BK220 := n5_
    have BK222 := n6_
    have HB := n7_
    clear n0_ n1_ n2_ n3_ n4_ n5_ n6_ n7_
    refine Zfw (n := 12) (S := fun w' => w'.cell? ⟨gb220, 0, none⟩ = some (u221000) ∧ w'.cell? ⟨gb220, 1, none⟩ = some (.slice none 0 0) ∧ w'.cell? ⟨gb220, 2, none⟩ = some (.int .i64 a0_2) ∧ w'.cell? ⟨gb220, 3, none⟩ = some (.slice Ao14 t214.length co14) ∧ w'.cell? ⟨gb220, 4, none⟩ = some (.slice Ao13 t217.length co13) ∧ w'.cell? ⟨gb222, 0, none⟩ = some (.string ((Za4 l0_0 x27_1).f0)) ∧ w'.cell? ⟨gb222, 1, none⟩ = some (.slice A221_1 ((Za4 l0_0 x27_1).f1).length c221_1)) (ds := [11]) #[false, false, false, false, false, false, false, false, false, false, false, false] (by kernel_rfl) rfl rfl ⟨(Zaj BK220.out 0).trans rfl, (Zaj BK220.out 1).trans rfl, (Zaj BK220.out 2).trans rfl, (Zaj BK220.out 3).trans rfl, (Zaj BK220.out 4).trans rfl, (Zaj BK222.out 0).trans rfl, (Zaj BK222.out 1).trans rfl⟩ (fun hHeld => ?_); refine Zds Za5.tab5 Za5.bits5 (fun HT_ HW_ => ?_)
    generalize w33.drew = w34 at HO_221000 HO_221003 HO_221004 BK212 BK213 BK220 BK222 HB hHeld ⊢
    refine Zbx (i := 0) (N := some 31) (v := ?_) (a' := ?_) #[true, false, false, false, false, false, false, false, false, false, false, false] rfl rfl (Zbi HT_.out (by kernel_rfl)) (fun _ _ _ h => h) (Or.inl ⟨by rfl, ?_⟩) ?_ ?_
    rotate_left
    ·intro w'
     go_simp
     with_reducible rfl
    rotate_left
    ·simp only [Act.put, List.setIfInBounds_toArray, List.set_cons_zero, List.set_cons_succ, Zbb, Zbd]
     rfl
    refine Zbx (i := 2) (N := some 33) (v := ?_) (a' := ?_) #[true, false, true, false, false, false, false, false, false, false, false, false] rfl rfl (Zbi HT_.out (by kernel_rfl)) (fun _ _ _ h => h) (Or.inl ⟨by rfl, ?_⟩) ?_ ?_
    rotate_left
    ·intro w'
     go_simp
     with_reducible rfl
    rotate_left
    ·simp only [Act.put, List.setIfInBounds_toArray, List.set_cons_zero, List.set_cons_succ, Zbb, Zbd]
     rfl
    refine Zbx (i := 4) (N := some 35) (v := ?_) (a' := ?_) #[true, false, true, false, true, false, false, false, false, false, false, false] rfl rfl (Zbi HT_.out (by kernel_rfl)) (fun _ _ _ h => h) (Or.inl ⟨by rfl, ?_⟩) ?_ ?_
    rotate_left
    ·intro w'
     go_simp
     with_reducible rfl
    rotate_left
    ·simp only [Act.put, List.setIfInBounds_toArray, List.set_cons_zero, List.set_cons_succ, Zbb, Zbd]
     rfl
    refine Zdj (i := 1) (N := some 32) (v := ?_) (a' := ?_) #[true, true, true, false, true, false, false, false, false, false, false, false] rfl rfl (Zb8 HT_.out HW_.out (by kernel_rfl)) (fun _ _ _ h => h) (Or.inl ⟨by rfl, ?_⟩) hHeld ?_ ?_
    rotate_left
    ·rintro w' ⟨s0, s1, s2, s3, s4, s5, s6⟩
     go_simp
     with_reducible rfl
    rotate_left
    ·simp only [Act.put, List.setIfInBounds_toArray, List.set_cons_zero, List.set_cons_succ, Zbb, Zbd]
     rfl
    refine Zdj (i := 3) (N := some 34) (v := ?_) (a' := ?_) #[true, true, true, true, true, false, false, false, false, false, false, false] rfl rfl (Zb8 HT_.out HW_.out (by kernel_rfl)) (fun _ _ _ h => h) (Or.inl ⟨by rfl, ?_⟩) hHeld ?_ ?_
    rotate_left
    ·rintro w' ⟨s0, s1, s2, s3, s4, s5, s6⟩
     go_simp
     with_reducible rfl
    rotate_left
    ·simp only [Act.put, List.setIfInBounds_toArray, List.set_cons_zero, List.set_cons_succ, Zbb, Zbd]
     rfl
    refine Zdj (i := 5) (N := some 36) (v := ?_) (a' := ?_) #[true, true, true, true, true, true, false, false, false, false, false, false] rfl rfl (Zb8 HT_.out HW_.out (by kernel_rfl)) (fun _ _ _ h => h) (Or.inl ⟨by rfl, ?_⟩) hHeld ?_ ?_
    rotate_left
    ·rintro w' ⟨s0, s1, s2, s3, s4, s5, s6⟩
     go_simp
     with_reducible rfl
    rotate_left
    ·simp only [Act.put, List.setIfInBounds_toArray, List.set_cons_zero, List.set_cons_succ, Zbb, Zbd]
     rfl
    refine one_ (i := 6) (N := some 37) #[true, true, true, true, true, true, true, false, false, false, false, false] rfl rfl (Zck HT_.out (by kernel_rfl)) (by decide) (fun K hK => ?_)
    refine Zd9 Try.func48 (by kernel_rfl) rfl #[.slice A221_1 ((Za4 l0_0 x27_1).f1).length c221_1] (by rfl) rfl rfl (by (try simp only [List.map_toArray, List.map_cons, List.map_nil]); first | done | rfl | (simp only [List.length_drop, List.length_take]; rfl)) ?_
    with_reducible refine (cloneR.calls _ _ ((Za4 l0_0 x27_1).f1) t223 _ ?side1 ?side2 A26.out).mono ?_
    (case side1 => repeat (first | exact (Kd.Zal HR221_1.out HB.out) | (with_reducible refine Kd.C_alloc ?_ _) | (with_reducible refine Kd.Zaw ?_ _) | (with_reducible refine Kd.C_drew ?_)))
    (case side2 => exact HC221_1.out)
    rintro e w35 ⟨v224, rfl, ho0, hb⟩
    refine ⟨_, rfl, ?_⟩
    have n0_ := Za.mk (Kd.Zeo (mvS HO_221000.out) (Kd.Zb4 ho0) hb)
    have n1_ := Za.mk (Kd.Zb6 (mvR HO_221003.out) hb)
    have n2_ := Za.mk (Kd.Zb6 (mvR HO_221004.out) hb)
    have n3_ := Za.mk (Kd.Zbp ho0 (Zan (by repeat (first | (with_reducible first | exact HB.out | apply Zab | apply Zaa | apply Zad | refine Zac ?_ GE212.out | refine Zac ?_ GE213.out | refine Zac ?_ GE220.out | refine Zac ?_ GE222.out) | exact HB.out))))
    have n4_ := Za.mk (Zap (g := gb212) (o := .cells #[.slice (some ad221) l0_0.length c0_0, .slice A0_1 l0_1.length c0_1, .int .i64 a0_2, .slice A0_3 l0_3.length c0_3, .slice A0_4 l0_4.length c0_4] 28 (0, 0)) (mvK BK212.out) hb)
    have n5_ := Za.mk (Zap (g := gb213) (o := .cells #[.slice none 0 0, .slice none 0 0, .int .i64 0, .slice none 0 0, .slice none 0 0] 28 (0, 0)) (mvK BK213.out) hb)
    have n6_ := Za.mk (Zap (g := gb220) (o := .cells #[u221000, .slice none 0 0, .int .i64 a0_2, .slice Ao14 t214.length co14, .slice Ao13 t217.length co13] 28 (0, 0)) (mvK BK220.out) hb)
    have n7_ := Za.mk (Zap (g := gb222) (o := .cells #[.string ((Za4 l0_0 x27_1).f0), .slice A221_1 ((Za4 l0_0 x27_1).f1).length c221_1] 50 (0, 0)) (mvK BK222.out) hb)
    have n8_ := Za.mk (Zaf (by repeat (first | (with_reducible first | exact HB.out | apply Zab | apply Zaa | apply Zad | refine Zac ?_ GE212.out | refine Zac ?_ GE213.out | refine Zac ?_ GE220.out | refine Zac ?_ GE222.out) | exact HB.out)) hb)
    clear HO_221000
    clear HO_221003
    clear HO_221004
    clear BK212
    clear BK213
    clear BK220
    clear BK222
    clear HB
    have HO_221000 := n0_
    have HO_221003 := n1_
    have HO_221004 := n2_
    have HO225 := n3_
    have BK212 := n4_
    have BK213 := n5_
    have BK220 := n6_
    have BK222 := n7_
    have HB := n8_
    clear n0_ n1_ n2_ n3_ n4_ n5_ n6_ n7_ n8_
    (try clear hb)
    (try clear hb2)
    (try clear hk)
    (try clear hi)
    (try clear ho0)
    obtain ⟨Ao36, co36, eo36⟩ := Kd.Za9 HO225.out
    (first | subst eo36 | (injection eo36 with f1_ f2_ f3_; have f4_ := f1_.symm; have f5_ := f3_.symm; clear f1_ f2_ f3_; subst f4_; subst f5_))
    refine hK.out _ _ ⟨(Zaj BK220.out 0).trans rfl, (Zaj BK220.out 1).trans rfl, (Zaj BK220.out 2).trans rfl, (Zaj BK220.out 3).trans rfl, (Zaj BK220.out 4).trans rfl, (Zaj BK222.out 0).trans rfl, (Zaj BK222.out 1).trans rfl⟩ (fun hHeld => ?_)
    clear hK K
    refine Zc4 (a' := ?_) ?_ ?_
    rotate_left
    ·show Act.put _ (some 37) _ = _
     simp only [Act.put, List.setIfInBounds_toArray, List.set_cons_zero, List.set_cons_succ, Zbb, Zbd]
     rfl
    refine Zbx (i := 7) (N := some 38) (v := ?_) (a' := ?_) #[true, true, true, true, true, true, true, true, false, false, false, false] rfl rfl (Zbi HT_.out (by kernel_rfl)) (fun _ _ _ h => h) (Or.inl ⟨by rfl, ?_⟩) ?_ ?_
    rotate_left
    ·intro w'
     go_simp
     with_reducible rfl
    rotate_left
    ·simp only [Act.put, List.setIfInBounds_toArray, List.set_cons_zero, List.set_cons_succ, Zbb, Zbd]
     rfl
    refine one_ (i := 8) (N := some 39) #[true, true, true, true, true, true, true, true, true, false, false, false] rfl rfl (Zck HT_.out (by kernel_rfl)) (by decide) (fun K hK => ?_)
    refine value_ (w1 := ?_) (v := ?_) (by rfl) rfl ?_ ?_
    rotate_left 2
    ·go_simp
     constructor
     ·rfl
     rfl
    refine hK.out _ _ ⟨(Zaj (Zae BK220.out _) 0).trans rfl, (Zaj (Zae BK220.out _) 1).trans rfl, (Zaj (Zae BK220.out _) 2).trans rfl, (Zaj (Zae BK220.out _) 3).trans rfl, (Zaj (Zae BK220.out _) 4).trans rfl, (Zaj (Zae BK222.out _) 0).trans rfl, (Zaj (Zae BK222.out _) 1).trans rfl⟩ (fun hHeld => ?_)
    clear hK K
    refine Zc4 (a' := ?_) ?_ ?_
    rotate_left
    ·show Act.put _ (some 39) _ = _
     simp only [Act.put, List.setIfInBounds_toArray, List.set_cons_zero, List.set_cons_succ, Zbb, Zbd]
     rfl
    refine one_ (i := 9) (N := some 40) #[true, true, true, true, true, true, true, true, true, true, false, false] rfl rfl (Zck HT_.out (by kernel_rfl)) (by decide) (fun K hK => ?_)
    refine Kd.Zen k50 (w0 := w) w.heap.size (by rfl) (.tmp 32) (.tmp 39) 22 50 (.agg #[(.string ⟨#[]⟩), (.slice none 0 0)]) 40 rfl Try.underlying22 info50 rfl (by decide) (by omega) u221000 x221000_1 (⟨(Za4 l0_0 x27_1).f0, t223⟩ : S50) [.string ((Za4 l0_0 x27_1).f0), .slice Ao36 t223.length co36] (fun k_ => k_ ≠ gb222) (fun k_ => some k_ = (.slice Ao36 t223.length co36 : Value).ownBlock) rfl rfl ?aP (fun k_ hk_ => ((Kd.Za2 (ok' := fun k_ => ((fun k_ => k_ ≠ gb222)) k_ ∧ some k_ ≠ (u221000 : Value).ownBlock) (Kd.Zbc (Kd.Zc2 (HO225.out) (Kd.Zd HO_221000.out) (by decide)) BK222.out (by decide)) (fun k_ hk => ⟨hk.2, hk.1.2⟩))).1 k_ hk_.symm) ?aF ?aO ?aB ?aS ?aL ?_
    (case aP => exact k50_mkM _ _ _ (⟨(Za4 l0_0 x27_1).f0, t223⟩ : S50) (Kd.Za2 (Kd.Zdd rfl (Kd.Za2 (ok' := fun k_ => ((fun k_ => k_ ≠ gb222)) k_ ∧ some k_ ≠ (u221000 : Value).ownBlock) (Kd.Zbc (Kd.Zc2 (HO225.out) (Kd.Zd HO_221000.out) (by decide)) BK222.out (by decide)) (fun k_ hk => ⟨hk.2, hk.1.2⟩))) (fun _ h_ => h_)))
    (case aB => exact (by repeat (first | (with_reducible first | exact HB.out | apply Zab | apply Zaa | apply Zad | refine Zac ?_ GE212.out | refine Zac ?_ GE213.out | refine Zac ?_ GE220.out | refine Zac ?_ GE222.out) | exact HB.out)))
    (case aF => exact (fun k_ hk => Kd.freshB (g := gb222) (o := .cells #[.string ((Za4 l0_0 x27_1).f0), .slice A221_1 ((Za4 l0_0 x27_1).f1).length c221_1] 50 (0, 0)) (mvK BK222.out) k_ hk))
    (case aO => exact (mvS (Kd.Zcj HO_221000.out (fun k_ hk => ⟨hk.1, fun e_ => hk.2 e_⟩))))
    (case aS => exact (Zan (by repeat (first | (with_reducible first | exact HB.out | apply Zab | apply Zaa | apply Zad | refine Zac ?_ GE212.out | refine Zac ?_ GE213.out | refine Zac ?_ GE220.out | refine Zac ?_ GE222.out) | exact HB.out))))
    (case aL => have := LMc27.out; omega)
    intro v227 w37 ho hb hg hat
    rw [← Ny226.out] at ho
    have n0_ := Za.mk (Kd.Zd1 (mvR HO_221003.out) (Kd.Zd (mvS HO_221000.out)) (by decide) hg)
    have n1_ := Za.mk (Kd.Zd1 (mvR HO_221004.out) (Kd.Zd (mvS HO_221000.out)) (by decide) hg)
    have n2_ := Za.mk (Zbl (g := gb212) (o := .cells #[.slice (some ad221) l0_0.length c0_0, .slice A0_1 l0_1.length c0_1, .int .i64 a0_2, .slice A0_3 l0_3.length c0_3, .slice A0_4 l0_4.length c0_4] 28 (0, 0)) (mvK BK212.out) hg (Kd.S_ne HO_221000.out BK212.out (by decide)))
    have n3_ := Za.mk (Zbl (g := gb213) (o := .cells #[.slice none 0 0, .slice none 0 0, .int .i64 0, .slice none 0 0, .slice none 0 0] 28 (0, 0)) (mvK BK213.out) hg (Kd.S_ne HO_221000.out BK213.out (by decide)))
    have n4_ := Za.mk (Zbl (g := gb220) (o := .cells #[u221000, .slice none 0 0, .int .i64 a0_2, .slice Ao14 t214.length co14, .slice Ao13 t217.length co13] 28 (0, 0)) (mvK BK220.out) hg (Kd.S_ne HO_221000.out BK220.out (by decide)))
    have n5_ := Za.mk (Zbl (g := gb222) (o := .cells #[.string ((Za4 l0_0 x27_1).f0), .slice A221_1 ((Za4 l0_0 x27_1).f1).length c221_1] 50 (0, 0)) (mvK BK222.out) hg (Kd.S_away HO_221000.out (fun _ hk => hk.1)))
    have n6_ := Za.mk (hb)
    have n7_ := Za.mk (ho)
    clear HO_221003
    clear HO_221004
    clear BK212
    clear BK213
    clear BK220
    clear BK222
    clear HB
    clear HO_221000
    clear HO225
    have HO_221003 := n0_
    have HO_221004 := n1_
    have BK212 := n2_
    have BK213 := n3_
    have BK220 := n4_
    have BK222 := n5_
    have HB := n6_
    have HO228 := n7_
    clear n0_ n1_ n2_ n3_ n4_ n5_ n6_ n7_
    clear ho hb hg hat
    obtain ⟨Ao38, co38, eo38⟩ := Kd.Zdr HO228.out
    (first | subst eo38 | (injection eo38 with f1_ f2_ f3_; have f4_ := f1_.symm; have f5_ := f3_.symm; clear f1_ f2_ f3_; subst f4_; subst f5_))
    refine hK.out _ _ ⟨(Zaj BK220.out 0).trans rfl, (Zaj BK220.out 1).trans rfl, (Zaj BK220.out 2).trans rfl, (Zaj BK220.out 3).trans rfl, (Zaj BK220.out 4).trans rfl, (Zaj BK222.out 0).trans rfl, (Zaj BK222.out 1).trans rfl⟩ (fun hHeld => ?_)
    clear hK K
    refine Zc4 (a' := ?_) ?_ ?_
    rotate_left
    ·show Act.put _ (some 40) _ = _
     simp only [Act.put, List.setIfInBounds_toArray, List.set_cons_zero, List.set_cons_succ, Zbb, Zbd]
     rfl
    refine Zbx (i := 10) (N := some 41) (v := ?_) (a' := ?_) #[true, true, true, true, true, true, true, true, true, true, true, false] rfl rfl (Zbi HT_.out (by kernel_rfl)) (fun _ _ _ h => h) (Or.inl ⟨by rfl, ?_⟩) ?_ ?_
    rotate_left
    ·intro w'
     go_simp
     with_reducible rfl
    rotate_left
    ·simp only [Act.put, List.setIfInBounds_toArray, List.set_cons_zero, List.set_cons_succ, Zbb, Zbd]
     rfl
    refine last_ (i := 11) (N := none) #[true, true, true, true, true, true, true, true, true, true, true, true] rfl rfl (Zck HT_.out (by kernel_rfl)) (by decide) (fun K hK => ?_)
    have hs39 : w37.cell? ⟨gb220, 0, none⟩ = some (u221000) := (Zaj BK220.out 0).trans rfl
    have hfs39 := Zao BK220.out 0
    have hns39_0 := NB212_220.out
    have hns39_1 := NB213_220.out
    have hns39_3 := NB222_220.out
    have hms39_0 := NB220_212.out
    have hms39_1 := NB220_213.out
    have hms39_3 := NB220_222.out
    refine skip_ (w1 := ?_) (by rfl) rfl ?_ ?_
    rotate_left
    ·go_simp
     rfl
    refine hK.out _ _ ?_
    clear hK K
    refine done_ (Zek HT_.out (by kernel_rfl)) ?_
    try go_wp2
    go_roundg k1
    case measure => have := HK1.out; omega
    case rel => exact ⟨(wrap64 (x27_1 + 1)), (y226), (.slice Ao38 y226.length co38), (by first | rfl | (simp; done) | (simp [*]; done)), H', ⟨by have := HK1.out; omega⟩, ⟨by (with_reducible repeat (first | apply Kd.Zbj | apply Kd.Zbk | apply Kd.Zbr)); exact Kd.Zcj (Kd.Zbv (p := ⟨gb220, 0, none⟩) (Kd.Zcm HO228.out BK220.out (by decide)) (fun _ hk => hk.2) (.slice Ao38 y226.length co38)) (fun _ hk => trivial)⟩, ⟨by (with_reducible repeat (first | apply Kd.Zat | apply Kd.Zau | apply Kd.Zaz)); exact Kd.Za2 (Kd.Za1 (p := ⟨gb220, 0, none⟩) (Kd.Zbc HO_221003.out BK220.out (by decide)) (fun _ hk => hk.2) (.slice Ao38 y226.length co38)) (fun _ hk => hk.1)⟩, ⟨by (with_reducible repeat (first | apply Kd.Zat | apply Kd.Zau | apply Kd.Zaz)); exact Kd.Za2 (Kd.Za1 (p := ⟨gb220, 0, none⟩) (Kd.Zbc HO_221004.out BK220.out (by decide)) (fun _ hk => hk.2) (.slice Ao38 y226.length co38)) (fun _ hk => hk.1)⟩, ⟨by (with_reducible repeat (first | refine Zag ?_ _ | refine Zai ?_ | refine Zae ?_ _)); refine Zav ?_ NB212_220.out _; (with_reducible repeat (first | refine Zag ?_ _ | refine Zai ?_ | refine Zae ?_ _)); exact BK212.out⟩, ⟨by (with_reducible repeat (first | refine Zag ?_ _ | refine Zai ?_ | refine Zae ?_ _)); refine Zav ?_ NB213_220.out _; (with_reducible repeat (first | refine Zag ?_ _ | refine Zai ?_ | refine Zae ?_ _)); exact BK213.out⟩, ⟨by (with_reducible repeat (first | refine Zag ?_ _ | refine Zai ?_ | refine Zae ?_ _)); refine Zaq (cs := #[u221000, .slice none 0 0, .int .i64 a0_2, .slice Ao14 t214.length co14, .slice Ao13 t217.length co13]) ?_ 0 _ rfl; (with_reducible repeat (first | refine Zag ?_ _ | refine Zai ?_ | refine Zae ?_ _)); exact BK220.out⟩, ⟨by repeat (first | (with_reducible first | exact HB.out | apply Zab | apply Zaa | apply Zad | refine Zac ?_ GE212.out | refine Zac ?_ GE213.out | refine Zac ?_ GE220.out | refine Zac ?_ GE222.out) | exact HB.out)⟩⟩
   rw [if_neg c23] at H
   have c23b0 : decide (x27_1 < (l0_0.length : Int)) = false := decide_eq_false c23
   clear c23
   have H' := Za.mk H
   clear H
   have hnb40 := NB212_213.out
   have hnc40 := NB213_212.out
   have hnb41 := NB212_220.out
   have hnc41 := NB220_212.out
   obtain ⟨hcz42_0, hcz42_1, hcz42_2, hcz42_3, hcz42_4, hfz42_0, hfz42_1, hfz42_2, hfz42_3, hfz42_4⟩ := Zde BK212.out
   go_wp2
   go_loopg [46] k1 (fun kq v46 w' => ∃ (x46_2 : Int) (x221001_2 : List (S31)) (u221001 : Value), v46 = .int .i64 x46_2 ∧ Za (Za5.l1 kq l0_1 (l0_1.length : Int) x46_2 x221000_1 x221001_2 a0_2 t214 t217 = some (r1, r2, r3, r4, r5)) ∧ Za (kq ≤ k1) ∧ Za (Kd.S k50 50 w' w.heap.size (fun _ => True) u221000 x221000_1) ∧ Za (Kd.R k31 31 w' w.heap.size (fun k_ => some k_ ≠ ((.slice Ao14 t214.length co14) : Value).ownBlock ∧ some k_ ≠ ((.slice Ao13 t217.length co13) : Value).ownBlock) u221001 x221001_2) ∧ Za (Kd.R (Kd.int .i64) 3 w' w.heap.size (fun k_ => some k_ ≠ ((.slice Ao13 t217.length co13) : Value).ownBlock) (.slice Ao14 t214.length co14) t214) ∧ Za (Kd.R (Kd.int .i64) 3 w' w.heap.size (fun k_ => some k_ ≠ ((.slice Ao14 t214.length co14) : Value).ownBlock) (.slice Ao13 t217.length co13) t217) ∧ Za (w'.heap[gb212]? = some (.cells #[(.slice A0_0 l0_0.length c0_0), (.slice A0_1 l0_1.length c0_1), .int .i64 a0_2, (.slice A0_3 l0_3.length c0_3), (.slice A0_4 l0_4.length c0_4)] 28 (0, 0))) ∧ Za (w'.heap[gb213]? = some (.cells #[(.slice none 0 0), (.slice none 0 0), .int .i64 0, (.slice none 0 0), (.slice none 0 0)] 28 (0, 0))) ∧ Za (w'.heap[gb220]? = some (.cells #[u221000, u221001, .int .i64 a0_2, (.slice Ao14 t214.length co14), (.slice Ao13 t217.length co13)] 28 (0, 0))) ∧ Za (Below w.heap.size w w'))
   case atStart => exact ⟨(0), (([] : List (S31))), (.slice none 0 0), (by first | rfl | (simp; done) | (simp [*]; done)), H', ⟨Nat.le_refl _⟩, ⟨by (with_reducible repeat (first | apply Kd.Zbj | apply Kd.Zbk | apply Kd.Zbr)); exact HO_221000.out⟩, ⟨by first | exact Kd.Zfa _ _ _ _ _ | exact Kd.N_nil _ _ _ _ _ | exact Kd.Ze _ _ _ _ _ | exact Kd.Q_nil _ _ _ _ _ | exact Kd.S_nil _ _ _ _ _⟩, ⟨by (with_reducible repeat (first | apply Kd.Zat | apply Kd.Zau | apply Kd.Zaz)); exact HO_221003.out⟩, ⟨by (with_reducible repeat (first | apply Kd.Zat | apply Kd.Zau | apply Kd.Zaz)); exact HO_221004.out⟩, ⟨by (with_reducible repeat (first | refine Zag ?_ _ | refine Zai ?_ | refine Zae ?_ _)); exact BK212.out⟩, ⟨by (with_reducible repeat (first | refine Zag ?_ _ | refine Zai ?_ | refine Zae ?_ _)); exact BK213.out⟩, ⟨by (with_reducible repeat (first | refine Zag ?_ _ | refine Zai ?_ | refine Zae ?_ _)); exact BK220.out⟩, ⟨by repeat (first | (with_reducible first | exact HB.out | apply Zab | apply Zaa | apply Zad | refine Zac ?_ GE212.out | refine Zac ?_ GE213.out | refine Zac ?_ GE220.out) | exact HB.out)⟩⟩
   case round =>
    clear H'
    try clear c2
    try clear p2
    try clear q2
    try clear hx2
    try clear c3
    try clear c4
    try clear p6
    try clear c20
    try clear c21
    try clear c22
    try clear p22
    try clear q22
    try clear hx22
    try clear c23
    try clear c23b0
    try clear c24
    try clear c24b0
    try clear c25
    try clear c25b0
    try clear c27
    try clear c29
    try clear c30
    try clear c31
    try clear c40
    try clear c41
    try clear hcz22_0
    try clear hcz22_1
    try clear hcz22_2
    try clear hcz22_3
    try clear hcz22_4
    try clear hcz32_0
    try clear hcz32_1
    try clear hcz42_0
    try clear hcz42_1
    try clear hcz42_2
    try clear hcz42_3
    try clear hcz42_4
    try clear hfz22_0
    try clear hfz22_1
    try clear hfz22_2
    try clear hfz22_3
    try clear hfz22_4
    try clear hfz32_0
    try clear hfz32_1
    try clear hfz42_0
    try clear hfz42_1
    try clear hfz42_2
    try clear hfz42_3
    try clear hfz42_4
    try clear hx221_0
    try clear hx221_1
    try clear p2
    try clear p221
    try clear q221
    obtain ⟨x46_2, x221001_2, u221001, rfl, HA, HK2, HO_221000, HO_221001, HO_221003, HO_221004, BK212, BK213, BK220, HB⟩ := hrel
    cases gk with
    | zero => exact absurd HA.out (by simp [Za5.l1])
    | succ k2 =>
     have H := HA.out
     clear HA
     simp only [Za5.l1] at H
     by_cases c43 : x46_2 < (l0_1.length : Int)
     rotate_left
     ·rw [if_neg c43] at H
      have c43b0 : decide (x46_2 < (l0_1.length : Int)) = false := decide_eq_false c43
      clear c43
      simp only [Option.some.injEq, Prod.mk.injEq] at H
      obtain ⟨rfl, rfl, rfl, rfl, rfl⟩ := H
      have hnb84 := NB220_212.out
      have hnc84 := NB212_220.out
      have hnb85 := NB220_213.out
      have hnc85 := NB213_220.out
      obtain ⟨hcz86_0, hcz86_1, hcz86_2, hcz86_3, hcz86_4, hfz86_0, hfz86_1, hfz86_2, hfz86_3, hfz86_4⟩ := Zde BK220.out
      obtain ⟨Ao87, co87, eo87⟩ := Kd.Zdr HO_221000.out
      subst eo87
      have hnb88 := NB213_212.out
      have hnc88 := NB212_213.out
      obtain ⟨hcz89_0, hcz89_1, hcz89_2, hcz89_3, hcz89_4, hfz89_0, hfz89_1, hfz89_2, hfz89_3, hfz89_4⟩ := Zde BK213.out
      obtain ⟨Ao90, co90, eo90⟩ := Kd.Za9 HO_221001.out
      subst eo90
      go_wp2
      refine bodyPost_ret (results_cell_row rfl _ _ gb213 28 #[.slice Ao87 x221000_1.length co87, .slice Ao90 x221001_2.length co90, .int .i64 a0_2, .slice Ao14 t214.length co14, .slice Ao13 t217.length co13] (0, 0) _ rfl (by (with_reducible repeat (first | refine Zag ?_ _ | refine Zai ?_ | refine Zae ?_ _)); refine Zaq (cs := #[.slice Ao87 x221000_1.length co87, .slice Ao90 x221001_2.length co90, .int .i64 a0_2, .slice Ao14 t214.length co14, .slice none 0 0]) ?_ 4 _ rfl; (with_reducible repeat (first | refine Zag ?_ _ | refine Zai ?_ | refine Zae ?_ _)); refine Zaq (cs := #[.slice Ao87 x221000_1.length co87, .slice Ao90 x221001_2.length co90, .int .i64 a0_2, .slice none 0 0, .slice none 0 0]) ?_ 3 _ rfl; (with_reducible repeat (first | refine Zag ?_ _ | refine Zai ?_ | refine Zae ?_ _)); refine Zaq (cs := #[.slice Ao87 x221000_1.length co87, .slice Ao90 x221001_2.length co90, .int .i64 0, .slice none 0 0, .slice none 0 0]) ?_ 2 _ rfl; (with_reducible repeat (first | refine Zag ?_ _ | refine Zai ?_ | refine Zae ?_ _)); refine Zaq (cs := #[.slice Ao87 x221000_1.length co87, .slice none 0 0, .int .i64 0, .slice none 0 0, .slice none 0 0]) ?_ 1 _ rfl; (with_reducible repeat (first | refine Zag ?_ _ | refine Zai ?_ | refine Zae ?_ _)); refine Zaq (cs := #[.slice none 0 0, .slice none 0 0, .int .i64 0, .slice none 0 0, .slice none 0 0]) ?_ 0 _ rfl; (with_reducible repeat (first | refine Zag ?_ _ | refine Zai ?_ | refine Zae ?_ _)); exact BK213.out) Try.underlying28 rfl (by kernel_rfl)) rfl ?_
      exact ⟨_, _, _, _, by first | rfl | (simp [Zar, Zas] <;> rfl) | (simp [*, Zar, Zas] <;> rfl), by (with_reducible repeat (first | apply Kd.Zbj | apply Kd.Zbk | apply Kd.Zbr)); exact Kd.Zcj (Kd.Zbv (p := ⟨gb213, 4, none⟩) (Kd.Zbv (p := ⟨gb213, 3, none⟩) (Kd.Zbv (p := ⟨gb213, 2, none⟩) (Kd.Zbv (p := ⟨gb213, 1, none⟩) (Kd.Zbv (p := ⟨gb213, 0, none⟩) (Kd.Zcm HO_221000.out BK213.out (by decide)) (fun _ hk => hk.2) (.slice Ao87 x221000_1.length co87)) (fun _ hk => hk.2) (.slice Ao90 x221001_2.length co90)) (fun _ hk => hk.2) (.int .i64 a0_2)) (fun _ hk => hk.2) (.slice Ao14 t214.length co14)) (fun _ hk => hk.2) (.slice Ao13 t217.length co13)) (fun _ hk => trivial), by (with_reducible repeat (first | apply Kd.Zat | apply Kd.Zau | apply Kd.Zaz)); exact Kd.Za2 (Kd.Za1 (p := ⟨gb213, 4, none⟩) (Kd.Za1 (p := ⟨gb213, 3, none⟩) (Kd.Za1 (p := ⟨gb213, 2, none⟩) (Kd.Za1 (p := ⟨gb213, 1, none⟩) (Kd.Za1 (p := ⟨gb213, 0, none⟩) (Kd.Zbc HO_221001.out BK213.out (by decide)) (fun _ hk => hk.2) (.slice Ao87 x221000_1.length co87)) (fun _ hk => hk.2) (.slice Ao90 x221001_2.length co90)) (fun _ hk => hk.2) (.int .i64 a0_2)) (fun _ hk => hk.2) (.slice Ao14 t214.length co14)) (fun _ hk => hk.2) (.slice Ao13 t217.length co13)) (fun _ hk => ⟨hk.1.1, hk.1.2⟩), by (with_reducible repeat (first | apply Kd.Zat | apply Kd.Zau | apply Kd.Zaz)); exact Kd.Za2 (Kd.Za1 (p := ⟨gb213, 4, none⟩) (Kd.Za1 (p := ⟨gb213, 3, none⟩) (Kd.Za1 (p := ⟨gb213, 2, none⟩) (Kd.Za1 (p := ⟨gb213, 1, none⟩) (Kd.Za1 (p := ⟨gb213, 0, none⟩) (Kd.Zbc HO_221003.out BK213.out (by decide)) (fun _ hk => hk.2) (.slice Ao87 x221000_1.length co87)) (fun _ hk => hk.2) (.slice Ao90 x221001_2.length co90)) (fun _ hk => hk.2) (.int .i64 a0_2)) (fun _ hk => hk.2) (.slice Ao14 t214.length co14)) (fun _ hk => hk.2) (.slice Ao13 t217.length co13)) (fun _ hk => hk.1), by (with_reducible repeat (first | apply Kd.Zat | apply Kd.Zau | apply Kd.Zaz)); exact Kd.Za2 (Kd.Za1 (p := ⟨gb213, 4, none⟩) (Kd.Za1 (p := ⟨gb213, 3, none⟩) (Kd.Za1 (p := ⟨gb213, 2, none⟩) (Kd.Za1 (p := ⟨gb213, 1, none⟩) (Kd.Za1 (p := ⟨gb213, 0, none⟩) (Kd.Zbc HO_221004.out BK213.out (by decide)) (fun _ hk => hk.2) (.slice Ao87 x221000_1.length co87)) (fun _ hk => hk.2) (.slice Ao90 x221001_2.length co90)) (fun _ hk => hk.2) (.int .i64 a0_2)) (fun _ hk => hk.2) (.slice Ao14 t214.length co14)) (fun _ hk => hk.2) (.slice Ao13 t217.length co13)) (fun _ hk => hk.1), by repeat (first | (with_reducible first | exact HB.out | apply Zab | apply Zaa | apply Zad | refine Zac ?_ GE212.out | refine Zac ?_ GE213.out | refine Zac ?_ GE220.out) | exact HB.out)⟩
     rw [if_pos c43] at H
     have c43b0 : decide (x46_2 < (l0_1.length : Int)) = true := decide_eq_true c43
     clear c43
     by_cases c44 : 0 ≤ x46_2
     rotate_left
     ·rw [if_neg c44] at H
      exact absurd H (by simp)
     rw [if_pos c44] at H
     have c44b0 : decide (0 ≤ x46_2) = true := decide_eq_true c44
     clear c44
     by_cases c45 : x46_2 < (l0_1.length : Int)
     rotate_left
     ·rw [if_neg c45] at H
      exact absurd H (by simp)
     rw [if_pos c45] at H
     have c45b0 : decide (x46_2 < (l0_1.length : Int)) = true := decide_eq_true c45
     clear c45
     replace H := Option.bind_eq_some_iff.mp H
     obtain ⟨t231, A460, H⟩ := H
     replace H : ((cloneI.f ((Zah l0_1 x46_2).f2)).bind fun t234 => (Za5.l2 k2 ([] : List (List Int)) l0_1 (l0_1.length : Int) x46_2 ((Zah l0_1 x46_2).f5) (((Zah l0_1 x46_2).f5).length : Int) 0 x221000_1 x221001_2 a0_2 t214 t217 ((Zah l0_1 x46_2).f0) t231 t234 ((Zah l0_1 x46_2).f3) ((Zah l0_1 x46_2).f4) ((Zah l0_1 x46_2).f5) ((Zah l0_1 x46_2).f6))) = some (r1, r2, r3, r4, r5) := H
     have A46 := Za.mk A460
     clear A460
     replace H := Option.bind_eq_some_iff.mp H
     obtain ⟨t234, A470, H⟩ := H
     replace H : (Za5.l2 k2 ([] : List (List Int)) l0_1 (l0_1.length : Int) x46_2 ((Zah l0_1 x46_2).f5) (((Zah l0_1 x46_2).f5).length : Int) 0 x221000_1 x221001_2 a0_2 t214 t217 ((Zah l0_1 x46_2).f0) t231 t234 ((Zah l0_1 x46_2).f3) ((Zah l0_1 x46_2).f4) ((Zah l0_1 x46_2).f5) ((Zah l0_1 x46_2).f6)) = some (r1, r2, r3, r4, r5) := H
     have A47 := Za.mk A470
     clear A470
     have H' := Za.mk H
     clear H
     have p229 : 0 ≤ (x46_2 : Int) := of_decide_eq_true (by first | (with_reducible assumption) | assumption)
     have q229 : x46_2 < (l0_1.length : Int) := of_decide_eq_true (by first | (with_reducible assumption) | assumption)
     obtain ⟨ad229, A229_1, c229_1, A229_2, c229_2, A229_5, c229_5, e229, hx229_0, hx229_1, hx229_2, hx229_3, hx229_4, hx229_5, hx229_6, hl229_1, hi229_1, hl229_2, hi229_2, hl229_5, hi229_5⟩ := Zeg HR0_1.out x46_2 p229 q229
     cases e229
     replace hx229_0 := (HB.out.cell (World.block_lt_of_cell? w _ hx229_0)).trans hx229_0
     replace hx229_1 := (HB.out.cell (World.block_lt_of_cell? w _ hx229_1)).trans hx229_1
     replace hx229_2 := (HB.out.cell (World.block_lt_of_cell? w _ hx229_2)).trans hx229_2
     replace hx229_3 := (HB.out.cell (World.block_lt_of_cell? w _ hx229_3)).trans hx229_3
     replace hx229_4 := (HB.out.cell (World.block_lt_of_cell? w _ hx229_4)).trans hx229_4
     replace hx229_5 := (HB.out.cell (World.block_lt_of_cell? w _ hx229_5)).trans hx229_5
     replace hx229_6 := (HB.out.cell (World.block_lt_of_cell? w _ hx229_6)).trans hx229_6
     have HR229_1 := Za.mk hi229_1
     have HC229_1 := Za.mk hl229_1
     clear hi229_1 hl229_1
     have HR229_2 := Za.mk hi229_2
     have HC229_2 := Za.mk hl229_2
     clear hi229_2 hl229_2
     have HR229_5 := Za.mk hi229_5
     have HC229_5 := Za.mk hl229_5
     clear hi229_5 hl229_5
     replace p229 := eq_true p229
     replace q229 := eq_true q229
     try go_wp2_with (first | ((with_reducible refine Zax (N := 7) rfl ?_); refine Za7 ?hg (N := 7) ?hd (cs := #[.int .i64 0, .slice none 0 0, .slice none 0 0, .int .i64 0, .int .i64 0, .slice none 0 0, .int .i64 0]) (t := 31) ?hr ?_; (case hd => rfl); (case hg => rfl); (case hr => first | (go_simp; done) | (go_simp; rfl)); intro gb230 hg w48 hbox hb; have n0_ := Za.mk (Kd.Zcw (mvS HO_221000.out) hb); have n1_ := Za.mk (Kd.Zb6 (Kd.Zfb (mvR HO_221001.out) gb230 (Nat.le_of_eq hg.symm)) hb); have n2_ := Za.mk (Kd.Zb6 (mvR HO_221003.out) hb); have n3_ := Za.mk (Kd.Zb6 (mvR HO_221004.out) hb); have n4_ := Za.mk (Zap (g := gb212) (o := .cells #[.slice A0_0 l0_0.length c0_0, .slice (some ad229) l0_1.length c0_1, .int .i64 a0_2, .slice A0_3 l0_3.length c0_3, .slice A0_4 l0_4.length c0_4] 28 (0, 0)) (mvK BK212.out) hb); have n5_ := Za.mk (Zap (g := gb213) (o := .cells #[.slice none 0 0, .slice none 0 0, .int .i64 0, .slice none 0 0, .slice none 0 0] 28 (0, 0)) (mvK BK213.out) hb); have n6_ := Za.mk (Zap (g := gb220) (o := .cells #[u221000, u221001, .int .i64 a0_2, .slice Ao14 t214.length co14, .slice Ao13 t217.length co13] 28 (0, 0)) (mvK BK220.out) hb); have n7_ := Za.mk (Zaf (by repeat (first | (with_reducible first | exact HB.out | apply Zab | apply Zaa | apply Zad | refine Zac ?_ GE212.out | refine Zac ?_ GE213.out | refine Zac ?_ GE220.out) | exact HB.out)) hb); have n8_ := Za.mk (hbox); have n10_ := Za.mk ((by rw [hg]; exact (Zan (by repeat (first | (with_reducible first | exact HB.out | apply Zab | apply Zaa | apply Zad | refine Zac ?_ GE212.out | refine Zac ?_ GE213.out | refine Zac ?_ GE220.out) | exact HB.out))) : w.heap.size ≤ gb230)); have n11_ := Za.mk ((by rw [hg]; exact Nat.ne_of_lt (Zbt (g := gb212) (o := .cells #[.slice A0_0 l0_0.length c0_0, .slice (some ad229) l0_1.length c0_1, .int .i64 a0_2, .slice A0_3 l0_3.length c0_3, .slice A0_4 l0_4.length c0_4] 28 (0, 0)) (mvK BK212.out)) : gb212 ≠ gb230)); have n12_ := Za.mk ((by rw [hg]; exact Nat.ne_of_gt (Zbt (g := gb212) (o := .cells #[.slice A0_0 l0_0.length c0_0, .slice (some ad229) l0_1.length c0_1, .int .i64 a0_2, .slice A0_3 l0_3.length c0_3, .slice A0_4 l0_4.length c0_4] 28 (0, 0)) (mvK BK212.out)) : gb230 ≠ gb212)); have n13_ := Za.mk ((by rw [hg]; exact Nat.ne_of_lt (Zbt (g := gb213) (o := .cells #[.slice none 0 0, .slice none 0 0, .int .i64 0, .slice none 0 0, .slice none 0 0] 28 (0, 0)) (mvK BK213.out)) : gb213 ≠ gb230)); have n14_ := Za.mk ((by rw [hg]; exact Nat.ne_of_gt (Zbt (g := gb213) (o := .cells #[.slice none 0 0, .slice none 0 0, .int .i64 0, .slice none 0 0, .slice none 0 0] 28 (0, 0)) (mvK BK213.out)) : gb230 ≠ gb213)); have n15_ := Za.mk ((by rw [hg]; exact Nat.ne_of_lt (Zbt (g := gb220) (o := .cells #[u221000, u221001, .int .i64 a0_2, .slice Ao14 t214.length co14, .slice Ao13 t217.length co13] 28 (0, 0)) (mvK BK220.out)) : gb220 ≠ gb230)); have n16_ := Za.mk ((by rw [hg]; exact Nat.ne_of_gt (Zbt (g := gb220) (o := .cells #[u221000, u221001, .int .i64 a0_2, .slice Ao14 t214.length co14, .slice Ao13 t217.length co13] 28 (0, 0)) (mvK BK220.out)) : gb230 ≠ gb220)); clear HO_221000; clear HO_221001; clear HO_221003; clear HO_221004; clear BK212; clear BK213; clear BK220; clear HB; have HO_221000 := n0_; have HO_221001 := n1_; have HO_221003 := n2_; have HO_221004 := n3_; have BK212 := n4_; have BK213 := n5_; have BK220 := n6_; have HB := n7_; have BK230 := n8_; have GE230 := n10_; have NB212_230 := n11_; have NB230_212 := n12_; have NB213_230 := n13_; have NB230_213 := n14_; have NB220_230 := n15_; have NB230_220 := n16_; clear n0_ n1_ n2_ n3_ n4_ n5_ n6_ n7_ n8_ n10_ n11_ n12_ n13_ n14_ n15_ n16_; clear hb hbox hg; have hnb49 := NB230_212.out; have hnc49 := NB212_230.out; have hnb50 := NB230_213.out; have hnc50 := NB213_230.out; have hnb51 := NB230_220.out; have hnc51 := NB220_230.out; obtain ⟨hcz52_0, hcz52_1, hcz52_2, hcz52_3, hcz52_4, hcz52_5, hcz52_6, hfz52_0, hfz52_1, hfz52_2, hfz52_3, hfz52_4, hfz52_5, hfz52_6⟩ := Zdl BK230.out))
     have n0_ : Za (Kd.S k50 50 (((((((w48.setCell ⟨gb230, 0, none⟩ (.int .i64 ((Zah l0_1 x46_2).f0))).setCell ⟨gb230, 1, none⟩ (.slice A229_1 ((Zah l0_1 x46_2).f1).length c229_1)).setCell ⟨gb230, 2, none⟩ (.slice A229_2 ((Zah l0_1 x46_2).f2).length c229_2)).setCell ⟨gb230, 3, none⟩ (.int .i64 ((Zah l0_1 x46_2).f3))).setCell ⟨gb230, 4, none⟩ (.int .i64 ((Zah l0_1 x46_2).f4))).setCell ⟨gb230, 5, none⟩ (.slice A229_5 ((Zah l0_1 x46_2).f5).length c229_5)).setCell ⟨gb230, 6, none⟩ (.int .i64 ((Zah l0_1 x46_2).f6))) w.heap.size (fun _ => True) u221000 x221000_1) := ⟨by (with_reducible repeat (first | apply Kd.Zbj | apply Kd.Zbk | apply Kd.Zbr)); exact Kd.Zcj (Kd.Zbv (p := ⟨gb230, 6, none⟩) (Kd.Zbv (p := ⟨gb230, 5, none⟩) (Kd.Zbv (p := ⟨gb230, 4, none⟩) (Kd.Zbv (p := ⟨gb230, 3, none⟩) (Kd.Zbv (p := ⟨gb230, 2, none⟩) (Kd.Zbv (p := ⟨gb230, 1, none⟩) (Kd.Zbv (p := ⟨gb230, 0, none⟩) (Kd.Zcm HO_221000.out BK230.out (by decide)) (fun _ hk => hk.2) (.int .i64 ((Zah l0_1 x46_2).f0))) (fun _ hk => hk.2) (.slice A229_1 ((Zah l0_1 x46_2).f1).length c229_1)) (fun _ hk => hk.2) (.slice A229_2 ((Zah l0_1 x46_2).f2).length c229_2)) (fun _ hk => hk.2) (.int .i64 ((Zah l0_1 x46_2).f3))) (fun _ hk => hk.2) (.int .i64 ((Zah l0_1 x46_2).f4))) (fun _ hk => hk.2) (.slice A229_5 ((Zah l0_1 x46_2).f5).length c229_5)) (fun _ hk => hk.2) (.int .i64 ((Zah l0_1 x46_2).f6))) (fun _ hk => trivial)⟩
     have n1_ : Za (Kd.R k31 31 (((((((w48.setCell ⟨gb230, 0, none⟩ (.int .i64 ((Zah l0_1 x46_2).f0))).setCell ⟨gb230, 1, none⟩ (.slice A229_1 ((Zah l0_1 x46_2).f1).length c229_1)).setCell ⟨gb230, 2, none⟩ (.slice A229_2 ((Zah l0_1 x46_2).f2).length c229_2)).setCell ⟨gb230, 3, none⟩ (.int .i64 ((Zah l0_1 x46_2).f3))).setCell ⟨gb230, 4, none⟩ (.int .i64 ((Zah l0_1 x46_2).f4))).setCell ⟨gb230, 5, none⟩ (.slice A229_5 ((Zah l0_1 x46_2).f5).length c229_5)).setCell ⟨gb230, 6, none⟩ (.int .i64 ((Zah l0_1 x46_2).f6))) w.heap.size (fun k_ => some k_ ≠ (.slice Ao14 t214.length co14 : Value).ownBlock ∧ some k_ ≠ (.slice Ao13 t217.length co13 : Value).ownBlock ∧ k_ ≠ gb230) u221001 x221001_2) := ⟨by (with_reducible repeat (first | apply Kd.Zat | apply Kd.Zau | apply Kd.Zaz)); exact Kd.Za2 (Kd.Za1 (p := ⟨gb230, 6, none⟩) (Kd.Za1 (p := ⟨gb230, 5, none⟩) (Kd.Za1 (p := ⟨gb230, 4, none⟩) (Kd.Za1 (p := ⟨gb230, 3, none⟩) (Kd.Za1 (p := ⟨gb230, 2, none⟩) (Kd.Za1 (p := ⟨gb230, 1, none⟩) (Kd.Za1 (p := ⟨gb230, 0, none⟩) (Kd.Za2 HO_221001.out (fun k_ hk => (⟨hk, hk.2⟩ : _ ∧ k_ ≠ gb230))) (fun _ hk => hk.2) (.int .i64 ((Zah l0_1 x46_2).f0))) (fun _ hk => hk.2) (.slice A229_1 ((Zah l0_1 x46_2).f1).length c229_1)) (fun _ hk => hk.2) (.slice A229_2 ((Zah l0_1 x46_2).f2).length c229_2)) (fun _ hk => hk.2) (.int .i64 ((Zah l0_1 x46_2).f3))) (fun _ hk => hk.2) (.int .i64 ((Zah l0_1 x46_2).f4))) (fun _ hk => hk.2) (.slice A229_5 ((Zah l0_1 x46_2).f5).length c229_5)) (fun _ hk => hk.2) (.int .i64 ((Zah l0_1 x46_2).f6))) (fun _ hk => ⟨hk.1.1.1, ⟨hk.1.1.2, hk.1.2⟩⟩)⟩
     have n2_ : Za (Kd.R (Kd.int .i64) 3 (((((((w48.setCell ⟨gb230, 0, none⟩ (.int .i64 ((Zah l0_1 x46_2).f0))).setCell ⟨gb230, 1, none⟩ (.slice A229_1 ((Zah l0_1 x46_2).f1).length c229_1)).setCell ⟨gb230, 2, none⟩ (.slice A229_2 ((Zah l0_1 x46_2).f2).length c229_2)).setCell ⟨gb230, 3, none⟩ (.int .i64 ((Zah l0_1 x46_2).f3))).setCell ⟨gb230, 4, none⟩ (.int .i64 ((Zah l0_1 x46_2).f4))).setCell ⟨gb230, 5, none⟩ (.slice A229_5 ((Zah l0_1 x46_2).f5).length c229_5)).setCell ⟨gb230, 6, none⟩ (.int .i64 ((Zah l0_1 x46_2).f6))) w.heap.size (fun k_ => some k_ ≠ (.slice Ao13 t217.length co13 : Value).ownBlock) (.slice Ao14 t214.length co14) t214) := ⟨by (with_reducible repeat (first | apply Kd.Zat | apply Kd.Zau | apply Kd.Zaz)); exact Kd.Za2 (Kd.Za1 (p := ⟨gb230, 6, none⟩) (Kd.Za1 (p := ⟨gb230, 5, none⟩) (Kd.Za1 (p := ⟨gb230, 4, none⟩) (Kd.Za1 (p := ⟨gb230, 3, none⟩) (Kd.Za1 (p := ⟨gb230, 2, none⟩) (Kd.Za1 (p := ⟨gb230, 1, none⟩) (Kd.Za1 (p := ⟨gb230, 0, none⟩) (Kd.Zbc HO_221003.out BK230.out (by decide)) (fun _ hk => hk.2) (.int .i64 ((Zah l0_1 x46_2).f0))) (fun _ hk => hk.2) (.slice A229_1 ((Zah l0_1 x46_2).f1).length c229_1)) (fun _ hk => hk.2) (.slice A229_2 ((Zah l0_1 x46_2).f2).length c229_2)) (fun _ hk => hk.2) (.int .i64 ((Zah l0_1 x46_2).f3))) (fun _ hk => hk.2) (.int .i64 ((Zah l0_1 x46_2).f4))) (fun _ hk => hk.2) (.slice A229_5 ((Zah l0_1 x46_2).f5).length c229_5)) (fun _ hk => hk.2) (.int .i64 ((Zah l0_1 x46_2).f6))) (fun _ hk => hk.1)⟩
     have n3_ : Za (Kd.R (Kd.int .i64) 3 (((((((w48.setCell ⟨gb230, 0, none⟩ (.int .i64 ((Zah l0_1 x46_2).f0))).setCell ⟨gb230, 1, none⟩ (.slice A229_1 ((Zah l0_1 x46_2).f1).length c229_1)).setCell ⟨gb230, 2, none⟩ (.slice A229_2 ((Zah l0_1 x46_2).f2).length c229_2)).setCell ⟨gb230, 3, none⟩ (.int .i64 ((Zah l0_1 x46_2).f3))).setCell ⟨gb230, 4, none⟩ (.int .i64 ((Zah l0_1 x46_2).f4))).setCell ⟨gb230, 5, none⟩ (.slice A229_5 ((Zah l0_1 x46_2).f5).length c229_5)).setCell ⟨gb230, 6, none⟩ (.int .i64 ((Zah l0_1 x46_2).f6))) w.heap.size (fun k_ => some k_ ≠ (.slice Ao14 t214.length co14 : Value).ownBlock) (.slice Ao13 t217.length co13) t217) := ⟨by (with_reducible repeat (first | apply Kd.Zat | apply Kd.Zau | apply Kd.Zaz)); exact Kd.Za2 (Kd.Za1 (p := ⟨gb230, 6, none⟩) (Kd.Za1 (p := ⟨gb230, 5, none⟩) (Kd.Za1 (p := ⟨gb230, 4, none⟩) (Kd.Za1 (p := ⟨gb230, 3, none⟩) (Kd.Za1 (p := ⟨gb230, 2, none⟩) (Kd.Za1 (p := ⟨gb230, 1, none⟩) (Kd.Za1 (p := ⟨gb230, 0, none⟩) (Kd.Zbc HO_221004.out BK230.out (by decide)) (fun _ hk => hk.2) (.int .i64 ((Zah l0_1 x46_2).f0))) (fun _ hk => hk.2) (.slice A229_1 ((Zah l0_1 x46_2).f1).length c229_1)) (fun _ hk => hk.2) (.slice A229_2 ((Zah l0_1 x46_2).f2).length c229_2)) (fun _ hk => hk.2) (.int .i64 ((Zah l0_1 x46_2).f3))) (fun _ hk => hk.2) (.int .i64 ((Zah l0_1 x46_2).f4))) (fun _ hk => hk.2) (.slice A229_5 ((Zah l0_1 x46_2).f5).length c229_5)) (fun _ hk => hk.2) (.int .i64 ((Zah l0_1 x46_2).f6))) (fun _ hk => hk.1)⟩
     have n4_ : Za ((((((((w48.setCell ⟨gb230, 0, none⟩ (.int .i64 ((Zah l0_1 x46_2).f0))).setCell ⟨gb230, 1, none⟩ (.slice A229_1 ((Zah l0_1 x46_2).f1).length c229_1)).setCell ⟨gb230, 2, none⟩ (.slice A229_2 ((Zah l0_1 x46_2).f2).length c229_2)).setCell ⟨gb230, 3, none⟩ (.int .i64 ((Zah l0_1 x46_2).f3))).setCell ⟨gb230, 4, none⟩ (.int .i64 ((Zah l0_1 x46_2).f4))).setCell ⟨gb230, 5, none⟩ (.slice A229_5 ((Zah l0_1 x46_2).f5).length c229_5)).setCell ⟨gb230, 6, none⟩ (.int .i64 ((Zah l0_1 x46_2).f6))).heap[gb212]? = some (.cells #[.slice A0_0 l0_0.length c0_0, .slice (some ad229) l0_1.length c0_1, .int .i64 a0_2, .slice A0_3 l0_3.length c0_3, .slice A0_4 l0_4.length c0_4] 28 (0, 0))) := ⟨by (with_reducible repeat (first | refine Zag ?_ _ | refine Zai ?_ | refine Zae ?_ _)); refine Zav ?_ NB212_230.out _; (with_reducible repeat (first | refine Zag ?_ _ | refine Zai ?_ | refine Zae ?_ _)); refine Zav ?_ NB212_230.out _; (with_reducible repeat (first | refine Zag ?_ _ | refine Zai ?_ | refine Zae ?_ _)); refine Zav ?_ NB212_230.out _; (with_reducible repeat (first | refine Zag ?_ _ | refine Zai ?_ | refine Zae ?_ _)); refine Zav ?_ NB212_230.out _; (with_reducible repeat (first | refine Zag ?_ _ | refine Zai ?_ | refine Zae ?_ _)); refine Zav ?_ NB212_230.out _; (with_reducible repeat (first | refine Zag ?_ _ | refine Zai ?_ | refine Zae ?_ _)); refine Zav ?_ NB212_230.out _; (with_reducible repeat (first | refine Zag ?_ _ | refine Zai ?_ | refine Zae ?_ _)); refine Zav ?_ NB212_230.out _; (with_reducible repeat (first | refine Zag ?_ _ | refine Zai ?_ | refine Zae ?_ _)); exact BK212.out⟩
     have n5_ : Za ((((((((w48.setCell ⟨gb230, 0, none⟩ (.int .i64 ((Zah l0_1 x46_2).f0))).setCell ⟨gb230, 1, none⟩ (.slice A229_1 ((Zah l0_1 x46_2).f1).length c229_1)).setCell ⟨gb230, 2, none⟩ (.slice A229_2 ((Zah l0_1 x46_2).f2).length c229_2)).setCell ⟨gb230, 3, none⟩ (.int .i64 ((Zah l0_1 x46_2).f3))).setCell ⟨gb230, 4, none⟩ (.int .i64 ((Zah l0_1 x46_2).f4))).setCell ⟨gb230, 5, none⟩ (.slice A229_5 ((Zah l0_1 x46_2).f5).length c229_5)).setCell ⟨gb230, 6, none⟩ (.int .i64 ((Zah l0_1 x46_2).f6))).heap[gb213]? = some (.cells #[.slice none 0 0, .slice none 0 0, .int .i64 0, .slice none 0 0, .slice none 0 0] 28 (0, 0))) := ⟨by (with_reducible repeat (first | refine Zag ?_ _ | refine Zai ?_ | refine Zae ?_ _)); refine Zav ?_ NB213_230.out _; (with_reducible repeat (first | refine Zag ?_ _ | refine Zai ?_ | refine Zae ?_ _)); refine Zav ?_ NB213_230.out _; (with_reducible repeat (first | refine Zag ?_ _ | refine Zai ?_ | refine Zae ?_ _)); refine Zav ?_ NB213_230.out _; (with_reducible repeat (first | refine Zag ?_ _ | refine Zai ?_ | refine Zae ?_ _)); refine Zav ?_ NB213_230.out _; (with_reducible repeat (first | refine Zag ?_ _ | refine Zai ?_ | refine Zae ?_ _)); refine Zav ?_ NB213_230.out _; (with_reducible repeat (first | refine Zag ?_ _ | refine Zai ?_ | refine Zae ?_ _)); refine Zav ?_ NB213_230.out _; (with_reducible repeat (first | refine Zag ?_ _ | refine Zai ?_ | refine Zae ?_ _)); refine Zav ?_ NB213_230.out _; (with_reducible repeat (first | refine Zag ?_ _ | refine Zai ?_ | refine Zae ?_ _)); exact BK213.out⟩
     have n6_ : Za ((((((((w48.setCell ⟨gb230, 0, none⟩ (.int .i64 ((Zah l0_1 x46_2).f0))).setCell ⟨gb230, 1, none⟩ (.slice A229_1 ((Zah l0_1 x46_2).f1).length c229_1)).setCell ⟨gb230, 2, none⟩ (.slice A229_2 ((Zah l0_1 x46_2).f2).length c229_2)).setCell ⟨gb230, 3, none⟩ (.int .i64 ((Zah l0_1 x46_2).f3))).setCell ⟨gb230, 4, none⟩ (.int .i64 ((Zah l0_1 x46_2).f4))).setCell ⟨gb230, 5, none⟩ (.slice A229_5 ((Zah l0_1 x46_2).f5).length c229_5)).setCell ⟨gb230, 6, none⟩ (.int .i64 ((Zah l0_1 x46_2).f6))).heap[gb220]? = some (.cells #[u221000, u221001, .int .i64 a0_2, .slice Ao14 t214.length co14, .slice Ao13 t217.length co13] 28 (0, 0))) := ⟨by (with_reducible repeat (first | refine Zag ?_ _ | refine Zai ?_ | refine Zae ?_ _)); refine Zav ?_ NB220_230.out _; (with_reducible repeat (first | refine Zag ?_ _ | refine Zai ?_ | refine Zae ?_ _)); refine Zav ?_ NB220_230.out _; (with_reducible repeat (first | refine Zag ?_ _ | refine Zai ?_ | refine Zae ?_ _)); refine Zav ?_ NB220_230.out _; (with_reducible repeat (first | refine Zag ?_ _ | refine Zai ?_ | refine Zae ?_ _)); refine Zav ?_ NB220_230.out _; (with_reducible repeat (first | refine Zag ?_ _ | refine Zai ?_ | refine Zae ?_ _)); refine Zav ?_ NB220_230.out _; (with_reducible repeat (first | refine Zag ?_ _ | refine Zai ?_ | refine Zae ?_ _)); refine Zav ?_ NB220_230.out _; (with_reducible repeat (first | refine Zag ?_ _ | refine Zai ?_ | refine Zae ?_ _)); refine Zav ?_ NB220_230.out _; (with_reducible repeat (first | refine Zag ?_ _ | refine Zai ?_ | refine Zae ?_ _)); exact BK220.out⟩
     have n7_ : Za ((((((((w48.setCell ⟨gb230, 0, none⟩ (.int .i64 ((Zah l0_1 x46_2).f0))).setCell ⟨gb230, 1, none⟩ (.slice A229_1 ((Zah l0_1 x46_2).f1).length c229_1)).setCell ⟨gb230, 2, none⟩ (.slice A229_2 ((Zah l0_1 x46_2).f2).length c229_2)).setCell ⟨gb230, 3, none⟩ (.int .i64 ((Zah l0_1 x46_2).f3))).setCell ⟨gb230, 4, none⟩ (.int .i64 ((Zah l0_1 x46_2).f4))).setCell ⟨gb230, 5, none⟩ (.slice A229_5 ((Zah l0_1 x46_2).f5).length c229_5)).setCell ⟨gb230, 6, none⟩ (.int .i64 ((Zah l0_1 x46_2).f6))).heap[gb230]? = some (.cells #[.int .i64 ((Zah l0_1 x46_2).f0), .slice A229_1 ((Zah l0_1 x46_2).f1).length c229_1, .slice A229_2 ((Zah l0_1 x46_2).f2).length c229_2, .int .i64 ((Zah l0_1 x46_2).f3), .int .i64 ((Zah l0_1 x46_2).f4), .slice A229_5 ((Zah l0_1 x46_2).f5).length c229_5, .int .i64 ((Zah l0_1 x46_2).f6)] 31 (0, 0))) := ⟨by (with_reducible repeat (first | refine Zag ?_ _ | refine Zai ?_ | refine Zae ?_ _)); refine Zaq (cs := #[.int .i64 ((Zah l0_1 x46_2).f0), .slice A229_1 ((Zah l0_1 x46_2).f1).length c229_1, .slice A229_2 ((Zah l0_1 x46_2).f2).length c229_2, .int .i64 ((Zah l0_1 x46_2).f3), .int .i64 ((Zah l0_1 x46_2).f4), .slice A229_5 ((Zah l0_1 x46_2).f5).length c229_5, .int .i64 0]) ?_ 6 _ rfl; (with_reducible repeat (first | refine Zag ?_ _ | refine Zai ?_ | refine Zae ?_ _)); refine Zaq (cs := #[.int .i64 ((Zah l0_1 x46_2).f0), .slice A229_1 ((Zah l0_1 x46_2).f1).length c229_1, .slice A229_2 ((Zah l0_1 x46_2).f2).length c229_2, .int .i64 ((Zah l0_1 x46_2).f3), .int .i64 ((Zah l0_1 x46_2).f4), .slice none 0 0, .int .i64 0]) ?_ 5 _ rfl; (with_reducible repeat (first | refine Zag ?_ _ | refine Zai ?_ | refine Zae ?_ _)); refine Zaq (cs := #[.int .i64 ((Zah l0_1 x46_2).f0), .slice A229_1 ((Zah l0_1 x46_2).f1).length c229_1, .slice A229_2 ((Zah l0_1 x46_2).f2).length c229_2, .int .i64 ((Zah l0_1 x46_2).f3), .int .i64 0, .slice none 0 0, .int .i64 0]) ?_ 4 _ rfl; (with_reducible repeat (first | refine Zag ?_ _ | refine Zai ?_ | refine Zae ?_ _)); refine Zaq (cs := #[.int .i64 ((Zah l0_1 x46_2).f0), .slice A229_1 ((Zah l0_1 x46_2).f1).length c229_1, .slice A229_2 ((Zah l0_1 x46_2).f2).length c229_2, .int .i64 0, .int .i64 0, .slice none 0 0, .int .i64 0]) ?_ 3 _ rfl; (with_reducible repeat (first | refine Zag ?_ _ | refine Zai ?_ | refine Zae ?_ _)); refine Zaq (cs := #[.int .i64 ((Zah l0_1 x46_2).f0), .slice A229_1 ((Zah l0_1 x46_2).f1).length c229_1, .slice none 0 0, .int .i64 0, .int .i64 0, .slice none 0 0, .int .i64 0]) ?_ 2 _ rfl; (with_reducible repeat (first | refine Zag ?_ _ | refine Zai ?_ | refine Zae ?_ _)); refine Zaq (cs := #[.int .i64 ((Zah l0_1 x46_2).f0), .slice none 0 0, .slice none 0 0, .int .i64 0, .int .i64 0, .slice none 0 0, .int .i64 0]) ?_ 1 _ rfl; (with_reducible repeat (first | refine Zag ?_ _ | refine Zai ?_ | refine Zae ?_ _)); refine Zaq (cs := #[.int .i64 0, .slice none 0 0, .slice none 0 0, .int .i64 0, .int .i64 0, .slice none 0 0, .int .i64 0]) ?_ 0 _ rfl; (with_reducible repeat (first | refine Zag ?_ _ | refine Zai ?_ | refine Zae ?_ _)); exact BK230.out⟩
     have n8_ : Za (Below w.heap.size w (((((((w48.setCell ⟨gb230, 0, none⟩ (.int .i64 ((Zah l0_1 x46_2).f0))).setCell ⟨gb230, 1, none⟩ (.slice A229_1 ((Zah l0_1 x46_2).f1).length c229_1)).setCell ⟨gb230, 2, none⟩ (.slice A229_2 ((Zah l0_1 x46_2).f2).length c229_2)).setCell ⟨gb230, 3, none⟩ (.int .i64 ((Zah l0_1 x46_2).f3))).setCell ⟨gb230, 4, none⟩ (.int .i64 ((Zah l0_1 x46_2).f4))).setCell ⟨gb230, 5, none⟩ (.slice A229_5 ((Zah l0_1 x46_2).f5).length c229_5)).setCell ⟨gb230, 6, none⟩ (.int .i64 ((Zah l0_1 x46_2).f6)))) := ⟨by repeat (first | (with_reducible first | exact HB.out | apply Zab | apply Zaa | apply Zad | refine Zac ?_ GE212.out | refine Zac ?_ GE213.out | refine Zac ?_ GE220.out | refine Zac ?_ GE230.out) | exact HB.out)⟩
     (try clear HO_221000)
     (try clear HO_221001)
     (try clear HO_221003)
     (try clear HO_221004)
     (try clear BK212)
     (try clear BK213)
     (try clear BK220)
     (try clear BK230)
     (try clear HB)
     generalize (((((((w48.setCell ⟨gb230, 0, none⟩ (.int .i64 ((Zah l0_1 x46_2).f0))).setCell ⟨gb230, 1, none⟩ (.slice A229_1 ((Zah l0_1 x46_2).f1).length c229_1)).setCell ⟨gb230, 2, none⟩ (.slice A229_2 ((Zah l0_1 x46_2).f2).length c229_2)).setCell ⟨gb230, 3, none⟩ (.int .i64 ((Zah l0_1 x46_2).f3))).setCell ⟨gb230, 4, none⟩ (.int .i64 ((Zah l0_1 x46_2).f4))).setCell ⟨gb230, 5, none⟩ (.slice A229_5 ((Zah l0_1 x46_2).f5).length c229_5)).setCell ⟨gb230, 6, none⟩ (.int .i64 ((Zah l0_1 x46_2).f6))) = w53 at n0_ n1_ n2_ n3_ n4_ n5_ n6_ n7_ n8_ ⊢
     have HO_221000 := n0_
     have HO_221001 := n1_
     have HO_221003 := n2_
     have HO_221004 := n3_
     have BK212 := n4_
     have BK213 := n5_
     have BK220 := n6_
     have BK230 := n7_
     have HB := n8_
     clear n0_ n1_ n2_ n3_ n4_ n5_ n6_ n7_ n8_
     have n0_ := Za.mk (Kd.Zbr HO_221000.out)
     have n1_ := Za.mk (Kd.Zaz HO_221001.out)
     have n2_ := Za.mk (Kd.Zaz HO_221003.out)
     have n3_ := Za.mk (Kd.Zaz HO_221004.out)
     have n4_ := Za.mk (Zai BK212.out)
     have n5_ := Za.mk (Zai BK213.out)
     have n6_ := Za.mk (Zai BK220.out)
     have n7_ := Za.mk (Zai BK230.out)
     have n8_ := Za.mk (Zad HB.out)
     clear HO_221000
     clear HO_221001
     clear HO_221003
     clear HO_221004
     clear BK212
     clear BK213
     clear BK220
     clear BK230
     clear HB
     have HO_221000 := n0_
     have HO_221001 := n1_
     have HO_221003 := n2_
     have HO_221004 := n3_
     have BK212 := n4_
     have BK213 := n5_
     have BK220 := n6_
     have BK230 := n7_
     have HB := n8_
     clear n0_ n1_ n2_ n3_ n4_ n5_ n6_ n7_ n8_
     refine Zfw (n := 10) (S := fun w' => w'.cell? ⟨gb230, 0, none⟩ = some (.int .i64 ((Zah l0_1 x46_2).f0)) ∧ w'.cell? ⟨gb230, 1, none⟩ = some (.slice A229_1 ((Zah l0_1 x46_2).f1).length c229_1) ∧ w'.cell? ⟨gb230, 2, none⟩ = some (.slice A229_2 ((Zah l0_1 x46_2).f2).length c229_2) ∧ w'.cell? ⟨gb230, 3, none⟩ = some (.int .i64 ((Zah l0_1 x46_2).f3)) ∧ w'.cell? ⟨gb230, 4, none⟩ = some (.int .i64 ((Zah l0_1 x46_2).f4)) ∧ w'.cell? ⟨gb230, 5, none⟩ = some (.slice A229_5 ((Zah l0_1 x46_2).f5).length c229_5) ∧ w'.cell? ⟨gb230, 6, none⟩ = some (.int .i64 ((Zah l0_1 x46_2).f6))) (ds := [7, 9]) #[false, false, false, false, false, false, false, false, false, false] (by kernel_rfl) rfl rfl ⟨(Zaj BK230.out 0).trans rfl, (Zaj BK230.out 1).trans rfl, (Zaj BK230.out 2).trans rfl, (Zaj BK230.out 3).trans rfl, (Zaj BK230.out 4).trans rfl, (Zaj BK230.out 5).trans rfl, (Zaj BK230.out 6).trans rfl⟩ (fun hHeld => ?_); refine Zds Za5.tab10 Za5.bits10 (fun HT_ HW_ => ?_)
     generalize w53.drew = w54 at HO_221000 HO_221001 HO_221003 HO_221004 BK212 BK213 BK220 BK230 HB hHeld ⊢
     refine Zbx (i := 0) (N := some 50) (v := ?_) (a' := ?_) #[true, false, false, false, false, false, false, false, false, false] rfl rfl (Zbi HT_.out (by kernel_rfl)) (fun _ _ _ h => h) (Or.inl ⟨by rfl, ?_⟩) ?_ ?_
     rotate_left
     ·intro w'
      go_simp
      with_reducible rfl
     rotate_left
     ·simp only [Act.put, List.setIfInBounds_toArray, List.set_cons_zero, List.set_cons_succ, Zbb, Zbd]
      rfl
     refine Zbx (i := 3) (N := some 53) (v := ?_) (a' := ?_) #[true, false, false, true, false, false, false, false, false, false] rfl rfl (Zbi HT_.out (by kernel_rfl)) (fun _ _ _ h => h) (Or.inl ⟨by rfl, ?_⟩) ?_ ?_
     rotate_left
     ·intro w'
      go_simp
      with_reducible rfl
     rotate_left
     ·simp only [Act.put, List.setIfInBounds_toArray, List.set_cons_zero, List.set_cons_succ, Zbb, Zbd]
      rfl
     refine Zdj (i := 1) (N := some 51) (v := ?_) (a' := ?_) #[true, true, false, true, false, false, false, false, false, false] rfl rfl (Zb8 HT_.out HW_.out (by kernel_rfl)) (fun _ _ _ h => h) (Or.inl ⟨by rfl, ?_⟩) hHeld ?_ ?_
     rotate_left
     ·rintro w' ⟨s0, s1, s2, s3, s4, s5, s6⟩
      go_simp
      with_reducible rfl
     rotate_left
     ·simp only [Act.put, List.setIfInBounds_toArray, List.set_cons_zero, List.set_cons_succ, Zbb, Zbd]
      rfl
     refine Zdj (i := 4) (N := some 54) (v := ?_) (a' := ?_) #[true, true, false, true, true, false, false, false, false, false] rfl rfl (Zb8 HT_.out HW_.out (by kernel_rfl)) (fun _ _ _ h => h) (Or.inl ⟨by rfl, ?_⟩) hHeld ?_ ?_
     rotate_left
     ·rintro w' ⟨s0, s1, s2, s3, s4, s5, s6⟩
      go_simp
      with_reducible rfl
     rotate_left
     ·simp only [Act.put, List.setIfInBounds_toArray, List.set_cons_zero, List.set_cons_succ, Zbb, Zbd]
      rfl
     refine one_ (i := 2) (N := some 52) #[true, true, true, true, true, false, false, false, false, false] rfl rfl (Zck HT_.out (by kernel_rfl)) (by decide) (fun K hK => ?_)
     refine Zd9 Try.func44 (by kernel_rfl) rfl #[.slice A229_1 ((Zah l0_1 x46_2).f1).length c229_1] (by rfl) rfl rfl (by (try simp only [List.map_toArray, List.map_cons, List.map_nil]); first | done | rfl | (simp only [List.length_drop, List.length_take]; rfl)) ?_
     with_reducible refine (cloneI.calls _ _ ((Zah l0_1 x46_2).f1) t231 _ ?side1 ?side2 A46.out).mono ?_
     (case side1 => repeat (first | exact (Kd.Zal HR229_1.out HB.out) | (with_reducible refine Kd.C_alloc ?_ _) | (with_reducible refine Kd.Zaw ?_ _) | (with_reducible refine Kd.C_drew ?_)))
     (case side2 => exact HC229_1.out)
     rintro e w55 ⟨v232, rfl, ho0, hb⟩
     refine ⟨_, rfl, ?_⟩
     have n0_ := Za.mk (Kd.Zcw (mvS HO_221000.out) hb)
     have n1_ := Za.mk (Kd.Zby (mvR HO_221001.out) (Kd.Zb4 ho0) hb)
     have n2_ := Za.mk (Kd.Zby (mvR HO_221003.out) (Kd.Zb4 ho0) hb)
     have n3_ := Za.mk (Kd.Zby (mvR HO_221004.out) (Kd.Zb4 ho0) hb)
     have n4_ := Za.mk (Kd.Zbp (Kd.Zc1 (Kd.Zc1 ho0 (Kd.R_lt (mvR HO_221003.out))) (Kd.R_lt (mvR HO_221004.out))) (Zan (by repeat (first | (with_reducible first | exact HB.out | apply Zab | apply Zaa | apply Zad | refine Zac ?_ GE212.out | refine Zac ?_ GE213.out | refine Zac ?_ GE220.out | refine Zac ?_ GE230.out) | exact HB.out))))
     have n5_ := Za.mk (Zap (g := gb212) (o := .cells #[.slice A0_0 l0_0.length c0_0, .slice (some ad229) l0_1.length c0_1, .int .i64 a0_2, .slice A0_3 l0_3.length c0_3, .slice A0_4 l0_4.length c0_4] 28 (0, 0)) (mvK BK212.out) hb)
     have n6_ := Za.mk (Zap (g := gb213) (o := .cells #[.slice none 0 0, .slice none 0 0, .int .i64 0, .slice none 0 0, .slice none 0 0] 28 (0, 0)) (mvK BK213.out) hb)
     have n7_ := Za.mk (Zap (g := gb220) (o := .cells #[u221000, u221001, .int .i64 a0_2, .slice Ao14 t214.length co14, .slice Ao13 t217.length co13] 28 (0, 0)) (mvK BK220.out) hb)
     have n8_ := Za.mk (Zap (g := gb230) (o := .cells #[.int .i64 ((Zah l0_1 x46_2).f0), .slice A229_1 ((Zah l0_1 x46_2).f1).length c229_1, .slice A229_2 ((Zah l0_1 x46_2).f2).length c229_2, .int .i64 ((Zah l0_1 x46_2).f3), .int .i64 ((Zah l0_1 x46_2).f4), .slice A229_5 ((Zah l0_1 x46_2).f5).length c229_5, .int .i64 ((Zah l0_1 x46_2).f6)] 31 (0, 0)) (mvK BK230.out) hb)
     have n9_ := Za.mk (Zaf (by repeat (first | (with_reducible first | exact HB.out | apply Zab | apply Zaa | apply Zad | refine Zac ?_ GE212.out | refine Zac ?_ GE213.out | refine Zac ?_ GE220.out | refine Zac ?_ GE230.out) | exact HB.out)) hb)
     clear HO_221000
     clear HO_221001
     clear HO_221003
     clear HO_221004
     clear BK212
     clear BK213
     clear BK220
     clear BK230
     clear HB
     have HO_221000 := n0_
     have HO_221001 := n1_
     have HO_221003 := n2_
     have HO_221004 := n3_
     have HO233 := n4_
     have BK212 := n5_
     have BK213 := n6_
     have BK220 := n7_
     have BK230 := n8_
     have HB := n9_
     clear n0_ n1_ n2_ n3_ n4_ n5_ n6_ n7_ n8_ n9_
     (try clear hb)
     (try clear hb2)
     (try clear hk)
     (try clear hi)
     (try clear ho0)
     refine hK.out _ _ ⟨(Zaj BK230.out 0).trans rfl, (Zaj BK230.out 1).trans rfl, (Zaj BK230.out 2).trans rfl, (Zaj BK230.out 3).trans rfl, (Zaj BK230.out 4).trans rfl, (Zaj BK230.out 5).trans rfl, (Zaj BK230.out 6).trans rfl⟩ (fun hHeld => ?_)
     clear hK K
     refine Zc4 (a' := ?_) ?_ ?_
     rotate_left
     ·show Act.put _ (some 52) _ = _
      simp only [Act.put, List.setIfInBounds_toArray, List.set_cons_zero, List.set_cons_succ, Zbb, Zbd]
      rfl
     refine Zbx (i := 6) (N := some 56) (v := ?_) (a' := ?_) #[true, true, true, true, true, false, true, false, false, false] rfl rfl (Zbi HT_.out (by kernel_rfl)) (fun _ _ _ h => h) (Or.inl ⟨by rfl, ?_⟩) ?_ ?_
     rotate_left
     ·intro w'
      go_simp
      with_reducible rfl
     rotate_left
     ·simp only [Act.put, List.setIfInBounds_toArray, List.set_cons_zero, List.set_cons_succ, Zbb, Zbd]
      rfl
     refine one_ (i := 5) (N := some 55) #[true, true, true, true, true, true, true, false, false, false] rfl rfl (Zck HT_.out (by kernel_rfl)) (by decide) (fun K hK => ?_)
     refine Zd9 Try.func44 (by kernel_rfl) rfl #[.slice A229_2 ((Zah l0_1 x46_2).f2).length c229_2] (by rfl) rfl rfl (by (try simp only [List.map_toArray, List.map_cons, List.map_nil]); first | done | rfl | (simp only [List.length_drop, List.length_take]; rfl)) ?_
     with_reducible refine (cloneI.calls _ _ ((Zah l0_1 x46_2).f2) t234 _ ?side1 ?side2 A47.out).mono ?_
     (case side1 => repeat (first | exact (Kd.Zal HR229_2.out HB.out) | (with_reducible refine Kd.C_alloc ?_ _) | (with_reducible refine Kd.Zaw ?_ _) | (with_reducible refine Kd.C_drew ?_)))
     (case side2 => exact HC229_2.out)
     rintro e w56 ⟨v235, rfl, ho0, hb⟩
     refine ⟨_, rfl, ?_⟩
     have n0_ := Za.mk (Kd.Zcw (mvS HO_221000.out) hb)
     have n1_ := Za.mk (Kd.Zby (mvR HO_221001.out) (Kd.Zb4 ho0) hb)
     have n2_ := Za.mk (Kd.Zby (mvR HO_221003.out) (Kd.Zb4 ho0) hb)
     have n3_ := Za.mk (Kd.Zby (mvR HO_221004.out) (Kd.Zb4 ho0) hb)
     have n4_ := Za.mk (Kd.Zby (mvR HO233.out) (Kd.Zb4 ho0) hb)
     have n5_ := Za.mk (Kd.Zbp (Kd.Zc1 (Kd.Zc1 (Kd.Zc1 ho0 (Kd.R_lt (mvR HO_221003.out))) (Kd.R_lt (mvR HO_221004.out))) (Kd.R_lt (mvR HO233.out))) (Zan (by repeat (first | (with_reducible first | exact HB.out | apply Zab | apply Zaa | apply Zad | refine Zac ?_ GE212.out | refine Zac ?_ GE213.out | refine Zac ?_ GE220.out | refine Zac ?_ GE230.out) | exact HB.out))))
     have n6_ := Za.mk (Zap (g := gb212) (o := .cells #[.slice A0_0 l0_0.length c0_0, .slice (some ad229) l0_1.length c0_1, .int .i64 a0_2, .slice A0_3 l0_3.length c0_3, .slice A0_4 l0_4.length c0_4] 28 (0, 0)) (mvK BK212.out) hb)
     have n7_ := Za.mk (Zap (g := gb213) (o := .cells #[.slice none 0 0, .slice none 0 0, .int .i64 0, .slice none 0 0, .slice none 0 0] 28 (0, 0)) (mvK BK213.out) hb)
     have n8_ := Za.mk (Zap (g := gb220) (o := .cells #[u221000, u221001, .int .i64 a0_2, .slice Ao14 t214.length co14, .slice Ao13 t217.length co13] 28 (0, 0)) (mvK BK220.out) hb)
     have n9_ := Za.mk (Zap (g := gb230) (o := .cells #[.int .i64 ((Zah l0_1 x46_2).f0), .slice A229_1 ((Zah l0_1 x46_2).f1).length c229_1, .slice A229_2 ((Zah l0_1 x46_2).f2).length c229_2, .int .i64 ((Zah l0_1 x46_2).f3), .int .i64 ((Zah l0_1 x46_2).f4), .slice A229_5 ((Zah l0_1 x46_2).f5).length c229_5, .int .i64 ((Zah l0_1 x46_2).f6)] 31 (0, 0)) (mvK BK230.out) hb)
     have n10_ := Za.mk (Zaf (by repeat (first | (with_reducible first | exact HB.out | apply Zab | apply Zaa | apply Zad | refine Zac ?_ GE212.out | refine Zac ?_ GE213.out | refine Zac ?_ GE220.out | refine Zac ?_ GE230.out) | exact HB.out)) hb)
     clear HO_221000
     clear HO_221001
     clear HO_221003
     clear HO_221004
     clear HO233
     clear BK212
     clear BK213
     clear BK220
     clear BK230
     clear HB
     have HO_221000 := n0_
     have HO_221001 := n1_
     have HO_221003 := n2_
     have HO_221004 := n3_
     have HO233 := n4_
     have HO236 := n5_
     have BK212 := n6_
     have BK213 := n7_
     have BK220 := n8_
     have BK230 := n9_
     have HB := n10_
     clear n0_ n1_ n2_ n3_ n4_ n5_ n6_ n7_ n8_ n9_ n10_
     (try clear hb)
     (try clear hb2)
     (try clear hk)
     (try clear hi)
     (try clear ho0)
     obtain ⟨Ao57, co57, eo57⟩ := Kd.Za9 HO233.out
     (first | subst eo57 | (injection eo57 with f1_ f2_ f3_; have f4_ := f1_.symm; have f5_ := f3_.symm; clear f1_ f2_ f3_; subst f4_; subst f5_))
     obtain ⟨Ao59, co59, eo59⟩ := Kd.Za9 HO236.out
     (first | subst eo59 | (injection eo59 with f1_ f2_ f3_; have f4_ := f1_.symm; have f5_ := f3_.symm; clear f1_ f2_ f3_; subst f4_; subst f5_))
     refine hK.out _ _ ⟨(Zaj BK230.out 0).trans rfl, (Zaj BK230.out 1).trans rfl, (Zaj BK230.out 2).trans rfl, (Zaj BK230.out 3).trans rfl, (Zaj BK230.out 4).trans rfl, (Zaj BK230.out 5).trans rfl, (Zaj BK230.out 6).trans rfl⟩ (fun hHeld => ?_)
     clear hK K
     refine Zc4 (a' := ?_) ?_ ?_
     rotate_left
     ·show Act.put _ (some 55) _ = _
      simp only [Act.put, List.setIfInBounds_toArray, List.set_cons_zero, List.set_cons_succ, Zbb, Zbd]
      rfl
     refine last_ (i := 7) (N := none) #[true, true, true, true, true, true, true, true, false, false] rfl rfl (Zck HT_.out (by kernel_rfl)) (by decide) (fun K hK => ?_)
     have hs58 : w56.cell? ⟨gb230, 1, none⟩ = some (.slice A229_1 ((Zah l0_1 x46_2).f1).length c229_1) := (Zaj BK230.out 1).trans rfl
     have hfs58 := Zao BK230.out 1
     have hns58_0 := NB212_230.out
     have hns58_1 := NB213_230.out
     have hns58_2 := NB220_230.out
     have hms58_0 := NB230_212.out
     have hms58_1 := NB230_213.out
     have hms58_2 := NB230_220.out
     refine skip_ (w1 := ?_) (by rfl) rfl ?_ ?_
     rotate_left
     ·go_simp
      rfl
     refine hK.out _ _ ?_
     clear hK K
     refine Zbx (i := 8) (N := some 57) (v := ?_) (a' := ?_) #[true, true, true, true, true, true, true, true, true, false] rfl rfl (Zbi HT_.out (by kernel_rfl)) (fun _ _ _ h => h) (Or.inl ⟨by rfl, ?_⟩) ?_ ?_
     rotate_left
     ·intro w'
      go_simp
      with_reducible rfl
     rotate_left
     ·simp only [Act.put, List.setIfInBounds_toArray, List.set_cons_zero, List.set_cons_succ, Zbb, Zbd]
      rfl
     refine last_ (i := 9) (N := none) #[true, true, true, true, true, true, true, true, true, true] rfl rfl (Zck HT_.out (by kernel_rfl)) (by decide) (fun K hK => ?_)
     have hs60 : w56.cell? ⟨gb230, 2, none⟩ = some (.slice A229_2 ((Zah l0_1 x46_2).f2).length c229_2) := (Zaj BK230.out 2).trans rfl
     have hfs60 := Zao BK230.out 2
     have hns60_0 := NB212_230.out
     have hns60_1 := NB213_230.out
     have hns60_2 := NB220_230.out
     have hms60_0 := NB230_212.out
     have hms60_1 := NB230_213.out
     have hms60_2 := NB230_220.out
     refine skip_ (w1 := ?_) (by rfl) rfl ?_ ?_
     rotate_left
     ·go_simp
      rfl
     refine hK.out _ _ ?_
     clear hK K
     refine done_ (Zek HT_.out (by kernel_rfl)) ?_
     obtain ⟨hcz61_0, hcz61_1, hcz61_2, hcz61_3, hcz61_4, hcz61_5, hcz61_6, hfz61_0, hfz61_1, hfz61_2, hfz61_3, hfz61_4, hfz61_5, hfz61_6⟩ := Zdl BK230.out
     try go_wp2
     go_loopg [8, 61] k2 (fun kq v8 v61 w' => ∃ (x8_3 : List (List Int)) (x61_3 : Int), v61 = .int .i64 x61_3 ∧ Za (Za5.l2 kq x8_3 l0_1 (l0_1.length : Int) x46_2 ((Zah l0_1 x46_2).f5) (((Zah l0_1 x46_2).f5).length : Int) x61_3 x221000_1 x221001_2 a0_2 t214 t217 ((Zah l0_1 x46_2).f0) t231 t234 ((Zah l0_1 x46_2).f3) ((Zah l0_1 x46_2).f4) ((Zah l0_1 x46_2).f5) ((Zah l0_1 x46_2).f6) = some (r1, r2, r3, r4, r5)) ∧ Za (kq ≤ k2) ∧ Za (Kd.S (Kd.slice 3 (Kd.int .i64)) 24 w' w.heap.size (fun k_ => some k_ ≠ ((.slice Ao14 t214.length co14) : Value).ownBlock ∧ some k_ ≠ ((.slice Ao13 t217.length co13) : Value).ownBlock ∧ some k_ ≠ ((.slice Ao57 t231.length co57) : Value).ownBlock ∧ some k_ ≠ ((.slice Ao59 t234.length co59) : Value).ownBlock) v8 x8_3) ∧ Za (Kd.S k50 50 w' w.heap.size (fun _ => True) u221000 x221000_1) ∧ Za (Kd.R k31 31 w' w.heap.size (fun k_ => some k_ ≠ (v8 : Value).ownBlock ∧ some k_ ≠ ((.slice Ao14 t214.length co14) : Value).ownBlock ∧ some k_ ≠ ((.slice Ao13 t217.length co13) : Value).ownBlock ∧ some k_ ≠ ((.slice Ao57 t231.length co57) : Value).ownBlock ∧ some k_ ≠ ((.slice Ao59 t234.length co59) : Value).ownBlock ∧ k_ ≠ gb230) u221001 x221001_2) ∧ Za (Kd.R (Kd.int .i64) 3 w' w.heap.size (fun k_ => some k_ ≠ ((.slice Ao13 t217.length co13) : Value).ownBlock ∧ some k_ ≠ ((.slice Ao57 t231.length co57) : Value).ownBlock ∧ some k_ ≠ ((.slice Ao59 t234.length co59) : Value).ownBlock) (.slice Ao14 t214.length co14) t214) ∧ Za (Kd.R (Kd.int .i64) 3 w' w.heap.size (fun k_ => some k_ ≠ ((.slice Ao14 t214.length co14) : Value).ownBlock ∧ some k_ ≠ ((.slice Ao57 t231.length co57) : Value).ownBlock ∧ some k_ ≠ ((.slice Ao59 t234.length co59) : Value).ownBlock) (.slice Ao13 t217.length co13) t217) ∧ Za (Kd.R (Kd.int .i64) 3 w' w.heap.size (fun k_ => some k_ ≠ ((.slice Ao14 t214.length co14) : Value).ownBlock ∧ some k_ ≠ ((.slice Ao13 t217.length co13) : Value).ownBlock ∧ some k_ ≠ ((.slice Ao59 t234.length co59) : Value).ownBlock) (.slice Ao57 t231.length co57) t231) ∧ Za (Kd.R (Kd.int .i64) 3 w' w.heap.size (fun k_ => some k_ ≠ ((.slice Ao14 t214.length co14) : Value).ownBlock ∧ some k_ ≠ ((.slice Ao13 t217.length co13) : Value).ownBlock ∧ some k_ ≠ ((.slice Ao57 t231.length co57) : Value).ownBlock) (.slice Ao59 t234.length co59) t234) ∧ Za (w'.heap[gb212]? = some (.cells #[(.slice A0_0 l0_0.length c0_0), (.slice (some ad229) l0_1.length c0_1), .int .i64 a0_2, (.slice A0_3 l0_3.length c0_3), (.slice A0_4 l0_4.length c0_4)] 28 (0, 0))) ∧ Za (w'.heap[gb213]? = some (.cells #[(.slice none 0 0), (.slice none 0 0), .int .i64 0, (.slice none 0 0), (.slice none 0 0)] 28 (0, 0))) ∧ Za (w'.heap[gb220]? = some (.cells #[u221000, u221001, .int .i64 a0_2, (.slice Ao14 t214.length co14), (.slice Ao13 t217.length co13)] 28 (0, 0))) ∧ Za (w'.heap[gb230]? = some (.cells #[.int .i64 ((Zah l0_1 x46_2).f0), (.slice Ao57 t231.length co57), (.slice Ao59 t234.length co59), .int .i64 ((Zah l0_1 x46_2).f3), .int .i64 ((Zah l0_1 x46_2).f4), (.slice A229_5 ((Zah l0_1 x46_2).f5).length c229_5), .int .i64 ((Zah l0_1 x46_2).f6)] 31 (0, 0))) ∧ Za (Below w.heap.size w w'))
     case atStart => exact ⟨(([] : List (List Int))), (0), (by first | rfl | (simp; done) | (simp [*]; done)), H', ⟨Nat.le_refl _⟩, ⟨by first | exact Kd.S_nil _ _ _ _ _ | exact Kd.N_nil _ _ _ _ _ | exact Kd.Ze _ _ _ _ _ | exact Kd.Q_nil _ _ _ _ _ | exact Kd.Zfa _ _ _ _ _⟩, ⟨by (with_reducible repeat (first | apply Kd.Zbj | apply Kd.Zbk | apply Kd.Zbr)); exact Kd.Zcj (Kd.Zbv (p := ⟨gb230, 2, none⟩) (Kd.Zbv (p := ⟨gb230, 1, none⟩) (Kd.Zcm HO_221000.out BK230.out (by decide)) (fun _ hk => hk.2) (.slice Ao57 t231.length co57)) (fun _ hk => hk.2) (.slice Ao59 t234.length co59)) (fun _ hk => trivial)⟩, ⟨by (with_reducible repeat (first | apply Kd.Zat | apply Kd.Zau | apply Kd.Zaz)); exact Kd.Za2 (Kd.Za1 (p := ⟨gb230, 2, none⟩) (Kd.Za1 (p := ⟨gb230, 1, none⟩) (Kd.Za2 HO_221001.out (fun k_ hk => (⟨hk, hk.1.1.2.2⟩ : _ ∧ k_ ≠ gb230))) (fun _ hk => hk.2) (.slice Ao57 t231.length co57)) (fun _ hk => hk.2) (.slice Ao59 t234.length co59)) (fun _ hk => ⟨(by simp [Value.ownBlock]), ⟨hk.1.1.1.1, ⟨hk.1.1.1.2.1, ⟨hk.1.1.2, ⟨hk.1.2, hk.1.1.1.2.2⟩⟩⟩⟩⟩)⟩, ⟨by (with_reducible repeat (first | apply Kd.Zat | apply Kd.Zau | apply Kd.Zaz)); exact Kd.Za2 (Kd.Za1 (p := ⟨gb230, 2, none⟩) (Kd.Za1 (p := ⟨gb230, 1, none⟩) (Kd.Zbc HO_221003.out BK230.out (by decide)) (fun _ hk => hk.2) (.slice Ao57 t231.length co57)) (fun _ hk => hk.2) (.slice Ao59 t234.length co59)) (fun _ hk => ⟨hk.1.1.1, ⟨hk.1.1.2, hk.1.2⟩⟩)⟩, ⟨by (with_reducible repeat (first | apply Kd.Zat | apply Kd.Zau | apply Kd.Zaz)); exact Kd.Za2 (Kd.Za1 (p := ⟨gb230, 2, none⟩) (Kd.Za1 (p := ⟨gb230, 1, none⟩) (Kd.Zbc HO_221004.out BK230.out (by decide)) (fun _ hk => hk.2) (.slice Ao57 t231.length co57)) (fun _ hk => hk.2) (.slice Ao59 t234.length co59)) (fun _ hk => ⟨hk.1.1.1, ⟨hk.1.1.2, hk.1.2⟩⟩)⟩, ⟨by (with_reducible repeat (first | apply Kd.Zat | apply Kd.Zau | apply Kd.Zaz)); exact Kd.Za2 (Kd.Za1 (p := ⟨gb230, 2, none⟩) (Kd.Za1 (p := ⟨gb230, 1, none⟩) (Kd.Zbc HO233.out BK230.out (by decide)) (fun _ hk => hk.2) (.slice Ao57 t231.length co57)) (fun _ hk => hk.2) (.slice Ao59 t234.length co59)) (fun _ hk => ⟨hk.1.1.1.2, ⟨hk.1.1.2, hk.1.2⟩⟩)⟩, ⟨by (with_reducible repeat (first | apply Kd.Zat | apply Kd.Zau | apply Kd.Zaz)); exact Kd.Za2 (Kd.Za1 (p := ⟨gb230, 2, none⟩) (Kd.Za1 (p := ⟨gb230, 1, none⟩) (Kd.Zbc HO236.out BK230.out (by decide)) (fun _ hk => hk.2) (.slice Ao57 t231.length co57)) (fun _ hk => hk.2) (.slice Ao59 t234.length co59)) (fun _ hk => ⟨hk.1.1.1.2, ⟨hk.1.1.2, hk.1.2⟩⟩)⟩, ⟨by (with_reducible repeat (first | refine Zag ?_ _ | refine Zai ?_ | refine Zae ?_ _)); refine Zav ?_ NB212_230.out _; (with_reducible repeat (first | refine Zag ?_ _ | refine Zai ?_ | refine Zae ?_ _)); refine Zav ?_ NB212_230.out _; (with_reducible repeat (first | refine Zag ?_ _ | refine Zai ?_ | refine Zae ?_ _)); exact BK212.out⟩, ⟨by (with_reducible repeat (first | refine Zag ?_ _ | refine Zai ?_ | refine Zae ?_ _)); refine Zav ?_ NB213_230.out _; (with_reducible repeat (first | refine Zag ?_ _ | refine Zai ?_ | refine Zae ?_ _)); refine Zav ?_ NB213_230.out _; (with_reducible repeat (first | refine Zag ?_ _ | refine Zai ?_ | refine Zae ?_ _)); exact BK213.out⟩, ⟨by (with_reducible repeat (first | refine Zag ?_ _ | refine Zai ?_ | refine Zae ?_ _)); refine Zav ?_ NB220_230.out _; (with_reducible repeat (first | refine Zag ?_ _ | refine Zai ?_ | refine Zae ?_ _)); refine Zav ?_ NB220_230.out _; (with_reducible repeat (first | refine Zag ?_ _ | refine Zai ?_ | refine Zae ?_ _)); exact BK220.out⟩, ⟨by (with_reducible repeat (first | refine Zag ?_ _ | refine Zai ?_ | refine Zae ?_ _)); refine Zaq (cs := #[.int .i64 ((Zah l0_1 x46_2).f0), .slice Ao57 t231.length co57, .slice A229_2 ((Zah l0_1 x46_2).f2).length c229_2, .int .i64 ((Zah l0_1 x46_2).f3), .int .i64 ((Zah l0_1 x46_2).f4), .slice A229_5 ((Zah l0_1 x46_2).f5).length c229_5, .int .i64 ((Zah l0_1 x46_2).f6)]) ?_ 2 _ rfl; (with_reducible repeat (first | refine Zag ?_ _ | refine Zai ?_ | refine Zae ?_ _)); refine Zaq (cs := #[.int .i64 ((Zah l0_1 x46_2).f0), .slice A229_1 ((Zah l0_1 x46_2).f1).length c229_1, .slice A229_2 ((Zah l0_1 x46_2).f2).length c229_2, .int .i64 ((Zah l0_1 x46_2).f3), .int .i64 ((Zah l0_1 x46_2).f4), .slice A229_5 ((Zah l0_1 x46_2).f5).length c229_5, .int .i64 ((Zah l0_1 x46_2).f6)]) ?_ 1 _ rfl; (with_reducible repeat (first | refine Zag ?_ _ | refine Zai ?_ | refine Zae ?_ _)); exact BK230.out⟩, ⟨by repeat (first | (with_reducible first | exact HB.out | apply Zab | apply Zaa | apply Zad | refine Zac ?_ GE212.out | refine Zac ?_ GE213.out | refine Zac ?_ GE220.out | refine Zac ?_ GE230.out) | exact HB.out)⟩⟩
     case round =>
      clear H'
      try clear c2
      try clear p2
      try clear q2
      try clear hx2
      try clear c3
      try clear c4
      try clear c5
      try clear p6
      try clear c20
      try clear c21
      try clear c22
      try clear p22
      try clear q22
      try clear hx22
      try clear c23
      try clear c23b0
      try clear c24
      try clear c24b0
      try clear c25
      try clear c25b0
      try clear c27
      try clear c29
      try clear c30
      try clear c31
      try clear c40
      try clear c41
      try clear c43
      try clear c43b0
      try clear c44
      try clear c44b0
      try clear c45
      try clear c45b0
      try clear c48
      try clear c49
      try clear c50
      try clear c51
      try clear hcz22_0
      try clear hcz22_1
      try clear hcz22_2
      try clear hcz22_3
      try clear hcz22_4
      try clear hcz32_0
      try clear hcz32_1
      try clear hcz42_0
      try clear hcz42_1
      try clear hcz42_2
      try clear hcz42_3
      try clear hcz42_4
      try clear hcz52_0
      try clear hcz52_1
      try clear hcz52_2
      try clear hcz52_3
      try clear hcz52_4
      try clear hcz52_5
      try clear hcz52_6
      try clear hcz61_0
      try clear hcz61_1
      try clear hcz61_2
      try clear hcz61_3
      try clear hcz61_4
      try clear hcz61_5
      try clear hcz61_6
      try clear hfz22_0
      try clear hfz22_1
      try clear hfz22_2
      try clear hfz22_3
      try clear hfz22_4
      try clear hfz32_0
      try clear hfz32_1
      try clear hfz42_0
      try clear hfz42_1
      try clear hfz42_2
      try clear hfz42_3
      try clear hfz42_4
      try clear hfz52_0
      try clear hfz52_1
      try clear hfz52_2
      try clear hfz52_3
      try clear hfz52_4
      try clear hfz52_5
      try clear hfz52_6
      try clear hfz61_0
      try clear hfz61_1
      try clear hfz61_2
      try clear hfz61_3
      try clear hfz61_4
      try clear hfz61_5
      try clear hfz61_6
      try clear hx221_0
      try clear hx221_1
      try clear hx229_0
      try clear hx229_1
      try clear hx229_2
      try clear hx229_3
      try clear hx229_4
      try clear hx229_5
      try clear hx229_6
      try clear p2
      try clear p22
      try clear p221
      try clear p229
      try clear p6
      try clear q2
      try clear q22
      try clear q221
      try clear q229
      obtain ⟨x8_3, x61_3, rfl, HA, HK3, HO_8, HO_221000, HO_221001, HO_221003, HO_221004, HO_231001, HO_231002, BK212, BK213, BK220, BK230, HB⟩ := hrel
      cases gk with
      | zero => exact absurd HA.out (by simp [Za5.l2])
      | succ k3 =>
       have H := HA.out
       clear HA
       simp only [Za5.l2] at H
       by_cases c62 : x61_3 < (((Zah l0_1 x46_2).f5).length : Int)
       ·rw [if_pos c62] at H
        have c62b0 : decide (x61_3 < (((Zah l0_1 x46_2).f5).length : Int)) = true := decide_eq_true c62
        clear c62
        by_cases c63 : 0 ≤ x61_3
        rotate_left
        ·rw [if_neg c63] at H
         exact absurd H (by simp)
        rw [if_pos c63] at H
        have c63b0 : decide (0 ≤ x61_3) = true := decide_eq_true c63
        clear c63
        by_cases c64 : x61_3 < (((Zah l0_1 x46_2).f5).length : Int)
        rotate_left
        ·rw [if_neg c64] at H
         exact absurd H (by simp)
        rw [if_pos c64] at H
        have c64b0 : decide (x61_3 < (((Zah l0_1 x46_2).f5).length : Int)) = true := decide_eq_true c64
        clear c64
        replace H := Option.bind_eq_some_iff.mp H
        obtain ⟨t238, A650, H⟩ := H
        replace H : (if x8_3.length < 5864062014805 then (Za5.l2 k3 (x8_3 ++ [t238]) l0_1 (l0_1.length : Int) x46_2 ((Zah l0_1 x46_2).f5) (((Zah l0_1 x46_2).f5).length : Int) (wrap64 (x61_3 + 1)) x221000_1 x221001_2 a0_2 t214 t217 ((Zah l0_1 x46_2).f0) t231 t234 ((Zah l0_1 x46_2).f3) ((Zah l0_1 x46_2).f4) ((Zah l0_1 x46_2).f5) ((Zah l0_1 x46_2).f6)) else (none)) = some (r1, r2, r3, r4, r5) := H
        have A65 := Za.mk A650
        clear A650
        by_cases c66 : x8_3.length < 5864062014805
        rotate_left
        ·rw [if_neg c66] at H
         exact absurd H (by simp)
        rw [if_pos c66] at H
        have LMc66 := Za.mk c66
        clear c66
        obtain ⟨y241, hy241⟩ : ∃ y_ : List (List Int), y_ = (x8_3 ++ [t238]) := ⟨_, rfl⟩
        replace H : (Za5.l2 k3 y241 l0_1 (l0_1.length : Int) x46_2 ((Zah l0_1 x46_2).f5) (((Zah l0_1 x46_2).f5).length : Int) (wrap64 (x61_3 + 1)) x221000_1 x221001_2 a0_2 t214 t217 ((Zah l0_1 x46_2).f0) t231 t234 ((Zah l0_1 x46_2).f3) ((Zah l0_1 x46_2).f4) ((Zah l0_1 x46_2).f5) ((Zah l0_1 x46_2).f6)) = some (r1, r2, r3, r4, r5) := by first | (rw [hy241]; with_reducible exact H) | (have H2_ := (Option.bind_some _ _).symm.trans H; rw [hy241]; with_reducible exact H2_) | (have H2_ := (Option.bind_some _ _).symm.trans H; with_reducible exact H2_) | with_reducible exact H | (rw [hy241]; exact H) | exact H
        have Ny241 := Za.mk hy241
        clear hy241
        have H' := Za.mk H
        clear H
        have p237 : 0 ≤ (x61_3 : Int) := of_decide_eq_true (by first | (with_reducible assumption) | assumption)
        have q237 : x61_3 < (((Zah l0_1 x46_2).f5).length : Int) := of_decide_eq_true (by first | (with_reducible assumption) | assumption)
        obtain ⟨ad237, A237_0, c237_0, e237, hx237_0, hl237_0, hi237_0⟩ := at_L1 HR229_5.out x61_3 p237 q237
        cases e237
        replace hx237_0 := (HB.out.cell (World.block_lt_of_cell? w _ hx237_0)).trans hx237_0
        have HR237_0 := Za.mk hi237_0
        have HC237_0 := Za.mk hl237_0
        clear hi237_0 hl237_0
        replace p237 := eq_true p237
        replace q237 := eq_true q237
        go_wp2_with (first | ((with_reducible refine Zay (f := 44) rfl ?_); refine Zbu (some 67) rfl rfl Try.func44 (by kernel_rfl) rfl #[.slice A237_0 (Zc5 ((Zah l0_1 x46_2).f5) x61_3).length c237_0] rfl (by (try simp only [List.map_toArray, List.map_cons, List.map_nil]); first | done | rfl | (simp only [List.length_drop, List.length_take]; rfl)) ?_; (refine withB (m := w.heap.size) (w0 := w) (by repeat (first | (with_reducible first | exact HB.out | apply Zab | apply Zaa | apply Zad | refine Zac ?_ GE212.out | refine Zac ?_ GE213.out | refine Zac ?_ GE220.out | refine Zac ?_ GE230.out) | exact HB.out)) ?_); intro hL_; (with_reducible refine (cloneI.calls _ _ (Zc5 ((Zah l0_1 x46_2).f5) x61_3) t238 _ ?side1 ?side2 A65.out).mono ?_); (case side1 => repeat (first | exact (Kd.Zal HR237_0.out HB.out) | (with_reducible refine Kd.C_alloc ?_ _) | (with_reducible refine Kd.Zaw ?_ _) | (with_reducible refine Kd.C_drew ?_))); (case side2 => exact HC237_0.out); rintro e w67 ⟨v239, rfl, ho0, hb⟩; refine ⟨_, rfl, ?_⟩; have n0_ := Za.mk (Kd.Zeo (mvS HO_8.out) (Kd.Zb4 ho0) hb); have n1_ := Za.mk (Kd.Zcw (mvS HO_221000.out) hb); have n2_ := Za.mk (Kd.Zby (mvR HO_221001.out) (Kd.Zb4 ho0) hb); have n3_ := Za.mk (Kd.Zby (mvR HO_221003.out) (Kd.Zb4 ho0) hb); have n4_ := Za.mk (Kd.Zby (mvR HO_221004.out) (Kd.Zb4 ho0) hb); have n5_ := Za.mk (Kd.Zby (mvR HO_231001.out) (Kd.Zb4 ho0) hb); have n6_ := Za.mk (Kd.Zby (mvR HO_231002.out) (Kd.Zb4 ho0) hb); have n7_ := Za.mk (Kd.Zbp (Kd.Zc1 (Kd.Zc1 (Kd.Zc1 (Kd.Zc1 ho0 (Kd.R_lt (mvR HO_221003.out))) (Kd.R_lt (mvR HO_221004.out))) (Kd.R_lt (mvR HO_231001.out))) (Kd.R_lt (mvR HO_231002.out))) (Zan hL_)); have n8_ := Za.mk (Zap (g := gb212) (o := .cells #[.slice A0_0 l0_0.length c0_0, .slice (some ad229) l0_1.length c0_1, .int .i64 a0_2, .slice A0_3 l0_3.length c0_3, .slice A0_4 l0_4.length c0_4] 28 (0, 0)) (mvK BK212.out) hb); have n9_ := Za.mk (Zap (g := gb213) (o := .cells #[.slice none 0 0, .slice none 0 0, .int .i64 0, .slice none 0 0, .slice none 0 0] 28 (0, 0)) (mvK BK213.out) hb); have n10_ := Za.mk (Zap (g := gb220) (o := .cells #[u221000, u221001, .int .i64 a0_2, .slice Ao14 t214.length co14, .slice Ao13 t217.length co13] 28 (0, 0)) (mvK BK220.out) hb); have n11_ := Za.mk (Zap (g := gb230) (o := .cells #[.int .i64 ((Zah l0_1 x46_2).f0), .slice Ao57 t231.length co57, .slice Ao59 t234.length co59, .int .i64 ((Zah l0_1 x46_2).f3), .int .i64 ((Zah l0_1 x46_2).f4), .slice (some ad237) ((Zah l0_1 x46_2).f5).length c229_5, .int .i64 ((Zah l0_1 x46_2).f6)] 31 (0, 0)) (mvK BK230.out) hb); have n12_ := Za.mk (Zaf hL_ hb); clear HO_8; clear HO_221000; clear HO_221001; clear HO_221003; clear HO_221004; clear HO_231001; clear HO_231002; clear BK212; clear BK213; clear BK220; clear BK230; clear HB; have HO_8 := n0_; have HO_221000 := n1_; have HO_221001 := n2_; have HO_221003 := n3_; have HO_221004 := n4_; have HO_231001 := n5_; have HO_231002 := n6_; have HO240 := n7_; have BK212 := n8_; have BK213 := n9_; have BK220 := n10_; have BK230 := n11_; have HB := n12_; clear n0_ n1_ n2_ n3_ n4_ n5_ n6_ n7_ n8_ n9_ n10_ n11_ n12_; (try clear hb); (try clear hb2); (try clear hk); (try clear hi); (try clear ho0); obtain ⟨Ao69, co69, eo69⟩ := Kd.Za9 HO240.out; subst eo69) | ((with_reducible refine Zb7 (b := .append) (xs := #[.tmp 65, .tmp 68]) rfl ?_); at_builtin; refine Kd.S_append (Kd.slice 3 (Kd.int .i64)) (w0 := w) w.heap.size rfl (.tmp 65) (.tmp 68) 29 24 (.slice none 0 0) 24 rfl Try.underlying29 info24 rfl (by decide) (by omega) u8 x8_3 t238 [.slice Ao69 t238.length co69] (fun k_ => some k_ ≠ (.slice Ao14 t214.length co14 : Value).ownBlock ∧ some k_ ≠ (.slice Ao13 t217.length co13 : Value).ownBlock ∧ some k_ ≠ (.slice Ao57 t231.length co57 : Value).ownBlock ∧ some k_ ≠ (.slice Ao59 t234.length co59 : Value).ownBlock) (fun k_ => some k_ = (.slice Ao69 t238.length co69 : Value).ownBlock) rfl rfl ?aP (fun k_ hk_ => ((Kd.Za2 (ok' := fun k_ => ((fun k_ => some k_ ≠ (.slice Ao14 t214.length co14 : Value).ownBlock ∧ some k_ ≠ (.slice Ao13 t217.length co13 : Value).ownBlock ∧ some k_ ≠ (.slice Ao57 t231.length co57 : Value).ownBlock ∧ some k_ ≠ (.slice Ao59 t234.length co59 : Value).ownBlock)) k_ ∧ some k_ ≠ (u8 : Value).ownBlock) (Kd.Zc2 (HO240.out) (Kd.Zd HO_8.out) (by decide)) (fun k_ hk => ⟨⟨hk.1.1.1.1.2, ⟨hk.1.1.1.2, ⟨hk.1.1.2, hk.1.2⟩⟩⟩, hk.2⟩))).1 k_ hk_.symm) ?aF ?aO ?aB ?aS ?aL ?_; (case aP => exact Kd.M_row (Kd.Za2 (Kd.Zdd rfl (Kd.Za2 (ok' := fun k_ => ((fun k_ => some k_ ≠ (.slice Ao14 t214.length co14 : Value).ownBlock ∧ some k_ ≠ (.slice Ao13 t217.length co13 : Value).ownBlock ∧ some k_ ≠ (.slice Ao57 t231.length co57 : Value).ownBlock ∧ some k_ ≠ (.slice Ao59 t234.length co59 : Value).ownBlock)) k_ ∧ some k_ ≠ (u8 : Value).ownBlock) (Kd.Zc2 (HO240.out) (Kd.Zd HO_8.out) (by decide)) (fun k_ hk => ⟨⟨hk.1.1.1.1.2, ⟨hk.1.1.1.2, ⟨hk.1.1.2, hk.1.2⟩⟩⟩, hk.2⟩))) (fun _ h_ => h_))); (case aB => exact (by repeat (first | (with_reducible first | exact HB.out | apply Zab | apply Zaa | apply Zad | refine Zac ?_ GE212.out | refine Zac ?_ GE213.out | refine Zac ?_ GE220.out | refine Zac ?_ GE230.out) | exact HB.out))); (case aF => exact (fun k_ hk => ⟨Kd.fresh' (Kd.R_lt (mvR HO_221003.out)) k_ hk, Kd.fresh' (Kd.R_lt (mvR HO_221004.out)) k_ hk, Kd.fresh' (Kd.R_lt (mvR HO_231001.out)) k_ hk, Kd.fresh' (Kd.R_lt (mvR HO_231002.out)) k_ hk⟩)); (case aO => exact (mvS (Kd.Zcj HO_8.out (fun k_ hk => ⟨⟨hk.1.1, ⟨hk.1.2.1, ⟨hk.1.2.2.1, hk.1.2.2.2⟩⟩⟩, fun e_ => hk.2 e_⟩)))); (case aS => exact (Zan (by repeat (first | (with_reducible first | exact HB.out | apply Zab | apply Zaa | apply Zad | refine Zac ?_ GE212.out | refine Zac ?_ GE213.out | refine Zac ?_ GE220.out | refine Zac ?_ GE230.out) | exact HB.out)))); (case aL => have := LMc66.out; omega); intro v242 w68 ho hb hg hat; rw [← Ny241.out] at ho; have n0_ := Za.mk (Kd.Zfg (mvS HO_221000.out) (Kd.Zd (mvS HO_8.out)) (by decide) hg); have n1_ := Za.mk (Kd.Zey (ok := (fun k_ => some k_ ≠ (.slice Ao14 t214.length co14 : Value).ownBlock ∧ some k_ ≠ (.slice Ao13 t217.length co13 : Value).ownBlock ∧ some k_ ≠ (.slice Ao57 t231.length co57 : Value).ownBlock ∧ some k_ ≠ (.slice Ao59 t234.length co59 : Value).ownBlock ∧ some k_ ≠ (.slice Ao69 t238.length co69 : Value).ownBlock ∧ k_ ≠ gb230)) (mvR (Kd.Za2 HO_221001.out (fun _ hk => ⟨⟨hk.1.2.1, ⟨hk.1.2.2.1, ⟨hk.1.2.2.2.1, ⟨hk.1.2.2.2.2.1, ⟨hk.2, hk.1.2.2.2.2.2⟩⟩⟩⟩⟩, hk.1.1⟩))) hg hat); have n2_ := Za.mk (Kd.Zd1 (mvR HO_221003.out) (Kd.Zd (mvS HO_8.out)) (by decide) hg); have n3_ := Za.mk (Kd.Zd1 (mvR HO_221004.out) (Kd.Zd (mvS HO_8.out)) (by decide) hg); have n4_ := Za.mk (Kd.Zd1 (mvR HO_231001.out) (Kd.Zd (mvS HO_8.out)) (by decide) hg); have n5_ := Za.mk (Kd.Zd1 (mvR HO_231002.out) (Kd.Zd (mvS HO_8.out)) (by decide) hg); have n6_ := Za.mk (Zbl (g := gb212) (o := .cells #[.slice A0_0 l0_0.length c0_0, .slice (some ad229) l0_1.length c0_1, .int .i64 a0_2, .slice A0_3 l0_3.length c0_3, .slice A0_4 l0_4.length c0_4] 28 (0, 0)) (mvK BK212.out) hg (Kd.S_ne HO_8.out BK212.out (by decide))); have n7_ := Za.mk (Zbl (g := gb213) (o := .cells #[.slice none 0 0, .slice none 0 0, .int .i64 0, .slice none 0 0, .slice none 0 0] 28 (0, 0)) (mvK BK213.out) hg (Kd.S_ne HO_8.out BK213.out (by decide))); have n8_ := Za.mk (Zbl (g := gb220) (o := .cells #[u221000, u221001, .int .i64 a0_2, .slice Ao14 t214.length co14, .slice Ao13 t217.length co13] 28 (0, 0)) (mvK BK220.out) hg (Kd.S_ne HO_8.out BK220.out (by decide))); have n9_ := Za.mk (Zbl (g := gb230) (o := .cells #[.int .i64 ((Zah l0_1 x46_2).f0), .slice Ao57 t231.length co57, .slice Ao59 t234.length co59, .int .i64 ((Zah l0_1 x46_2).f3), .int .i64 ((Zah l0_1 x46_2).f4), .slice (some ad237) ((Zah l0_1 x46_2).f5).length c229_5, .int .i64 ((Zah l0_1 x46_2).f6)] 31 (0, 0)) (mvK BK230.out) hg (Kd.S_ne HO_8.out BK230.out (by decide))); have n10_ := Za.mk (hb); have n11_ := Za.mk (ho); clear HO_221000; clear HO_221001; clear HO_221003; clear HO_221004; clear HO_231001; clear HO_231002; clear BK212; clear BK213; clear BK220; clear BK230; clear HB; clear HO_8; clear HO240; have HO_221000 := n0_; have HO_221001 := n1_; have HO_221003 := n2_; have HO_221004 := n3_; have HO_231001 := n4_; have HO_231002 := n5_; have BK212 := n6_; have BK213 := n7_; have BK220 := n8_; have BK230 := n9_; have HB := n10_; have HO243 := n11_; clear n0_ n1_ n2_ n3_ n4_ n5_ n6_ n7_ n8_ n9_ n10_ n11_; clear ho hb hg hat))
        go_roundg k3
        case measure => have := HK1.out; have := HK2.out; have := HK3.out; omega
        case rel => exact ⟨(y241), (wrap64 (x61_3 + 1)), (by first | rfl | (simp; done) | (simp [*]; done)), H', ⟨by have := HK1.out; have := HK2.out; have := HK3.out; omega⟩, ⟨by (with_reducible repeat (first | apply Kd.Zbj | apply Kd.Zbk | apply Kd.Zbr)); exact HO243.out⟩, ⟨by (with_reducible repeat (first | apply Kd.Zbj | apply Kd.Zbk | apply Kd.Zbr)); exact HO_221000.out⟩, ⟨by (with_reducible repeat (first | apply Kd.Zat | apply Kd.Zau | apply Kd.Zaz)); exact Kd.Za2 HO_221001.out (fun _ hk => ⟨hk.2, ⟨hk.1.1, ⟨hk.1.2.1, ⟨hk.1.2.2.1, ⟨hk.1.2.2.2.1, hk.1.2.2.2.2.2⟩⟩⟩⟩⟩)⟩, ⟨by (with_reducible repeat (first | apply Kd.Zat | apply Kd.Zau | apply Kd.Zaz)); exact Kd.Za2 HO_221003.out (fun _ hk => ⟨hk.1.1, ⟨hk.1.2.1, hk.1.2.2⟩⟩)⟩, ⟨by (with_reducible repeat (first | apply Kd.Zat | apply Kd.Zau | apply Kd.Zaz)); exact Kd.Za2 HO_221004.out (fun _ hk => ⟨hk.1.1, ⟨hk.1.2.1, hk.1.2.2⟩⟩)⟩, ⟨by (with_reducible repeat (first | apply Kd.Zat | apply Kd.Zau | apply Kd.Zaz)); exact Kd.Za2 HO_231001.out (fun _ hk => ⟨hk.1.1, ⟨hk.1.2.1, hk.1.2.2⟩⟩)⟩, ⟨by (with_reducible repeat (first | apply Kd.Zat | apply Kd.Zau | apply Kd.Zaz)); exact Kd.Za2 HO_231002.out (fun _ hk => ⟨hk.1.1, ⟨hk.1.2.1, hk.1.2.2⟩⟩)⟩, ⟨by (with_reducible repeat (first | refine Zag ?_ _ | refine Zai ?_ | refine Zae ?_ _)); exact BK212.out⟩, ⟨by (with_reducible repeat (first | refine Zag ?_ _ | refine Zai ?_ | refine Zae ?_ _)); exact BK213.out⟩, ⟨by (with_reducible repeat (first | refine Zag ?_ _ | refine Zai ?_ | refine Zae ?_ _)); exact BK220.out⟩, ⟨by (with_reducible repeat (first | refine Zag ?_ _ | refine Zai ?_ | refine Zae ?_ _)); exact BK230.out⟩, ⟨by repeat (first | (with_reducible first | exact HB.out | apply Zab | apply Zaa | apply Zad | refine Zac ?_ GE212.out | refine Zac ?_ GE213.out | refine Zac ?_ GE220.out | refine Zac ?_ GE230.out) | exact HB.out)⟩⟩
       rw [if_neg c62] at H
       have c62b0 : decide (x61_3 < (((Zah l0_1 x46_2).f5).length : Int)) = false := decide_eq_false c62
       clear c62
       by_cases c70 : x221001_2.length < 1353245080339
       rotate_left
       ·rw [if_neg c70] at H
        exact absurd H (by simp)
       rw [if_pos c70] at H
       have LMc70 := Za.mk c70
       clear c70
       obtain ⟨y244, hy244⟩ : ∃ y_ : List (S31), y_ = (x221001_2 ++ [(⟨((Zah l0_1 x46_2).f0), t231, t234, ((Zah l0_1 x46_2).f3), ((Zah l0_1 x46_2).f4), x8_3, ((Zah l0_1 x46_2).f6)⟩ : S31)]) := ⟨_, rfl⟩
       replace H : (Za5.l1 k3 l0_1 (l0_1.length : Int) (wrap64 (x46_2 + 1)) x221000_1 y244 a0_2 t214 t217) = some (r1, r2, r3, r4, r5) := by first | (rw [hy244]; with_reducible exact H) | (have H2_ := (Option.bind_some _ _).symm.trans H; rw [hy244]; with_reducible exact H2_) | (have H2_ := (Option.bind_some _ _).symm.trans H; with_reducible exact H2_) | with_reducible exact H | (rw [hy244]; exact H) | exact H
       have Ny244 := Za.mk hy244
       clear hy244
       have H' := Za.mk H
       clear H
       obtain ⟨Ao71, co71, eo71⟩ := Kd.Zdr HO_8.out
       subst eo71
       have hnb72 := NB230_212.out
       have hnc72 := NB212_230.out
       have hnb73 := NB230_213.out
       have hnc73 := NB213_230.out
       have hnb74 := NB230_220.out
       have hnc74 := NB220_230.out
       obtain ⟨hcz75_0, hcz75_1, hcz75_2, hcz75_3, hcz75_4, hcz75_5, hcz75_6, hfz75_0, hfz75_1, hfz75_2, hfz75_3, hfz75_4, hfz75_5, hfz75_6⟩ := Zdl BK230.out
       go_wp2_with (first | ((with_reducible refine gate_store (t := 29) (p := 72) rfl ?_); refine store_event (t := 29) (p := 72) (v := ?vo_w76) (w1 := (wr.setCell ⟨gb230, 5, none⟩ (.slice Ao71 x8_3.length co71))) ?hg ?ho ?hn ?hr ?_; (case ho => rfl); (case hg => rfl); (case hn => rfl); (case hr => first | (go_simp; done) | (go_simp; rfl)); intro w76 hw; have n0_ : Za (Kd.S (Kd.slice 3 (Kd.int .i64)) 24 w76 w.heap.size (fun k_ => some k_ ≠ (.slice Ao14 t214.length co14 : Value).ownBlock ∧ some k_ ≠ (.slice Ao13 t217.length co13 : Value).ownBlock ∧ some k_ ≠ (.slice Ao57 t231.length co57 : Value).ownBlock ∧ some k_ ≠ (.slice Ao59 t234.length co59 : Value).ownBlock) (.slice Ao71 x8_3.length co71) x8_3) := ⟨(by rw [hw]; exact (mvS (Kd.Zcj (Kd.Zbv (p := ⟨gb230, 5, none⟩) (Kd.Zcm HO_8.out BK230.out (by decide)) (fun _ hk => hk.2) (.slice Ao71 x8_3.length co71)) (fun _ hk => ⟨hk.1.1, ⟨hk.1.2.1, ⟨hk.1.2.2.1, hk.1.2.2.2⟩⟩⟩))))⟩; have n1_ : Za (Kd.S k50 50 w76 w.heap.size (fun _ => True) u221000 x221000_1) := ⟨(by rw [hw]; exact (mvS (Kd.Zcj (Kd.Zbv (p := ⟨gb230, 5, none⟩) (Kd.Zcm HO_221000.out BK230.out (by decide)) (fun _ hk => hk.2) (.slice Ao71 x8_3.length co71)) (fun _ hk => trivial))))⟩; have n2_ : Za (Kd.R k31 31 w76 w.heap.size (fun k_ => some k_ ≠ (.slice Ao71 x8_3.length co71 : Value).ownBlock ∧ some k_ ≠ (.slice Ao14 t214.length co14 : Value).ownBlock ∧ some k_ ≠ (.slice Ao13 t217.length co13 : Value).ownBlock ∧ some k_ ≠ (.slice Ao57 t231.length co57 : Value).ownBlock ∧ some k_ ≠ (.slice Ao59 t234.length co59 : Value).ownBlock ∧ k_ ≠ gb230) u221001 x221001_2) := ⟨(by rw [hw]; exact (mvR (Kd.Za2 (Kd.Za1 (p := ⟨gb230, 5, none⟩) (Kd.Za2 HO_221001.out (fun k_ hk => (⟨hk, hk.2.2.2.2.2⟩ : _ ∧ k_ ≠ gb230))) (fun _ hk => hk.2) (.slice Ao71 x8_3.length co71)) (fun _ hk => ⟨hk.1.1, ⟨hk.1.2.1, ⟨hk.1.2.2.1, ⟨hk.1.2.2.2.1, ⟨hk.1.2.2.2.2.1, hk.1.2.2.2.2.2⟩⟩⟩⟩⟩))))⟩; have n3_ : Za (Kd.R (Kd.int .i64) 3 w76 w.heap.size (fun k_ => some k_ ≠ (.slice Ao13 t217.length co13 : Value).ownBlock ∧ some k_ ≠ (.slice Ao57 t231.length co57 : Value).ownBlock ∧ some k_ ≠ (.slice Ao59 t234.length co59 : Value).ownBlock) (.slice Ao14 t214.length co14) t214) := ⟨(by rw [hw]; exact (mvR (Kd.Za2 (Kd.Za1 (p := ⟨gb230, 5, none⟩) (Kd.Zbc HO_221003.out BK230.out (by decide)) (fun _ hk => hk.2) (.slice Ao71 x8_3.length co71)) (fun _ hk => ⟨hk.1.1, ⟨hk.1.2.1, hk.1.2.2⟩⟩))))⟩; have n4_ : Za (Kd.R (Kd.int .i64) 3 w76 w.heap.size (fun k_ => some k_ ≠ (.slice Ao14 t214.length co14 : Value).ownBlock ∧ some k_ ≠ (.slice Ao57 t231.length co57 : Value).ownBlock ∧ some k_ ≠ (.slice Ao59 t234.length co59 : Value).ownBlock) (.slice Ao13 t217.length co13) t217) := ⟨(by rw [hw]; exact (mvR (Kd.Za2 (Kd.Za1 (p := ⟨gb230, 5, none⟩) (Kd.Zbc HO_221004.out BK230.out (by decide)) (fun _ hk => hk.2) (.slice Ao71 x8_3.length co71)) (fun _ hk => ⟨hk.1.1, ⟨hk.1.2.1, hk.1.2.2⟩⟩))))⟩; have n5_ : Za (Kd.R (Kd.int .i64) 3 w76 w.heap.size (fun k_ => some k_ ≠ (.slice Ao14 t214.length co14 : Value).ownBlock ∧ some k_ ≠ (.slice Ao13 t217.length co13 : Value).ownBlock ∧ some k_ ≠ (.slice Ao59 t234.length co59 : Value).ownBlock) (.slice Ao57 t231.length co57) t231) := ⟨(by rw [hw]; exact (mvR (Kd.Za2 (Kd.Za1 (p := ⟨gb230, 5, none⟩) (Kd.Zbc HO_231001.out BK230.out (by decide)) (fun _ hk => hk.2) (.slice Ao71 x8_3.length co71)) (fun _ hk => ⟨hk.1.1, ⟨hk.1.2.1, hk.1.2.2⟩⟩))))⟩; have n6_ : Za (Kd.R (Kd.int .i64) 3 w76 w.heap.size (fun k_ => some k_ ≠ (.slice Ao14 t214.length co14 : Value).ownBlock ∧ some k_ ≠ (.slice Ao13 t217.length co13 : Value).ownBlock ∧ some k_ ≠ (.slice Ao57 t231.length co57 : Value).ownBlock) (.slice Ao59 t234.length co59) t234) := ⟨(by rw [hw]; exact (mvR (Kd.Za2 (Kd.Za1 (p := ⟨gb230, 5, none⟩) (Kd.Zbc HO_231002.out BK230.out (by decide)) (fun _ hk => hk.2) (.slice Ao71 x8_3.length co71)) (fun _ hk => ⟨hk.1.1, ⟨hk.1.2.1, hk.1.2.2⟩⟩))))⟩; have n7_ : Za (w76.heap[gb212]? = some (.cells #[.slice A0_0 l0_0.length c0_0, .slice (some ad229) l0_1.length c0_1, .int .i64 a0_2, .slice A0_3 l0_3.length c0_3, .slice A0_4 l0_4.length c0_4] 28 (0, 0))) := ⟨(by rw [hw]; exact (by (with_reducible repeat (first | refine Zag ?_ _ | refine Zai ?_ | refine Zae ?_ _)); refine Zav ?_ NB212_230.out _; (with_reducible repeat (first | refine Zag ?_ _ | refine Zai ?_ | refine Zae ?_ _)); exact BK212.out))⟩; have n8_ : Za (w76.heap[gb213]? = some (.cells #[.slice none 0 0, .slice none 0 0, .int .i64 0, .slice none 0 0, .slice none 0 0] 28 (0, 0))) := ⟨(by rw [hw]; exact (by (with_reducible repeat (first | refine Zag ?_ _ | refine Zai ?_ | refine Zae ?_ _)); refine Zav ?_ NB213_230.out _; (with_reducible repeat (first | refine Zag ?_ _ | refine Zai ?_ | refine Zae ?_ _)); exact BK213.out))⟩; have n9_ : Za (w76.heap[gb220]? = some (.cells #[u221000, u221001, .int .i64 a0_2, .slice Ao14 t214.length co14, .slice Ao13 t217.length co13] 28 (0, 0))) := ⟨(by rw [hw]; exact (by (with_reducible repeat (first | refine Zag ?_ _ | refine Zai ?_ | refine Zae ?_ _)); refine Zav ?_ NB220_230.out _; (with_reducible repeat (first | refine Zag ?_ _ | refine Zai ?_ | refine Zae ?_ _)); exact BK220.out))⟩; have n10_ : Za (w76.heap[gb230]? = some (.cells #[.int .i64 ((Zah l0_1 x46_2).f0), .slice Ao57 t231.length co57, .slice Ao59 t234.length co59, .int .i64 ((Zah l0_1 x46_2).f3), .int .i64 ((Zah l0_1 x46_2).f4), .slice Ao71 x8_3.length co71, .int .i64 ((Zah l0_1 x46_2).f6)] 31 (0, 0))) := ⟨(by rw [hw]; exact (by (with_reducible repeat (first | refine Zag ?_ _ | refine Zai ?_ | refine Zae ?_ _)); refine Zaq (cs := #[.int .i64 ((Zah l0_1 x46_2).f0), .slice Ao57 t231.length co57, .slice Ao59 t234.length co59, .int .i64 ((Zah l0_1 x46_2).f3), .int .i64 ((Zah l0_1 x46_2).f4), .slice A229_5 ((Zah l0_1 x46_2).f5).length c229_5, .int .i64 ((Zah l0_1 x46_2).f6)]) ?_ 5 _ rfl; (with_reducible repeat (first | refine Zag ?_ _ | refine Zai ?_ | refine Zae ?_ _)); exact BK230.out))⟩; have n11_ : Za (Below w.heap.size w w76) := ⟨(by rw [hw]; exact (by repeat (first | (with_reducible first | exact HB.out | apply Zab | apply Zaa | apply Zad | refine Zac ?_ GE212.out | refine Zac ?_ GE213.out | refine Zac ?_ GE220.out | refine Zac ?_ GE230.out) | exact HB.out)))⟩; clear hw; clear HO_8; clear HO_221000; clear HO_221001; clear HO_221003; clear HO_221004; clear HO_231001; clear HO_231002; clear BK212; clear BK213; clear BK220; clear BK230; clear HB; have HO_8 := n0_; have HO_221000 := n1_; have HO_221001 := n2_; have HO_221003 := n3_; have HO_221004 := n4_; have HO_231001 := n5_; have HO_231002 := n6_; have BK212 := n7_; have BK213 := n8_; have BK220 := n9_; have BK230 := n10_; have HB := n11_; clear n0_ n1_ n2_ n3_ n4_ n5_ n6_ n7_ n8_ n9_ n10_ n11_; have hnb77 := NB220_212.out; have hnc77 := NB212_220.out; have hnb78 := NB220_213.out; have hnc78 := NB213_220.out; obtain ⟨hcz79_0, hcz79_1, hcz79_2, hcz79_3, hcz79_4, hfz79_0, hfz79_1, hfz79_2, hfz79_3, hfz79_4⟩ := Zde BK220.out; obtain ⟨hcz80_0, hcz80_1, hcz80_2, hcz80_3, hcz80_4, hcz80_5, hcz80_6, hfz80_0, hfz80_1, hfz80_2, hfz80_3, hfz80_4, hfz80_5, hfz80_6⟩ := Zdl BK230.out) | ((with_reducible refine Zb7 (b := .append) (xs := #[.tmp 74, .tmp 76]) rfl ?_); at_builtin; refine Kd.Zel k31 (w0 := w) w.heap.size rfl (.tmp 74) (.tmp 76) 23 31 (.agg #[(.int .i64 0), (.slice none 0 0), (.slice none 0 0), (.int .i64 0), (.int .i64 0), (.slice none 0 0), (.int .i64 0)]) 104 rfl Try.underlying23 info31 rfl (by decide) (by omega) u221001 x221001_2 (⟨((Zah l0_1 x46_2).f0), t231, t234, ((Zah l0_1 x46_2).f3), ((Zah l0_1 x46_2).f4), x8_3, ((Zah l0_1 x46_2).f6)⟩ : S31) [.int .i64 ((Zah l0_1 x46_2).f0), .slice Ao57 t231.length co57, .slice Ao59 t234.length co59, .int .i64 ((Zah l0_1 x46_2).f3), .int .i64 ((Zah l0_1 x46_2).f4), .slice Ao71 x8_3.length co71, .int .i64 ((Zah l0_1 x46_2).f6)] (fun k_ => some k_ ≠ (.slice Ao14 t214.length co14 : Value).ownBlock ∧ some k_ ≠ (.slice Ao13 t217.length co13 : Value).ownBlock ∧ k_ ≠ gb230) (fun k_ => ((fun k_ => some k_ ≠ (.slice Ao14 t214.length co14 : Value).ownBlock ∧ some k_ ≠ (.slice Ao13 t217.length co13 : Value).ownBlock ∧ k_ ≠ gb230)) k_ ∧ some k_ ≠ (u221001 : Value).ownBlock) rfl rfl ?aP (fun _ hk => hk) ?aF ?aO ?aB ?aS ?aL ?_; (case aP => exact k31_mkM _ _ _ (⟨((Zah l0_1 x46_2).f0), t231, t234, ((Zah l0_1 x46_2).f3), ((Zah l0_1 x46_2).f4), x8_3, ((Zah l0_1 x46_2).f6)⟩ : S31) (Kd.Za2 (Kd.Zbc (Kd.Zc2 (HO_231001.out) (Kd.Zdk HO_221001.out) (by decide)) BK230.out (by decide)) (fun k_ hk => ⟨⟨hk.1.1.1, ⟨hk.1.1.2.1, hk.2⟩⟩, hk.1.2⟩)) (Kd.Za2 (Kd.Zbc (Kd.Zc2 (HO_231002.out) (Kd.Zdk HO_221001.out) (by decide)) BK230.out (by decide)) (fun k_ hk => ⟨⟨hk.1.1.1, ⟨hk.1.1.2.1, hk.2⟩⟩, hk.1.2⟩)) (Kd.Za2 (Kd.Zbc (Kd.Zc2 ((Kd.S_R HO_8.out)) (Kd.Zdk HO_221001.out) (by decide)) BK230.out (by decide)) (fun k_ hk => ⟨⟨hk.1.1.1, ⟨hk.1.1.2.1, hk.2⟩⟩, hk.1.2⟩))); (case aB => exact (by repeat (first | (with_reducible first | exact HB.out | apply Zab | apply Zaa | apply Zad | refine Zac ?_ GE212.out | refine Zac ?_ GE213.out | refine Zac ?_ GE220.out | refine Zac ?_ GE230.out) | exact HB.out))); (case aF => exact (fun k_ hk => ⟨Kd.fresh' (Kd.R_lt (mvR HO_221003.out)) k_ hk, Kd.fresh' (Kd.R_lt (mvR HO_221004.out)) k_ hk, Kd.freshB (g := gb230) (o := .cells #[.int .i64 ((Zah l0_1 x46_2).f0), .slice Ao57 t231.length co57, .slice Ao59 t234.length co59, .int .i64 ((Zah l0_1 x46_2).f3), .int .i64 ((Zah l0_1 x46_2).f4), .slice Ao71 x8_3.length co71, .int .i64 ((Zah l0_1 x46_2).f6)] 31 (0, 0)) (mvK BK230.out) k_ hk⟩)); (case aO => exact (mvR (Kd.Za2 HO_221001.out (fun _ hk => ⟨hk.2.1, ⟨hk.2.2.1, hk.2.2.2.2.2⟩⟩)))); (case aS => exact (Zan (by repeat (first | (with_reducible first | exact HB.out | apply Zab | apply Zaa | apply Zad | refine Zac ?_ GE212.out | refine Zac ?_ GE213.out | refine Zac ?_ GE220.out | refine Zac ?_ GE230.out) | exact HB.out)))); (case aL => have := LMc70.out; omega); intro v245 w81 ho hb hg hat; rw [← Ny244.out] at ho; have n0_ := Za.mk (Kd.Zfg (mvS HO_221000.out) (Kd.Zdk (mvR HO_221001.out)) (by decide) hg); have n1_ := Za.mk (Kd.Zd1 (mvR HO_221003.out) (Kd.Zdk (mvR HO_221001.out)) (by decide) hg); have n2_ := Za.mk (Kd.Zd1 (mvR HO_221004.out) (Kd.Zdk (mvR HO_221001.out)) (by decide) hg); have n3_ := Za.mk (Zbl (g := gb212) (o := .cells #[.slice A0_0 l0_0.length c0_0, .slice (some ad229) l0_1.length c0_1, .int .i64 a0_2, .slice A0_3 l0_3.length c0_3, .slice A0_4 l0_4.length c0_4] 28 (0, 0)) (mvK BK212.out) hg (Kd.R_ne HO_221001.out BK212.out (by decide))); have n4_ := Za.mk (Zbl (g := gb213) (o := .cells #[.slice none 0 0, .slice none 0 0, .int .i64 0, .slice none 0 0, .slice none 0 0] 28 (0, 0)) (mvK BK213.out) hg (Kd.R_ne HO_221001.out BK213.out (by decide))); have n5_ := Za.mk (Zbl (g := gb220) (o := .cells #[u221000, u221001, .int .i64 a0_2, .slice Ao14 t214.length co14, .slice Ao13 t217.length co13] 28 (0, 0)) (mvK BK220.out) hg (Kd.R_ne HO_221001.out BK220.out (by decide))); have n7_ := Za.mk (hb); have n8_ := Za.mk (ho); clear HO_221000; clear HO_221003; clear HO_221004; clear BK212; clear BK213; clear BK220; clear BK230; clear HB; clear HO_221001; clear HO_231001; clear HO_231002; clear HO_8; have HO_221000 := n0_; have HO_221003 := n1_; have HO_221004 := n2_; have BK212 := n3_; have BK213 := n4_; have BK220 := n5_; have HB := n7_; have HO246 := n8_; clear n0_ n1_ n2_ n3_ n4_ n5_ n7_ n8_; clear ho hb hg hat; obtain ⟨Ao82, co82, eo82⟩ := Kd.Za9 HO246.out; subst eo82; obtain ⟨hcz83_0, hcz83_1, hcz83_2, hcz83_3, hcz83_4, hfz83_0, hfz83_1, hfz83_2, hfz83_3, hfz83_4⟩ := Zde BK220.out))
       go_roundg k3
       case measure => have := HK1.out; have := HK2.out; have := HK3.out; omega
       case rel => exact ⟨(wrap64 (x46_2 + 1)), (y244), (.slice Ao82 y244.length co82), (by first | rfl | (simp; done) | (simp [*]; done)), H', ⟨by have := HK1.out; have := HK2.out; have := HK3.out; omega⟩, ⟨by (with_reducible repeat (first | apply Kd.Zbj | apply Kd.Zbk | apply Kd.Zbr)); exact Kd.Zcj (Kd.Zbv (p := ⟨gb220, 1, none⟩) (Kd.Zcm HO_221000.out BK220.out (by decide)) (fun _ hk => hk.2) (.slice Ao82 y244.length co82)) (fun _ hk => trivial)⟩, ⟨by (with_reducible repeat (first | apply Kd.Zat | apply Kd.Zau | apply Kd.Zaz)); exact Kd.Za2 (Kd.Za1 (p := ⟨gb220, 1, none⟩) (Kd.Zbc HO246.out BK220.out (by decide)) (fun _ hk => hk.2) (.slice Ao82 y244.length co82)) (fun _ hk => ⟨hk.1.1, hk.1.2.1⟩)⟩, ⟨by (with_reducible repeat (first | apply Kd.Zat | apply Kd.Zau | apply Kd.Zaz)); exact Kd.Za2 (Kd.Za1 (p := ⟨gb220, 1, none⟩) (Kd.Zbc HO_221003.out BK220.out (by decide)) (fun _ hk => hk.2) (.slice Ao82 y244.length co82)) (fun _ hk => hk.1.1)⟩, ⟨by (with_reducible repeat (first | apply Kd.Zat | apply Kd.Zau | apply Kd.Zaz)); exact Kd.Za2 (Kd.Za1 (p := ⟨gb220, 1, none⟩) (Kd.Zbc HO_221004.out BK220.out (by decide)) (fun _ hk => hk.2) (.slice Ao82 y244.length co82)) (fun _ hk => hk.1.1)⟩, ⟨by (with_reducible repeat (first | refine Zag ?_ _ | refine Zai ?_ | refine Zae ?_ _)); refine Zav ?_ NB212_220.out _; (with_reducible repeat (first | refine Zag ?_ _ | refine Zai ?_ | refine Zae ?_ _)); exact BK212.out⟩, ⟨by (with_reducible repeat (first | refine Zag ?_ _ | refine Zai ?_ | refine Zae ?_ _)); refine Zav ?_ NB213_220.out _; (with_reducible repeat (first | refine Zag ?_ _ | refine Zai ?_ | refine Zae ?_ _)); exact BK213.out⟩, ⟨by (with_reducible repeat (first | refine Zag ?_ _ | refine Zai ?_ | refine Zae ?_ _)); refine Zaq (cs := #[u221000, u221001, .int .i64 a0_2, .slice Ao14 t214.length co14, .slice Ao13 t217.length co13]) ?_ 1 _ rfl; (with_reducible repeat (first | refine Zag ?_ _ | refine Zai ?_ | refine Zae ?_ _)); exact BK220.out⟩, ⟨by repeat (first | (with_reducible first | exact HB.out | apply Zab | apply Zaa | apply Zad | refine Zac ?_ GE212.out | refine Zac ?_ GE213.out | refine Zac ?_ GE220.out | refine Zac ?_ GE230.out) | exact HB.out)⟩⟩
def Zb3.l0 : Nat → List (List (S48)) → List (S50) → Int → Int → Option ((List (List (S48))))
 | 0, _, _, _, _ => none
 | k + 1, x3, x7, x8, x9 => if x9 < x8 then (if 0 ≤ x9 then (if x9 < (x7.length : Int) then ((cloneR.f ((Za4 x7 x9).f1)).bind fun t250 => (if x3.length < 5864062014805 then (Zb3.l0 k (x3 ++ [t250]) x7 x8 (wrap64 (x9 + 1))) else (none))) else (none)) else (none)) else (some x3)
def Zb3.f (k : Nat) (l0_0 : List (S50)) (l0_1 : List (S31)) (a0_2 : Int) (l0_3 : List Int) (l0_4 : List Int) : Option ((List (List (S48)))) := Zb3.l0 k ([] : List (List (S48))) l0_0 (l0_0.length : Int) 0
set_option maxHeartbeats 8000000 in
set_option maxRecDepth 100000 in
theorem Zb3.calls (k : Nat) (A0_0 : Option Addr) (c0_0 : Nat) (l0_0 : List (S50)) (A0_1 : Option Addr) (c0_1 : Nat) (l0_1 : List (S31)) (a0_2 : Int) (A0_3 : Option Addr) (c0_3 : Nat) (l0_3 : List Int) (A0_4 : Option Addr) (c0_4 : Nat) (l0_4 : List Int) (r : List (List (S48))) (w : World) (hr0_0 : Kd.C k50 w A0_0 l0_0.length l0_0) (hc0_0 : l0_0.length ≤ c0_0) (hr0_1 : Kd.C k31 w A0_1 l0_1.length l0_1) (hc0_1 : l0_1.length ≤ c0_1) (hr0_3 : Kd.C (Kd.int .i64) w A0_3 l0_3.length l0_3) (hc0_3 : l0_3.length ≤ c0_3) (hr0_4 : Kd.C (Kd.int .i64) w A0_4 l0_4.length l0_4) (hc0_4 : l0_4.length ≤ c0_4) (h : Zb3.f k l0_0 l0_1 a0_2 l0_3 l0_4 = some r) :
  Calls Try.prog 25 #[.agg #[.slice A0_0 l0_0.length c0_0, .slice A0_1 l0_1.length c0_1, .int .i64 a0_2, .slice A0_3 l0_3.length c0_3, .slice A0_4 l0_4.length c0_4]] w fun e w' => ∃ v0_ : Value, e = .returned (v0_) ∧ Kd.S (Kd.slice 48 k48) 37 w' w.heap.size (fun _ => True) v0_ r ∧ Below w.heap.size w w' := by
 have hu28 := Try.underlying28
 have hu50 := Try.underlying50
 have HR0_0 := Za.mk hr0_0
 have HC0_0 := Za.mk hc0_0
 clear hr0_0 hc0_0
 have HR0_1 := Za.mk hr0_1
 have HC0_1 := Za.mk hc0_1
 clear hr0_1 hc0_1
 have HR0_3 := Za.mk hr0_3
 have HC0_3 := Za.mk hc0_3
 clear hr0_3 hc0_3
 have HR0_4 := Za.mk hr0_4
 have HC0_4 := Za.mk hc0_4
 clear hr0_4 hc0_4
 have HB := Za.mk (Below.refl w.heap.size w)
 have H : (Zb3.l0 k ([] : List (List (S48))) l0_0 (l0_0.length : Int) 0) = some r := h
 clear h
 have H' := Za.mk H
 clear H
 go_enter Try.func25, Try.ntmps25
 go_wp2_with (first | ((with_reducible refine Zax (N := 1) rfl ?_); refine Za7 ?hg (N := 1) ?hd (cs := #[.slice A0_0 l0_0.length c0_0, .slice A0_1 l0_1.length c0_1, .int .i64 a0_2, .slice A0_3 l0_3.length c0_3, .slice A0_4 l0_4.length c0_4]) (t := 28) ?hr ?_; (case hd => rfl); (case hg => rfl); (case hr => first | (go_simp; done) | (go_simp; rfl)); intro gb247 hg w2 hbox hb; have n0_ := Za.mk (Zaf (by repeat (first | (with_reducible first | exact HB.out | apply Zab | apply Zaa | apply Zad) | exact HB.out)) hb); have n1_ := Za.mk (hbox); have n3_ := Za.mk ((by rw [hg]; exact (Zan (by repeat (first | (with_reducible first | exact HB.out | apply Zab | apply Zaa | apply Zad) | exact HB.out))) : w.heap.size ≤ gb247)); clear HB; have HB := n0_; have BK247 := n1_; have GE247 := n3_; clear n0_ n1_ n3_; clear hb hbox hg; obtain ⟨hcz3_0, hcz3_1, hcz3_2, hcz3_3, hcz3_4, hfz3_0, hfz3_1, hfz3_2, hfz3_3, hfz3_4⟩ := Zde BK247.out))
 go_loopg [3, 9] k (fun kq v3 v9 w' => ∃ (x3_1 : List (List (S48))) (x9_1 : Int), v9 = .int .i64 x9_1 ∧ Za (Zb3.l0 kq x3_1 l0_0 (l0_0.length : Int) x9_1 = some r) ∧ Za (kq ≤ k) ∧ Za (Kd.S (Kd.slice 48 k48) 37 w' w.heap.size (fun _ => True) v3 x3_1) ∧ Za (w'.heap[gb247]? = some (.cells #[(.slice A0_0 l0_0.length c0_0), (.slice A0_1 l0_1.length c0_1), .int .i64 a0_2, (.slice A0_3 l0_3.length c0_3), (.slice A0_4 l0_4.length c0_4)] 28 (0, 0))) ∧ Za (Below w.heap.size w w'))
 case atStart => exact ⟨(([] : List (List (S48)))), (0), (by first | rfl | (simp; done) | (simp [*]; done)), H', ⟨Nat.le_refl _⟩, ⟨by first | exact Kd.S_nil _ _ _ _ _ | exact Kd.N_nil _ _ _ _ _ | exact Kd.Ze _ _ _ _ _ | exact Kd.Q_nil _ _ _ _ _ | exact Kd.Zfa _ _ _ _ _⟩, ⟨by (with_reducible repeat (first | refine Zag ?_ _ | refine Zai ?_ | refine Zae ?_ _)); exact BK247.out⟩, ⟨by repeat (first | (with_reducible first | exact HB.out | apply Zab | apply Zaa | apply Zad | refine Zac ?_ GE247.out) | exact HB.out)⟩⟩
 case round =>
  clear H'
  try clear c2
  try clear p2
  try clear hcz3_0
  try clear hcz3_1
  try clear hcz3_2
  try clear hcz3_3
  try clear hcz3_4
  try clear hfz3_0
  try clear hfz3_1
  try clear hfz3_2
  try clear hfz3_3
  try clear hfz3_4
  obtain ⟨x3_1, x9_1, rfl, HA, HK1, HO_3, BK247, HB⟩ := hrel
  cases gk with
  | zero => exact absurd HA.out (by simp [Zb3.l0])
  | succ k1 =>
   have H := HA.out
   clear HA
   simp only [Zb3.l0] at H
   by_cases c4 : x9_1 < (l0_0.length : Int)
   rotate_left
   ·rw [if_neg c4] at H
    have c4b0 : decide (x9_1 < (l0_0.length : Int)) = false := decide_eq_false c4
    clear c4
    obtain rfl := Option.some.inj H
    go_wp2
    go_ret
    exact ⟨_, by first | rfl | (simp [Zar, Zas] <;> rfl) | (simp [*, Zar, Zas] <;> rfl), by (with_reducible repeat (first | apply Kd.Zbj | apply Kd.Zbk | apply Kd.Zbr)); exact HO_3.out, by repeat (first | (with_reducible first | exact HB.out | apply Zab | apply Zaa | apply Zad | refine Zac ?_ GE247.out) | exact HB.out)⟩
   rw [if_pos c4] at H
   have c4b0 : decide (x9_1 < (l0_0.length : Int)) = true := decide_eq_true c4
   clear c4
   by_cases c5 : 0 ≤ x9_1
   rotate_left
   ·rw [if_neg c5] at H
    exact absurd H (by simp)
   rw [if_pos c5] at H
   have c5b0 : decide (0 ≤ x9_1) = true := decide_eq_true c5
   clear c5
   by_cases c6 : x9_1 < (l0_0.length : Int)
   rotate_left
   ·rw [if_neg c6] at H
    exact absurd H (by simp)
   rw [if_pos c6] at H
   have c6b0 : decide (x9_1 < (l0_0.length : Int)) = true := decide_eq_true c6
   clear c6
   replace H := Option.bind_eq_some_iff.mp H
   obtain ⟨t250, A70, H⟩ := H
   replace H : (if x3_1.length < 5864062014805 then (Zb3.l0 k1 (x3_1 ++ [t250]) l0_0 (l0_0.length : Int) (wrap64 (x9_1 + 1))) else (none)) = some r := H
   have A7 := Za.mk A70
   clear A70
   by_cases c8 : x3_1.length < 5864062014805
   rotate_left
   ·rw [if_neg c8] at H
    exact absurd H (by simp)
   rw [if_pos c8] at H
   have LMc8 := Za.mk c8
   clear c8
   obtain ⟨y253, hy253⟩ : ∃ y_ : List (List (S48)), y_ = (x3_1 ++ [t250]) := ⟨_, rfl⟩
   replace H : (Zb3.l0 k1 y253 l0_0 (l0_0.length : Int) (wrap64 (x9_1 + 1))) = some r := by first | (rw [hy253]; with_reducible exact H) | (have H2_ := (Option.bind_some _ _).symm.trans H; rw [hy253]; with_reducible exact H2_) | (have H2_ := (Option.bind_some _ _).symm.trans H; with_reducible exact H2_) | with_reducible exact H | (rw [hy253]; exact H) | exact H
   have Ny253 := Za.mk hy253
   clear hy253
   have H' := Za.mk H
   clear H
   have p248 : 0 ≤ (x9_1 : Int) := of_decide_eq_true (by first | (with_reducible assumption) | assumption)
   have q248 : x9_1 < (l0_0.length : Int) := of_decide_eq_true (by first | (with_reducible assumption) | assumption)
   obtain ⟨ad248, A248_1, c248_1, e248, hx248_0, hx248_1, hl248_1, hi248_1⟩ := Zg HR0_0.out x9_1 p248 q248
   cases e248
   replace hx248_0 := (HB.out.cell (World.block_lt_of_cell? w _ hx248_0)).trans hx248_0
   replace hx248_1 := (HB.out.cell (World.block_lt_of_cell? w _ hx248_1)).trans hx248_1
   have HR248_1 := Za.mk hi248_1
   have HC248_1 := Za.mk hl248_1
   clear hi248_1 hl248_1
   replace p248 := eq_true p248
   replace q248 := eq_true q248
   go_wp2_with (first | ((with_reducible refine Zax (N := 5) rfl ?_); refine Za7 ?hg (N := 5) ?hd (cs := #[.string (⟨#[]⟩ : ByteArray), .slice none 0 0]) (t := 50) ?hr ?_; (case hd => rfl); (case hg => rfl); (case hr => first | (go_simp; done) | (go_simp; rfl)); intro gb249 hg w9 hbox hb; have n0_ := Za.mk (Kd.Zcw (by (with_reducible repeat (first | apply Kd.Zbj | apply Kd.Zbk | apply Kd.Zbr)); exact HO_3.out) hb); have n1_ := Za.mk (Zap (g := gb247) (o := .cells #[.slice (some ad248) l0_0.length c0_0, .slice A0_1 l0_1.length c0_1, .int .i64 a0_2, .slice A0_3 l0_3.length c0_3, .slice A0_4 l0_4.length c0_4] 28 (0, 0)) (by (with_reducible repeat (first | refine Zag ?_ _ | refine Zai ?_ | refine Zae ?_ _)); exact BK247.out) hb); have n2_ := Za.mk (Zaf (by repeat (first | (with_reducible first | exact HB.out | apply Zab | apply Zaa | apply Zad | refine Zac ?_ GE247.out) | exact HB.out)) hb); have n3_ := Za.mk (hbox); have n5_ := Za.mk ((by rw [hg]; exact (Zan (by repeat (first | (with_reducible first | exact HB.out | apply Zab | apply Zaa | apply Zad | refine Zac ?_ GE247.out) | exact HB.out))) : w.heap.size ≤ gb249)); have n6_ := Za.mk ((by rw [hg]; exact Nat.ne_of_lt (Zbt (g := gb247) (o := .cells #[.slice (some ad248) l0_0.length c0_0, .slice A0_1 l0_1.length c0_1, .int .i64 a0_2, .slice A0_3 l0_3.length c0_3, .slice A0_4 l0_4.length c0_4] 28 (0, 0)) (by (with_reducible repeat (first | refine Zag ?_ _ | refine Zai ?_ | refine Zae ?_ _)); exact BK247.out)) : gb247 ≠ gb249)); have n7_ := Za.mk ((by rw [hg]; exact Nat.ne_of_gt (Zbt (g := gb247) (o := .cells #[.slice (some ad248) l0_0.length c0_0, .slice A0_1 l0_1.length c0_1, .int .i64 a0_2, .slice A0_3 l0_3.length c0_3, .slice A0_4 l0_4.length c0_4] 28 (0, 0)) (by (with_reducible repeat (first | refine Zag ?_ _ | refine Zai ?_ | refine Zae ?_ _)); exact BK247.out)) : gb249 ≠ gb247)); clear HO_3; clear BK247; clear HB; have HO_3 := n0_; have BK247 := n1_; have HB := n2_; have BK249 := n3_; have GE249 := n5_; have NB247_249 := n6_; have NB249_247 := n7_; clear n0_ n1_ n2_ n3_ n5_ n6_ n7_; clear hb hbox hg; have hnb10 := NB249_247.out; have hnc10 := NB247_249.out; obtain ⟨hcz11_0, hcz11_1, hfz11_0, hfz11_1⟩ := Zd8 BK249.out) | ((with_reducible refine Zay (f := 48) rfl ?_); refine Zbu (some 16) rfl rfl Try.func48 (by kernel_rfl) rfl #[.slice A248_1 ((Za4 l0_0 x9_1).f1).length c248_1] rfl (by (try simp only [List.map_toArray, List.map_cons, List.map_nil]); first | done | rfl | (simp only [List.length_drop, List.length_take]; rfl)) ?_; (with_reducible refine (cloneR.calls _ _ ((Za4 l0_0 x9_1).f1) t250 _ ?side1 ?side2 A7.out).mono ?_); (case side1 => exact Kd.Zal HR248_1.out (by repeat (first | (with_reducible first | exact HB.out | apply Zab | apply Zaa | apply Zad | refine Zac ?_ GE247.out | refine Zac ?_ GE249.out) | exact HB.out))); (case side2 => exact HC248_1.out); rintro e w12 ⟨v251, rfl, ho0, hb⟩; refine ⟨_, rfl, ?_⟩; have n0_ := Za.mk (Kd.Zeo (by (with_reducible repeat (first | apply Kd.Zbj | apply Kd.Zbk | apply Kd.Zbr)); exact (Kd.Zcj (Kd.Zbv (p := ⟨gb249, 1, none⟩) (Kd.Zbv (p := ⟨gb249, 0, none⟩) (Kd.Zcm HO_3.out BK249.out (by decide)) (fun _ hk => hk.2) (.string ((Za4 l0_0 x9_1).f0))) (fun _ hk => hk.2) (.slice A248_1 ((Za4 l0_0 x9_1).f1).length c248_1)) (fun _ h_ => h_.1))) (Kd.Zb4 ho0) hb); have n1_ := Za.mk (Kd.Zbp ho0 (Zan (by repeat (first | (with_reducible first | exact HB.out | apply Zab | apply Zaa | apply Zad | refine Zac ?_ GE247.out | refine Zac ?_ GE249.out) | exact HB.out)))); have n2_ := Za.mk (Zap (g := gb247) (o := .cells #[.slice (some ad248) l0_0.length c0_0, .slice A0_1 l0_1.length c0_1, .int .i64 a0_2, .slice A0_3 l0_3.length c0_3, .slice A0_4 l0_4.length c0_4] 28 (0, 0)) (by (with_reducible repeat (first | refine Zag ?_ _ | refine Zai ?_ | refine Zae ?_ _)); refine Zav ?_ NB247_249.out _; (with_reducible repeat (first | refine Zag ?_ _ | refine Zai ?_ | refine Zae ?_ _)); refine Zav ?_ NB247_249.out _; (with_reducible repeat (first | refine Zag ?_ _ | refine Zai ?_ | refine Zae ?_ _)); exact BK247.out) hb); have n4_ := Za.mk (Zaf (by repeat (first | (with_reducible first | exact HB.out | apply Zab | apply Zaa | apply Zad | refine Zac ?_ GE247.out | refine Zac ?_ GE249.out) | exact HB.out)) hb); clear HO_3; clear BK247; clear BK249; clear HB; have HO_3 := n0_; have HO252 := n1_; have BK247 := n2_; have HB := n4_; clear n0_ n1_ n2_ n4_; (try clear hb); (try clear hb2); (try clear hk); (try clear hi); (try clear ho0); obtain ⟨Ao14, co14, eo14⟩ := Kd.Za9 HO252.out; subst eo14) | ((with_reducible refine Zb7 (b := .append) (xs := #[.tmp 13, .tmp 17]) rfl ?_); at_builtin; refine Kd.S_append (Kd.slice 48 k48) (w0 := w) w.heap.size rfl (.tmp 13) (.tmp 17) 33 37 (.slice none 0 0) 24 rfl Try.underlying33 info37 rfl (by decide) (by omega) u3 x3_1 t250 [.slice Ao14 t250.length co14] (fun _ => True) (fun k_ => some k_ = (.slice Ao14 t250.length co14 : Value).ownBlock) rfl rfl ?aP (fun k_ hk_ => ((Kd.Za2 (ok' := fun k_ => ((fun _ => True)) k_ ∧ some k_ ≠ (u3 : Value).ownBlock) (Kd.Zc2 (HO252.out) (Kd.Zd HO_3.out) (by decide)) (fun k_ hk => ⟨trivial, hk.2⟩))).1 k_ hk_.symm) ?aF ?aO ?aB ?aS ?aL ?_; (case aP => exact Kd.M_row (Kd.Za2 (Kd.Zdd rfl (Kd.Za2 (ok' := fun k_ => ((fun _ => True)) k_ ∧ some k_ ≠ (u3 : Value).ownBlock) (Kd.Zc2 (HO252.out) (Kd.Zd HO_3.out) (by decide)) (fun k_ hk => ⟨trivial, hk.2⟩))) (fun _ h_ => h_))); (case aB => exact (by repeat (first | (with_reducible first | exact HB.out | apply Zab | apply Zaa | apply Zad | refine Zac ?_ GE247.out | refine Zac ?_ GE249.out) | exact HB.out))); (case aF => exact (fun _ _ => trivial)); (case aO => exact (by (with_reducible repeat (first | apply Kd.Zbj | apply Kd.Zbk | apply Kd.Zbr)); exact Kd.Zcj HO_3.out (fun k_ hk => ⟨trivial, fun e_ => hk.2 e_⟩))); (case aS => exact (Zan (by repeat (first | (with_reducible first | exact HB.out | apply Zab | apply Zaa | apply Zad | refine Zac ?_ GE247.out | refine Zac ?_ GE249.out) | exact HB.out)))); (case aL => have := LMc8.out; omega); intro v254 w13 ho hb hg hat; rw [← Ny253.out] at ho; have n0_ := Za.mk (Zbl (g := gb247) (o := .cells #[.slice (some ad248) l0_0.length c0_0, .slice A0_1 l0_1.length c0_1, .int .i64 a0_2, .slice A0_3 l0_3.length c0_3, .slice A0_4 l0_4.length c0_4] 28 (0, 0)) (by (with_reducible repeat (first | refine Zag ?_ _ | refine Zai ?_ | refine Zae ?_ _)); exact BK247.out) hg (Kd.S_ne HO_3.out BK247.out (by decide))); have n2_ := Za.mk (hb); have n3_ := Za.mk (ho); clear BK247; clear HB; clear HO_3; clear HO252; have BK247 := n0_; have HB := n2_; have HO255 := n3_; clear n0_ n2_ n3_; clear ho hb hg hat))
   go_roundg k1
   case measure => have := HK1.out; omega
   case rel => exact ⟨(y253), (wrap64 (x9_1 + 1)), (by first | rfl | (simp; done) | (simp [*]; done)), H', ⟨by have := HK1.out; omega⟩, ⟨by (with_reducible repeat (first | apply Kd.Zbj | apply Kd.Zbk | apply Kd.Zbr)); exact HO255.out⟩, ⟨by (with_reducible repeat (first | refine Zag ?_ _ | refine Zai ?_ | refine Zae ?_ _)); exact BK247.out⟩, ⟨by repeat (first | (with_reducible first | exact HB.out | apply Zab | apply Zaa | apply Zad | refine Zac ?_ GE247.out | refine Zac ?_ GE249.out) | exact HB.out)⟩⟩
def Zbq.f (a0_0 : Int) (l0_1 : List Int) (l0_2 : List Int) (a0_3 : Int) (a0_4 : Int) (l0_5 : List (List Int)) (a0_6 : Int) : Option ((List (S50)) × (List (S31)) × Int × List Int × List Int) := some ((([(⟨(⟨#[120]⟩ : ByteArray), (([(⟨0, 3⟩ : S48)] : List (S48)))⟩ : S50)] : List (S50))), (([(⟨a0_0, l0_1, l0_2, a0_3, a0_4, l0_5, a0_6⟩ : S31)] : List (S31))), 0, ([] : List Int), ([] : List Int))
set_option maxHeartbeats 8000000 in
set_option maxRecDepth 100000 in
theorem Zbq.calls (a0_0 : Int) (P0_1_ : Nat → Prop) (A0_1 : Option Addr) (c0_1 : Nat) (l0_1 : List Int) (P0_2_ : Nat → Prop) (A0_2 : Option Addr) (c0_2 : Nat) (l0_2 : List Int) (a0_3 : Int) (a0_4 : Int) (P0_5_ : Nat → Prop) (A0_5 : Option Addr) (c0_5 : Nat) (l0_5 : List (List Int)) (a0_6 : Int) (r1 : List (S50)) (r2 : List (S31)) (r3 : Int) (r4 : List Int) (r5 : List Int) (w : World) (hs0_1 : Kd.V (Kd.int .i64) 3 w w.heap.size (fun k_ => P0_1_ k_) (.slice A0_1 l0_1.length c0_1) l0_1) (hs0_2 : Kd.V (Kd.int .i64) 3 w w.heap.size (fun k_ => P0_2_ k_) (.slice A0_2 l0_2.length c0_2) l0_2) (hs0_5 : Kd.V (Kd.slice 3 (Kd.int .i64)) 24 w w.heap.size (fun k_ => P0_5_ k_) (.slice A0_5 l0_5.length c0_5) l0_5) (h : Zbq.f a0_0 l0_1 l0_2 a0_3 a0_4 l0_5 a0_6 = some (r1, r2, r3, r4, r5)) :
  Calls Try.prog 37 #[.agg #[.int .i64 a0_0, .slice A0_1 l0_1.length c0_1, .slice A0_2 l0_2.length c0_2, .int .i64 a0_3, .int .i64 a0_4, .slice A0_5 l0_5.length c0_5, .int .i64 a0_6]] w fun e w' => ∃ v0_ v1_ v3_ v4_ : Value, e = .returned (.agg #[v0_, v1_, .int .i64 r3, v3_, v4_]) ∧ Kd.N k50 50 w' w.heap.size (fun k_ => ((P0_1_ k_ ∨ P0_2_ k_ ∨ P0_5_ k_) ∨ w.heap.size ≤ k_) ∧ some k_ ≠ (v1_ : Value).ownBlock ∧ some k_ ≠ (v3_ : Value).ownBlock ∧ some k_ ≠ (v4_ : Value).ownBlock) v0_ r1 ∧ Kd.N k31 31 w' w.heap.size (fun k_ => ((P0_1_ k_ ∨ P0_2_ k_ ∨ P0_5_ k_) ∨ w.heap.size ≤ k_) ∧ some k_ ≠ (v0_ : Value).ownBlock ∧ some k_ ≠ (v3_ : Value).ownBlock ∧ some k_ ≠ (v4_ : Value).ownBlock) v1_ r2 ∧ Kd.R (Kd.int .i64) 3 w' w.heap.size (fun k_ => (w.heap.size ≤ k_) ∧ some k_ ≠ (v4_ : Value).ownBlock) v3_ r4 ∧ Kd.R (Kd.int .i64) 3 w' w.heap.size (fun k_ => (w.heap.size ≤ k_) ∧ some k_ ≠ (v3_ : Value).ownBlock) v4_ r5 ∧ Below w.heap.size w w' := by
 have hu31 := Try.underlying31
 have hu28 := Try.underlying28
 have hu48 := Try.underlying48
 have hu50 := Try.underlying50
 have HO0_1 := Za.mk (show Kd.V (Kd.int .i64) 3 w w.heap.size (fun k_ => ((P0_1_ k_ ∨ P0_2_ k_ ∨ P0_5_ k_) ∨ w.heap.size ≤ k_)) (.slice A0_1 l0_1.length c0_1) l0_1 from Kd.Zdu hs0_1 (fun k_ hk => .inl (.inl hk)))
 have HO0_2 := Za.mk (show Kd.V (Kd.int .i64) 3 w w.heap.size (fun k_ => ((P0_1_ k_ ∨ P0_2_ k_ ∨ P0_5_ k_) ∨ w.heap.size ≤ k_)) (.slice A0_2 l0_2.length c0_2) l0_2 from Kd.Zdu hs0_2 (fun k_ hk => .inl (.inr (.inl hk))))
 have HO0_5 := Za.mk (show Kd.V (Kd.slice 3 (Kd.int .i64)) 24 w w.heap.size (fun k_ => ((P0_1_ k_ ∨ P0_2_ k_ ∨ P0_5_ k_) ∨ w.heap.size ≤ k_)) (.slice A0_5 l0_5.length c0_5) l0_5 from Kd.Zdu hs0_5 (fun k_ hk => .inl (.inr (.inr hk))))
 have HB := Za.mk (Below.refl w.heap.size w)
 have H : (some ((([(⟨(⟨#[120]⟩ : ByteArray), (([(⟨0, 3⟩ : S48)] : List (S48)))⟩ : S50)] : List (S50))), (([(⟨a0_0, l0_1, l0_2, a0_3, a0_4, l0_5, a0_6⟩ : S31)] : List (S31))), 0, ([] : List Int), ([] : List Int))) = some (r1, r2, r3, r4, r5) := h
 clear h
 obtain ⟨y338, hy338⟩ : ∃ y_ : List (S48), y_ = (([(⟨0, 3⟩ : S48)] : List (S48))) := ⟨_, rfl⟩
 replace H : (some ((([(⟨(⟨#[120]⟩ : ByteArray), y338⟩ : S50)] : List (S50))), (([(⟨a0_0, l0_1, l0_2, a0_3, a0_4, l0_5, a0_6⟩ : S31)] : List (S31))), 0, ([] : List Int), ([] : List Int))) = some (r1, r2, r3, r4, r5) := by first | (rw [hy338]; with_reducible exact H) | (have H2_ := (Option.bind_some _ _).symm.trans H; rw [hy338]; with_reducible exact H2_) | (have H2_ := (Option.bind_some _ _).symm.trans H; with_reducible exact H2_) | with_reducible exact H | (rw [hy338]; exact H) | exact H
 have Ny338 := Za.mk hy338
 clear hy338
 obtain ⟨y341, hy341⟩ : ∃ y_ : List (S50), y_ = (([(⟨(⟨#[120]⟩ : ByteArray), y338⟩ : S50)] : List (S50))) := ⟨_, rfl⟩
 replace H : (some (y341, (([(⟨a0_0, l0_1, l0_2, a0_3, a0_4, l0_5, a0_6⟩ : S31)] : List (S31))), 0, ([] : List Int), ([] : List Int))) = some (r1, r2, r3, r4, r5) := by first | (rw [hy341]; with_reducible exact H) | (have H2_ := (Option.bind_some _ _).symm.trans H; rw [hy341]; with_reducible exact H2_) | (have H2_ := (Option.bind_some _ _).symm.trans H; with_reducible exact H2_) | with_reducible exact H | (rw [hy341]; exact H) | exact H
 have Ny341 := Za.mk hy341
 clear hy341
 obtain ⟨y344, hy344⟩ : ∃ y_ : List (S31), y_ = (([(⟨a0_0, l0_1, l0_2, a0_3, a0_4, l0_5, a0_6⟩ : S31)] : List (S31))) := ⟨_, rfl⟩
 replace H : (some (y341, y344, 0, ([] : List Int), ([] : List Int))) = some (r1, r2, r3, r4, r5) := by first | (rw [hy344]; with_reducible exact H) | (have H2_ := (Option.bind_some _ _).symm.trans H; rw [hy344]; with_reducible exact H2_) | (have H2_ := (Option.bind_some _ _).symm.trans H; with_reducible exact H2_) | with_reducible exact H | (rw [hy344]; exact H) | exact H
 have Ny344 := Za.mk hy344
 clear hy344
 simp only [Option.some.injEq, Prod.mk.injEq] at H
 obtain ⟨rfl, rfl, rfl, rfl, rfl⟩ := H
 go_enter Try.func37, Try.ntmps37
 go_wp2_with (first | ((with_reducible refine Zax (N := 1) rfl ?_); refine Za7 ?hg (N := 1) ?hd (cs := #[.int .i64 a0_0, .slice A0_1 l0_1.length c0_1, .slice A0_2 l0_2.length c0_2, .int .i64 a0_3, .int .i64 a0_4, .slice A0_5 l0_5.length c0_5, .int .i64 a0_6]) (t := 31) ?hr ?_; (case hd => rfl); (case hg => rfl); (case hr => first | (go_simp; done) | (go_simp; rfl)); intro gb336 hg w2 hbox hb; have n0_ := Za.mk (Kd.Zej (Kd.Zec (mvV HO0_1.out) gb336 (Nat.le_of_eq hg.symm)) hb); have n1_ := Za.mk (Kd.Zej (Kd.Zec (mvV HO0_2.out) gb336 (Nat.le_of_eq hg.symm)) hb); have n2_ := Za.mk (Kd.Zej (Kd.Zec (mvV HO0_5.out) gb336 (Nat.le_of_eq hg.symm)) hb); have n3_ := Za.mk (Zaf (by repeat (first | (with_reducible first | exact HB.out | apply Zab | apply Zaa | apply Zad) | exact HB.out)) hb); have n4_ := Za.mk (hbox); have n6_ := Za.mk ((by rw [hg]; exact (Zan (by repeat (first | (with_reducible first | exact HB.out | apply Zab | apply Zaa | apply Zad) | exact HB.out))) : w.heap.size ≤ gb336)); clear HO0_1; clear HO0_2; clear HO0_5; clear HB; have HO0_1 := n0_; have HO0_2 := n1_; have HO0_5 := n2_; have HB := n3_; have BK336 := n4_; have GE336 := n6_; clear n0_ n1_ n2_ n3_ n4_ n6_; clear hb hbox hg) | ((with_reducible refine Zax (N := 2) rfl ?_); refine Za7 ?hg (N := 2) ?hd (cs := #[.slice none 0 0, .slice none 0 0, .int .i64 0, .slice none 0 0, .slice none 0 0]) (t := 28) ?hr ?_; (case hd => rfl); (case hg => rfl); (case hr => first | (go_simp; done) | (go_simp; rfl)); intro gb337 hg w3 hbox hb; have n0_ := Za.mk (Kd.Zej (Kd.Zec (mvV HO0_1.out) gb337 (Nat.le_of_eq hg.symm)) hb); have n1_ := Za.mk (Kd.Zej (Kd.Zec (mvV HO0_2.out) gb337 (Nat.le_of_eq hg.symm)) hb); have n2_ := Za.mk (Kd.Zej (Kd.Zec (mvV HO0_5.out) gb337 (Nat.le_of_eq hg.symm)) hb); have n3_ := Za.mk (Zap (g := gb336) (o := .cells #[.int .i64 a0_0, .slice A0_1 l0_1.length c0_1, .slice A0_2 l0_2.length c0_2, .int .i64 a0_3, .int .i64 a0_4, .slice A0_5 l0_5.length c0_5, .int .i64 a0_6] 31 (0, 0)) (mvK BK336.out) hb); have n4_ := Za.mk (Zaf (by repeat (first | (with_reducible first | exact HB.out | apply Zab | apply Zaa | apply Zad | refine Zac ?_ GE336.out) | exact HB.out)) hb); have n5_ := Za.mk (hbox); have n7_ := Za.mk ((by rw [hg]; exact (Zan (by repeat (first | (with_reducible first | exact HB.out | apply Zab | apply Zaa | apply Zad | refine Zac ?_ GE336.out) | exact HB.out))) : w.heap.size ≤ gb337)); have n8_ := Za.mk ((by rw [hg]; exact Nat.ne_of_lt (Zbt (g := gb336) (o := .cells #[.int .i64 a0_0, .slice A0_1 l0_1.length c0_1, .slice A0_2 l0_2.length c0_2, .int .i64 a0_3, .int .i64 a0_4, .slice A0_5 l0_5.length c0_5, .int .i64 a0_6] 31 (0, 0)) (mvK BK336.out)) : gb336 ≠ gb337)); have n9_ := Za.mk ((by rw [hg]; exact Nat.ne_of_gt (Zbt (g := gb336) (o := .cells #[.int .i64 a0_0, .slice A0_1 l0_1.length c0_1, .slice A0_2 l0_2.length c0_2, .int .i64 a0_3, .int .i64 a0_4, .slice A0_5 l0_5.length c0_5, .int .i64 a0_6] 31 (0, 0)) (mvK BK336.out)) : gb337 ≠ gb336)); clear HO0_1; clear HO0_2; clear HO0_5; clear BK336; clear HB; have HO0_1 := n0_; have HO0_2 := n1_; have HO0_5 := n2_; have BK336 := n3_; have HB := n4_; have BK337 := n5_; have GE337 := n7_; have NB336_337 := n8_; have NB337_336 := n9_; clear n0_ n1_ n2_ n3_ n4_ n5_ n7_ n8_ n9_; clear hb hbox hg) | ((with_reducible refine Zax (N := 4) rfl ?_); refine Kd.Zc9 k48 _ 48 ?hg (N := 4) ?hd (xs := ([(⟨0, 3⟩ : S48)] : List (S48))) (inner := [.int .i64 0, .int .i64 3]) (ok := fun _ => True) (okp := fun _ => True) ?hr ?hp (fun _ hk => hk) trivial (Below.refl _ _) (Nat.le_refl _) (by simp) ?_; (case hd => rfl); (case hg => rfl); (case hr => first | (go_simp; done) | (go_simp; rfl)); (case hp => exact (Reps.c2 (show Kd.M k48 _ _ _ (⟨0, 3⟩ : S48) [.int .i64 0, .int .i64 3] from (Zfo _ _ _ (⟨0, 3⟩ : S48) )) (Reps.none _ _))); intro v339 w4 ho5 hb hg_ hnew_; clear hg_ hnew_; (first | rw [← Ny338.out] at ho5 | (simp only [Int.reduceToNat] at ho5; rw [← Ny338.out] at ho5)); have n0_ := Za.mk (Kd.Zeb (mvV HO0_1.out) (Kd.Zb4 ho5) hb); have n1_ := Za.mk (Kd.Zeb (mvV HO0_2.out) (Kd.Zb4 ho5) hb); have n2_ := Za.mk (Kd.Zeb (mvV HO0_5.out) (Kd.Zb4 ho5) hb); have n3_ := Za.mk (Kd.Zbp (Kd.R_newM (M := fun k_ => (w.heap.size ≤ k_)) ho5 (Zan (by repeat (first | (with_reducible first | exact HB.out | apply Zab | apply Zaa | apply Zad | refine Zac ?_ GE336.out | refine Zac ?_ GE337.out) | exact HB.out))) (fun k_ h_ => h_)) (Zan (by repeat (first | (with_reducible first | exact HB.out | apply Zab | apply Zaa | apply Zad | refine Zac ?_ GE336.out | refine Zac ?_ GE337.out) | exact HB.out)))); have n4_ := Za.mk (Zap (g := gb336) (o := .cells #[.int .i64 a0_0, .slice A0_1 l0_1.length c0_1, .slice A0_2 l0_2.length c0_2, .int .i64 a0_3, .int .i64 a0_4, .slice A0_5 l0_5.length c0_5, .int .i64 a0_6] 31 (0, 0)) (mvK BK336.out) hb); have n5_ := Za.mk (Zap (g := gb337) (o := .cells #[.slice none 0 0, .slice none 0 0, .int .i64 0, .slice none 0 0, .slice none 0 0] 28 (0, 0)) (mvK BK337.out) hb); have n6_ := Za.mk (Zaf (by repeat (first | (with_reducible first | exact HB.out | apply Zab | apply Zaa | apply Zad | refine Zac ?_ GE336.out | refine Zac ?_ GE337.out) | exact HB.out)) hb); clear HO0_1; clear HO0_2; clear HO0_5; clear BK336; clear BK337; clear HB; have HO0_1 := n0_; have HO0_2 := n1_; have HO0_5 := n2_; have HO340 := n3_; have BK336 := n4_; have BK337 := n5_; have HB := n6_; clear n0_ n1_ n2_ n3_ n4_ n5_ n6_; clear hb ho5; obtain ⟨Ao6, co6, eo6⟩ := Kd.Za9 HO340.out; subst eo6) | ((with_reducible refine Zax (N := 6) rfl ?_); refine Kd.N_lit k50 _ 50 ?hg (N' := 6) ?hd (xs := ([(⟨(⟨#[120]⟩ : ByteArray), y338⟩ : S50)] : List (S50))) (inner := [.string (⟨#[120]⟩ : ByteArray), .slice Ao6 y338.length co6]) (ok := (fun k_ => ((P0_1_ k_ ∨ P0_2_ k_ ∨ P0_5_ k_) ∨ w.heap.size ≤ k_) ∧ k_ ≠ gb336 ∧ k_ ≠ gb337)) (okp := (fun k_ => ((P0_1_ k_ ∨ P0_2_ k_ ∨ P0_5_ k_) ∨ w.heap.size ≤ k_) ∧ k_ ≠ gb336 ∧ k_ ≠ gb337)) ?hr ?hp (fun _ hk => hk) ((show ∀ k_, w4.heap.size ≤ k_ → (fun k_ => ((P0_1_ k_ ∨ P0_2_ k_ ∨ P0_5_ k_) ∨ w.heap.size ≤ k_) ∧ k_ ≠ gb336 ∧ k_ ≠ gb337) k_ from fun k_ hk => ⟨(.inr (Nat.le_trans (Zan (by repeat (first | (with_reducible first | exact HB.out | apply Zab | apply Zaa | apply Zad | refine Zac ?_ GE336.out | refine Zac ?_ GE337.out) | exact HB.out))) hk)), Kd.freshB (g := gb336) (o := .cells #[.int .i64 a0_0, .slice A0_1 l0_1.length c0_1, .slice A0_2 l0_2.length c0_2, .int .i64 a0_3, .int .i64 a0_4, .slice A0_5 l0_5.length c0_5, .int .i64 a0_6] 31 (0, 0)) (mvK BK336.out) k_ hk, Kd.freshB (g := gb337) (o := .cells #[.slice none 0 0, .slice none 0 0, .int .i64 0, .slice none 0 0, .slice none 0 0] 28 (0, 0)) (mvK BK337.out) k_ hk⟩) _ (Nat.le_refl _)) (Below.refl _ _) (Nat.le_refl _) (by simp) ?_; (case hd => rfl); (case hg => rfl); (case hr => first | (go_simp; done) | (go_simp; rfl)); (case hp => exact (Reps.c2 (show Kd.FK k50 _ _ (⟨(⟨#[120]⟩ : ByteArray), y338⟩ : S50) [.string (⟨#[120]⟩ : ByteArray), .slice Ao6 y338.length co6] from (k50_mkF _ _ (⟨(⟨#[120]⟩ : ByteArray), y338⟩ : S50) (Kd.Za0 (Kd.Za2 (ok' := (fun k_ => ((P0_1_ k_ ∨ P0_2_ k_ ∨ P0_5_ k_) ∨ w.heap.size ≤ k_) ∧ k_ ≠ gb336 ∧ k_ ≠ gb337)) (Kd.Zbc (Kd.Zbc (HO340.out) BK336.out (by decide)) BK337.out (by decide)) (fun k_ hk => ⟨(.inr (hk.1.1.1)), ⟨hk.1.2, hk.2⟩⟩))).2.1 (Kd.R_F (Kd.Za2 (ok' := (fun k_ => ((P0_1_ k_ ∨ P0_2_ k_ ∨ P0_5_ k_) ∨ w.heap.size ≤ k_) ∧ k_ ≠ gb336 ∧ k_ ≠ gb337)) (Kd.Zbc (Kd.Zbc (HO340.out) BK336.out (by decide)) BK337.out (by decide)) (fun k_ hk => ⟨(.inr (hk.1.1.1)), ⟨hk.1.2, hk.2⟩⟩))))) (Reps.none _ _))); intro v342 w7 ho8 hb hg_ hnew_; clear hg_ hnew_; (first | rw [← Ny341.out] at ho8 | (simp only [Int.reduceToNat] at ho8; rw [← Ny341.out] at ho8)); have n0_ := Za.mk (Kd.Zeb (mvV HO0_1.out) (Kd.N_base ho8) hb); have n1_ := Za.mk (Kd.Zeb (mvV HO0_2.out) (Kd.N_base ho8) hb); have n2_ := Za.mk (Kd.Zeb (mvV HO0_5.out) (Kd.N_base ho8) hb); have n3_ := Za.mk (Kd.N_lower ho8 (Zan (by repeat (first | (with_reducible first | exact HB.out | apply Zab | apply Zaa | apply Zad | refine Zac ?_ GE336.out | refine Zac ?_ GE337.out) | exact HB.out)))); have n4_ := Za.mk (Zap (g := gb336) (o := .cells #[.int .i64 a0_0, .slice A0_1 l0_1.length c0_1, .slice A0_2 l0_2.length c0_2, .int .i64 a0_3, .int .i64 a0_4, .slice A0_5 l0_5.length c0_5, .int .i64 a0_6] 31 (0, 0)) (mvK BK336.out) hb); have n5_ := Za.mk (Zap (g := gb337) (o := .cells #[.slice none 0 0, .slice none 0 0, .int .i64 0, .slice none 0 0, .slice none 0 0] 28 (0, 0)) (mvK BK337.out) hb); have n6_ := Za.mk (Zaf (by repeat (first | (with_reducible first | exact HB.out | apply Zab | apply Zaa | apply Zad | refine Zac ?_ GE336.out | refine Zac ?_ GE337.out) | exact HB.out)) hb); clear HO0_1; clear HO0_2; clear HO0_5; clear BK336; clear BK337; clear HB; clear HO340; have HO0_1 := n0_; have HO0_2 := n1_; have HO0_5 := n2_; have HO343 := n3_; have BK336 := n4_; have BK337 := n5_; have HB := n6_; clear n0_ n1_ n2_ n3_ n4_ n5_ n6_; clear hb ho8; have hnb9 := NB336_337.out; have hnc9 := NB337_336.out; obtain ⟨hcz10_0, hcz10_1, hcz10_2, hcz10_3, hcz10_4, hcz10_5, hcz10_6, hfz10_0, hfz10_1, hfz10_2, hfz10_3, hfz10_4, hfz10_5, hfz10_6⟩ := Zdl BK336.out) | ((with_reducible refine Zax (N := 8) rfl ?_); refine Kd.N_lit k31 _ 31 ?hg (N' := 8) ?hd (xs := ([(⟨a0_0, l0_1, l0_2, a0_3, a0_4, l0_5, a0_6⟩ : S31)] : List (S31))) (inner := [.int .i64 a0_0, .slice A0_1 l0_1.length c0_1, .slice A0_2 l0_2.length c0_2, .int .i64 a0_3, .int .i64 a0_4, .slice A0_5 l0_5.length c0_5, .int .i64 a0_6]) (ok := (fun k_ => ((P0_1_ k_ ∨ P0_2_ k_ ∨ P0_5_ k_) ∨ w.heap.size ≤ k_) ∧ some k_ ≠ (v342 : Value).ownBlock ∧ k_ ≠ gb336 ∧ k_ ≠ gb337)) (okp := (fun k_ => ((P0_1_ k_ ∨ P0_2_ k_ ∨ P0_5_ k_) ∨ w.heap.size ≤ k_) ∧ some k_ ≠ (v342 : Value).ownBlock ∧ k_ ≠ gb336 ∧ k_ ≠ gb337)) ?hr ?hp (fun _ hk => hk) ((show ∀ k_, w7.heap.size ≤ k_ → (fun k_ => ((P0_1_ k_ ∨ P0_2_ k_ ∨ P0_5_ k_) ∨ w.heap.size ≤ k_) ∧ some k_ ≠ (v342 : Value).ownBlock ∧ k_ ≠ gb336 ∧ k_ ≠ gb337) k_ from fun k_ hk => ⟨(.inr (Nat.le_trans (Zan (by repeat (first | (with_reducible first | exact HB.out | apply Zab | apply Zaa | apply Zad | refine Zac ?_ GE336.out | refine Zac ?_ GE337.out) | exact HB.out))) hk)), Kd.fresh' (Kd.N_lt (mvN HO343.out)) k_ hk, Kd.freshB (g := gb336) (o := .cells #[.int .i64 a0_0, .slice A0_1 l0_1.length c0_1, .slice A0_2 l0_2.length c0_2, .int .i64 a0_3, .int .i64 a0_4, .slice A0_5 l0_5.length c0_5, .int .i64 a0_6] 31 (0, 0)) (mvK BK336.out) k_ hk, Kd.freshB (g := gb337) (o := .cells #[.slice none 0 0, .slice none 0 0, .int .i64 0, .slice none 0 0, .slice none 0 0] 28 (0, 0)) (mvK BK337.out) k_ hk⟩) _ (Nat.le_refl _)) (Below.refl _ _) (Nat.le_refl _) (by simp) ?_; (case hd => rfl); (case hg => rfl); (case hr => first | (go_simp; done) | (go_simp; rfl)); (case hp => exact (Reps.c7 (show Kd.FK k31 _ _ (⟨a0_0, l0_1, l0_2, a0_3, a0_4, l0_5, a0_6⟩ : S31) [.int .i64 a0_0, .slice A0_1 l0_1.length c0_1, .slice A0_2 l0_2.length c0_2, .int .i64 a0_3, .int .i64 a0_4, .slice A0_5 l0_5.length c0_5, .int .i64 a0_6] from (k31_mkF _ _ (⟨a0_0, l0_1, l0_2, a0_3, a0_4, l0_5, a0_6⟩ : S31) (Kd.Zep (Kd.Zdu (ok' := (fun k_ => ((P0_1_ k_ ∨ P0_2_ k_ ∨ P0_5_ k_) ∨ w.heap.size ≤ k_) ∧ some k_ ≠ (v342 : Value).ownBlock ∧ k_ ≠ gb336 ∧ k_ ≠ gb337)) (HO0_1.out) (fun k_ hk => ⟨hk.1.1.1.1, ⟨hk.2, ⟨hk.1.1.1.2, hk.1.1.2⟩⟩⟩))).2.1 (Kd.V_F (Kd.Zdu (ok' := (fun k_ => ((P0_1_ k_ ∨ P0_2_ k_ ∨ P0_5_ k_) ∨ w.heap.size ≤ k_) ∧ some k_ ≠ (v342 : Value).ownBlock ∧ k_ ≠ gb336 ∧ k_ ≠ gb337)) (HO0_1.out) (fun k_ hk => ⟨hk.1.1.1.1, ⟨hk.2, ⟨hk.1.1.1.2, hk.1.1.2⟩⟩⟩))) (Kd.Zep (Kd.Zdu (ok' := (fun k_ => ((P0_1_ k_ ∨ P0_2_ k_ ∨ P0_5_ k_) ∨ w.heap.size ≤ k_) ∧ some k_ ≠ (v342 : Value).ownBlock ∧ k_ ≠ gb336 ∧ k_ ≠ gb337)) (HO0_2.out) (fun k_ hk => ⟨hk.1.1.1.1, ⟨hk.2, ⟨hk.1.1.1.2, hk.1.1.2⟩⟩⟩))).2.1 (Kd.V_F (Kd.Zdu (ok' := (fun k_ => ((P0_1_ k_ ∨ P0_2_ k_ ∨ P0_5_ k_) ∨ w.heap.size ≤ k_) ∧ some k_ ≠ (v342 : Value).ownBlock ∧ k_ ≠ gb336 ∧ k_ ≠ gb337)) (HO0_2.out) (fun k_ hk => ⟨hk.1.1.1.1, ⟨hk.2, ⟨hk.1.1.1.2, hk.1.1.2⟩⟩⟩))) (Kd.Zep (Kd.Zdu (ok' := (fun k_ => ((P0_1_ k_ ∨ P0_2_ k_ ∨ P0_5_ k_) ∨ w.heap.size ≤ k_) ∧ some k_ ≠ (v342 : Value).ownBlock ∧ k_ ≠ gb336 ∧ k_ ≠ gb337)) (HO0_5.out) (fun k_ hk => ⟨hk.1.1.1.1, ⟨hk.2, ⟨hk.1.1.1.2, hk.1.1.2⟩⟩⟩))).2.1 (Kd.V_F (Kd.Zdu (ok' := (fun k_ => ((P0_1_ k_ ∨ P0_2_ k_ ∨ P0_5_ k_) ∨ w.heap.size ≤ k_) ∧ some k_ ≠ (v342 : Value).ownBlock ∧ k_ ≠ gb336 ∧ k_ ≠ gb337)) (HO0_5.out) (fun k_ hk => ⟨hk.1.1.1.1, ⟨hk.2, ⟨hk.1.1.1.2, hk.1.1.2⟩⟩⟩))))) (Reps.none _ _))); intro v345 w11 ho12 hb hg_ hnew_; clear hg_ hnew_; (first | rw [← Ny344.out] at ho12 | (simp only [Int.reduceToNat] at ho12; rw [← Ny344.out] at ho12)); have n3_ := Za.mk (Kd.N_elder' (mvN HO343.out) (Kd.N_base ho12) hb); have n4_ := Za.mk (Kd.N_lower ho12 (Zan (by repeat (first | (with_reducible first | exact HB.out | apply Zab | apply Zaa | apply Zad | refine Zac ?_ GE336.out | refine Zac ?_ GE337.out) | exact HB.out)))); have n6_ := Za.mk (Zap (g := gb337) (o := .cells #[.slice none 0 0, .slice none 0 0, .int .i64 0, .slice none 0 0, .slice none 0 0] 28 (0, 0)) (mvK BK337.out) hb); have n7_ := Za.mk (Zaf (by repeat (first | (with_reducible first | exact HB.out | apply Zab | apply Zaa | apply Zad | refine Zac ?_ GE336.out | refine Zac ?_ GE337.out) | exact HB.out)) hb); clear HO0_1; clear HO0_2; clear HO0_5; clear HO343; clear BK336; clear BK337; clear HB; have HO343 := n3_; have HO346 := n4_; have BK337 := n6_; have HB := n7_; clear n3_ n4_ n6_ n7_; clear hb ho12; obtain ⟨Ao13, co13, eo13⟩ := Kd.Zc3 HO346.out; subst eo13; obtain ⟨Ao14, co14, eo14⟩ := Kd.Zc3 HO343.out; subst eo14; obtain ⟨hcz15_0, hcz15_1, hcz15_2, hcz15_3, hcz15_4, hfz15_0, hfz15_1, hfz15_2, hfz15_3, hfz15_4⟩ := Zde BK337.out))
 refine bodyPost_ret (results_cell_row rfl _ _ gb337 28 #[.slice Ao14 y341.length co14, .slice Ao13 y344.length co13, .int .i64 0, .slice none 0 0, .slice none 0 0] (0, 0) _ rfl (by (with_reducible repeat (first | refine Zag ?_ _ | refine Zai ?_ | refine Zae ?_ _)); refine Zaq (cs := #[.slice Ao14 y341.length co14, .slice Ao13 y344.length co13, .int .i64 0, .slice none 0 0, .slice none 0 0]) ?_ 4 _ rfl; (with_reducible repeat (first | refine Zag ?_ _ | refine Zai ?_ | refine Zae ?_ _)); refine Zaq (cs := #[.slice Ao14 y341.length co14, .slice Ao13 y344.length co13, .int .i64 0, .slice none 0 0, .slice none 0 0]) ?_ 3 _ rfl; (with_reducible repeat (first | refine Zag ?_ _ | refine Zai ?_ | refine Zae ?_ _)); refine Zaq (cs := #[.slice Ao14 y341.length co14, .slice Ao13 y344.length co13, .int .i64 0, .slice none 0 0, .slice none 0 0]) ?_ 2 _ rfl; (with_reducible repeat (first | refine Zag ?_ _ | refine Zai ?_ | refine Zae ?_ _)); refine Zaq (cs := #[.slice Ao14 y341.length co14, .slice none 0 0, .int .i64 0, .slice none 0 0, .slice none 0 0]) ?_ 1 _ rfl; (with_reducible repeat (first | refine Zag ?_ _ | refine Zai ?_ | refine Zae ?_ _)); refine Zaq (cs := #[.slice none 0 0, .slice none 0 0, .int .i64 0, .slice none 0 0, .slice none 0 0]) ?_ 0 _ rfl; (with_reducible repeat (first | refine Zag ?_ _ | refine Zai ?_ | refine Zae ?_ _)); exact BK337.out) Try.underlying28 rfl (by kernel_rfl)) rfl ?_
 exact ⟨_, _, _, _, by first | rfl | (simp [Zar, Zas] <;> rfl) | (simp [*, Zar, Zas] <;> rfl), by (with_reducible repeat (first | apply Kd.N_alloc | apply Kd.N_drewN | apply Kd.Zfe)); exact Kd.Zf8 (Kd.Zf0 (p := ⟨gb337, 4, none⟩) (Kd.Zf0 (p := ⟨gb337, 3, none⟩) (Kd.Zf0 (p := ⟨gb337, 2, none⟩) (Kd.Zf0 (p := ⟨gb337, 1, none⟩) (Kd.Zf0 (p := ⟨gb337, 0, none⟩) (Kd.Zf8 HO343.out (fun k_ hk => (⟨hk, hk.1.2.2⟩ : _ ∧ k_ ≠ gb337))) (fun _ hk => hk.2) (.slice Ao14 y341.length co14)) (fun _ hk => hk.2) (.slice Ao13 y344.length co13)) (fun _ hk => hk.2) (.int .i64 0)) (fun _ hk => hk.2) (.slice none 0 0)) (fun _ hk => hk.2) (.slice none 0 0)) (fun _ hk => ⟨hk.1.1.1, ⟨hk.1.2, ⟨(by simp [Value.ownBlock]), (by simp [Value.ownBlock])⟩⟩⟩), by (with_reducible repeat (first | apply Kd.N_alloc | apply Kd.N_drewN | apply Kd.Zfe)); exact Kd.Zf8 (Kd.Zf0 (p := ⟨gb337, 4, none⟩) (Kd.Zf0 (p := ⟨gb337, 3, none⟩) (Kd.Zf0 (p := ⟨gb337, 2, none⟩) (Kd.Zf0 (p := ⟨gb337, 1, none⟩) (Kd.Zf0 (p := ⟨gb337, 0, none⟩) (Kd.Zf8 HO346.out (fun k_ hk => (⟨hk, hk.2.2.2⟩ : _ ∧ k_ ≠ gb337))) (fun _ hk => hk.2) (.slice Ao14 y341.length co14)) (fun _ hk => hk.2) (.slice Ao13 y344.length co13)) (fun _ hk => hk.2) (.int .i64 0)) (fun _ hk => hk.2) (.slice none 0 0)) (fun _ hk => hk.2) (.slice none 0 0)) (fun _ hk => ⟨hk.1.1, ⟨hk.1.2.1, ⟨(by simp [Value.ownBlock]), (by simp [Value.ownBlock])⟩⟩⟩), by first | exact Kd.Zfa _ _ _ _ _ | exact Kd.N_nil _ _ _ _ _ | exact Kd.Ze _ _ _ _ _ | exact Kd.Q_nil _ _ _ _ _ | exact Kd.S_nil _ _ _ _ _, by first | exact Kd.Zfa _ _ _ _ _ | exact Kd.N_nil _ _ _ _ _ | exact Kd.Ze _ _ _ _ _ | exact Kd.Q_nil _ _ _ _ _ | exact Kd.S_nil _ _ _ _ _, by repeat (first | (with_reducible first | exact HB.out | apply Zab | apply Zaa | apply Zad | refine Zac ?_ GE336.out | refine Zac ?_ GE337.out) | exact HB.out)⟩
end Go.Proofs.Ytkgjaklnbgdmiaa.P
/- The map of the names that came: a set of texts. -/
namespace Go.Proofs.Ytkgjaklnbgdmiaa.P
open Go.RowKit Go.WideMaps Go.Maps Go.Proofs.YtkgjaklnbgdmiaaW.PrintWords Go.Proofs.YtkgjaklnbgdmiaaW.PrintLast Go.Proofs.YtkgjaklnbgdmiaaW.PrintMore
set_option linter.unusedVariables false
set_option linter.unusedSimpArgs false
theorem keyedS : Keyed Try.prog 9 := string_keyed Try.underlying9
def nameLit (s : ByteArray) : Lit := .string s.data.toList
theorem Ze3 {s : ByteArray} (h : s.size ≤ maxLen) : keyOf Try.prog 9 (.string s) = some (nameLit s) := keyOf_string_mk Try.underlying9 h
theorem nameLit_inj {a b : ByteArray} (e : nameLit a = nameLit b) : a = b := by
  unfold nameLit at e
  injection e with e
  cases a; cases b
  congr 1
  exact Array.toList_inj.1 e
def hasN (L : List ByteArray) (x : ByteArray) : Bool := L.any fun y => y.toList == x.toList
theorem bytes_ext {a b : ByteArray} (e : a.toList = b.toList) : a = b := by
  rw [ByteArray.toList_eq, ByteArray.toList_eq] at e
  cases a; cases b
  congr 1
  exact Array.toList_inj.1 e
theorem hasN_iff (L : List ByteArray) (x : ByteArray) : hasN L x = true ↔ x ∈ L := by
  unfold hasN
  rw [List.any_eq_true]
  constructor
  · rintro ⟨y, hy, e⟩
    rwa [← bytes_ext (beq_iff_eq.1 e)]
  intro h
  exact ⟨x, h, beq_iff_eq.2 rfl⟩
theorem hasN_false (L : List ByteArray) (x : ByteArray) (h : ¬ x ∈ L) : hasN L x = false := by
  cases e : hasN L x with
  | false => rfl
  | true => exact absurd ((hasN_iff L x).1 e) h
theorem Zfh {H : Type} (u z : DataW H) (k : Lit) : ∀ (acc : List Lit) (m : DataW H), k ∉ acc → (acc.foldl (fun m x => m.put x u) m).atKey k z = m.atKey k z
  | [], m, _ => rfl
  | x :: r, m, h => by
    rw [List.foldl_cons, Zfh u z k r (m.put x u) (fun e => h (by simp [e])), atKey_put_other (fun e => h (by simp [e]))]
theorem atKey_in {H : Type} (u z : DataW H) (k : Lit) (hk : WideAt.IsKeyLit k) : ∀ (acc : List Lit) (m : DataW H), IsMap m → k ∈ acc → (acc.foldl (fun m x => m.put x u) m).atKey k z = u
  | [], m, _, h => by cases h
  | x :: r, m, hm, h => by
    rw [List.foldl_cons]
    rcases Classical.em (k ∈ r) with hr | hr
    · exact atKey_in u z k hk r (m.put x u) (hm.put x u) hr
    rw [Zfh u z k r _ hr]
    obtain rfl : k = x := (List.mem_cons.1 h).resolve_right hr
    exact atKey_put_same hm hk u z
def SetN (w : World) (b : Nat) (L : List ByteArray) : Prop := w.ownsMap (H := Unit) Try.prog 9 (plainElem Try.prog 4) b L.length (setOf (.lit (.bool true)) (L.map nameLit))
theorem SetN.below {w w' : World} {b : Nat} {L : List ByteArray} (h : SetN w b L) (hb : Below w.heap.size w w') : SetN w' b L := by
  have hlt := World.ownsMap.lt h
  obtain ⟨es, clock, h1, F, hs, hD⟩ := h
  exact ⟨es, clock, (hb.block b hlt).trans h1, F, hs, hD⟩
theorem SetN.lt {w : World} {b : Nat} {L : List ByteArray} (h : SetN w b L) : b < w.heap.size := World.ownsMap.lt h
set_option maxRecDepth 100000 in
theorem SetN.look {w : World} {b : Nat} {L : List ByteArray} {x : ByteArray} (h : SetN w b L) (hx : x.size ≤ maxLen) : (Instr.lookup 73 (.map (some b)) (.string x) false).run Try.prog w = .ok (.bool (hasN L x)) w := by
  obtain ⟨v, ps, hrun, hv⟩ := World.ownsMap.lookup h keyedS Try.underlying73 (z := .bool false) (by kernel_rfl) (plainElem_bool Try.underlying4 false) (Ze3 hx)
  have e : (nameLit x ∈ L.map nameLit) ↔ x ∈ L := by
    rw [List.mem_map]
    constructor
    · rintro ⟨y, hy, e⟩
      rwa [← nameLit_inj e]
    intro hy
    exact ⟨x, hy, rfl⟩
  rw [hrun]
  have hb : v = .bool (hasN L x) := by
    have hc : ∃ c, v = .bool c ∧ ((setOf (.lit (.bool true)) (L.map nameLit)).atKey (nameLit x) (.lit (.bool false)) : DataW Unit) = .lit (.bool c) := by
      unfold plainElem at hv
      rw [Try.underlying4] at hv
      clear hrun e h
      generalize ((setOf (.lit (.bool true)) (L.map nameLit)).atKey (nameLit x) (.lit (.bool false)) : DataW Unit) = dd at hv ⊢
      cases v <;> simp at hv
      exact ⟨_, rfl, hv.1.symm⟩
    obtain ⟨c, rfl, hc⟩ := hc
    rcases Classical.em (x ∈ L) with hm | hm
    · have := (atKey_in (.lit (.bool true)) (.lit (.bool false)) _ (keyedS.key (Ze3 hx)) _ _ isMap_empty (e.2 hm)).symm.trans hc
      simp at this
      rw [(hasN_iff L x).2 hm, this]
    have := (Zfh (.lit (.bool true)) (.lit (.bool false)) (nameLit x) (L.map nameLit) (.map []) (fun h => hm (e.1 h))).symm.trans hc
    have e2 : ((DataW.map [] : DataW Unit).atKey (nameLit x) (.lit (.bool false))) = .lit (.bool false) := rfl
    rw [e2] at this
    simp at this
    rw [hasN_false L x hm, this]
  rw [hb]
theorem SetN.made (w : World) : SetN (w.alloc (.map #[] 0)) w.heap.size [] := World.ownsMap_made w _ _ _
theorem Zdx {w : World} {ops : Array Oper} {rest : List Oper} {o : Oper} {a : Act} {Q : Exit → Act → World → Prop} (hg : o.guard = none) (m x : Operand) (hop : o.op = Op.lookup 73 m x false) {b : Nat} {L : List ByteArray} {q : ByteArray}
    (hm : a.eval m = .map (some b)) (h : SetN w b L) (hx : a.eval x = .string q) (hq : q.size ≤ maxLen) (hK : wpList Try.prog ops Q rest (a.put o.dst (.bool (hasN L q))) w) : wpList Try.prog ops Q (o :: rest) a w := by
  refine wpList_plain hg fun K' hK' => ?_
  have hrun := h.look hq
  unfold Oper.wp
  simp [execOp, hop, hm, hx, hrun, Result.andThen]
  exact hK' _ _ hK
theorem wpList_putN {w : World} {ops : Array Oper} {rest : List Oper} {o : Oper} {a : Act} {Q : Exit → Act → World → Prop} (hg : o.guard = none) (m x v : Operand) (hop : o.op = Op.mapUpdate 73 m x v) {b : Nat} {L : List ByteArray} {q : ByteArray}
    (hm : a.eval m = .map (some b)) (h : SetN w b L) (hx : a.eval x = .string q) (hv : a.eval v = .bool true) (hq : q.size ≤ maxLen) (hn : L.length < maxLen) (hK : ∀ w', SetN w' b (L ++ [q]) → w.grownBy w' (some b) → wpList Try.prog ops Q rest (a.put o.dst undef) w') : wpList Try.prog ops Q (o :: rest) a w := by
  refine wpList_plain hg fun K' hK' => ?_
  obtain ⟨w', hrun, r1, r2⟩ := World.ownsMap.update h keyedS Try.underlying73 hn (Ze3 hq) (plainElem_bool Try.underlying4 true)
  have r3 : SetN w' b (L ++ [q]) := by
    unfold SetN
    rw [List.map_append, List.map_cons, List.map_nil, setOf_snoc, List.length_append]
    exact r1
  unfold Oper.wp
  simp [execOp, hop, hm, hx, hv, hrun, Result.andThen]
  exact hK' _ _ (hK w' r3 r2)
end Go.Proofs.Ytkgjaklnbgdmiaa.P
/- model.Name: may a text be a name? (a range over a string) -/
namespace Go.Proofs.Ytkgjaklnbgdmiaa.P
open Go.RowKit Go.Proofs.YtkgjaklnbgdmiaaW.PrintWords Go.Proofs.YtkgjaklnbgdmiaaW.PrintLast Go.Proofs.YtkgjaklnbgdmiaaW.PrintMore
set_option linter.unusedVariables false
set_option linter.unusedSimpArgs false
def okAt (i c : Nat) : Bool := (decide (97 ≤ c) && decide (c ≤ 122)) || (!decide (i = 0) && (decide (c = 95) || (decide (48 ≤ c) && decide (c ≤ 57))))
def nameGo (s : ByteArray) : Nat → Nat → Bool
  | 0, _ => true
  | b + 1, pos => if h : pos < s.size then okAt pos (s[pos]'h).toNat && nameGo s b (pos + 1) else true
def Zcf.f (a0 : ByteArray) : Option Bool := some (!decide (a0.size = 0) && (decide (a0.size ≤ 16) && nameGo a0 a0.size 0))
theorem nameGo_end (s : ByteArray) (b pos : Nat) (h : ¬ pos < s.size) : nameGo s b pos = true := by
  cases b with
  | zero => rfl
  | succ b => simp [nameGo, h]
theorem okAt_high (i c : Nat) (h : 128 ≤ c) : okAt i c = false := by
  have h1 : decide (c ≤ 122) = false := decide_eq_false (by omega)
  have h2 : decide (c = 95) = false := decide_eq_false (by omega)
  have h3 : decide (c ≤ 57) = false := decide_eq_false (by omega)
  simp [okAt, h1, h2, h3]
set_option maxRecDepth 1000000 in
set_option maxHeartbeats 2000000 in
theorem Zcf.calls (a0 : ByteArray) (r : Bool) (w : World) (h : Zcf.f a0 = some r) :
    Calls Try.prog 21 #[.string a0] w fun e w' => e = .returned (.bool r) ∧ Below w.heap.size w w' := by
  obtain rfl := Option.some.inj h
  clear h
  by_cases h0 : a0.size = 0
  · have d0 : decide (a0.size = 0) = true := decide_eq_true h0
    have e0 : a0 = ⟨#[]⟩ := by
      have : a0.data = #[] := Array.eq_empty_of_size_eq_zero h0
      cases a0; simpa using this
    subst e0
    go_enter Try.func21, Try.ntmps21
    go_wp2
    go_ret
    exact ⟨by rfl, Below.refl _ _⟩
  have d0 : decide (a0.size = 0) = false := decide_eq_false h0
  have eE : a0.toList.isEmpty = false := by
    rw [ByteArray.toList_eq]
    cases hd : a0.data.toList with
    | nil => exact absurd (show a0.data.size = 0 by rw [← Array.length_toList, hd]; rfl) h0
    | cons a l => rfl
  have DD := Za.mk d0
  clear d0 h0
  by_cases h16 : 16 < a0.size
  · have e1 : decide (16 < (a0.size : Int)) = true := decide_eq_true (by omega)
    have e2 : decide (16 < a0.size) = true := decide_eq_true h16
    have e3 : Za (decide (a0.size ≤ 16) = false) := ⟨decide_eq_false (by omega)⟩
    clear h16
    go_enter Try.func21, Try.ntmps21
    go_wp2
    go_ret
    exact ⟨by rw [DD.out, e3.out]; rfl, Below.refl _ _⟩
  have e1 : decide (16 < (a0.size : Int)) = false := decide_eq_false (by omega)
  have e2 : decide (16 < a0.size) = false := decide_eq_false h16
  have e3 : Za (decide (a0.size ≤ 16) = true) := ⟨decide_eq_true (by omega)⟩
  have hsz : a0.size ≤ 16 := by omega
  clear h16
  rw [DD.out, e3.out]
  show Calls _ _ _ _ fun e w' => e = .returned (.bool (nameGo a0 a0.size 0)) ∧ _
  obtain ⟨wo, rfl⟩ : ∃ wo : World, wo = w := ⟨_, rfl⟩
  go_enter Try.func21, Try.ntmps21
  go_wp2
  go_loopw [3, 4, 5] (fun s3 s4 s5 w' => ∃ (pos b : Nat), w' = wo.iter a0 pos ∧ Za (nameGo a0 b pos = nameGo a0 a0.size 0) ∧ Za (a0.size ≤ pos + b)) (fun _ _ _ w' => a0.size - w'.iterPos wo.heap.size)
  case atStart => exact ⟨0, a0.size, rfl, ⟨rfl⟩, ⟨by omega⟩⟩
  case round =>
    obtain ⟨pos, b, rfl, hc, hb⟩ := hrel
    by_cases hp : pos < a0.size
    rotate_left
    · have hnx : ∀ ty, (Instr.next (.pointer (some ⟨wo.heap.size, 0, none⟩)) true ty).run Try.prog (wo.iter a0 pos) = _ := fun ty => run_next_end wo a0 pos ty hp
      go_wp2
      go_ret
      have := hc.out
      rw [nameGo_end a0 b pos hp] at this
      rw [← this]
      exact ⟨rfl, Zab (Below.refl _ _) _⟩
    skip
    by_cases ha : (a0[pos]'hp).toNat < 128
    rotate_left
    · have hnx := fun ty => run_next_any (P := Try.prog) wo a0 pos ty hp
      have hh := (decode_high a0 pos hp (by omega)).1
      have OKx : Za (okAt pos (a0[pos]'hp).toNat = false) := ⟨okAt_high pos _ (by omega)⟩
      generalize (Utf8.decode a0 pos).1 = c at hnx hh
      generalize pos + (Utf8.decode a0 pos).2 = pos2 at hnx
      have OK := OKx; clear OKx
      have a1 : decide ((97 : Int) ≤ (c : Int)) = true := decide_eq_true (by omega)
      have a2 : decide ((c : Int) ≤ 122) = false := decide_eq_false (by omega)
      have a4 : ((c : Int) == 95) = false := beq_eq_false_iff_ne.2 (by omega)
      have a4n : ((c : Int) != 95) = true := by simp only [bne, a4, Bool.not_false]
      have a4d : decide ((c : Int) = 95) = false := decide_eq_false (by omega)
      have a5 : decide ((c : Int) < 48) = false := decide_eq_false (by omega)
      have a6 : decide ((57 : Int) < (c : Int)) = true := decide_eq_true (by omega)
      by_cases q3 : pos = 0
      · subst q3
        go_wp2
        go_ret
        refine ⟨?_, Zab (Below.refl _ _) _⟩
        rw [← hc.out]
        cases b with
        | zero => exact absurd hb.out (by omega)
        | succ b => (first | rw [nameGo, dif_pos hp, HX.out, OK.out, Bool.false_and] | rw [nameGo, dif_pos hp, OK.out, Bool.false_and]); rfl
      skip
      have a3 : ((pos : Int) == 0) = false := beq_eq_false_iff_ne.2 (by omega)
      have a3n : ((pos : Int) != 0) = true := by simp only [bne, a3, Bool.not_false]
      have a3d : decide ((pos : Int) = 0) = false := decide_eq_false (by omega)
      go_wp2
      go_ret
      refine ⟨?_, Zab (Below.refl _ _) _⟩
      rw [← hc.out]
      cases b with
      | zero => exact absurd hb.out (by omega)
      | succ b => (first | rw [nameGo, dif_pos hp, HX.out, OK.out, Bool.false_and] | rw [nameGo, dif_pos hp, OK.out, Bool.false_and]); rfl
    have hnx := fun ty => run_next_ascii (P := Try.prog) wo a0 pos ty hp ha
    generalize hx : (a0[pos]'hp).toNat = c at hnx ha
    have HX := Za.mk hx; clear hx
    by_cases q1 : 97 ≤ c
    rotate_left
    · skip
      have a1 : decide ((97 : Int) ≤ (c : Int)) = false := decide_eq_false (by omega)
      by_cases q3 : pos = 0
      · skip
        have OK : Za (okAt pos c = false) := ⟨by by_cases z1 : 97 ≤ c <;> by_cases z2 : c ≤ 122 <;> by_cases z3 : pos = 0 <;> by_cases z4 : c = 95 <;> by_cases z5 : 48 ≤ c <;> by_cases z6 : c ≤ 57 <;> first | (exfalso; omega) | simp [okAt, z1, z2, z3, z4, z5, z6]⟩
        subst q3
        go_wp2
        go_ret
        refine ⟨?_, Zab (Below.refl _ _) _⟩
        rw [← hc.out]
        cases b with
        | zero => exact absurd hb.out (by omega)
        | succ b => (first | rw [nameGo, dif_pos hp, HX.out, OK.out, Bool.false_and] | rw [nameGo, dif_pos hp, OK.out, Bool.false_and]); rfl
      skip
      have a3 : ((pos : Int) == 0) = false := beq_eq_false_iff_ne.2 (by omega)
      have a3n : ((pos : Int) != 0) = true := by simp only [bne, a3, Bool.not_false]
      have a3d : decide ((pos : Int) = 0) = false := decide_eq_false (by omega)
      by_cases q4 : c = 95
      · skip
        have OK : Za (okAt pos c = true) := ⟨by by_cases z1 : 97 ≤ c <;> by_cases z2 : c ≤ 122 <;> by_cases z3 : pos = 0 <;> by_cases z4 : c = 95 <;> by_cases z5 : 48 ≤ c <;> by_cases z6 : c ≤ 57 <;> first | (exfalso; omega) | simp [okAt, z1, z2, z3, z4, z5, z6]⟩
        have a4 : ((c : Int) == 95) = true := beq_iff_eq.2 (by omega)
        have a4n : ((c : Int) != 95) = false := by simp only [bne, a4, Bool.not_true]
        have a4d : decide ((c : Int) = 95) = true := decide_eq_true (by omega)
        go_wp2
        go_roundw
        case rel =>
          cases b with
          | zero => exact absurd hb.out (by omega)
          | succ b =>
            refine ⟨pos + 1, b, rfl, ⟨?_⟩, ⟨by have := hb.out; omega⟩⟩
            rw [← hc.out, nameGo, dif_pos hp, HX.out, OK.out, Bool.true_and]
        case measure => simp; omega
      skip
      have a4 : ((c : Int) == 95) = false := beq_eq_false_iff_ne.2 (by omega)
      have a4n : ((c : Int) != 95) = true := by simp only [bne, a4, Bool.not_false]
      have a4d : decide ((c : Int) = 95) = false := decide_eq_false (by omega)
      by_cases q5 : c < 48
      · skip
        have OK : Za (okAt pos c = false) := ⟨by by_cases z1 : 97 ≤ c <;> by_cases z2 : c ≤ 122 <;> by_cases z3 : pos = 0 <;> by_cases z4 : c = 95 <;> by_cases z5 : 48 ≤ c <;> by_cases z6 : c ≤ 57 <;> first | (exfalso; omega) | simp [okAt, z1, z2, z3, z4, z5, z6]⟩
        have a5 : decide ((c : Int) < 48) = true := decide_eq_true (by omega)
        go_wp2
        go_ret
        refine ⟨?_, Zab (Below.refl _ _) _⟩
        rw [← hc.out]
        cases b with
        | zero => exact absurd hb.out (by omega)
        | succ b => (first | rw [nameGo, dif_pos hp, HX.out, OK.out, Bool.false_and] | rw [nameGo, dif_pos hp, OK.out, Bool.false_and]); rfl
      skip
      have a5 : decide ((c : Int) < 48) = false := decide_eq_false (by omega)
      by_cases q6 : 57 < c
      · skip
        have OK : Za (okAt pos c = false) := ⟨by by_cases z1 : 97 ≤ c <;> by_cases z2 : c ≤ 122 <;> by_cases z3 : pos = 0 <;> by_cases z4 : c = 95 <;> by_cases z5 : 48 ≤ c <;> by_cases z6 : c ≤ 57 <;> first | (exfalso; omega) | simp [okAt, z1, z2, z3, z4, z5, z6]⟩
        have a6 : decide ((57 : Int) < (c : Int)) = true := decide_eq_true (by omega)
        go_wp2
        go_ret
        refine ⟨?_, Zab (Below.refl _ _) _⟩
        rw [← hc.out]
        cases b with
        | zero => exact absurd hb.out (by omega)
        | succ b => (first | rw [nameGo, dif_pos hp, HX.out, OK.out, Bool.false_and] | rw [nameGo, dif_pos hp, OK.out, Bool.false_and]); rfl
      skip
      have OK : Za (okAt pos c = true) := ⟨by by_cases z1 : 97 ≤ c <;> by_cases z2 : c ≤ 122 <;> by_cases z3 : pos = 0 <;> by_cases z4 : c = 95 <;> by_cases z5 : 48 ≤ c <;> by_cases z6 : c ≤ 57 <;> first | (exfalso; omega) | simp [okAt, z1, z2, z3, z4, z5, z6]⟩
      have a6 : decide ((57 : Int) < (c : Int)) = false := decide_eq_false (by omega)
      go_wp2
      go_roundw
      case rel =>
        cases b with
        | zero => exact absurd hb.out (by omega)
        | succ b =>
          refine ⟨pos + 1, b, rfl, ⟨?_⟩, ⟨by have := hb.out; omega⟩⟩
          rw [← hc.out, nameGo, dif_pos hp, HX.out, OK.out, Bool.true_and]
      case measure => simp; omega
    by_cases q2 : c ≤ 122
    · skip
      have OK : Za (okAt pos c = true) := ⟨by by_cases z1 : 97 ≤ c <;> by_cases z2 : c ≤ 122 <;> by_cases z3 : pos = 0 <;> by_cases z4 : c = 95 <;> by_cases z5 : 48 ≤ c <;> by_cases z6 : c ≤ 57 <;> first | (exfalso; omega) | simp [okAt, z1, z2, z3, z4, z5, z6]⟩
      have a1 : decide ((97 : Int) ≤ (c : Int)) = true := decide_eq_true (by omega)
      have a2 : decide ((c : Int) ≤ 122) = true := decide_eq_true (by omega)
      clear q1 q2 ha
      go_wp2
      go_roundw
      case rel =>
        cases b with
        | zero => exact absurd hb.out (by omega)
        | succ b =>
          refine ⟨pos + 1, b, rfl, ⟨?_⟩, ⟨by have := hb.out; omega⟩⟩
          rw [← hc.out, nameGo, dif_pos hp, HX.out, OK.out, Bool.true_and]
      case measure => simp; omega
    skip
    have a1 : decide ((97 : Int) ≤ (c : Int)) = true := decide_eq_true (by omega)
    have a2 : decide ((c : Int) ≤ 122) = false := decide_eq_false (by omega)
    by_cases q3 : pos = 0
    · skip
      have OK : Za (okAt pos c = false) := ⟨by by_cases z1 : 97 ≤ c <;> by_cases z2 : c ≤ 122 <;> by_cases z3 : pos = 0 <;> by_cases z4 : c = 95 <;> by_cases z5 : 48 ≤ c <;> by_cases z6 : c ≤ 57 <;> first | (exfalso; omega) | simp [okAt, z1, z2, z3, z4, z5, z6]⟩
      subst q3
      go_wp2
      go_ret
      refine ⟨?_, Zab (Below.refl _ _) _⟩
      rw [← hc.out]
      cases b with
      | zero => exact absurd hb.out (by omega)
      | succ b => (first | rw [nameGo, dif_pos hp, HX.out, OK.out, Bool.false_and] | rw [nameGo, dif_pos hp, OK.out, Bool.false_and]); rfl
    skip
    have a3 : ((pos : Int) == 0) = false := beq_eq_false_iff_ne.2 (by omega)
    have a3n : ((pos : Int) != 0) = true := by simp only [bne, a3, Bool.not_false]
    have a3d : decide ((pos : Int) = 0) = false := decide_eq_false (by omega)
    by_cases q4 : c = 95
    · skip
      have OK : Za (okAt pos c = true) := ⟨by by_cases z1 : 97 ≤ c <;> by_cases z2 : c ≤ 122 <;> by_cases z3 : pos = 0 <;> by_cases z4 : c = 95 <;> by_cases z5 : 48 ≤ c <;> by_cases z6 : c ≤ 57 <;> first | (exfalso; omega) | simp [okAt, z1, z2, z3, z4, z5, z6]⟩
      have a4 : ((c : Int) == 95) = true := beq_iff_eq.2 (by omega)
      have a4n : ((c : Int) != 95) = false := by simp only [bne, a4, Bool.not_true]
      have a4d : decide ((c : Int) = 95) = true := decide_eq_true (by omega)
      go_wp2
      go_roundw
      case rel =>
        cases b with
        | zero => exact absurd hb.out (by omega)
        | succ b =>
          refine ⟨pos + 1, b, rfl, ⟨?_⟩, ⟨by have := hb.out; omega⟩⟩
          rw [← hc.out, nameGo, dif_pos hp, HX.out, OK.out, Bool.true_and]
      case measure => simp; omega
    skip
    have a4 : ((c : Int) == 95) = false := beq_eq_false_iff_ne.2 (by omega)
    have a4n : ((c : Int) != 95) = true := by simp only [bne, a4, Bool.not_false]
    have a4d : decide ((c : Int) = 95) = false := decide_eq_false (by omega)
    by_cases q5 : c < 48
    · skip
      have OK : Za (okAt pos c = false) := ⟨by by_cases z1 : 97 ≤ c <;> by_cases z2 : c ≤ 122 <;> by_cases z3 : pos = 0 <;> by_cases z4 : c = 95 <;> by_cases z5 : 48 ≤ c <;> by_cases z6 : c ≤ 57 <;> first | (exfalso; omega) | simp [okAt, z1, z2, z3, z4, z5, z6]⟩
      have a5 : decide ((c : Int) < 48) = true := decide_eq_true (by omega)
      go_wp2
      go_ret
      refine ⟨?_, Zab (Below.refl _ _) _⟩
      rw [← hc.out]
      cases b with
      | zero => exact absurd hb.out (by omega)
      | succ b => (first | rw [nameGo, dif_pos hp, HX.out, OK.out, Bool.false_and] | rw [nameGo, dif_pos hp, OK.out, Bool.false_and]); rfl
    skip
    have a5 : decide ((c : Int) < 48) = false := decide_eq_false (by omega)
    by_cases q6 : 57 < c
    · skip
      have OK : Za (okAt pos c = false) := ⟨by by_cases z1 : 97 ≤ c <;> by_cases z2 : c ≤ 122 <;> by_cases z3 : pos = 0 <;> by_cases z4 : c = 95 <;> by_cases z5 : 48 ≤ c <;> by_cases z6 : c ≤ 57 <;> first | (exfalso; omega) | simp [okAt, z1, z2, z3, z4, z5, z6]⟩
      have a6 : decide ((57 : Int) < (c : Int)) = true := decide_eq_true (by omega)
      go_wp2
      go_ret
      refine ⟨?_, Zab (Below.refl _ _) _⟩
      rw [← hc.out]
      cases b with
      | zero => exact absurd hb.out (by omega)
      | succ b => (first | rw [nameGo, dif_pos hp, HX.out, OK.out, Bool.false_and] | rw [nameGo, dif_pos hp, OK.out, Bool.false_and]); rfl
    skip
    have OK : Za (okAt pos c = true) := ⟨by by_cases z1 : 97 ≤ c <;> by_cases z2 : c ≤ 122 <;> by_cases z3 : pos = 0 <;> by_cases z4 : c = 95 <;> by_cases z5 : 48 ≤ c <;> by_cases z6 : c ≤ 57 <;> first | (exfalso; omega) | simp [okAt, z1, z2, z3, z4, z5, z6]⟩
    have a6 : decide ((57 : Int) < (c : Int)) = false := decide_eq_false (by omega)
    go_wp2
    go_roundw
    case rel =>
      cases b with
      | zero => exact absurd hb.out (by omega)
      | succ b =>
        refine ⟨pos + 1, b, rfl, ⟨?_⟩, ⟨by have := hb.out; omega⟩⟩
        rw [← hc.out, nameGo, dif_pos hp, HX.out, OK.out, Bool.true_and]
    case measure => simp; omega
end Go.Proofs.Ytkgjaklnbgdmiaa.P
