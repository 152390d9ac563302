/- Proved: what each function of the program that the statements of this seat reach comes to, for whatever memory and arguments it is called with (on condition that its plain text tells a result). -/
import Derived.Test.YtkgjaklnbgdmiaaZ1
import Derived.RangeFuncNested
import Derived.RangeFuncBox
import Derived.RangeFuncBound
import Derived.RangeFuncCalls
import Derived.RangeFuncLeaves
import Derived.Shelf.Abstract
import Derived.Shelf.AbstractIn
import Derived.WalkKit
import Derived.OwnWalkIn
import Derived.TacticsInMore
import Derived.LoopNIn
import Derived.LoopIn
import Derived.Maps.AppendAt
import Derived.Shelf.SlLaysM
import Derived.Shelf.SlLaysN
import Derived.Test.YtkgjaklnbgdmiaaProg
import Derived.Shelf.SortM.Plain
import Derived.Shelf.SortM.SortNone
import Derived.Sort.OwnSortedInts
import Derived.Shelf.GgClosure.Gives
import Derived.Lib.SlBy
import Derived.Deep.LoopGhost
import Derived.Shelf.SlicesG.CompactI
import Derived.Lib.SlicesCompact
/- The iterators that the program goes over: the values of a slice (slices.Values); what comes, round by round, for every loop body that keeps the rest of memory. -/
namespace Go.Proofs.Ytkgjaklnbgdmiaa.P
open Go.RowKit Go.Shelf Go.Proofs.YtkgjaklnbgdmiaaW.PrintWords Go.Proofs.YtkgjaklnbgdmiaaW.PrintLast Go.Proofs.YtkgjaklnbgdmiaaW.PrintMore
set_option linter.unusedVariables false
set_option linter.unusedSimpArgs false
attribute [local go_sem] Oper.semAt_some
def KeepsTy (t : Nat) (W W' : World) : Prop := ∀ (k : Nat) (cs : Array Value) (fr : Nat × Nat), W.heap[k]? = some (Obj.cells cs t fr) → W'.heap[k]? = some (Obj.cells cs t fr)
theorem KeepsTy.refl (t : Nat) (W : World) : KeepsTy t W W := fun _ _ _ h => h
theorem KeepsTy.trans {t : Nat} {A B C : World} (h : KeepsTy t A B) (k : KeepsTy t B C) : KeepsTy t A C := fun i cs fr hi => k i cs fr (h i cs fr hi)
theorem KeepsTy.grown {t : Nat} {W W' : World} {row : Option Nat} (hg : W.grownBy W' row) (hr : ∀ r, row = some r → ∀ cs fr, W.heap[r]? ≠ some (Obj.cells cs t fr)) : KeepsTy t W W' := fun k cs fr h =>
  (hg.block k (Array.getElem?_eq_some_iff.1 h).1 (fun e => hr k e.symm cs fr h)).trans h
theorem KeepsTy.alloc (t : Nat) (W : World) (o : Obj) : KeepsTy t W (W.alloc o) := KeepsTy.grown (World.grownBy_alloc W o none) (fun r e => by cases e)
theorem KeepsTy.box {t t' B : Nat} {W : World} {v v' : Value} (h : Boxed W B t' v) (hne : t' ≠ t) : KeepsTy t W (W.setCell ⟨B, 0, none⟩ v') :=
  KeepsTy.grown (grownBy_setCell' W B v') (fun r e cs fr hh => by
    cases e
    have := (show W.heap[B]? = _ from h).symm.trans hh
    simp at this
    exact hne this.2.1)
theorem KeepsTy.putObj {t l : Nat} {W : World} {o : Obj} (o' : Obj) (h : W.heap[l]? = some o) (ho : o.isCells = false) : KeepsTy t W (W.putObj l o') :=
  KeepsTy.grown (grownBy_putObj' W l o') (fun r e cs fr hh => by
    cases e
    rw [h] at hh
    cases hh
    cases ho)
theorem KeepsTy.row {t e base size n : Nat} {W W' : World} {v : Value} {xs : List Value} (hr : W.ownsRow base e size v n xs) (hne : e ≠ t) (hg : W.grownBy W' v.ownBlock) : KeepsTy t W W' :=
  KeepsTy.grown hg (fun r er cs fr hh => by
    rcases hr.2 with ⟨rfl, _⟩ | ⟨g, cap, cur, rfl, _, hgb, _⟩
    · simp [Value.ownBlock] at er
    obtain rfl : g = r := by simpa [Value.ownBlock] using er
    rw [hgb] at hh
    simp at hh
    exact hne hh.2.1)
def Kp (n₀ : Nat) (W W' : World) : Prop := Below n₀ W W' ∧ KeepsTy 48 W W'
theorem Kp.t {n₀ : Nat} {A B C : World} (h : Kp n₀ A B) (k : Kp n₀ B C) : Kp n₀ A C := ⟨h.1.trans k.1, h.2.trans k.2⟩
theorem Kp.b {n₀ : Nat} {w : World} (hn : n₀ ≤ w.heap.size) (W : World) (l : Nat) (o o' : Obj) (hl : w.heap.size ≤ l) (h : W.heap[l]? = some o) (hc : o.isCells = false) (hw : o.isWalk = false) : Kp n₀ W (W.putObj l o') :=
  ⟨belowK_b hn W l o o' hl h hc hw, KeepsTy.putObj o' h hc⟩
set_option maxRecDepth 100000 in
set_option maxHeartbeats 4000000 in
theorem values1_in (F : Fence) (n : Nat) (h1 : F.fn 111) (hro : F.round = none) (hn : 1 ≤ n) (l Bs : Nat) (w : World) (A : Option Addr) (c : Nat) (zs : List Int) (hr : Kd.C (Kd.int .i64) w A zs.length zs) (J Jx : List Int → World → Prop)
    (hY : ∀ pre x W, J pre W → pre.length < zs.length → YieldAt F (n - 1) Try.prog l #[.int .i64 x] W fun e W' =>
      (e = .returned (.bool true) ∧ J (pre ++ [x]) W' ∧ Kp w.heap.size W W') ∨ (e = .returned (.bool false) ∧ Jx (pre ++ [x]) W'))
    (W : World) (hW : Below w.heap.size w W) (hBs : W.cell? ⟨Bs, 0, none⟩ = some (.slice A zs.length c)) (h0 : J [] W) :
    CallsIn F n Try.prog 111 #[.func (.yield l) #[] #[], .pointer (some ⟨Bs, 0, none⟩)] W fun e W' => (∃ v, e = .returned v) ∧
      ((∃ ys, ys = zs ∧ J ys W') ∨ (∃ pre, pre <+: zs ∧ Jx pre W')) := by
  refine callsIn_of_wp Try.func111 rfl h1 ?_ hro
  simp only [Try.ntmps111, List.size_toArray, List.length_cons, List.length_nil, Nat.reduceAdd, Nat.reduceSub, Array.replicate_succ, Array.replicate_zero, List.push_toArray, List.append_toArray, List.nil_append, List.cons_append]
  have hlen : zs.length ≤ 9223372036854775807 := hr.2.1
  gi_wp2
  gi_loopw [7] (fun i7 wr => ∃ (k : Nat), k ≤ zs.length ∧ i7 = .int .i64 k ∧ J (zs.take k) wr ∧ Below w.heap.size w wr)
    (fun i _ => zs.length - (intOf i).toNat)
  case atStart => exact ⟨0, Nat.zero_le _, rfl, by simpa using h0, hW⟩
  case round =>
    obtain ⟨k, hk, rfl, hJs, hb⟩ := hrel
    by_cases hlt : k < zs.length
    rotate_left
    · obtain rfl : k = zs.length := by omega
      gi_wp2
      go_end0
      exact ⟨⟨_, rfl⟩, .inl ⟨zs, rfl, by simpa using hJs⟩⟩
    obtain ⟨ad, rfl, hx0⟩ := Kd.Zcq hr (k : Int) (by omega) (by omega)
    have hx0 := (hb.cell (World.block_lt_of_cell? w _ hx0)).trans hx0
    simp only [Int.toNat_natCast] at hx0
    have htk : zs.take (k + 1) = zs.take k ++ [rd zs (k : Int)] := by
      rw [List.take_succ_eq_append_getElem hlt]
      simp [rd, List.getD_eq_getElem?_getD, List.getElem?_eq_getElem hlt]
    have HT := Za.mk htk
    clear htk
    have hy0 := hY (zs.take k) (rd zs (k : Int)) wr hJs (by rw [List.length_take]; omega)
    generalize rd zs (k : Int) = x at *
    obtain ⟨fn, tmps, assign, body, hy, hR⟩ := hy0
    gi_wp2
    refine hR.mono ?_
    rintro e W3 (⟨rfl, hJ3, hk3⟩ | ⟨rfl, hJx3⟩)
    · have hb3 := hb.trans hk3.1
      clear hR hy hx0
      gi_wp2
      go_roundw
      case rel => exact ⟨k + 1, by omega, by first | rfl | go_num, by rw [HT.out]; exact hJ3, hb3⟩
      case measure => simp [intOf]; omega
    gi_wp2
    refine bodyPost_ret (results_none rfl _ _ _) rfl ?_
    exact ⟨⟨_, rfl⟩, .inr ⟨_, by rw [← HT.out]; exact List.take_prefix _ _, hJx3⟩⟩
theorem values_in (F : Fence) (n : Nat) (h : F.fn 89) (hro : F.round = none) (A : Option Addr) (len cap : Nat) (w : World) :
    CallsIn F n Try.prog 89 #[.slice A len cap] w fun e w' => e = .returned (.func (.func 111) #[] #[.pointer (some ⟨w.heap.size, 0, none⟩)]) ∧ w' = w.alloc (.cells #[.slice A len cap] 24) := by
  refine callsIn_of_wp Try.func89 rfl h ?_ hro
  simp only [Try.ntmps89, List.size_toArray, List.length_cons, List.length_nil, Nat.reduceAdd, Nat.reduceSub, Array.replicate_succ, Array.replicate_zero, List.push_toArray, List.append_toArray, List.nil_append, List.cons_append]
  gi_wp2
  go_ret
  exact ⟨rfl, rfl⟩
theorem values_stops (F : Fence) (n : Nat) (h1 : F.fn 111) (hro : F.round = none) (hn : 1 ≤ n) (Bs : Nat) (w0 w : World) (A : Option Addr) (c : Nat) (zs : List Int) (hr : Kd.C (Kd.int .i64) w0 A zs.length zs) (hBs : Bs < w.heap.size) (hw : Below w0.heap.size w0 w)
    (hc : w.cell? ⟨Bs, 0, none⟩ = some (.slice A zs.length c)) :
    SeqStopsK F n Try.prog 111 #[.pointer (some ⟨Bs, 0, none⟩)] (fun x : Int => #[Value.int .i64 x]) (Kp w0.heap.size) (fun ys => ys = zs) (fun pre => pre <+: zs) zs.length w := fun l J Jx W hW _ _ hY h0 =>
  values1_in F n h1 hro hn l Bs w0 A c zs hr J Jx hY W (hw.trans (hW.mono hw.size)) ((hW.cell (p := ⟨Bs, 0, none⟩) hBs).trans hc) h0
theorem infoI : (Try.prog.info? 3).map (fun i => (i.zero, i.size, i.bytes)) = some (some (.int .i64 0), 1, 8) := by kernel_rfl
set_option maxRecDepth 100000 in
set_option maxHeartbeats 4000000 in
theorem appendSeq_in (F : Fence) (n : Nat) (h : F.fn 118) (hro : F.round = none) (hn : 2 ≤ n) (g : Nat) (lb : Array Value) (hFg : F.fn g) (eg : ∀ args w, (callFunc g args).run Try.prog w = .ok (.enter g args) w)
    (n0 : Nat) (S Sp : List Int → Prop) (N : Nat) (hN : N * 8 ≤ 140737488355328) (w0 w : World) (hw : Below w0.heap.size w0 w) (hn0 : n0 ≤ w.heap.size) (hseq : SeqStopsK F (n - 1) Try.prog g lb (fun x : Int => #[Value.int .i64 x]) (Kp n0) S Sp N w0) :
    CallsIn F n Try.prog 118 #[.slice none 0 0, .func (.func g) #[] lb] w fun e w' => ∃ (v : Value) (xs : List Int), e = .returned v ∧ S xs ∧ w'.ownsRow w.heap.size 3 1 v xs.length (xs.map (Value.int .i64)) ∧ Below w.heap.size w w' := by
  have h1 : 1 ≤ n := by omega
  obtain ⟨i0, hi, hz0, hz1, hz2⟩ := info_parts infoI
  refine callsIn_of_wp_marks Try.func118 rfl h ?_ hro
  simp only [Try.ntmps118, List.size_toArray, List.length_cons, List.length_nil, Nat.reduceAdd, Nat.reduceSub, Array.replicate_succ, Array.replicate_zero, List.push_toArray, List.append_toArray, List.nil_append, List.cons_append]
  gi_wp2
  have bO := Boxed.new w 24 (.slice none 0 0)
  have hB0 : Below w.heap.size w (w.alloc (.cells #[.slice none 0 0] 24)) := (Below.refl _ w).alloc (Nat.le_refl _) _
  have hseq' : SeqStopsK F (n - 1) Try.prog g lb (fun x : Int => #[Value.int .i64 x]) (Kp n0) S Sp N (w.alloc (.cells #[.slice none 0 0] 24)) := fun l J Jx W hW a b c d => hseq l J Jx W (hw.trans ((hB0.mono hw.size).trans (hW.mono (by have := hw.size; simp; omega)))) a b c d
  refine wpIn_rangeFunc_ownG hro h1 (gf := g) (lb := lb) rfl hFg eg hseq' Kp.t (Kp.b (by simp; omega)) (Below.refl _ _) (fun _ => rfl)
    (fun pre W => (∃ v, Boxed W w.heap.size 24 v ∧ W.ownsRow w.heap.size 3 1 v pre.length (pre.map (Value.int .i64)) ∧ True) ∧ Below w.heap.size w W)
    (fun _ _ _ => False)
    (OwnFrom.and (Own.from (holdsRow_own w.heap.size w.heap.size 24 3 1 (fun pre : List Int => pre.length) (fun pre => pre.map (Value.int .i64)) (fun _ _ => True)) _) (ownFrom_below (Nat.le_refl _) (by simp)))
    (fun _ _ _ _ _ hs _ _ => hs)
    ⟨⟨_, bO, World.ownsRow_nil _ _ _ _, trivial⟩, hB0⟩
    (fun x => { tmps := #[.slice none 0 0, .func (.func g) #[] lb, .pointer (some ⟨w.heap.size, 0, none⟩), undef, .slice none 0 0, .int .i64 x, .func (.func g) #[] lb, .int .i64 x, undef, undef, undef, undef, undef], defers := [] }) ?assign ?body ?done ?stop
  case assign =>
    intro l x W K hK
    gi_wp2
    exact hK
  case body =>
    rintro l pre x W ⟨⟨v, hv, hrow, _⟩, hB⟩ hlt
    have hc := hv.cell
    gi_wp2_with (gi_at_builtin; refine wpListIn_append_own _ rfl _ _ 24 rfl w.heap.size 3 i0 (.int .i64 0) 1 8 Try.underlying24 hi hz0 hz1 hz2 rfl (by decide) _ _ _ rfl (hrow.alloc _) ⟨W.heap.size, 0, none⟩ 1 1 [.int .i64 x] rfl rfl (cell_one_new _ _ _) (by simp [Value.oneCell']) (by unfold maxLen; omega) (by omega) (by have := hB.size; simp; omega) ?_; intro v' w1 hown' hgrow _; obtain ⟨g', cap', rfl⟩ := ownsRow_succ hown'; have hty := (KeepsTy.alloc 48 W (.cells #[.int .i64 x] 3)).trans (KeepsTy.row (hrow.alloc _) (by decide) hgrow); obtain ⟨hv1, hv2, hr2, hk2, hb2⟩ := hv.appended (by decide) hrow hB.size (Nat.le_refl _) hown' hgrow; have hty2 := hty.trans (KeepsTy.box hv1 (v' := .slice (some ⟨g', 0, none⟩) (pre.length + 1) cap') (by decide)); have hc1 := hv1.cell; have hf1 := hv1.frozen)
    exact ⟨hk2.from _, ⟨hb2.mono hn0, hty2⟩, ⟨_, hv2, by simpa using hr2, trivial⟩, hB.trans hb2⟩
  case done =>
    rintro D ys W hD hS ⟨⟨v, hv, hrow, _⟩, hB⟩ hK
    have hc := hv.cell
    gi_wp2
    refine ⟨by simp, .inl ⟨_, _, rfl, run_takeDeferred hK, ?_⟩⟩
    exact ⟨_, results_tmp rfl _ _ _, v, ys, rfl, hS, ownsRow_putObj hrow _ hK rfl, hB.trans (belowK_b (w := w) (Nat.le_refl _) W D _ _ (by simp at hD; omega) hK rfl rfl)⟩
  case stop =>
    rintro D c pre W _ _ h _
    exact h.elim
set_option maxHeartbeats 1000000 in
theorem collect_in (F : Fence) (n : Nat) (h : F.fn 110) (h2 : F.fn 118) (hro : F.round = none) (hn : 3 ≤ n) (g : Nat) (lb : Array Value) (hFg : F.fn g) (eg : ∀ args w, (callFunc g args).run Try.prog w = .ok (.enter g args) w)
    (n0 : Nat) (S Sp : List Int → Prop) (N : Nat) (hN : N * 8 ≤ 140737488355328) (w0 w : World) (hw : Below w0.heap.size w0 w) (hn0 : n0 ≤ w.heap.size) (hseq : SeqStopsK F (n - 1 - 1) Try.prog g lb (fun x : Int => #[Value.int .i64 x]) (Kp n0) S Sp N w0) :
    CallsIn F n Try.prog 110 #[.func (.func g) #[] lb] w fun e w' => ∃ (v : Value) (xs : List Int), e = .returned v ∧ S xs ∧ w'.ownsRow w.heap.size 3 1 v xs.length (xs.map (Value.int .i64)) ∧ Below w.heap.size w w' := by
  have h1 : 1 ≤ n := by omega
  refine callsIn_of_wp Try.func110 rfl h ?_ hro
  simp only [Try.ntmps110, List.size_toArray, List.length_cons, List.length_nil, Nat.reduceAdd, Nat.reduceSub, Array.replicate_succ, Array.replicate_zero, List.push_toArray, List.append_toArray, List.nil_append, List.cons_append]
  have cA := fun W (hw : Below w0.heap.size w0 W) hn0 => appendSeq_in F (n - 1) h2 hro (by omega) g lb hFg eg n0 S Sp N hN w0 W hw hn0 hseq
  gi_wp2_with (gi_at_call 118; refine (cA _ hw hn0).mono ?_; rintro e w' ⟨v, xs, rfl, hS, hrow, hb⟩)
  go_ret
  exact ⟨v, xs, rfl, hS, hrow, hb⟩
end Go.Proofs.Ytkgjaklnbgdmiaa.P
/- The library's sort and its like, laid at this program (the shelf's contracts). -/
namespace Go.Proofs.Ytkgjaklnbgdmiaa.P
open Go.Shelf Go.Proofs
def lsort_ren : Go.Shelf.Ren := ⟨fun | 5 => 45 | 7 => 80 | 8 => 81 | 10 => 98 | 11 => 99 | 12 => 100 | 13 => 101 | 14 => 102 | 15 => 103 | 16 => 104 | 17 => 105 | 18 => 106 | 19 => 107 | 20 => 108 | 30 => 112 | 31 => 113 | 32 => 114 | 33 => 115 | 34 => 116 | 35 => 117 | 40 => 119 | n => n, fun | 0 => 0 | 3 => 3 | 4 => 4 | 5 => 5 | 9 => 9 | 22 => 24 | 23 => 24 | 25 => 3 | 32 => 58 | 35 => 102 | 36 => 103 | 41 => 81 | 44 => 109 | 46 => 97 | 53 => 111 | 57 => 115 | 63 => 118 | 64 => 119 | n => n, fun n => n⟩
theorem lsort : SlLaysM.n5 Try.prog lsort_ren := {
  mixed := by kernel_rfl,
  f5 := ⟨Try.f45.name, by decide, Try.func45.trans (congrArg some (by kernel_rfl))⟩,
  f7 := ⟨Try.f80.name, by decide, Try.func80.trans (congrArg some (by kernel_rfl))⟩,
  f8 := Try.func81.trans (congrArg some (by kernel_rfl)),
  f10 := ⟨Try.f98.name, by decide, Try.func98.trans (congrArg some (by kernel_rfl))⟩,
  f11 := ⟨Try.f99.name, by decide, Try.func99.trans (congrArg some (by kernel_rfl))⟩,
  f12 := ⟨Try.f100.name, by decide, Try.func100.trans (congrArg some (by kernel_rfl))⟩,
  f13 := ⟨Try.f101.name, by decide, Try.func101.trans (congrArg some (by kernel_rfl))⟩,
  f14 := ⟨Try.f102.name, by decide, Try.func102.trans (congrArg some (by kernel_rfl))⟩,
  f15 := ⟨Try.f103.name, by decide, Try.func103.trans (congrArg some (by kernel_rfl))⟩,
  f16 := ⟨Try.f104.name, by decide, Try.func104.trans (congrArg some (by kernel_rfl))⟩,
  f17 := ⟨Try.f105.name, by decide, Try.func105.trans (congrArg some (by kernel_rfl))⟩,
  f18 := ⟨Try.f106.name, by decide, Try.func106.trans (congrArg some (by kernel_rfl))⟩,
  f19 := Try.func107.trans (congrArg some (by kernel_rfl)),
  f20 := Try.func108.trans (congrArg some (by kernel_rfl)),
  f30 := ⟨Try.f112.name, by decide, Try.func112.trans (congrArg some (by kernel_rfl))⟩,
  f31 := Try.func113.trans (congrArg some (by kernel_rfl)),
  f32 := Try.func114.trans (congrArg some (by kernel_rfl)),
  f33 := ⟨Try.f115.name, by decide, Try.func115.trans (congrArg some (by kernel_rfl))⟩,
  f34 := ⟨Try.f116.name, by decide, Try.func116.trans (congrArg some (by kernel_rfl))⟩,
  f35 := ⟨Try.f117.name, by decide, Try.func117.trans (congrArg some (by kernel_rfl))⟩,
  f40 := ⟨Try.f119.name, by decide, Try.func119.trans (congrArg some (by kernel_rfl))⟩,
  t0 := Try.underlying0,
  a0 := Try.isAgg0,
  z0 := Try.sizeOf0,
  v0 := Try.zeroValue0,
  t3 := Try.underlying3,
  a3 := Try.isAgg3,
  z3 := Try.sizeOf3,
  v3 := Try.zeroValue3,
  t4 := Try.underlying4,
  a4 := Try.isAgg4,
  z4 := Try.sizeOf4,
  v4 := Try.zeroValue4,
  t5 := Try.underlying5,
  a5 := Try.isAgg5,
  z5 := Try.sizeOf5,
  v5 := Try.zeroValue5,
  t9 := Try.underlying9,
  a9 := Try.isAgg9,
  z9 := Try.sizeOf9,
  v9 := Try.zeroValue9,
  t22 := Try.underlying24,
  a22 := Try.isAgg24,
  z22 := Try.sizeOf24,
  v22 := Try.zeroValue24,
  t23 := Try.underlying24,
  a23 := Try.isAgg24,
  z23 := Try.sizeOf24,
  v23 := Try.zeroValue24,
  t25 := Try.underlying3,
  a25 := Try.isAgg3,
  z25 := Try.sizeOf3,
  v25 := Try.zeroValue3,
  t32 := Try.underlying58,
  a32 := Try.isAgg58,
  z32 := Try.sizeOf58,
  v32 := Try.zeroValue58,
  t35 := Try.underlying102,
  a35 := Try.isAgg102,
  z35 := Try.sizeOf102,
  v35 := Try.zeroValue102,
  t36 := Try.underlying103,
  a36 := Try.isAgg103,
  z36 := Try.sizeOf103,
  v36 := Try.zeroValue103,
  t41 := Try.underlying81,
  a41 := Try.isAgg81,
  z41 := Try.sizeOf81,
  v41 := Try.zeroValue81,
  t44 := Try.underlying109,
  a44 := Try.isAgg109,
  z44 := Try.sizeOf109,
  v44 := Try.zeroValue109,
  t46 := Try.underlying97,
  a46 := Try.isAgg97,
  z46 := Try.sizeOf97,
  v46 := Try.zeroValue97,
  t53 := Try.underlying111,
  a53 := Try.isAgg111,
  z53 := Try.sizeOf111,
  v53 := Try.zeroValue111,
  t57 := Try.underlying115,
  a57 := Try.isAgg115,
  z57 := Try.sizeOf115,
  v57 := Try.zeroValue115,
  t63 := Try.underlying118,
  a63 := Try.isAgg118,
  z63 := Try.sizeOf118,
  v63 := Try.zeroValue118,
  t64 := Try.underlying119,
  a64 := Try.isAgg119,
  z64 := Try.sizeOf119,
  v64 := Try.zeroValue119 }
def lcompact_ren : Go.Shelf.Ren := ⟨fun | 43 => 46 | n => n, fun | 0 => 0 | 3 => 3 | 4 => 4 | 22 => 24 | 23 => 3 | n => n, fun n => n⟩
theorem lcompact : SlLaysN.n43 Try.prog lcompact_ren := {
  mixed := by kernel_rfl,
  f43 := ⟨Try.f46.name, by decide, Try.func46.trans (congrArg some (by kernel_rfl))⟩,
  t0 := Try.underlying0,
  a0 := Try.isAgg0,
  z0 := Try.sizeOf0,
  v0 := Try.zeroValue0,
  t3 := Try.underlying3,
  a3 := Try.isAgg3,
  z3 := Try.sizeOf3,
  v3 := Try.zeroValue3,
  t4 := Try.underlying4,
  a4 := Try.isAgg4,
  z4 := Try.sizeOf4,
  v4 := Try.zeroValue4,
  t22 := Try.underlying24,
  a22 := Try.isAgg24,
  z22 := Try.sizeOf24,
  v22 := Try.zeroValue24,
  t23 := Try.underlying3,
  a23 := Try.isAgg3,
  z23 := Try.sizeOf3,
  v23 := Try.zeroValue3,
  i23 := by kernel_rfl }
end Go.Proofs.Ytkgjaklnbgdmiaa.P
/- slices.ContainsFunc over ints, slices.Sorted over an iterator. -/
namespace Go.Proofs.Ytkgjaklnbgdmiaa.P
open Go.RowKit Go.Shelf Go.Proofs.YtkgjaklnbgdmiaaW.PrintWords Go.Proofs.YtkgjaklnbgdmiaaW.PrintLast Go.Proofs.YtkgjaklnbgdmiaaW.PrintMore
set_option linter.unusedVariables false
set_option linter.unusedSimpArgs false
def insI (x : Int) : List Int → List Int
  | [] => [x]
  | y :: ys => if x ≤ y then x :: y :: ys else y :: insI x ys
def sortI : List Int → List Int
  | [] => []
  | x :: xs => insI x (sortI xs)
theorem Zfm (x : Int) : ∀ l, List.Perm (insI x l) (x :: l)
  | [] => List.Perm.refl _
  | y :: ys => by
    unfold insI
    split
    · exact List.Perm.refl _
    exact ((Zfm x ys).cons y).trans (List.Perm.swap x y ys)
theorem Zef : ∀ l, List.Perm (sortI l) l
  | [] => List.Perm.refl _
  | x :: xs => (Zfm x _).trans ((Zef xs).cons x)
theorem insI_le (x : Int) : ∀ l, List.Pairwise (fun a b : Int => a ≤ b) l → List.Pairwise (fun a b : Int => a ≤ b) (insI x l)
  | [], _ => by simp [insI]
  | y :: ys, h => by
    unfold insI
    split
    · rename_i hxy
      refine List.pairwise_cons.2 ⟨fun z hz => ?_, h⟩
      rcases List.mem_cons.1 hz with rfl | hz
      · exact hxy
      have := (List.pairwise_cons.1 h).1 z hz
      omega
    rename_i hxy
    refine List.pairwise_cons.2 ⟨fun z hz => ?_, insI_le x ys (List.pairwise_cons.1 h).2⟩
    rcases List.mem_cons.1 ((Zfm x ys).mem_iff.1 hz) with rfl | hz
    · omega
    exact (List.pairwise_cons.1 h).1 z hz
theorem sortI_le : ∀ l, List.Pairwise (fun a b : Int => a ≤ b) (sortI l)
  | [] => List.Pairwise.nil
  | x :: xs => insI_le x _ (sortI_le xs)
theorem Zfp (l : List Int) : (l.mergeSort fun x y => decide (x ≤ y)) = sortI l := by
  refine List.Perm.eq_of_pairwise (le := fun a b : Int => a ≤ b) (fun a b _ _ h1 h2 => by omega) ?_ (sortI_le l) ((List.mergeSort_perm l _).trans (Zef l).symm)
  have := List.pairwise_mergeSort (le := fun x y : Int => decide (x ≤ y)) (fun a b c h1 h2 => by simp at *; omega) (fun a b => by simp; omega) l
  exact this.imp (fun h => by simpa using h)
theorem Zdb (l : List Int) : (sortI l).length = l.length := (Zef l).length_eq
set_option maxHeartbeats 2000000 in
theorem indexFunc_int (p : Int → Bool) (g : Nat) (lb : Array Value) (eg : ∀ args w, (callFunc g args).run Try.prog w = .ok (.enter g args) w) (A : Option Addr) (c : Nat) (zs : List Int) (w : World) (hr : Kd.C (Kd.int .i64) w A zs.length zs)
    (hp : ∀ k, k < zs.length → ∀ q, Calls Try.prog g (#[.int .i64 (rd zs (k : Int))] ++ lb) (w.drewN q) fun e w' => e = .returned (.bool (p (rd zs (k : Int)))) ∧ ∃ q', w' = (w.drewN q).drewN q') :
    Calls Try.prog 59 #[.slice A zs.length c, .func (.func g) #[] lb] w fun e w' => (∃ i : Int, e = .returned (.int .i64 i) ∧ decide (0 ≤ i) = zs.any p) ∧ ∃ q, w' = w.drewN q := by
  have hlen : zs.length ≤ 9223372036854775807 := hr.2.1
  have hany : ∀ k, zs.any p = ((zs.take k).any p || (zs.drop k).any p) := fun k => by rw [← List.any_append, List.take_append_drop]
  have HY := Za.mk hany
  clear hany
  go_enter Try.func59, Try.ntmps59
  go_wp2
  go_loopg [5, 8] zs.length (fun gg _ s8 wr => ∃ kk q : Nat, kk ≤ zs.length ∧ zs.length - kk ≤ gg ∧ s8 = .int .i64 kk ∧ wr = w.drewN q ∧ Za ((zs.take kk).any p = false))
  case atStart => exact ⟨0, 0, Nat.zero_le _, by omega, rfl, rfl, ⟨by simp⟩⟩
  case round =>
    obtain ⟨kk, q, hkk, hg, rfl, rfl, A1⟩ := hrel
    by_cases hlt : kk < zs.length
    rotate_left
    · obtain rfl : kk = zs.length := by omega
      go_wp2
      go_ret
      refine ⟨⟨_, rfl, ?_⟩, q, rfl⟩
      have := A1.out
      rw [List.take_length] at this
      rw [this]
      rfl
    obtain ⟨ad, rfl, hx0⟩ := Kd.Zcq hr (kk : Int) (by omega) (by omega)
    simp only [Int.toNat_natCast] at hx0
    have hcall := hp kk hlt
    clear hp
    have htk : Za (zs.take (kk + 1) = zs.take kk ++ [rd zs (kk : Int)]) := ⟨by
      rw [List.take_succ_eq_append_getElem hlt]
      simp [rd, List.getD_eq_getElem?_getD, List.getElem?_eq_getElem hlt]⟩
    generalize rd zs (kk : Int) = y at *
    cases hq : p y with
    | true =>
      rw [hq] at hcall
      have B := Za.mk hq
      clear hq
      go_wp2_with (go_at_fn g; refine (hcall _).mono ?_; rintro e w' ⟨rfl, q', rfl⟩)
      go_ret
      refine ⟨⟨_, rfl, ?_⟩, _, rfl⟩
      rw [HY.out (kk + 1), htk.out, List.any_append]
      simp [B.out]
    | false =>
      rw [hq] at hcall
      have B := Za.mk hq
      clear hq
      go_wp2_with (go_at_fn g; refine (hcall _).mono ?_; rintro e w' ⟨rfl, q', rfl⟩)
      go_roundg (zs.length - (kk + 1))
      case measure => omega
      case rel => exact ⟨kk + 1, _, by omega, by omega, by go_num, rfl, ⟨by rw [htk.out, List.any_append, A1.out]; simp [B.out]⟩⟩
theorem Zdn (p : Int → Bool) (g : Nat) (lb : Array Value) (eg : ∀ args w, (callFunc g args).run Try.prog w = .ok (.enter g args) w) (A : Option Addr) (c : Nat) (zs : List Int) (w : World) (hr : Kd.C (Kd.int .i64) w A zs.length zs)
    (hp : ∀ k, k < zs.length → ∀ q, Calls Try.prog g (#[.int .i64 (rd zs (k : Int))] ++ lb) (w.drewN q) fun e w' => e = .returned (.bool (p (rd zs (k : Int)))) ∧ ∃ q', w' = (w.drewN q).drewN q') :
    Calls Try.prog 39 #[.slice A zs.length c, .func (.func g) #[] lb] w fun e w' => e = .returned (.bool (zs.any p)) ∧ ∃ q, w' = w.drewN q := by
  have hI := indexFunc_int p g lb eg A c zs w hr hp
  go_enter Try.func39, Try.ntmps39
  go_wp2_with (go_at_call 59; refine hI.mono ?_; rintro e w' ⟨⟨i, rfl, hi⟩, q, rfl⟩)
  go_ret
  exact ⟨by rw [← hi]; rfl, q, rfl⟩
set_option maxHeartbeats 2000000 in
theorem Ze4 (v : Value) (xs : List Int) (w0 w : World) (hx : xs.length < 4611686018427387904) (hS : w0.heap.size ≤ w.heap.size) (hrow : w.ownsRow w0.heap.size 3 1 v xs.length (xs.map (Value.int .i64))) (hB : Below w0.heap.size w0 w) :
    Calls Try.prog 45 #[v] w fun e w' => e = .returned (.tuple #[]) ∧ w'.ownsRow w0.heap.size 3 1 v xs.length ((sortI xs).map (Value.int .i64)) ∧ Below w0.heap.size w0 w' := by
  rcases hrow.2 with ⟨rfl, h0⟩ | ⟨g, cap, cur, rfl, hg, hb, hn, hcap, hsz, htk⟩
  · have hx : xs = [] := List.length_eq_zero_iff.1 h0
    subst hx
    refine (AnyM.slices_Sort_int_none lsort none 0 w).mono ?_
    rintro e w' ⟨rfl, rfl⟩
    exact ⟨rfl, hrow, hB⟩
  have hlt : g < w.heap.size := (Array.getElem?_eq_some_iff.1 hb).1
  refine (AnyM.slices_Sort_int lsort g 0 cap xs w (holds_of_blockI hb (by simpa using htk)) hlt hx).mono ?_
  rintro e w' ⟨rfl, n, os, rfl⟩
  rw [Zfp]
  refine ⟨rfl, ownsRow_sortedI (Zdb xs) hg hb hn hcap hsz, ?_⟩
  exact hB.grown (grownBy_sortedI _) hS (fun k e => by cases e; exact hg)
set_option maxHeartbeats 1000000 in
theorem sorted_calls (g : Nat) (lb : Array Value) (eg : ∀ args w, (callFunc g args).run Try.prog w = .ok (.enter g args) w) (n0 : Nat) (S Sp : List Int → Prop) (N : Nat) (hN : N * 8 ≤ 140737488355328) (hSN : ∀ xs, S xs → xs.length ≤ N) (w0 w : World) (hw : Below w0.heap.size w0 w) (hn0 : n0 ≤ w.heap.size)
    (hseq : SeqStopsK Fence.wide 7 Try.prog g lb (fun x : Int => #[Value.int .i64 x]) (Kp n0) S Sp N w0) :
    Calls Try.prog 88 #[.func (.func g) #[] lb] w fun e w' => ∃ (v : Value) (xs : List Int), e = .returned v ∧ S xs ∧ w'.ownsRow w.heap.size 3 1 v xs.length ((sortI xs).map (Value.int .i64)) ∧ Below w.heap.size w w' := by
  have cB := callsIn_wide.1 (collect_in Fence.wide 9 trivial trivial rfl (by omega) g lb trivial eg n0 S Sp N hN w0 w hw hn0 hseq)
  go_enter Try.func88, Try.ntmps88
  go_wp2_with (first | (go_at_call 110; refine cB.mono ?_; rintro e w' ⟨v, xs, rfl, hS, hrow, hb⟩) | (go_at_call 45; refine (Ze4 v xs w w' (by have := hSN xs hS; omega) hb.size hrow hb).mono ?_; rintro e w'' ⟨rfl, hrow2, hb2⟩))
  go_ret
  exact ⟨v, xs, rfl, hS, hrow2, hb2⟩
end Go.Proofs.Ytkgjaklnbgdmiaa.P
/- slices.ContainsFunc over whole numbers and over lists of them; the function may lay blocks of its own. -/
namespace Go.Proofs.Ytkgjaklnbgdmiaa.P
open Go.RowKit Go.Shelf Go.Proofs.YtkgjaklnbgdmiaaW.PrintWords Go.Proofs.YtkgjaklnbgdmiaaW.PrintLast Go.Proofs.YtkgjaklnbgdmiaaW.PrintMore
set_option linter.unusedVariables false
set_option linter.unusedSimpArgs false
set_option maxHeartbeats 2000000 in
theorem Zf3 (p : Int → Bool) (g : Nat) (lb : Array Value) (eg : ∀ args w, (callFunc g args).run Try.prog w = .ok (.enter g args) w) (A : Option Addr) (c : Nat) (zs : List Int) (w : World) (hr : Kd.C (Kd.int .i64) w A zs.length zs)
    (hp : ∀ k, k < zs.length → ∀ W, Below w.heap.size w W → Calls Try.prog g (#[.int .i64 (rd zs (k : Int))] ++ lb) W fun e w' => e = .returned (.bool (p (rd zs (k : Int)))) ∧ Below W.heap.size W w') :
    Calls Try.prog 59 #[.slice A zs.length c, .func (.func g) #[] lb] w fun e w' => (∃ i : Int, e = .returned (.int .i64 i) ∧ decide (0 ≤ i) = zs.any p) ∧ Below w.heap.size w w' := by
  have hlen : zs.length ≤ 9223372036854775807 := hr.2.1
  have hany : ∀ k, zs.any p = ((zs.take k).any p || (zs.drop k).any p) := fun k => by rw [← List.any_append, List.take_append_drop]
  have HY := Za.mk hany
  have HR := Za.mk hr
  have HP := Za.mk hp
  clear hany hr hp
  obtain ⟨wo, rfl⟩ : ∃ wo : World, wo = w := ⟨_, rfl⟩
  go_enter Try.func59, Try.ntmps59
  go_wp2
  go_loopg [5, 8] zs.length (fun gg _ s8 wr => ∃ kk : Nat, kk ≤ zs.length ∧ zs.length - kk ≤ gg ∧ s8 = .int .i64 kk ∧ Za (Below wo.heap.size wo wr) ∧ Za ((zs.take kk).any p = false))
  case atStart => exact ⟨0, Nat.zero_le _, by omega, rfl, ⟨Below.refl _ _⟩, ⟨by simp⟩⟩
  case round =>
    obtain ⟨kk, hkk, hg, rfl, BW, A1⟩ := hrel
    by_cases hlt : kk < zs.length
    rotate_left
    · obtain rfl : kk = zs.length := by omega
      go_wp2
      go_ret
      refine ⟨⟨_, rfl, ?_⟩, BW.out⟩
      have := A1.out
      rw [List.take_length] at this
      rw [this]
      rfl
    obtain ⟨ad, rfl, hx0⟩ := Kd.Zcq (Kd.Zal HR.out BW.out) (kk : Int) (by omega) (by omega)
    simp only [Int.toNat_natCast] at hx0
    have hcall := HP.out kk hlt wr BW.out
    have htk : Za (zs.take (kk + 1) = zs.take kk ++ [rd zs (kk : Int)]) := ⟨by
      rw [List.take_succ_eq_append_getElem hlt]
      simp [rd, List.getD_eq_getElem?_getD, List.getElem?_eq_getElem hlt]⟩
    generalize rd zs (kk : Int) = y at hx0 hcall htk
    cases hq : p y with
    | true =>
      rw [hq] at hcall
      have B := Za.mk hq
      clear hq
      go_wp2_with (go_at_fn g; refine hcall.mono ?_; rintro e w' ⟨rfl, hb'⟩)
      go_ret
      refine ⟨⟨_, rfl, ?_⟩, Zaf BW.out hb'⟩
      rw [HY.out (kk + 1), htk.out, List.any_append]
      simp [B.out]
    | false =>
      rw [hq] at hcall
      have B := Za.mk hq
      clear hq
      go_wp2_with (go_at_fn g; refine hcall.mono ?_; rintro e w' ⟨rfl, hb'⟩)
      go_roundg (zs.length - (kk + 1))
      case measure => omega
      case rel => exact ⟨kk + 1, by omega, by omega, by go_num, ⟨Zaf BW.out hb'⟩, ⟨by rw [htk.out, List.any_append, A1.out]; simp [B.out]⟩⟩
theorem Ze2 (p : Int → Bool) (g : Nat) (lb : Array Value) (eg : ∀ args w, (callFunc g args).run Try.prog w = .ok (.enter g args) w) (A : Option Addr) (c : Nat) (zs : List Int) (w : World) (hr : Kd.C (Kd.int .i64) w A zs.length zs)
    (hp : ∀ k, k < zs.length → ∀ W, Below w.heap.size w W → Calls Try.prog g (#[.int .i64 (rd zs (k : Int))] ++ lb) W fun e w' => e = .returned (.bool (p (rd zs (k : Int)))) ∧ Below W.heap.size W w') :
    Calls Try.prog 39 #[.slice A zs.length c, .func (.func g) #[] lb] w fun e w' => e = .returned (.bool (zs.any p)) ∧ Below w.heap.size w w' := by
  have hI := Zf3 p g lb eg A c zs w hr hp
  go_enter Try.func39, Try.ntmps39
  go_wp2_with (go_at_call 59; refine hI.mono ?_; rintro e w' ⟨⟨i, rfl, hi⟩, hb⟩)
  go_ret
  exact ⟨by rw [← hi]; rfl, hb⟩
set_option maxHeartbeats 2000000 in
theorem indexFunc_L (p : List Int → Bool) (g : Nat) (lb : Array Value) (eg : ∀ args w, (callFunc g args).run Try.prog w = .ok (.enter g args) w) (A : Option Addr) (c : Nat) (zs : List (List Int)) (w : World) (hr : Kd.C (Kd.slice 3 (Kd.int .i64)) w A zs.length zs)
    (hp : ∀ (x : List Int) (A1 : Option Addr) (c1 : Nat), x ∈ zs → ∀ W, Below w.heap.size w W → Kd.C (Kd.int .i64) W A1 x.length x → x.length ≤ c1 → Calls Try.prog g (#[.slice A1 x.length c1] ++ lb) W fun e w' => e = .returned (.bool (p x)) ∧ Below W.heap.size W w') :
    Calls Try.prog 91 #[.slice A zs.length c, .func (.func g) #[] lb] w fun e w' => (∃ i : Int, e = .returned (.int .i64 i) ∧ decide (0 ≤ i) = zs.any p) ∧ Below w.heap.size w w' := by
  have hlen : zs.length ≤ 9223372036854775807 := hr.2.1
  have hany : ∀ k, zs.any p = ((zs.take k).any p || (zs.drop k).any p) := fun k => by rw [← List.any_append, List.take_append_drop]
  have HY := Za.mk hany
  have HR := Za.mk hr
  have HP := Za.mk hp
  clear hany hr hp
  obtain ⟨wo, rfl⟩ : ∃ wo : World, wo = w := ⟨_, rfl⟩
  go_enter Try.func91, Try.ntmps91
  go_wp2
  go_loopg [5, 8] zs.length (fun gg _ s8 wr => ∃ kk : Nat, kk ≤ zs.length ∧ zs.length - kk ≤ gg ∧ s8 = .int .i64 kk ∧ Za (Below wo.heap.size wo wr) ∧ Za ((zs.take kk).any p = false))
  case atStart => exact ⟨0, Nat.zero_le _, by omega, rfl, ⟨Below.refl _ _⟩, ⟨by simp⟩⟩
  case round =>
    obtain ⟨kk, hkk, hg, rfl, BW, A1⟩ := hrel
    by_cases hlt : kk < zs.length
    rotate_left
    · obtain rfl : kk = zs.length := by omega
      go_wp2
      go_ret
      refine ⟨⟨_, rfl, ?_⟩, BW.out⟩
      have := A1.out
      rw [List.take_length] at this
      rw [this]
      rfl
    obtain ⟨ad, A2, c2, rfl, hx0, hl0, hi0⟩ := at_L1 (Kd.Zal HR.out BW.out) (kk : Int) (by omega) (by omega)
    simp only [Int.toNat_natCast] at hx0
    have hcall := HP.out (Zc5 zs (kk : Int)) A2 c2 (by
      unfold Zc5
      rw [Int.toNat_natCast, List.getD_eq_getElem?_getD, List.getElem?_eq_getElem hlt]
      exact List.getElem_mem hlt) wr BW.out hi0 hl0
    have htk : Za (zs.take (kk + 1) = zs.take kk ++ [Zc5 zs (kk : Int)]) := ⟨by
      rw [List.take_succ_eq_append_getElem hlt]
      simp [Zc5, List.getD_eq_getElem?_getD, List.getElem?_eq_getElem hlt]⟩
    clear hl0 hi0
    generalize Zc5 zs (kk : Int) = y at hx0 hcall htk
    cases hq : p y with
    | true =>
      rw [hq] at hcall
      have B := Za.mk hq
      clear hq
      go_wp2_with (go_at_fn g; refine hcall.mono ?_; rintro e w' ⟨rfl, hb'⟩)
      go_ret
      refine ⟨⟨_, rfl, ?_⟩, Zaf BW.out hb'⟩
      rw [HY.out (kk + 1), htk.out, List.any_append]
      simp [B.out]
    | false =>
      rw [hq] at hcall
      have B := Za.mk hq
      clear hq
      go_wp2_with (go_at_fn g; refine hcall.mono ?_; rintro e w' ⟨rfl, hb'⟩)
      go_roundg (zs.length - (kk + 1))
      case measure => omega
      case rel => exact ⟨kk + 1, by omega, by omega, by go_num, ⟨Zaf BW.out hb'⟩, ⟨by rw [htk.out, List.any_append, A1.out]; simp [B.out]⟩⟩
theorem Zf1 (p : List Int → Bool) (g : Nat) (lb : Array Value) (eg : ∀ args w, (callFunc g args).run Try.prog w = .ok (.enter g args) w) (A : Option Addr) (c : Nat) (zs : List (List Int)) (w : World) (hr : Kd.C (Kd.slice 3 (Kd.int .i64)) w A zs.length zs)
    (hp : ∀ (x : List Int) (A1 : Option Addr) (c1 : Nat), x ∈ zs → ∀ W, Below w.heap.size w W → Kd.C (Kd.int .i64) W A1 x.length x → x.length ≤ c1 → Calls Try.prog g (#[.slice A1 x.length c1] ++ lb) W fun e w' => e = .returned (.bool (p x)) ∧ Below W.heap.size W w') :
    Calls Try.prog 68 #[.slice A zs.length c, .func (.func g) #[] lb] w fun e w' => e = .returned (.bool (zs.any p)) ∧ Below w.heap.size w w' := by
  have hI := indexFunc_L p g lb eg A c zs w hr hp
  go_enter Try.func68, Try.ntmps68
  go_wp2_with (go_at_call 91; refine hI.mono ?_; rintro e w' ⟨⟨i, rfl, hi⟩, hb⟩)
  go_ret
  exact ⟨by rw [← hi]; rfl, hb⟩
end Go.Proofs.Ytkgjaklnbgdmiaa.P
namespace Go.Proofs.Ytkgjaklnbgdmiaa.P
open Go.RowKit Go.Proofs.YtkgjaklnbgdmiaaW.PrintWords Go.Proofs.YtkgjaklnbgdmiaaW.PrintLast Go.Proofs.YtkgjaklnbgdmiaaW.PrintMore
attribute [local go_sem] Zcs Zcu Zc7 Zc8 Zcc Zcd Zct Zcv
set_option linter.unusedVariables false
set_option linter.unusedSimpArgs false
mutual
def Za3.l0 : Nat → List (S48) → List (S48) → List (S48) → Int → Int → Option ((List (S48)))
 | 0, _, _, _, _, _ => none
 | k + 1, x1, x5, x10, x11, x12 => if x12 < x11 then (if 0 ≤ x12 then (if x12 < (x10.length : Int) then (Za3.l1 k x1 x5 x10 x11 x12 x1 (x1.length : Int) 0 ((Zb x10 x12).f0) ((Zb x10 x12).f1)) else (none)) else (none)) else (some x5)
def Za3.l1 : Nat → List (S48) → List (S48) → List (S48) → Int → Int → List (S48) → Int → Int → Int → Int → Option ((List (S48)))
 | 0, _, _, _, _, _, _, _, _, _, _ => none
 | k + 1, x1, x5, x10, x11, x12, x16, x17, x18, x307000, x307001 => if x18 < x17 then (if 0 ≤ x18 then (if x18 < (x16.length : Int) then (if ((Zb x16 x18).f1) < x307000 then (Za3.j2 k x1 x5 x10 x11 x12 x16 x17 x18 true x307000 x307001 ((Zb x16 x18).f0) ((Zb x16 x18).f1)) else (Za3.j2 k x1 x5 x10 x11 x12 x16 x17 x18 (decide (((Zb x16 x18).f0) > x307001)) x307000 x307001 ((Zb x16 x18).f0) ((Zb x16 x18).f1))) else (none)) else (none)) else (if x307000 ≤ x307001 then (if x5.length < 8796093022208 then (Za3.l0 k x1 (x5 ++ [(⟨x307000, x307001⟩ : S48)]) x10 x11 (wrap64 (x12 + 1))) else (none)) else (Za3.l0 k x1 x5 x10 x11 (wrap64 (x12 + 1))))
def Za3.j2 : Nat → List (S48) → List (S48) → List (S48) → Int → Int → List (S48) → Int → Int → Bool → Int → Int → Int → Int → Option ((List (S48)))
 | 0, _, _, _, _, _, _, _, _, _, _, _, _, _ => none
 | k + 1, x1, x5, x10, x11, x12, x16, x17, x18, x33, x307000, x307001, x312000, x312001 => if x33 = true then (Za3.l1 k x1 x5 x10 x11 x12 x16 x17 (wrap64 (x18 + 1)) x307000 x307001) else (if x312000 > x307000 then (if x5.length < 8796093022208 then (Za3.l1 k x1 (x5 ++ [(⟨x307000, wrap64 (x312000 - 1)⟩ : S48)]) x10 x11 x12 x16 x17 (wrap64 (x18 + 1)) (wrap64 (x312001 + 1)) x307001) else (none)) else (Za3.l1 k x1 x5 x10 x11 x12 x16 x17 (wrap64 (x18 + 1)) (wrap64 (x312001 + 1)) x307001))
end
def Za3.f (k : Nat) (l0 : List (S48)) (l1 : List (S48)) : Option ((List (S48))) := Za3.l0 k l1 ([] : List (S48)) l0 (l0.length : Int) 0
theorem Za3.Ze7 : ∀ k, (∀ y0 y1 y2 y3 y4, LeO (Za3.l0 k y0 y1 y2 y3 y4) (Za3.l0 (k + 1) y0 y1 y2 y3 y4)) ∧ (∀ y0 y1 y2 y3 y4 y5 y6 y7 y8 y9, LeO (Za3.l1 k y0 y1 y2 y3 y4 y5 y6 y7 y8 y9) (Za3.l1 (k + 1) y0 y1 y2 y3 y4 y5 y6 y7 y8 y9)) ∧ (∀ y0 y1 y2 y3 y4 y5 y6 y7 y8 y9 y10 y11 y12, LeO (Za3.j2 k y0 y1 y2 y3 y4 y5 y6 y7 y8 y9 y10 y11 y12) (Za3.j2 (k + 1) y0 y1 y2 y3 y4 y5 y6 y7 y8 y9 y10 y11 y12))
 | 0 => ⟨fun _ _ _ _ _ r h => by simp [Za3.l0] at h, fun _ _ _ _ _ _ _ _ _ _ r h => by simp [Za3.l1] at h, fun _ _ _ _ _ _ _ _ _ _ _ _ _ r h => by simp [Za3.j2] at h⟩
 | k + 1 => by
  obtain ⟨ih0, ih1, ih2⟩ := Za3.Ze7 k
  refine ⟨?_, ?_, ?_⟩
  ·intro y0 y1 y2 y3 y4
   unfold Za3.l0
   repeat' first
   | (with_reducible exact ih0 _ _ _ _ _)
   | (with_reducible exact ih1 _ _ _ _ _ _ _ _ _ _)
   | (with_reducible exact ih2 _ _ _ _ _ _ _ _ _ _ _ _ _)
   | (with_reducible exact LeO.refl _)
   | (with_reducible exact LeO.none _)
   | (with_reducible refine LeO.ite ?_ ?_)
   | (with_reducible refine LeO.bind ?_ (fun _ => ?_))
   | exact ih0 _ _ _ _ _
   | exact ih1 _ _ _ _ _ _ _ _ _ _
   | exact ih2 _ _ _ _ _ _ _ _ _ _ _ _ _
   | exact LeO.none _
   | refine LeO.ite ?_ ?_
   | refine LeO.bind ?_ (fun _ => ?_)
  ·intro y0 y1 y2 y3 y4 y5 y6 y7 y8 y9
   unfold Za3.l1
   repeat' first
   | (with_reducible exact ih0 _ _ _ _ _)
   | (with_reducible exact ih1 _ _ _ _ _ _ _ _ _ _)
   | (with_reducible exact ih2 _ _ _ _ _ _ _ _ _ _ _ _ _)
   | (with_reducible exact LeO.refl _)
   | (with_reducible exact LeO.none _)
   | (with_reducible refine LeO.ite ?_ ?_)
   | (with_reducible refine LeO.bind ?_ (fun _ => ?_))
   | exact ih0 _ _ _ _ _
   | exact ih1 _ _ _ _ _ _ _ _ _ _
   | exact ih2 _ _ _ _ _ _ _ _ _ _ _ _ _
   | exact LeO.none _
   | refine LeO.ite ?_ ?_
   | refine LeO.bind ?_ (fun _ => ?_)
  intro y0 y1 y2 y3 y4 y5 y6 y7 y8 y9 y10 y11 y12
  unfold Za3.j2
  repeat' first
  | (with_reducible exact ih0 _ _ _ _ _)
  | (with_reducible exact ih1 _ _ _ _ _ _ _ _ _ _)
  | (with_reducible exact ih2 _ _ _ _ _ _ _ _ _ _ _ _ _)
  | (with_reducible exact LeO.refl _)
  | (with_reducible exact LeO.none _)
  | (with_reducible refine LeO.ite ?_ ?_)
  | (with_reducible refine LeO.bind ?_ (fun _ => ?_))
  | exact ih0 _ _ _ _ _
  | exact ih1 _ _ _ _ _ _ _ _ _ _
  | exact ih2 _ _ _ _ _ _ _ _ _ _ _ _ _
  | exact LeO.none _
  | refine LeO.ite ?_ ?_
  | refine LeO.bind ?_ (fun _ => ?_)
theorem Za3.mono : ∀ a0 a1 k, LeO (Za3.f k a0 a1) (Za3.f (k + 1) a0 a1) := by
 intro a0 a1 k
 obtain ⟨ih0, ih1, ih2⟩ := Za3.Ze7 k
 unfold Za3.f
 repeat' first
   | (with_reducible exact ih0 _ _ _ _ _)
   | (with_reducible exact ih1 _ _ _ _ _ _ _ _ _ _)
   | (with_reducible exact ih2 _ _ _ _ _ _ _ _ _ _ _ _ _)
   | (with_reducible exact LeO.refl _)
   | (with_reducible exact LeO.none _)
   | (with_reducible refine LeO.ite ?_ ?_)
   | (with_reducible refine LeO.bind ?_ (fun _ => ?_))
   | exact ih0 _ _ _ _ _
   | exact ih1 _ _ _ _ _ _ _ _ _ _
   | exact ih2 _ _ _ _ _ _ _ _ _ _ _ _ _
   | exact LeO.none _
   | refine LeO.ite ?_ ?_
   | refine LeO.bind ?_ (fun _ => ?_)
set_option maxHeartbeats 8000000 in
set_option maxRecDepth 100000 in
theorem Za3.calls (k : Nat) (A0 : Option Addr) (c0 : Nat) (l0 : List (S48)) (A1 : Option Addr) (c1 : Nat) (l1 : List (S48)) (r : List (S48)) (w : World) (hr0 : Kd.C k48 w A0 l0.length l0) (hc0 : l0.length ≤ c0) (hr1 : Kd.C k48 w A1 l1.length l1) (hc1 : l1.length ≤ c1) (h : Za3.f k l0 l1 = some r) :
  Calls Try.prog 87 #[.slice A0 l0.length c0, .slice A1 l1.length c1] w fun e w' => ∃ v0_ : Value, e = .returned (v0_) ∧ Kd.R k48 48 w' w.heap.size (fun _ => True) v0_ r ∧ Below w.heap.size w w' := by
 have hu48 := Try.underlying48
 have HR0 := Za.mk hr0
 have HC0 := Za.mk hc0
 clear hr0 hc0
 have HR1 := Za.mk hr1
 have HC1 := Za.mk hc1
 clear hr1 hc1
 have HB := Za.mk (Below.refl w.heap.size w)
 have H : (Za3.l0 k l1 ([] : List (S48)) l0 (l0.length : Int) 0) = some r := h
 clear h
 have H' := Za.mk H
 clear H
 go_enter Try.func87, Try.ntmps87
 go_wp2
 go_loopg [5, 12] k (fun kq v5 v12 w' => ∃ (x5_1 : List (S48)) (x12_1 : Int), v12 = .int .i64 x12_1 ∧ Za (Za3.l0 kq l1 x5_1 l0 (l0.length : Int) x12_1 = some r) ∧ Za (kq ≤ k) ∧ Za (Kd.R k48 48 w' w.heap.size (fun _ => True) v5 x5_1) ∧ Za (Below w.heap.size w w'))
 case atStart => exact ⟨(([] : List (S48))), (0), (by first | rfl | (simp; done) | (simp [*]; done)), H', ⟨Nat.le_refl _⟩, ⟨by first | exact Kd.Zfa _ _ _ _ _ | exact Kd.N_nil _ _ _ _ _ | exact Kd.Ze _ _ _ _ _ | exact Kd.Q_nil _ _ _ _ _ | exact Kd.S_nil _ _ _ _ _⟩, ⟨by repeat (first | (with_reducible first | exact HB.out | apply Zab | apply Zaa | apply Zad) | exact HB.out)⟩⟩
 case round =>
  clear H'
  try clear c1
  try clear p2
  obtain ⟨x5_1, x12_1, rfl, HA, HK1, HO_5, HB⟩ := hrel
  cases gk with
  | zero => exact absurd HA.out (by simp [Za3.l0])
  | succ k1 =>
   have H := HA.out
   clear HA
   simp only [Za3.l0] at H
   by_cases c3 : x12_1 < (l0.length : Int)
   rotate_left
   ·rw [if_neg c3] at H
    have c3b0 : decide (x12_1 < (l0.length : Int)) = false := decide_eq_false c3
    clear c3
    obtain rfl := Option.some.inj H
    go_wp2
    go_ret
    exact ⟨_, by first | rfl | (simp [Zar, Zas] <;> rfl) | (simp [*, Zar, Zas] <;> rfl), by (with_reducible repeat (first | apply Kd.Zat | apply Kd.Zau | apply Kd.Zaz)); exact HO_5.out, by repeat (first | (with_reducible first | exact HB.out | apply Zab | apply Zaa | apply Zad) | exact HB.out)⟩
   rw [if_pos c3] at H
   have c3b0 : decide (x12_1 < (l0.length : Int)) = true := decide_eq_true c3
   clear c3
   by_cases c4 : 0 ≤ x12_1
   rotate_left
   ·rw [if_neg c4] at H
    exact absurd H (by simp)
   rw [if_pos c4] at H
   have c4b0 : decide (0 ≤ x12_1) = true := decide_eq_true c4
   clear c4
   by_cases c5 : x12_1 < (l0.length : Int)
   rotate_left
   ·rw [if_neg c5] at H
    exact absurd H (by simp)
   rw [if_pos c5] at H
   have c5b0 : decide (x12_1 < (l0.length : Int)) = true := decide_eq_true c5
   clear c5
   have H' := Za.mk H
   clear H
   have p305 : 0 ≤ (x12_1 : Int) := of_decide_eq_true (by first | (with_reducible assumption) | assumption)
   have q305 : x12_1 < (l0.length : Int) := of_decide_eq_true (by first | (with_reducible assumption) | assumption)
   obtain ⟨ad305, e305, hx305_0, hx305_1⟩ := Zeq HR0.out x12_1 p305 q305
   cases e305
   replace hx305_0 := (HB.out.cell (World.block_lt_of_cell? w _ hx305_0)).trans hx305_0
   replace hx305_1 := (HB.out.cell (World.block_lt_of_cell? w _ hx305_1)).trans hx305_1
   replace p305 := eq_true p305
   replace q305 := eq_true q305
   go_wp2_with (first | ((with_reducible refine Zax (N := 7) rfl ?_); refine Za7 ?hg (N := 7) ?hd (cs := #[.int .i64 0, .int .i64 0]) (t := 48) ?hr ?_; (case hd => rfl); (case hg => rfl); (case hr => first | (go_simp; done) | (go_simp; rfl)); intro gb306 hg w6 hbox hb; have n0_ := Za.mk (Kd.Zb6 (Kd.Zfb (mvR HO_5.out) gb306 (Nat.le_of_eq hg.symm)) hb); have n1_ := Za.mk (Zaf (by repeat (first | (with_reducible first | exact HB.out | apply Zab | apply Zaa | apply Zad) | exact HB.out)) hb); have n2_ := Za.mk (hbox); have n4_ := Za.mk ((by rw [hg]; exact (Zan (by repeat (first | (with_reducible first | exact HB.out | apply Zab | apply Zaa | apply Zad) | exact HB.out))) : w.heap.size ≤ gb306)); clear HO_5; clear HB; have HO_5 := n0_; have HB := n1_; have BK306 := n2_; have GE306 := n4_; clear n0_ n1_ n2_ n4_; clear hb hbox hg; obtain ⟨hcz7_0, hcz7_1, hfz7_0, hfz7_1⟩ := Zd8 BK306.out))
   go_loopg [5, 18] k1 (fun kq v5 v18 w' => ∃ (x5_2 : List (S48)) (x18_2 : Int) (x307000_2 : Int), v18 = .int .i64 x18_2 ∧ Za (Za3.l1 kq l1 x5_2 l0 (l0.length : Int) x12_1 l1 (l1.length : Int) x18_2 x307000_2 ((Zb l0 x12_1).f1) = some r) ∧ Za (kq ≤ k1) ∧ Za (Kd.R k48 48 w' w.heap.size (fun k_ => k_ ≠ gb306) v5 x5_2) ∧ Za (w'.heap[gb306]? = some (.cells #[.int .i64 x307000_2, .int .i64 ((Zb l0 x12_1).f1)] 48 (0, 0))) ∧ Za (Below w.heap.size w w'))
   case atStart => exact ⟨(x5_1), (0), ((Zb l0 x12_1).f0), (by first | rfl | (simp; done) | (simp [*]; done)), H', ⟨Nat.le_refl _⟩, ⟨by (with_reducible repeat (first | apply Kd.Zat | apply Kd.Zau | apply Kd.Zaz)); exact Kd.Za2 (Kd.Za1 (p := ⟨gb306, 1, none⟩) (Kd.Za1 (p := ⟨gb306, 0, none⟩) (Kd.Za2 HO_5.out (fun k_ hk => (⟨hk, hk.2⟩ : _ ∧ k_ ≠ gb306))) (fun _ hk => hk.2) (.int .i64 ((Zb l0 x12_1).f0))) (fun _ hk => hk.2) (.int .i64 ((Zb l0 x12_1).f1))) (fun _ hk => hk.1.2)⟩, ⟨by (with_reducible repeat (first | refine Zag ?_ _ | refine Zai ?_ | refine Zae ?_ _)); refine Zaq (cs := #[.int .i64 ((Zb l0 x12_1).f0), .int .i64 0]) ?_ 1 _ rfl; (with_reducible repeat (first | refine Zag ?_ _ | refine Zai ?_ | refine Zae ?_ _)); refine Zaq (cs := #[.int .i64 0, .int .i64 0]) ?_ 0 _ rfl; (with_reducible repeat (first | refine Zag ?_ _ | refine Zai ?_ | refine Zae ?_ _)); exact BK306.out⟩, ⟨by repeat (first | (with_reducible first | exact HB.out | apply Zab | apply Zaa | apply Zad | refine Zac ?_ GE306.out) | exact HB.out)⟩⟩
   case round =>
    clear H'
    try clear c1
    try clear p2
    try clear c3
    try clear c3b0
    try clear p3
    try clear q3
    try clear hx3
    try clear c4
    try clear c4b0
    try clear c5
    try clear c5b0
    try clear hcz7_0
    try clear hcz7_1
    try clear hfz7_0
    try clear hfz7_1
    try clear hx305_0
    try clear hx305_1
    try clear p2
    try clear p305
    try clear q305
    obtain ⟨x5_2, x18_2, x307000_2, rfl, HA, HK2, HO_5, BK306, HB⟩ := hrel
    cases gk with
    | zero => exact absurd HA.out (by simp [Za3.l1])
    | succ k2 =>
     have H := HA.out
     clear HA
     simp only [Za3.l1] at H
     by_cases c8 : x18_2 < (l1.length : Int)
     rotate_left
     ·rw [if_neg c8] at H
      have c8b0 : decide (x18_2 < (l1.length : Int)) = false := decide_eq_false c8
      clear c8
      by_cases c34 : x307000_2 ≤ ((Zb l0 x12_1).f1)
      rotate_left
      ·rw [if_neg c34] at H
       have c34b0 : decide (x307000_2 ≤ ((Zb l0 x12_1).f1)) = false := decide_eq_false c34
       clear c34
       have H' := Za.mk H
       clear H
       obtain ⟨hcz38_0, hcz38_1, hfz38_0, hfz38_1⟩ := Zd8 BK306.out
       go_wp2
       go_roundg k2
       case measure => have := HK1.out; have := HK2.out; omega
       case rel => exact ⟨(x5_2), (wrap64 (x12_1 + 1)), (by first | rfl | (simp; done) | (simp [*]; done)), H', ⟨by have := HK1.out; have := HK2.out; omega⟩, ⟨by (with_reducible repeat (first | apply Kd.Zat | apply Kd.Zau | apply Kd.Zaz)); exact Kd.Za2 HO_5.out (fun _ hk => trivial)⟩, ⟨by repeat (first | (with_reducible first | exact HB.out | apply Zab | apply Zaa | apply Zad | refine Zac ?_ GE306.out) | exact HB.out)⟩⟩
      rw [if_pos c34] at H
      have c34b0 : decide (x307000_2 ≤ ((Zb l0 x12_1).f1)) = true := decide_eq_true c34
      clear c34
      by_cases c35 : x5_2.length < 8796093022208
      rotate_left
      ·rw [if_neg c35] at H
       exact absurd H (by simp)
      rw [if_pos c35] at H
      have LMc35 := Za.mk c35
      clear c35
      obtain ⟨y307, hy307⟩ : ∃ y_ : List (S48), y_ = (x5_2 ++ [(⟨x307000_2, ((Zb l0 x12_1).f1)⟩ : S48)]) := ⟨_, rfl⟩
      replace H : (Za3.l0 k2 l1 y307 l0 (l0.length : Int) (wrap64 (x12_1 + 1))) = some r := by first | (rw [hy307]; with_reducible exact H) | (have H2_ := (Option.bind_some _ _).symm.trans H; rw [hy307]; with_reducible exact H2_) | (have H2_ := (Option.bind_some _ _).symm.trans H; with_reducible exact H2_) | with_reducible exact H | (rw [hy307]; exact H) | exact H
      have Ny307 := Za.mk hy307
      clear hy307
      have H' := Za.mk H
      clear H
      obtain ⟨hcz36_0, hcz36_1, hfz36_0, hfz36_1⟩ := Zd8 BK306.out
      go_wp2_with (first | ((with_reducible refine Zb7 (b := .append) (xs := #[.tmp 58, .tmp 60]) rfl ?_); at_builtin; refine Kd.Zel k48 (w0 := w) w.heap.size rfl (.tmp 58) (.tmp 60) 37 48 (.agg #[(.int .i64 0), (.int .i64 0)]) 16 rfl Try.underlying37 info48 rfl (by decide) (by omega) u5 x5_2 (⟨x307000_2, ((Zb l0 x12_1).f1)⟩ : S48) [.int .i64 x307000_2, .int .i64 ((Zb l0 x12_1).f1)] (fun k_ => k_ ≠ gb306) (fun _ => False) rfl rfl ?aP (fun _ hk => hk.elim) ?aF ?aO ?aB ?aS ?aL ?_; (case aP => exact Zfo _ _ _ (⟨x307000_2, ((Zb l0 x12_1).f1)⟩ : S48)); (case aB => exact (by repeat (first | (with_reducible first | exact HB.out | apply Zab | apply Zaa | apply Zad | refine Zac ?_ GE306.out) | exact HB.out))); (case aF => exact (fun k_ hk => Kd.freshB (g := gb306) (o := .cells #[.int .i64 x307000_2, .int .i64 ((Zb l0 x12_1).f1)] 48 (0, 0)) (mvK BK306.out) k_ hk)); (case aO => exact (mvR HO_5.out)); (case aS => exact (Zan (by repeat (first | (with_reducible first | exact HB.out | apply Zab | apply Zaa | apply Zad | refine Zac ?_ GE306.out) | exact HB.out)))); (case aL => have := LMc35.out; omega); intro v308 w37 ho hb hg hat; rw [← Ny307.out] at ho; have n1_ := Za.mk (hb); have n2_ := Za.mk (ho); clear BK306; clear HB; clear HO_5; have HB := n1_; have HO309 := n2_; clear n1_ n2_; clear ho hb hg hat))
      go_roundg k2
      case measure => have := HK1.out; have := HK2.out; omega
      case rel => exact ⟨(y307), (wrap64 (x12_1 + 1)), (by first | rfl | (simp; done) | (simp [*]; done)), H', ⟨by have := HK1.out; have := HK2.out; omega⟩, ⟨by (with_reducible repeat (first | apply Kd.Zat | apply Kd.Zau | apply Kd.Zaz)); exact Kd.Za2 HO309.out (fun _ hk => trivial)⟩, ⟨by repeat (first | (with_reducible first | exact HB.out | apply Zab | apply Zaa | apply Zad | refine Zac ?_ GE306.out) | exact HB.out)⟩⟩
     rw [if_pos c8] at H
     have c8b0 : decide (x18_2 < (l1.length : Int)) = true := decide_eq_true c8
     clear c8
     by_cases c9 : 0 ≤ x18_2
     rotate_left
     ·rw [if_neg c9] at H
      exact absurd H (by simp)
     rw [if_pos c9] at H
     have c9b0 : decide (0 ≤ x18_2) = true := decide_eq_true c9
     clear c9
     by_cases c10 : x18_2 < (l1.length : Int)
     rotate_left
     ·rw [if_neg c10] at H
      exact absurd H (by simp)
     rw [if_pos c10] at H
     have c10b0 : decide (x18_2 < (l1.length : Int)) = true := decide_eq_true c10
     clear c10
     have HC11 := Za.mk H
     clear H
     have p310 : 0 ≤ (x18_2 : Int) := of_decide_eq_true (by first | (with_reducible assumption) | assumption)
     have q310 : x18_2 < (l1.length : Int) := of_decide_eq_true (by first | (with_reducible assumption) | assumption)
     obtain ⟨ad310, e310, hx310_0, hx310_1⟩ := Zeq HR1.out x18_2 p310 q310
     cases e310
     replace hx310_0 := (HB.out.cell (World.block_lt_of_cell? w _ hx310_0)).trans hx310_0
     replace hx310_1 := (HB.out.cell (World.block_lt_of_cell? w _ hx310_1)).trans hx310_1
     replace p310 := eq_true p310
     replace q310 := eq_true q310
     go_upto_region 8 with (first | ((with_reducible refine Zax (N := 9) rfl ?_); refine Za7 ?hg (N := 9) ?hd (cs := #[.int .i64 0, .int .i64 0]) (t := 48) ?hr ?_; (case hd => rfl); (case hg => rfl); (case hr => first | (go_simp; done) | (go_simp; rfl)); intro gb311 hg w12 hbox hb; have n0_ := Za.mk (Kd.Zb6 (Kd.Zfb (mvR HO_5.out) gb311 (Nat.le_of_eq hg.symm)) hb); have n1_ := Za.mk (Zap (g := gb306) (o := .cells #[.int .i64 x307000_2, .int .i64 ((Zb l0 x12_1).f1)] 48 (0, 0)) (mvK BK306.out) hb); have n2_ := Za.mk (Zaf (by repeat (first | (with_reducible first | exact HB.out | apply Zab | apply Zaa | apply Zad | refine Zac ?_ GE306.out) | exact HB.out)) hb); have n3_ := Za.mk (hbox); have n5_ := Za.mk ((by rw [hg]; exact (Zan (by repeat (first | (with_reducible first | exact HB.out | apply Zab | apply Zaa | apply Zad | refine Zac ?_ GE306.out) | exact HB.out))) : w.heap.size ≤ gb311)); have n6_ := Za.mk ((by rw [hg]; exact Nat.ne_of_lt (Zbt (g := gb306) (o := .cells #[.int .i64 x307000_2, .int .i64 ((Zb l0 x12_1).f1)] 48 (0, 0)) (mvK BK306.out)) : gb306 ≠ gb311)); have n7_ := Za.mk ((by rw [hg]; exact Nat.ne_of_gt (Zbt (g := gb306) (o := .cells #[.int .i64 x307000_2, .int .i64 ((Zb l0 x12_1).f1)] 48 (0, 0)) (mvK BK306.out)) : gb311 ≠ gb306)); clear HO_5; clear BK306; clear HB; have HO_5 := n0_; have BK306 := n1_; have HB := n2_; have BK311 := n3_; have GE311 := n5_; have NB306_311 := n6_; have NB311_306 := n7_; clear n0_ n1_ n2_ n3_ n5_ n6_ n7_; clear hb hbox hg; have hnb13 := NB311_306.out; have hnc13 := NB306_311.out; obtain ⟨hcz14_0, hcz14_1, hfz14_0, hfz14_1⟩ := Zd8 BK311.out))
     (try simp only [Act.put, List.setIfInBounds_toArray, List.set_cons_zero, List.set_cons_succ])
     go_cut [33] (fun v33 wc => ∃ (kq : Nat) (x33_10 : Bool), v33 = .bool x33_10 ∧ Za (Za3.j2 kq l1 x5_2 l0 (l0.length : Int) x12_1 l1 (l1.length : Int) x18_2 x33_10 x307000_2 ((Zb l0 x12_1).f1) ((Zb l1 x18_2).f0) ((Zb l1 x18_2).f1) = some r) ∧ Za (kq ≤ k2) ∧ Za (Kd.R k48 48 wc w.heap.size (fun k_ => k_ ≠ gb306 ∧ k_ ≠ gb311) u5 x5_2) ∧ Za (wc.heap[gb306]? = some (.cells #[.int .i64 x307000_2, .int .i64 ((Zb l0 x12_1).f1)] 48 (0, 0))) ∧ Za (wc.heap[gb311]? = some (.cells #[.int .i64 ((Zb l1 x18_2).f0), .int .i64 ((Zb l1 x18_2).f1)] 48 (0, 0))) ∧ Za (Below w.heap.size w wc))
     case first =>
      have H := HC11.out
      clear HC11
      by_cases c15 : ((Zb l1 x18_2).f1) < x307000_2
      ·rw [if_pos c15] at H
       have c15b0 : decide (((Zb l1 x18_2).f1) < x307000_2) = true := decide_eq_true c15
       clear c15
       (first | rw [c15b0] | (simp only [Zbb, Zbd]; rw [c15b0]) | skip)
       have H' := Za.mk H
       clear H
       have hnb16 := NB311_306.out
       have hnc16 := NB306_311.out
       obtain ⟨hcz17_0, hcz17_1, hfz17_0, hfz17_1⟩ := Zd8 BK311.out
       obtain ⟨hcz18_0, hcz18_1, hfz18_0, hfz18_1⟩ := Zd8 BK306.out
       go_wp2
       go_meet
       case rel => exact ⟨_, (true), (by first | rfl | (simp; done) | (simp [*]; done)), H', ⟨by have := HK1.out; have := HK2.out; first | omega | exact Nat.le_refl _⟩, ⟨by (with_reducible repeat (first | apply Kd.Zat | apply Kd.Zau | apply Kd.Zaz)); exact Kd.Za2 (Kd.Za1 (p := ⟨gb311, 1, none⟩) (Kd.Za1 (p := ⟨gb311, 0, none⟩) (Kd.Za2 HO_5.out (fun k_ hk => (⟨hk, hk.2⟩ : _ ∧ k_ ≠ gb311))) (fun _ hk => hk.2) (.int .i64 ((Zb l1 x18_2).f0))) (fun _ hk => hk.2) (.int .i64 ((Zb l1 x18_2).f1))) (fun _ hk => ⟨hk.1.1, hk.1.2⟩)⟩, ⟨by (with_reducible repeat (first | refine Zag ?_ _ | refine Zai ?_ | refine Zae ?_ _)); refine Zav ?_ NB306_311.out _; (with_reducible repeat (first | refine Zag ?_ _ | refine Zai ?_ | refine Zae ?_ _)); refine Zav ?_ NB306_311.out _; (with_reducible repeat (first | refine Zag ?_ _ | refine Zai ?_ | refine Zae ?_ _)); exact BK306.out⟩, ⟨by (with_reducible repeat (first | refine Zag ?_ _ | refine Zai ?_ | refine Zae ?_ _)); refine Zaq (cs := #[.int .i64 ((Zb l1 x18_2).f0), .int .i64 0]) ?_ 1 _ rfl; (with_reducible repeat (first | refine Zag ?_ _ | refine Zai ?_ | refine Zae ?_ _)); refine Zaq (cs := #[.int .i64 0, .int .i64 0]) ?_ 0 _ rfl; (with_reducible repeat (first | refine Zag ?_ _ | refine Zai ?_ | refine Zae ?_ _)); exact BK311.out⟩, ⟨by repeat (first | (with_reducible first | exact HB.out | apply Zab | apply Zaa | apply Zad | refine Zac ?_ GE306.out | refine Zac ?_ GE311.out) | exact HB.out)⟩⟩
      rw [if_neg c15] at H
      have c15b0 : decide (((Zb l1 x18_2).f1) < x307000_2) = false := decide_eq_false c15
      clear c15
      (first | rw [c15b0] | (simp only [Zbb, Zbd]; rw [c15b0]) | skip)
      have H' := Za.mk H
      clear H
      have hnb19 := NB311_306.out
      have hnc19 := NB306_311.out
      obtain ⟨hcz20_0, hcz20_1, hfz20_0, hfz20_1⟩ := Zd8 BK311.out
      obtain ⟨hcz21_0, hcz21_1, hfz21_0, hfz21_1⟩ := Zd8 BK306.out
      go_wp2
      go_meet
      case rel => exact ⟨_, (decide (((Zb l1 x18_2).f0) > ((Zb l0 x12_1).f1))), (by first | rfl | (simp; done) | (simp [*]; done)), H', ⟨by have := HK1.out; have := HK2.out; first | omega | exact Nat.le_refl _⟩, ⟨by (with_reducible repeat (first | apply Kd.Zat | apply Kd.Zau | apply Kd.Zaz)); exact Kd.Za2 (Kd.Za1 (p := ⟨gb311, 1, none⟩) (Kd.Za1 (p := ⟨gb311, 0, none⟩) (Kd.Za2 HO_5.out (fun k_ hk => (⟨hk, hk.2⟩ : _ ∧ k_ ≠ gb311))) (fun _ hk => hk.2) (.int .i64 ((Zb l1 x18_2).f0))) (fun _ hk => hk.2) (.int .i64 ((Zb l1 x18_2).f1))) (fun _ hk => ⟨hk.1.1, hk.1.2⟩)⟩, ⟨by (with_reducible repeat (first | refine Zag ?_ _ | refine Zai ?_ | refine Zae ?_ _)); refine Zav ?_ NB306_311.out _; (with_reducible repeat (first | refine Zag ?_ _ | refine Zai ?_ | refine Zae ?_ _)); refine Zav ?_ NB306_311.out _; (with_reducible repeat (first | refine Zag ?_ _ | refine Zai ?_ | refine Zae ?_ _)); exact BK306.out⟩, ⟨by (with_reducible repeat (first | refine Zag ?_ _ | refine Zai ?_ | refine Zae ?_ _)); refine Zaq (cs := #[.int .i64 ((Zb l1 x18_2).f0), .int .i64 0]) ?_ 1 _ rfl; (with_reducible repeat (first | refine Zag ?_ _ | refine Zai ?_ | refine Zae ?_ _)); refine Zaq (cs := #[.int .i64 0, .int .i64 0]) ?_ 0 _ rfl; (with_reducible repeat (first | refine Zag ?_ _ | refine Zai ?_ | refine Zae ?_ _)); exact BK311.out⟩, ⟨by repeat (first | (with_reducible first | exact HB.out | apply Zab | apply Zaa | apply Zad | refine Zac ?_ GE306.out | refine Zac ?_ GE311.out) | exact HB.out)⟩⟩
     case rest =>
      clear HC11
      try clear c1
      try clear p2
      try clear c3
      try clear c3b0
      try clear p3
      try clear q3
      try clear hx3
      try clear c4
      try clear c4b0
      try clear c5
      try clear c5b0
      try clear c8
      try clear c8b0
      try clear c9
      try clear c9b0
      try clear c10
      try clear c10b0
      try clear c13
      try clear c15
      try clear c15b0
      try clear c16
      try clear c19
      try clear hcz14_0
      try clear hcz14_1
      try clear hcz17_0
      try clear hcz17_1
      try clear hcz18_0
      try clear hcz18_1
      try clear hcz20_0
      try clear hcz20_1
      try clear hcz21_0
      try clear hcz21_1
      try clear hcz7_0
      try clear hcz7_1
      try clear hfz14_0
      try clear hfz14_1
      try clear hfz17_0
      try clear hfz17_1
      try clear hfz18_0
      try clear hfz18_1
      try clear hfz20_0
      try clear hfz20_1
      try clear hfz21_0
      try clear hfz21_1
      try clear hfz7_0
      try clear hfz7_1
      try clear hx305_0
      try clear hx305_1
      try clear hx310_0
      try clear hx310_1
      try clear p2
      try clear p3
      try clear p305
      try clear p310
      try clear q3
      try clear q305
      try clear q310
      obtain ⟨kq, x33_10, rfl, HA, HJ10, HO_5, BK306, BK311, HB⟩ := hcut
      cases kq with
      | zero => exact absurd HA.out (by simp [Za3.j2])
      | succ kj10 =>
       have H := HA.out
       clear HA
       simp only [Za3.j2] at H
       by_cases c22 : x33_10 = true
       ·subst c22
        have H1 : (Za3.l1 kj10 l1 x5_2 l0 (l0.length : Int) x12_1 l1 (l1.length : Int) (wrap64 (x18_2 + 1)) x307000_2 ((Zb l0 x12_1).f1)) = some r := by rw [if_pos rfl] at H; exact H
        clear H
        have H := H1
        clear H1
        have H' := Za.mk H
        clear H
        go_wp2
        go_roundg kj10
        case measure => have := HK1.out; have := HK2.out; have := HJ10.out; omega
        case rel => exact ⟨(x5_2), (wrap64 (x18_2 + 1)), (x307000_2), (by first | rfl | (simp; done) | (simp [*]; done)), H', ⟨by have := HK1.out; have := HK2.out; have := HJ10.out; omega⟩, ⟨by (with_reducible repeat (first | apply Kd.Zat | apply Kd.Zau | apply Kd.Zaz)); exact Kd.Za2 HO_5.out (fun _ hk => hk.1)⟩, ⟨by (with_reducible repeat (first | refine Zag ?_ _ | refine Zai ?_ | refine Zae ?_ _)); exact BK306.out⟩, ⟨by repeat (first | (with_reducible first | exact HB.out | apply Zab | apply Zaa | apply Zad | refine Zac ?_ GE306.out | refine Zac ?_ GE311.out) | exact HB.out)⟩⟩
       replace c22 := Bool.eq_false_iff.mpr c22
       subst c22
       have H1 : (if ((Zb l1 x18_2).f0) > x307000_2 then (if x5_2.length < 8796093022208 then (Za3.l1 kj10 l1 (x5_2 ++ [(⟨x307000_2, wrap64 (((Zb l1 x18_2).f0) - 1)⟩ : S48)]) l0 (l0.length : Int) x12_1 l1 (l1.length : Int) (wrap64 (x18_2 + 1)) (wrap64 (((Zb l1 x18_2).f1) + 1)) ((Zb l0 x12_1).f1)) else (none)) else (Za3.l1 kj10 l1 x5_2 l0 (l0.length : Int) x12_1 l1 (l1.length : Int) (wrap64 (x18_2 + 1)) (wrap64 (((Zb l1 x18_2).f1) + 1)) ((Zb l0 x12_1).f1))) = some r := by rw [if_neg (show ¬ (false = true) by decide)] at H; exact H
       clear H
       have H := H1
       clear H1
       by_cases c23 : ((Zb l1 x18_2).f0) > x307000_2
       rotate_left
       ·rw [if_neg c23] at H
        have c23b0 : decide (x307000_2 < ((Zb l1 x18_2).f0)) = false := decide_eq_false c23
        clear c23
        have H' := Za.mk H
        clear H
        have hnb31 := NB311_306.out
        have hnc31 := NB306_311.out
        obtain ⟨hcz32_0, hcz32_1, hfz32_0, hfz32_1⟩ := Zd8 BK311.out
        obtain ⟨hcz33_0, hcz33_1, hfz33_0, hfz33_1⟩ := Zd8 BK306.out
        go_wp2
        go_roundg kj10
        case measure => have := HK1.out; have := HK2.out; have := HJ10.out; omega
        case rel => exact ⟨(x5_2), (wrap64 (x18_2 + 1)), (wrap64 (((Zb l1 x18_2).f1) + 1)), (by first | rfl | (simp; done) | (simp [*]; done)), H', ⟨by have := HK1.out; have := HK2.out; have := HJ10.out; omega⟩, ⟨by (with_reducible repeat (first | apply Kd.Zat | apply Kd.Zau | apply Kd.Zaz)); exact Kd.Za2 (Kd.Za1 (p := ⟨gb306, 0, none⟩) (Kd.Za2 HO_5.out (fun k_ hk => (⟨hk, hk.1⟩ : _ ∧ k_ ≠ gb306))) (fun _ hk => hk.2) (.int .i64 (wrap64 (((Zb l1 x18_2).f1) + 1)))) (fun _ hk => hk.1.1)⟩, ⟨by (with_reducible repeat (first | refine Zag ?_ _ | refine Zai ?_ | refine Zae ?_ _)); refine Zaq (cs := #[.int .i64 x307000_2, .int .i64 ((Zb l0 x12_1).f1)]) ?_ 0 _ rfl; (with_reducible repeat (first | refine Zag ?_ _ | refine Zai ?_ | refine Zae ?_ _)); exact BK306.out⟩, ⟨by repeat (first | (with_reducible first | exact HB.out | apply Zab | apply Zaa | apply Zad | refine Zac ?_ GE306.out | refine Zac ?_ GE311.out) | exact HB.out)⟩⟩
       rw [if_pos c23] at H
       have c23b0 : decide (x307000_2 < ((Zb l1 x18_2).f0)) = true := decide_eq_true c23
       clear c23
       by_cases c24 : x5_2.length < 8796093022208
       rotate_left
       ·rw [if_neg c24] at H
        exact absurd H (by simp)
       rw [if_pos c24] at H
       have LMc24 := Za.mk c24
       clear c24
       obtain ⟨y312, hy312⟩ : ∃ y_ : List (S48), y_ = (x5_2 ++ [(⟨x307000_2, wrap64 (((Zb l1 x18_2).f0) - 1)⟩ : S48)]) := ⟨_, rfl⟩
       replace H : (Za3.l1 kj10 l1 y312 l0 (l0.length : Int) x12_1 l1 (l1.length : Int) (wrap64 (x18_2 + 1)) (wrap64 (((Zb l1 x18_2).f1) + 1)) ((Zb l0 x12_1).f1)) = some r := by first | (rw [hy312]; with_reducible exact H) | (have H2_ := (Option.bind_some _ _).symm.trans H; rw [hy312]; with_reducible exact H2_) | (have H2_ := (Option.bind_some _ _).symm.trans H; with_reducible exact H2_) | with_reducible exact H | (rw [hy312]; exact H) | exact H
       have Ny312 := Za.mk hy312
       clear hy312
       have H' := Za.mk H
       clear H
       have hnb25 := NB311_306.out
       have hnc25 := NB306_311.out
       obtain ⟨hcz26_0, hcz26_1, hfz26_0, hfz26_1⟩ := Zd8 BK311.out
       obtain ⟨hcz27_0, hcz27_1, hfz27_0, hfz27_1⟩ := Zd8 BK306.out
       go_wp2_with (first | ((with_reducible refine Zb7 (b := .append) (xs := #[.tmp 39, .tmp 46]) rfl ?_); at_builtin; refine Kd.Zel k48 (w0 := w) w.heap.size rfl (.tmp 39) (.tmp 46) 37 48 (.agg #[(.int .i64 0), (.int .i64 0)]) 16 rfl Try.underlying37 info48 rfl (by decide) (by omega) u5 x5_2 (⟨x307000_2, wrap64 (((Zb l1 x18_2).f0) - 1)⟩ : S48) [.int .i64 x307000_2, .int .i64 (wrap64 (((Zb l1 x18_2).f0) - 1))] (fun k_ => k_ ≠ gb306 ∧ k_ ≠ gb311) (fun _ => False) rfl rfl ?aP (fun _ hk => hk.elim) ?aF ?aO ?aB ?aS ?aL ?_; (case aP => exact Zfo _ _ _ (⟨x307000_2, wrap64 (((Zb l1 x18_2).f0) - 1)⟩ : S48)); (case aB => exact (by repeat (first | (with_reducible first | exact HB.out | apply Zab | apply Zaa | apply Zad | refine Zac ?_ GE306.out | refine Zac ?_ GE311.out) | exact HB.out))); (case aF => exact (fun k_ hk => ⟨Kd.freshB (g := gb306) (o := .cells #[.int .i64 x307000_2, .int .i64 ((Zb l0 x12_1).f1)] 48 (0, 0)) (mvK BK306.out) k_ hk, Kd.freshB (g := gb311) (o := .cells #[.int .i64 ((Zb l1 x18_2).f0), .int .i64 ((Zb l1 x18_2).f1)] 48 (0, 0)) (mvK BK311.out) k_ hk⟩)); (case aO => exact (mvR HO_5.out)); (case aS => exact (Zan (by repeat (first | (with_reducible first | exact HB.out | apply Zab | apply Zaa | apply Zad | refine Zac ?_ GE306.out | refine Zac ?_ GE311.out) | exact HB.out)))); (case aL => have := LMc24.out; omega); intro v313 w28 ho hb hg hat; rw [← Ny312.out] at ho; have n0_ := Za.mk (Zbl (g := gb306) (o := .cells #[.int .i64 x307000_2, .int .i64 ((Zb l0 x12_1).f1)] 48 (0, 0)) (mvK BK306.out) hg (Kd.R_away HO_5.out (fun _ hk => hk.1))); have n1_ := Za.mk (Zbl (g := gb311) (o := .cells #[.int .i64 ((Zb l1 x18_2).f0), .int .i64 ((Zb l1 x18_2).f1)] 48 (0, 0)) (mvK BK311.out) hg (Kd.R_away HO_5.out (fun _ hk => hk.2))); have n2_ := Za.mk (hb); have n3_ := Za.mk (ho); clear BK306; clear BK311; clear HB; clear HO_5; have BK306 := n0_; have BK311 := n1_; have HB := n2_; have HO314 := n3_; clear n0_ n1_ n2_ n3_; clear ho hb hg hat; obtain ⟨hcz29_0, hcz29_1, hfz29_0, hfz29_1⟩ := Zd8 BK311.out; obtain ⟨hcz30_0, hcz30_1, hfz30_0, hfz30_1⟩ := Zd8 BK306.out))
       go_roundg kj10
       case measure => have := HK1.out; have := HK2.out; have := HJ10.out; omega
       case rel => exact ⟨(y312), (wrap64 (x18_2 + 1)), (wrap64 (((Zb l1 x18_2).f1) + 1)), (by first | rfl | (simp; done) | (simp [*]; done)), H', ⟨by have := HK1.out; have := HK2.out; have := HJ10.out; omega⟩, ⟨by (with_reducible repeat (first | apply Kd.Zat | apply Kd.Zau | apply Kd.Zaz)); exact Kd.Za2 (Kd.Za1 (p := ⟨gb306, 0, none⟩) (Kd.Za2 HO314.out (fun k_ hk => (⟨hk, hk.1⟩ : _ ∧ k_ ≠ gb306))) (fun _ hk => hk.2) (.int .i64 (wrap64 (((Zb l1 x18_2).f1) + 1)))) (fun _ hk => hk.1.1)⟩, ⟨by (with_reducible repeat (first | refine Zag ?_ _ | refine Zai ?_ | refine Zae ?_ _)); refine Zaq (cs := #[.int .i64 x307000_2, .int .i64 ((Zb l0 x12_1).f1)]) ?_ 0 _ rfl; (with_reducible repeat (first | refine Zag ?_ _ | refine Zai ?_ | refine Zae ?_ _)); exact BK306.out⟩, ⟨by repeat (first | (with_reducible first | exact HB.out | apply Zab | apply Zaa | apply Zad | refine Zac ?_ GE306.out | refine Zac ?_ GE311.out) | exact HB.out)⟩⟩
def Zb2.f (k : Nat) (l0 : List (S48)) : Option (Bool) := (Za3.f k l0 (([(⟨0, 1⟩ : S48)] : List (S48)))).bind fun t318 => (some ((t318.length : Int) == 0))
theorem Zb2.mono : ∀ a0 k, LeO (Zb2.f k a0) (Zb2.f (k + 1) a0) := by
 intro a0 k
 unfold Zb2.f
 repeat' first
   | (with_reducible exact Za3.mono _ _ _)
   | (with_reducible exact LeO.refl _)
   | (with_reducible exact LeO.none _)
   | (with_reducible refine LeO.ite ?_ ?_)
   | (with_reducible refine LeO.bind ?_ (fun _ => ?_))
   | exact Za3.mono _ _ _
   | exact LeO.none _
   | refine LeO.ite ?_ ?_
   | refine LeO.bind ?_ (fun _ => ?_)
set_option maxHeartbeats 8000000 in
set_option maxRecDepth 100000 in
theorem Zb2.calls (k : Nat) (A0 : Option Addr) (c0 : Nat) (l0 : List (S48)) (r : Bool) (w : World) (hr0 : Kd.C k48 w A0 l0.length l0) (hc0 : l0.length ≤ c0) (h : Zb2.f k l0 = some r) :
  Calls Try.prog 62 #[.slice A0 l0.length c0] w fun e w' => e = .returned (.bool r) ∧ Below w.heap.size w w' := by
 have hu48 := Try.underlying48
 have HR0 := Za.mk hr0
 have HC0 := Za.mk hc0
 clear hr0 hc0
 have HB := Za.mk (Below.refl w.heap.size w)
 have H : ((Za3.f k l0 (([(⟨0, 1⟩ : S48)] : List (S48)))).bind fun t318 => (some ((t318.length : Int) == 0))) = some r := h
 clear h
 obtain ⟨y315, hy315⟩ : ∃ y_ : List (S48), y_ = (([(⟨0, 1⟩ : S48)] : List (S48))) := ⟨_, rfl⟩
 replace H : ((Za3.f k l0 y315).bind fun t318 => (some ((t318.length : Int) == 0))) = some r := by first | (rw [hy315]; with_reducible exact H) | (have H2_ := (Option.bind_some _ _).symm.trans H; rw [hy315]; with_reducible exact H2_) | (have H2_ := (Option.bind_some _ _).symm.trans H; with_reducible exact H2_) | with_reducible exact H | (rw [hy315]; exact H) | exact H
 have Ny315 := Za.mk hy315
 clear hy315
 replace H := Option.bind_eq_some_iff.mp H
 obtain ⟨t318, A20, H⟩ := H
 replace H : (some ((t318.length : Int) == 0)) = some r := H
 have A2 := Za.mk A20
 clear A20
 obtain rfl := Option.some.inj H
 go_enter Try.func62, Try.ntmps62
 go_wp2_with (first | ((with_reducible refine Zax (N := 5) rfl ?_); refine Kd.Zc9 k48 _ 48 ?hg (N := 5) ?hd (xs := ([(⟨0, 1⟩ : S48)] : List (S48))) (inner := [.int .i64 0, .int .i64 1]) (ok := fun _ => True) (okp := fun _ => True) ?hr ?hp (fun _ hk => hk) trivial (Below.refl _ _) (Nat.le_refl _) (by simp) ?_; (case hd => rfl); (case hg => rfl); (case hr => first | (go_simp; done) | (go_simp; rfl)); (case hp => exact (Reps.c2 (show Kd.M k48 _ _ _ (⟨0, 1⟩ : S48) [.int .i64 0, .int .i64 1] from (Zfo _ _ _ (⟨0, 1⟩ : S48) )) (Reps.none _ _))); intro v316 w3 ho4 hb hg_ hnew_; clear hg_ hnew_; (first | rw [← Ny315.out] at ho4 | (simp only [Int.reduceToNat] at ho4; rw [← Ny315.out] at ho4)); have n0_ := Za.mk (Kd.Zbp ho4 (Zan (by repeat (first | (with_reducible first | exact HB.out | apply Zab | apply Zaa | apply Zad) | exact HB.out)))); have n1_ := Za.mk (Zaf (by repeat (first | (with_reducible first | exact HB.out | apply Zab | apply Zaa | apply Zad) | exact HB.out)) hb); clear HB; have HO317 := n0_; have HB := n1_; clear n0_ n1_; clear hb ho4; obtain ⟨Ao5, co5, eo5⟩ := Kd.Za9 HO317.out; subst eo5) | ((with_reducible refine Zay (f := 87) rfl ?_); refine Zbu (some 6) rfl rfl Try.func87 (by kernel_rfl) rfl #[.slice A0 l0.length c0, .slice Ao5 y315.length co5] rfl (by (try simp only [List.map_toArray, List.map_cons, List.map_nil]); first | done | rfl | (simp only [List.length_drop, List.length_take]; rfl)) ?_; (with_reducible refine (Za3.calls k _ _ l0 _ _ y315 t318 _ ?side1 ?side2 ?side3 ?side4 A2.out).mono ?_); (case side1 => repeat (first | exact (Kd.Zal HR0.out HB.out) | (with_reducible refine Kd.C_alloc ?_ _) | (with_reducible refine Kd.Zaw ?_ _) | (with_reducible refine Kd.C_drew ?_))); (case side2 => exact HC0.out); (case side3 => repeat (first | exact (Kd.Za0 HO317.out).2.2 | (with_reducible refine Kd.C_alloc ?_ _) | (with_reducible refine Kd.Zaw ?_ _) | (with_reducible refine Kd.C_drew ?_))); (case side4 => exact (Kd.Za0 HO317.out).2.1); rintro e w6 ⟨v319, rfl, ho0, hb⟩; refine ⟨_, rfl, ?_⟩; have n1_ := Za.mk (Kd.Zbp (Kd.Zc1 ho0 (Kd.R_lt (by (with_reducible repeat (first | apply Kd.Zat | apply Kd.Zau | apply Kd.Zaz)); exact HO317.out))) (Zan (by repeat (first | (with_reducible first | exact HB.out | apply Zab | apply Zaa | apply Zad) | exact HB.out)))); have n2_ := Za.mk (Zaf (by repeat (first | (with_reducible first | exact HB.out | apply Zab | apply Zaa | apply Zad) | exact HB.out)) hb); clear HO317; clear HB; have HO320 := n1_; have HB := n2_; clear n1_ n2_; (try clear hb); (try clear hb2); (try clear hk); (try clear hi); (try clear ho0); obtain ⟨Ao7, co7, eo7⟩ := Kd.Za9 HO320.out; subst eo7))
 go_ret
 exact ⟨by first | rfl | (simp [Zar, Zas] <;> rfl) | (simp [*, Zar, Zas] <;> rfl), by repeat (first | (with_reducible first | exact HB.out | apply Zab | apply Zaa | apply Zad) | exact HB.out)⟩
end Go.Proofs.Ytkgjaklnbgdmiaa.P
/- The closures of model.right and model.Con, and model.row. -/
namespace Go.Proofs.Ytkgjaklnbgdmiaa.P
open Go.RowKit Go.Shelf Go.Proofs.YtkgjaklnbgdmiaaW.PrintWords Go.Proofs.YtkgjaklnbgdmiaaW.PrintLast Go.Proofs.YtkgjaklnbgdmiaaW.PrintMore
set_option linter.unusedVariables false
set_option linter.unusedSimpArgs false
theorem cellB {W W' : World} {a : Addr} {v : Value} (hb : Below W.heap.size W W') (hc : W.cell? a = some v) : W'.cell? a = some v := (hb.cell (World.block_lt_of_cell? W _ hc)).trans hc
def farV (x : Int) : Bool := decide (x < -1048576) || decide (1048576 < x)
theorem rowPred (x : Int) (w : World) : Calls Try.prog 90 #[.int .i64 x] w fun e w' => e = .returned (.bool (farV x)) ∧ ∃ q, w' = w.drewN q := by
  unfold farV
  by_cases h1 : x < -1048576
  · have d1 : decide (x < -1048576) = true := decide_eq_true h1
    go_enter Try.func90, Try.ntmps90
    go_wp2
    go_ret
    exact ⟨by simp [d1], 0, rfl⟩
  have d1 : decide (x < -1048576) = false := decide_eq_false h1
  go_enter Try.func90, Try.ntmps90
  go_wp2
  go_ret
  exact ⟨by simp [d1], 0, rfl⟩
def oddU (x : Int) : Bool := x != 1 && x != -1
theorem oddPred (x : Int) (w : World) : Calls Try.prog 70 #[.int .i64 x] w fun e w' => e = .returned (.bool (oddU x)) ∧ ∃ q, w' = w.drewN q := by
  unfold oddU
  by_cases h1 : x = 1
  · subst h1
    go_enter Try.func70, Try.ntmps70
    go_wp2
    go_ret
    exact ⟨by simp, 0, rfl⟩
  have d1 : decide (x = 1) = false := decide_eq_false h1
  go_enter Try.func70, Try.ntmps70
  go_wp2
  go_ret
  exact ⟨by simp [d1], 0, rfl⟩
def awayV (n : Nat) (x : Int) : Bool := decide (x < 0) || decide ((n : Int) ≤ x)
theorem awayPred (x : Int) (bd : Nat) (A0 : Option Addr) (n c0 : Nat) (w : World) (hd : w.cell? ⟨bd, 0, none⟩ = some (.slice A0 n c0)) : Calls Try.prog 38 #[.int .i64 x, .pointer (some ⟨bd, 0, none⟩)] w fun e w' => e = .returned (.bool (awayV n x)) ∧ ∃ q, w' = w.drewN q := by
  unfold awayV
  by_cases h1 : x < 0
  · have d1 : decide (x < 0) = true := decide_eq_true h1
    go_enter Try.func38, Try.ntmps38
    go_wp2
    go_ret
    exact ⟨by simp [d1], 0, rfl⟩
  have d1 : decide (x < 0) = false := decide_eq_false h1
  go_enter Try.func38, Try.ntmps38
  go_wp2
  go_ret
  exact ⟨by simp [d1], 0, rfl⟩
def rowOk (vars l : List Int) : Bool := decide ((l.length : Int) = (vars.length : Int)) && !(l.any farV)
set_option maxHeartbeats 2000000 in
theorem row_calls (kd : Int) (A1 : Option Addr) (c1 : Nat) (vars : List Int) (v2 : Value) (op rhs : Int) (v5 : Value) (b : Int) (A : Option Addr) (c : Nat) (l : List Int) (w : World) (hr : Kd.C (Kd.int .i64) w A l.length l) (hc : l.length ≤ c) (hv2 : v2.oneCell' = true) (hv5 : v5.oneCell' = true) :
    Calls Try.prog 67 #[.agg #[.int .i64 kd, .slice A1 vars.length c1, v2, .int .i64 op, .int .i64 rhs, v5, .int .i64 b], .slice A l.length c] w fun e w' => e = .returned (.bool (rowOk vars l)) ∧ Below w.heap.size w w' := by
  have hb0 : Below w.heap.size w (w.alloc (.cells #[.int .i64 kd, .slice A1 vars.length c1, v2, .int .i64 op, .int .i64 rhs, v5, .int .i64 b] 31)) := Zab (Below.refl _ _) _
  have cC := fun (W : World) (hW : Below w.heap.size w W) => Zdn farV 90 #[] (enters_of Try.func90 (by kernel_rfl) rfl) A c l W (Kd.Zal hr hW) (fun k _ q => rowPred _ _)
  have CC := Za.mk cC
  clear cC
  unfold rowOk
  by_cases hl : (l.length : Int) = (vars.length : Int)
  rotate_left
  · have d1 : decide ((l.length : Int) = (vars.length : Int)) = false := decide_eq_false hl
    have d2 : ((l.length : Int) == (vars.length : Int)) = false := d1
    go_enter Try.func67, Try.ntmps67
    go_wp2
    go_ret
    exact ⟨by simp [d1], hb0⟩
  have d1 : decide ((l.length : Int) = (vars.length : Int)) = true := decide_eq_true hl
  have d2 : ((l.length : Int) == (vars.length : Int)) = true := d1
  go_enter Try.func67, Try.ntmps67
  go_wp2_with (go_at_call 39; go_loud (refine (CC.out _ (Zab (Below.refl _ _) _)).mono ?_; rintro e w' ⟨rfl, q, rfl⟩))
  go_ret
  exact ⟨by simp [d1], Zaa hb0 _⟩
structure ConAt (W : World) (bd bc : Nat) (A0 : Option Addr) (c0 : Nat) (l0 : List (List S48)) (kd : Int) (A1 : Option Addr) (c1 : Nat) (vars : List Int) (A2 : Option Addr) (c2 : Nat) (coefs : List Int) (op rhs : Int) (A5 : Option Addr) (c5 : Nat) (rows : List (List Int)) (b : Int) : Prop where
  ed : W.cell? ⟨bd, 0, none⟩ = some (.slice A0 l0.length c0)
  k0 : W.cell? ⟨bc, 0, none⟩ = some (.int .i64 kd)
  k1 : W.cell? ⟨bc, 1, none⟩ = some (.slice A1 vars.length c1)
  k2 : W.cell? ⟨bc, 2, none⟩ = some (.slice A2 coefs.length c2)
  k3 : W.cell? ⟨bc, 3, none⟩ = some (.int .i64 op)
  k4 : W.cell? ⟨bc, 4, none⟩ = some (.int .i64 rhs)
  k5 : W.cell? ⟨bc, 5, none⟩ = some (.slice A5 rows.length c5)
  k6 : W.cell? ⟨bc, 6, none⟩ = some (.int .i64 b)
  rd : Kd.C (Kd.slice 48 k48) W A0 l0.length l0
  r1 : Kd.C (Kd.int .i64) W A1 vars.length vars
  r2 : Kd.C (Kd.int .i64) W A2 coefs.length coefs
  r5 : Kd.C (Kd.slice 3 (Kd.int .i64)) W A5 rows.length rows
  hd : l0.length ≤ c0
  h1 : vars.length ≤ c1
  h2 : coefs.length ≤ c2
  h5 : rows.length ≤ c5
theorem ConAt.below {W W' : World} {bd bc : Nat} {A0 : Option Addr} {c0 : Nat} {l0 : List (List S48)} {kd : Int} {A1 : Option Addr} {c1 : Nat} {vars : List Int} {A2 : Option Addr} {c2 : Nat} {coefs : List Int} {op rhs : Int} {A5 : Option Addr} {c5 : Nat} {rows : List (List Int)} {b : Int}
    (h : ConAt W bd bc A0 c0 l0 kd A1 c1 vars A2 c2 coefs op rhs A5 c5 rows b) (hb : Below W.heap.size W W') : ConAt W' bd bc A0 c0 l0 kd A1 c1 vars A2 c2 coefs op rhs A5 c5 rows b :=
  ⟨cellB hb h.ed, cellB hb h.k0, cellB hb h.k1, cellB hb h.k2, cellB hb h.k3, cellB hb h.k4, cellB hb h.k5, cellB hb h.k6, Kd.Zal h.rd hb, Kd.Zal h.r1 hb, Kd.Zal h.r2 hb, Kd.Zal h.r5 hb, h.hd, h.h1, h.h2, h.h5⟩
section
variable {bd bc : Nat} {A0 : Option Addr} {c0 : Nat} {l0 : List (List S48)} {kd : Int} {A1 : Option Addr} {c1 : Nat} {vars : List Int} {A2 : Option Addr} {c2 : Nat} {coefs : List Int} {op rhs : Int} {A5 : Option Addr} {c5 : Nat} {rows : List (List Int)} {b : Int}
set_option maxHeartbeats 2000000 in
theorem rowBad (W : World) (h : ConAt W bd bc A0 c0 l0 kd A1 c1 vars A2 c2 coefs op rhs A5 c5 rows b) (A : Option Addr) (c : Nat) (l : List Int) (hr : Kd.C (Kd.int .i64) W A l.length l) (hc : l.length ≤ c) :
    Calls Try.prog 66 #[.slice A l.length c, .pointer (some ⟨bc, 0, none⟩)] W fun e w' => e = .returned (.bool (!rowOk vars l)) ∧ Below W.heap.size W w' := by
  have cR := fun (w : World) (hw : Below W.heap.size W w) => row_calls kd A1 c1 vars (.slice A2 coefs.length c2) op rhs (.slice A5 rows.length c5) b A c l w (Kd.Zal hr hw) hc rfl rfl
  have CR := Za.mk cR
  have k0 := h.k0; have k1 := h.k1; have k2 := h.k2; have k3 := h.k3; have k4 := h.k4; have k5 := h.k5; have k6 := h.k6
  clear cR h
  generalize rowOk vars l = rk at CR ⊢
  obtain ⟨wo, rfl⟩ : ∃ wo : World, wo = W := ⟨_, rfl⟩
  go_enter Try.func66, Try.ntmps66
  go_wp2_with (go_at_call 67; go_loud (refine (CR.out _ ?hB).mono ?_; (case hB => first | exact Below.refl _ _ | exact Zaa (Below.refl _ _) _ | exact Zdg (Below.refl _ _)); rintro e w' ⟨rfl, hb⟩))
  go_ret
  exact ⟨rfl, hb⟩
def truthsL (k : Nat) (l0 : List (List S48)) : List Int → Option (List Bool)
  | [] => some []
  | v :: vs => if 0 ≤ v ∧ v < (l0.length : Int) then (Zb2.f k (l0.getD v.toNat [])).bind fun t => (truthsL k l0 vs).bind fun ts => some (t :: ts) else none
theorem Zfy (k : Nat) (l0 : List (List S48)) : ∀ (l : List Int) (ts : List Bool), truthsL k l0 l = some ts → ts.length = l.length ∧ ∀ i (h : i < l.length), 0 ≤ l[i] ∧ l[i] < (l0.length : Int) ∧ Zb2.f k (l0.getD l[i].toNat []) = some (ts.getD i false)
  | [], ts, h => by
    obtain rfl := Option.some.inj h
    exact ⟨rfl, fun i h => absurd h (Nat.not_lt_zero _)⟩
  | v :: vs, ts, h => by
    unfold truthsL at h
    split at h
    case isFalse => cases h
    case isTrue h1 =>
      obtain ⟨m, hm, h⟩ := Option.bind_eq_some_iff.1 h
      obtain ⟨ms', hms, h⟩ := Option.bind_eq_some_iff.1 h
      obtain rfl := Option.some.inj h
      obtain ⟨e, hg⟩ := Zfy k l0 vs ms' hms
      refine ⟨by simp [e], fun i hi => ?_⟩
      cases i with
      | zero => exact ⟨h1.1, h1.2, hm⟩
      | succ i => exact hg i (by simpa using hi)
set_option maxHeartbeats 2000000 in
theorem truthPred (k : Nat) (W : World) (h : ConAt W bd bc A0 c0 l0 kd A1 c1 vars A2 c2 coefs op rhs A5 c5 rows b) (v : Int) (hv0 : 0 ≤ v) (hv1 : v < (l0.length : Int)) (t : Bool) (ht : Zb2.f k (l0.getD v.toNat []) = some t) :
    Calls Try.prog 61 #[.int .i64 v, .pointer (some ⟨bd, 0, none⟩)] W fun e w' => e = .returned (.bool (!t)) ∧ Below W.heap.size W w' := by
  have ed := h.ed
  obtain ⟨ad, A6, c6, rfl, hx, hl, hi⟩ := at_L4 h.rd v hv0 hv1
  have cT := fun (w : World) (hw : Below W.heap.size W w) => Zb2.calls k A6 c6 (rd_L4 l0 v) t w (Kd.Zal hi hw) hl ht
  have CT := Za.mk cT
  have p1 : decide (0 ≤ v) = true := decide_eq_true hv0
  have p2 : decide (v < (l0.length : Int)) = true := decide_eq_true hv1
  clear cT h hl hi ht
  obtain ⟨wo, rfl⟩ : ∃ wo : World, wo = W := ⟨_, rfl⟩
  go_enter Try.func61, Try.ntmps61
  go_wp2_with (go_at_call 62; go_loud (refine (CT.out _ ?hB).mono ?_; (case hB => first | exact Below.refl _ _ | exact Zaa (Below.refl _ _) _ | exact Zdg (Below.refl _ _)); rintro e w' ⟨rfl, hb⟩))
  go_ret
  exact ⟨rfl, hb⟩
end
end Go.Proofs.Ytkgjaklnbgdmiaa.P
namespace Go.Proofs.Ytkgjaklnbgdmiaa.P
open Go.RowKit Go.Proofs.YtkgjaklnbgdmiaaW.PrintWords Go.Proofs.YtkgjaklnbgdmiaaW.PrintLast Go.Proofs.YtkgjaklnbgdmiaaW.PrintMore
attribute [local go_sem] Zcs Zcu Zc7 Zc8 Zcc Zcd Zct Zcv
set_option linter.unusedVariables false
set_option linter.unusedSimpArgs false
def slices_Index_int.l0 : Nat → List Int → Int → Int → Int → Option (Int)
 | 0, _, _, _, _ => none
 | k + 1, x0, x1, x7, x8 => if x8 < x7 then (if 0 ≤ x8 then (if x8 < (x0.length : Int) then (if x1 = (rd x0 x8) then (some x8) else (slices_Index_int.l0 k x0 x1 x7 (wrap64 (x8 + 1)))) else (none)) else (none)) else (some (-1))
def slices_Index_int.f (k : Nat) (l0 : List Int) (a1 : Int) : Option (Int) := slices_Index_int.l0 k l0 a1 (l0.length : Int) 0
theorem slices_Index_int.Ze7 : ∀ k, (∀ y0 y1 y2 y3, LeO (slices_Index_int.l0 k y0 y1 y2 y3) (slices_Index_int.l0 (k + 1) y0 y1 y2 y3))
 | 0 => fun _ _ _ _ r h => by simp [slices_Index_int.l0] at h
 | k + 1 => by
  have ih0 := slices_Index_int.Ze7 k
  intro y0 y1 y2 y3
  unfold slices_Index_int.l0
  repeat' first
  | (with_reducible exact ih0 _ _ _ _)
  | (with_reducible exact LeO.refl _)
  | (with_reducible exact LeO.none _)
  | (with_reducible refine LeO.ite ?_ ?_)
  | (with_reducible refine LeO.bind ?_ (fun _ => ?_))
  | exact ih0 _ _ _ _
  | exact LeO.none _
  | refine LeO.ite ?_ ?_
  | refine LeO.bind ?_ (fun _ => ?_)
theorem slices_Index_int.mono : ∀ a0 a1 k, LeO (slices_Index_int.f k a0 a1) (slices_Index_int.f (k + 1) a0 a1) := by
 intro a0 a1 k
 have ih0 := slices_Index_int.Ze7 k
 unfold slices_Index_int.f
 repeat' first
   | (with_reducible exact ih0 _ _ _ _)
   | (with_reducible exact LeO.refl _)
   | (with_reducible exact LeO.none _)
   | (with_reducible refine LeO.ite ?_ ?_)
   | (with_reducible refine LeO.bind ?_ (fun _ => ?_))
   | exact ih0 _ _ _ _
   | exact LeO.none _
   | refine LeO.ite ?_ ?_
   | refine LeO.bind ?_ (fun _ => ?_)
set_option maxHeartbeats 8000000 in
set_option maxRecDepth 100000 in
theorem slices_Index_int.calls (k : Nat) (A0 : Option Addr) (c0 : Nat) (l0 : List Int) (a1 : Int) (r : Int) (w : World) (hr0 : Kd.C (Kd.int .i64) w A0 l0.length l0) (hc0 : l0.length ≤ c0) (h : slices_Index_int.f k l0 a1 = some r) :
  Calls Try.prog 92 #[.slice A0 l0.length c0, .int .i64 a1] w fun e w' => e = .returned (.int .i64 r) ∧ Zbf w w' := by
 have HR0 := Za.mk hr0
 have HC0 := Za.mk hc0
 clear hr0 hc0
 have H : (slices_Index_int.l0 k l0 a1 (l0.length : Int) 0) = some r := h
 clear h
 have H' := Za.mk H
 clear H
 go_enter Try.func92, Try.ntmps92
 go_wp2
 go_loopg [8] k (fun kq v8 w' => ∃ (x8_1 : Int), v8 = .int .i64 x8_1 ∧ Za (slices_Index_int.l0 kq l0 a1 (l0.length : Int) x8_1 = some r) ∧ Za (kq ≤ k) ∧ Zbf w w')
 case atStart => exact ⟨(0), (by first | rfl | (simp; done) | (simp [*]; done)), H', ⟨Nat.le_refl _⟩, by repeat (first | exact Zbf.refl _ | apply Zbf.step)⟩
 case round =>
  clear H'
  try clear p2
  obtain ⟨x8_1, rfl, HA, HK1, ⟨m1, rfl⟩⟩ := hrel
  cases gk with
  | zero => exact absurd HA.out (by simp [slices_Index_int.l0])
  | succ k1 =>
   have H := HA.out
   clear HA
   simp only [slices_Index_int.l0] at H
   by_cases c3 : x8_1 < (l0.length : Int)
   rotate_left
   ·rw [if_neg c3] at H
    have c3b0 : decide (x8_1 < (l0.length : Int)) = false := decide_eq_false c3
    clear c3
    obtain rfl := Option.some.inj H
    go_wp2
    go_ret
    exact ⟨by first | rfl | (simp; done) | (simp [*]; done), by repeat (first | exact Zbf.refl _ | apply Zbf.step)⟩
   rw [if_pos c3] at H
   have c3b0 : decide (x8_1 < (l0.length : Int)) = true := decide_eq_true c3
   clear c3
   by_cases c4 : 0 ≤ x8_1
   rotate_left
   ·rw [if_neg c4] at H
    exact absurd H (by simp)
   rw [if_pos c4] at H
   have c4b0 : decide (0 ≤ x8_1) = true := decide_eq_true c4
   clear c4
   by_cases c5 : x8_1 < (l0.length : Int)
   rotate_left
   ·rw [if_neg c5] at H
    exact absurd H (by simp)
   rw [if_pos c5] at H
   have c5b0 : decide (x8_1 < (l0.length : Int)) = true := decide_eq_true c5
   clear c5
   by_cases c6 : a1 = (rd l0 x8_1)
   ·rw [if_pos c6] at H
    have c6b0 : (a1 == (rd l0 x8_1)) = true := beq_iff_eq.mpr c6
    have c6b1 : (a1 != (rd l0 x8_1)) = false := bne_eq_false_iff_eq.mpr c6
    clear c6
    obtain rfl := Option.some.inj H
    have p321 : 0 ≤ (x8_1 : Int) := of_decide_eq_true (by first | (with_reducible assumption) | assumption)
    have q321 : x8_1 < (l0.length : Int) := of_decide_eq_true (by first | (with_reducible assumption) | assumption)
    obtain ⟨ad321, e321, hx321_0⟩ := Kd.Zcq HR0.out x8_1 p321 q321
    cases e321
    replace p321 := eq_true p321
    replace q321 := eq_true q321
    go_wp2
    go_ret
    exact ⟨by first | rfl | (simp; done) | (simp [*]; done), by repeat (first | exact Zbf.refl _ | apply Zbf.step)⟩
   rw [if_neg c6] at H
   have c6b0 : (a1 == (rd l0 x8_1)) = false := beq_eq_false_iff_ne.mpr c6
   have c6b1 : (a1 != (rd l0 x8_1)) = true := bne_iff_ne.mpr c6
   have H' := Za.mk H
   clear H
   have p321 : 0 ≤ (x8_1 : Int) := of_decide_eq_true (by first | (with_reducible assumption) | assumption)
   have q321 : x8_1 < (l0.length : Int) := of_decide_eq_true (by first | (with_reducible assumption) | assumption)
   obtain ⟨ad321, e321, hx321_0⟩ := Kd.Zcq HR0.out x8_1 p321 q321
   cases e321
   replace p321 := eq_true p321
   replace q321 := eq_true q321
   go_wp2
   go_roundg k1
   case measure => have := HK1.out; omega
   case rel => exact ⟨(wrap64 (x8_1 + 1)), (by first | rfl | (simp; done) | (simp [*]; done)), H', ⟨by have := HK1.out; omega⟩, by repeat (first | exact Zbf.refl _ | apply Zbf.step)⟩
def slices_Contains_int.f (k : Nat) (l0 : List Int) (a1 : Int) : Option (Bool) := (slices_Index_int.f k l0 a1).bind fun t322 => (some (decide (t322 ≥ 0)))
theorem slices_Contains_int.mono : ∀ a0 a1 k, LeO (slices_Contains_int.f k a0 a1) (slices_Contains_int.f (k + 1) a0 a1) := by
 intro a0 a1 k
 unfold slices_Contains_int.f
 repeat' first
   | (with_reducible exact slices_Index_int.mono _ _ _)
   | (with_reducible exact LeO.refl _)
   | (with_reducible exact LeO.none _)
   | (with_reducible refine LeO.ite ?_ ?_)
   | (with_reducible refine LeO.bind ?_ (fun _ => ?_))
   | exact slices_Index_int.mono _ _ _
   | exact LeO.none _
   | refine LeO.ite ?_ ?_
   | refine LeO.bind ?_ (fun _ => ?_)
set_option maxHeartbeats 8000000 in
set_option maxRecDepth 100000 in
theorem slices_Contains_int.calls (k : Nat) (A0 : Option Addr) (c0 : Nat) (l0 : List Int) (a1 : Int) (r : Bool) (w : World) (hr0 : Kd.C (Kd.int .i64) w A0 l0.length l0) (hc0 : l0.length ≤ c0) (h : slices_Contains_int.f k l0 a1 = some r) :
  Calls Try.prog 69 #[.slice A0 l0.length c0, .int .i64 a1] w fun e w' => e = .returned (.bool r) ∧ Zbf w w' := by
 have HR0 := Za.mk hr0
 have HC0 := Za.mk hc0
 clear hr0 hc0
 have H : ((slices_Index_int.f k l0 a1).bind fun t322 => (some (decide (t322 ≥ 0)))) = some r := h
 clear h
 replace H := Option.bind_eq_some_iff.mp H
 obtain ⟨t322, A30, H⟩ := H
 replace H : (some (decide (t322 ≥ 0))) = some r := H
 have A3 := Za.mk A30
 clear A30
 obtain rfl := Option.some.inj H
 go_enter Try.func69, Try.ntmps69
 go_wp2_with (first | ((with_reducible refine Zay (f := 92) rfl ?_); refine Zbu (some 7) rfl rfl Try.func92 (by kernel_rfl) rfl #[.slice A0 l0.length c0, .int .i64 a1] rfl (by (try simp only [List.map_toArray, List.map_cons, List.map_nil]); first | done | rfl | (simp only [List.length_drop, List.length_take]; rfl)) ?_; (with_reducible refine (slices_Index_int.calls k _ _ l0 a1 t322 _ ?side1 ?side2 A3.out).mono ?_); (case side1 => repeat (first | exact HR0.out | (with_reducible refine Kd.C_alloc ?_ _) | (with_reducible refine Kd.Zaw ?_ _) | (with_reducible refine Kd.C_drew ?_))); (case side2 => exact HC0.out); rintro e w' ⟨rfl, ⟨nd, rfl⟩⟩; refine ⟨_, rfl, ?_⟩))
 go_ret
 exact ⟨by first | rfl | (simp; done) | (simp [*]; done), by repeat (first | exact Zbf.refl _ | apply Zbf.step)⟩
end Go.Proofs.Ytkgjaklnbgdmiaa.P
/- Plain: 'from some number of rounds on it tells a'; lists of numbers in order. No program in sight. -/
namespace Go.Proofs.Ytkgjaklnbgdmiaa.P
open Go.RowKit Go.Proofs.YtkgjaklnbgdmiaaW.PrintWords Go.Proofs.YtkgjaklnbgdmiaaW.PrintLast Go.Proofs.YtkgjaklnbgdmiaaW.PrintMore
set_option linter.unusedVariables false
set_option linter.unusedSimpArgs false
def Ev {α : Type} (F : Nat → Option α) (a : α) : Prop := ∃ k0, ∀ k, k0 ≤ k → F k = some a
section
variable {α β : Type} {F G : Nat → Option α} {a : α} {b : β}
theorem Ev.out (h : Ev F a) : ∃ k, F k = some a := by obtain ⟨k, h⟩ := h; exact ⟨k, h k (Nat.le_refl _)⟩
theorem Ev.const {x : Option α} (h : x = some a) : Ev (fun _ => x) a := ⟨0, fun _ _ => h⟩
theorem Ev.pure (a : α) : Ev (fun _ => some a) a := Ev.const rfl
theorem Ev.bind {H : Nat → α → Option β} (h : Ev F a) (g : Ev (fun k => H k a) b) : Ev (fun k => (F k).bind (H k)) b := by
  obtain ⟨k1, h1⟩ := h
  obtain ⟨k2, h2⟩ := g
  refine ⟨max k1 k2, fun k hk => ?_⟩
  show (F k).bind (H k) = some b
  rw [h1 k (by omega)]
  exact h2 k (by omega)
theorem Ev.step (h : ∀ k, F (k + 1) = G k) (g : Ev G a) : Ev F a := by
  obtain ⟨k1, h1⟩ := g
  refine ⟨k1 + 1, fun k hk => ?_⟩
  obtain ⟨m, rfl⟩ : ∃ m, k = m + 1 := ⟨k - 1, by omega⟩
  rw [h m]
  exact h1 m (by omega)
theorem Ev.eq (h : ∀ k, F k = G k) (g : Ev G a) : Ev F a := by
  obtain ⟨k1, h1⟩ := g
  exact ⟨k1, fun k hk => (h k).trans (h1 k hk)⟩
theorem Ev.Zba {c : Prop} [Decidable c] (hc : c) (g : Ev F a) : Ev (fun k => if c then F k else G k) a := Ev.eq (fun k => if_pos hc) g
theorem Ev.Zbm {c : Prop} [Decidable c] (hc : ¬ c) (g : Ev G a) : Ev (fun k => if c then F k else G k) a := Ev.eq (fun k => if_neg hc) g
end
theorem w64 {n : Int} (h1 : -9223372036854775808 ≤ n) (h2 : n ≤ 9223372036854775807) : wrap64 n = n := by unfold wrap64; omega
theorem w1 {n : Nat} (h : n < 4611686018427387904) : wrap64 ((n : Int) + 1) = ((n + 1 : Nat) : Int) := by rw [w64 (by omega) (by omega)]; omega
theorem wf64 {n : Int} (h : (Lit.int .i64 n).wf = true) : -9223372036854775808 ≤ n ∧ n ≤ 9223372036854775807 := by
  simp [Lit.wf, IntKind.min, IntKind.max, IntKind.signed, IntKind.bits] at h
  omega
theorem Zgb (l : List Int) (n : Nat) (h : n < l.length) : rd l (n : Int) = l[n] := by simp [rd, List.getD_eq_getElem?_getD, List.getElem?_eq_getElem h]
abbrev SS (l : List Int) : Prop := List.Pairwise (fun a b : Int => a < b) l
theorem SS.ext : ∀ {l m : List Int}, SS l → SS m → (∀ x, x ∈ l ↔ x ∈ m) → l = m
  | [], [], _, _, _ => rfl
  | [], y :: m, _, _, h => absurd ((h y).2 List.mem_cons_self) (by simp)
  | x :: l, [], _, _, h => absurd ((h x).1 List.mem_cons_self) (by simp)
  | x :: l, y :: m, h1, h2, h => by
    obtain ⟨hx, hl⟩ := List.pairwise_cons.1 h1
    obtain ⟨hy, hm⟩ := List.pairwise_cons.1 h2
    have e : x = y := by
      rcases List.mem_cons.1 ((h x).1 List.mem_cons_self) with e | h3
      · exact e
      rcases List.mem_cons.1 ((h y).2 List.mem_cons_self) with e | h4
      · exact e.symm
      have := hy x h3; have := hx y h4; omega
    subst e
    congr 1
    refine SS.ext hl hm (fun z => ⟨fun hz => ?_, fun hz => ?_⟩)
    · rcases List.mem_cons.1 ((h z).1 (List.mem_cons_of_mem _ hz)) with e | h3
      · have := hx z hz; omega
      exact h3
    rcases List.mem_cons.1 ((h z).2 (List.mem_cons_of_mem _ hz)) with e | h3
    · have := hy z hz; omega
    exact h3
def insU (x : Int) : List Int → List Int
  | [] => [x]
  | y :: l => if x < y then x :: y :: l else if x = y then y :: l else y :: insU x l
theorem mem_insU (x z : Int) : ∀ l, z ∈ insU x l ↔ z = x ∨ z ∈ l
  | [] => by simp [insU]
  | y :: l => by
    unfold insU
    split
    · simp
    split
    · rename_i h1 h2
      subst h2
      simp
    rw [List.mem_cons, mem_insU x z l, List.mem_cons]
    constructor
    · rintro (h | h | h)
      · exact .inr (.inl h)
      · exact .inl h
      exact .inr (.inr h)
    rintro (h | h | h)
    · exact .inr (.inl h)
    · exact .inl h
    exact .inr (.inr h)
theorem insU_ss (x : Int) : ∀ l, SS l → SS (insU x l)
  | [], _ => by simp [insU]
  | y :: l, h => by
    obtain ⟨hy, hl⟩ := List.pairwise_cons.1 h
    unfold insU
    split
    · refine List.pairwise_cons.2 ⟨fun z hz => ?_, h⟩
      rcases List.mem_cons.1 hz with rfl | hz
      · assumption
      have := hy z hz; omega
    split
    · exact h
    refine List.pairwise_cons.2 ⟨fun z hz => ?_, insU_ss x l hl⟩
    rcases (mem_insU x z l).1 hz with rfl | hz
    · omega
    exact hy z hz
def sd : List Int → List Int
  | [] => []
  | x :: l => insU x (sd l)
theorem mem_sd (z : Int) : ∀ l, z ∈ sd l ↔ z ∈ l
  | [] => by simp [sd]
  | x :: l => by rw [sd, mem_insU, mem_sd z l, List.mem_cons]
theorem sd_ss : ∀ l, SS (sd l)
  | [] => List.Pairwise.nil
  | x :: l => insU_ss x _ (sd_ss l)
theorem sd_eq {l m : List Int} (hm : SS m) (h : ∀ x, x ∈ m ↔ x ∈ l) : sd l = m := SS.ext (sd_ss l) hm (fun x => (mem_sd x l).trans (h x).symm)
theorem Zfn (x : Int) : ∀ l, (insU x l).length ≤ l.length + 1
  | [] => by simp [insU]
  | y :: l => by
    unfold insU
    split
    · simp
    split
    · simp
    have := Zfn x l
    simp; omega
theorem sd_length : ∀ l, (sd l).length ≤ l.length
  | [] => by simp [sd]
  | x :: l => by
    have := Zfn x (sd l)
    have := sd_length l
    simp [sd]; omega
theorem mem_le_of_ss {l : List Int} {i j : Nat} (h : SS l) (hi : i < l.length) (hj : j < l.length) (hij : i < j) : l[i] < l[j] := List.pairwise_iff_getElem.1 h i j hi hj hij
theorem ss_length {l : List Int} {a b : Int} (h : SS l) (hb : ∀ x ∈ l, a ≤ x ∧ x ≤ b) : (l.length : Int) ≤ max 0 (b + 1 - a) := by
  induction l generalizing a with
  | nil => simp; omega
  | cons x l ih =>
    obtain ⟨hx, hl⟩ := List.pairwise_cons.1 h
    have h1 := hb x List.mem_cons_self
    have := ih (a := x + 1) hl (fun y hy => ⟨by have := hx y hy; omega, (hb y (List.mem_cons_of_mem _ hy)).2⟩)
    simp
    omega
end Go.Proofs.Ytkgjaklnbgdmiaa.P
/- slices.Sort and slices.Compact over whole numbers in a row of one's own: each once, rising. -/
namespace Go.Proofs.Ytkgjaklnbgdmiaa.P
open Go.RowKit Go.Shelf Go.Lib Go.Proofs.YtkgjaklnbgdmiaaW.PrintWords Go.Proofs.YtkgjaklnbgdmiaaW.PrintLast Go.Proofs.YtkgjaklnbgdmiaaW.PrintMore
set_option linter.unusedVariables false
set_option linter.unusedSimpArgs false
theorem compact_ss (d : Array Int) (hs : ∀ i j, i ≤ j → j < d.size → d[i]! ≤ d[j]!) : SS (compactUpTo d d.size) := by
  unfold compactUpTo
  refine List.Pairwise.map _ (fun a b h => h) ?_
  have h1 : List.Pairwise (fun a b : Nat => a < b) ((List.range d.size).filter (keeps d)) := List.Pairwise.filter _ List.pairwise_lt_range
  refine (List.pairwise_iff_forall_sublist.2 fun {a b} hab => ?_)
  have hlt : a < b := List.pairwise_iff_forall_sublist.1 h1 hab
  have hb : b ∈ (List.range d.size).filter (keeps d) := hab.subset (by simp)
  obtain ⟨hb1, hb2⟩ := List.mem_filter.1 hb
  have hbs : b < d.size := List.mem_range.1 hb1
  have hne : d[b]! ≠ d[b - 1]! := by
    unfold keeps at hb2
    exact (of_decide_eq_true hb2).resolve_left (by omega)
  have h2 := hs (b - 1) b (by omega) hbs
  have h3 := hs a (b - 1) (by omega) (by omega)
  show d[a]! < d[b]!
  omega
theorem compact_mem (d : Array Int) (x : Int) : x ∈ compactUpTo d d.size ↔ ∃ j, j < d.size ∧ d[j]! = x := by
  unfold compactUpTo
  constructor
  · intro h
    obtain ⟨j, hj, rfl⟩ := List.mem_map.1 h
    exact ⟨j, List.mem_range.1 (List.mem_filter.1 hj).1, rfl⟩
  rintro ⟨j, hj, rfl⟩
  induction j with
  | zero => exact List.mem_map.2 ⟨0, List.mem_filter.2 ⟨List.mem_range.2 hj, by simp [keeps]⟩, rfl⟩
  | succ j ih =>
    by_cases hk : keeps d (j + 1) = true
    · exact List.mem_map.2 ⟨j + 1, List.mem_filter.2 ⟨List.mem_range.2 hj, hk⟩, rfl⟩
    have e : d[j + 1]! = d[j]! := by
      unfold keeps at hk
      simpa using hk
    rw [e]
    exact ih (by omega)
theorem Zd4 (l : List Int) : compact (sortI l) = sd l := by
  have hle : ∀ i j, i ≤ j → j < (sortI l).toArray.size → (sortI l).toArray[i]! ≤ (sortI l).toArray[j]! := fun i j hij hj => by
    have hj' : j < (sortI l).length := by simpa using hj
    rw [getElem!_pos _ i (by simp; omega), getElem!_pos _ j (by simpa using hj)]
    rcases Nat.lt_or_eq_of_le hij with h | rfl
    · exact List.pairwise_iff_getElem.1 (sortI_le l) i j (by omega) hj' h
    exact Int.le_refl _
  have e : compact (sortI l) = compactUpTo (sortI l).toArray (sortI l).toArray.size := by simp [compact]
  rw [e]
  refine (sd_eq (compact_ss _ hle) (fun x => (compact_mem _ x).trans ?_)).symm
  rw [← (Zef l).mem_iff, List.mem_iff_getElem]
  constructor
  · rintro ⟨j, hj, rfl⟩
    exact ⟨j, by simpa using hj, by rw [getElem!_pos _ j hj]; simp⟩
  rintro ⟨j, hj, rfl⟩
  exact ⟨j, by simpa using hj, by rw [getElem!_pos _ j (by simpa using hj)]; simp⟩
theorem Zfi (xs : List Int) : (compact xs).length ≤ xs.length := by
  have := List.length_filter_le (keeps xs.toArray) (List.range xs.length)
  simpa [compact, compactUpTo] using this
theorem compact_int (v : Value) (xs : List Int) (w0 w : World) (hS : w0.heap.size ≤ w.heap.size) (hlen : xs.length < 4611686018427387904) (hrow : w.ownsRow w0.heap.size 3 1 v xs.length (xs.map (Value.int .i64))) (hB : Below w0.heap.size w0 w) :
    Calls Try.prog 46 #[v] w fun e w' => ∃ (A : Option Addr) (c : Nat), e = .returned (.slice A (compact xs).length c) ∧ (compact xs).length ≤ c ∧ Kd.C (Kd.int .i64) w' A (compact xs).length (compact xs) ∧ Below w0.heap.size w0 w' := by
  rcases hrow.2 with ⟨rfl, h0⟩ | ⟨g, cap, cur, rfl, hg, hb, hn, hcap, hsz, htk⟩
  · have hx : xs = [] := List.length_eq_zero_iff.1 h0
    subst hx
    refine (AnyG.slices_Compact_int_empty lcompact none 0 w).mono ?_
    rintro e w' ⟨rfl, rfl⟩
    exact ⟨none, 0, rfl, Nat.le_refl _, Kd.C_nil _ _, hB⟩
  have hlt : g < w.heap.size := (Array.getElem?_eq_some_iff.1 hb).1
  have hH : Sort.Holds (Value.int .i64) w g 0 xs.toArray := holds_of_blockI hb (by simpa using htk)
  refine (AnyG.slices_Compact_int lcompact g 0 cap xs w hH (by omega) hn).mono ?_
  rintro e w' ⟨rfl, q, rfl⟩
  have hcl := Zfi xs
  refine ⟨_, _, rfl, by omega, ⟨rfl, by omega, fun _ => ⟨_, rfl, fun j p hj => ⟨[.int .i64 p], rfl, rfl, fun i u hi => ?_⟩⟩⟩, ?_⟩
  · have hj' : j < (compact xs).length := (List.getElem?_eq_some_iff.1 hj).1
    obtain ⟨rfl, rfl⟩ : i = 0 ∧ u = .int .i64 p := by
      cases i with
      | zero => simpa using hi.symm
      | succ i => simp at hi
    have := (Sort.holds_putRow (Value.int .i64) (Sort.ahead w q) g 0 xs.toArray (compact xs ++ List.replicate (xs.length - (compact xs).length) 0).toArray (Sort.holds_ahead _ _ _ _ _ _ hH) (by simp; omega) j (by simp; omega)).1
    rw [getElem!_pos _ j (by simp; omega)] at this
    simp only [List.getElem_toArray] at this
    rw [List.getElem_append_left hj', (List.getElem?_eq_some_iff.1 hj).2] at this
    rw [Addr.add_lit, show (Kd.int .i64).sz = 1 from rfl]
    simpa using this
  have hgr : w.grownBy (Sort.putRow (Value.int .i64) (Sort.ahead w q) g 0 (compact xs ++ List.replicate (xs.length - (compact xs).length) 0).toArray) (some g) := by
    refine ⟨rfl, rfl, rfl, by simp [Sort.size_putRow, Sort.ahead], fun k hk hne => ?_⟩
    have : g ≠ k := fun e => hne (by rw [e])
    simp [Sort.putRow, Sort.mapBlock, Sort.ahead, Array.getElem?_modify, this]
  exact hB.grown hgr hS (fun k e => by cases e; exact hg)
theorem take_compact (cur : Array Value) (xs : List Int) (zs : List Int) (h : xs.length ≤ cur.size) : (Sort.putCells (Value.int .i64) 0 (xs ++ zs).toArray cur).toList.take xs.length = xs.map (Value.int .i64) := by
  apply List.ext_getElem?
  intro j
  by_cases hj : j < xs.length
  rotate_left
  · rw [List.getElem?_take_eq_none (by omega), List.getElem?_eq_none (by simp; omega)]
  rw [List.getElem?_take_of_lt hj, Array.getElem?_toList]
  simp [Sort.putCells, hj, show j < cur.size by omega, show j < xs.length + zs.length by omega, List.getElem_append_left]
theorem Zfj (v : Value) (xs : List Int) (w0 w : World) (hS : w0.heap.size ≤ w.heap.size) (hlen : xs.length < 4611686018427387904) (hrow : w.ownsRow w0.heap.size 3 1 v xs.length (xs.map (Value.int .i64))) (hB : Below w0.heap.size w0 w) :
    Calls Try.prog 46 #[v] w fun e w' => ∃ v' : Value, e = .returned v' ∧ w'.ownsRow w0.heap.size 3 1 v' (compact xs).length ((compact xs).map (Value.int .i64)) ∧ Below w0.heap.size w0 w' := by
  rcases hrow.2 with ⟨rfl, h0⟩ | ⟨g, cap, cur, rfl, hg, hb, hn, hcap, hsz, htk⟩
  · have hx : xs = [] := List.length_eq_zero_iff.1 h0
    subst hx
    refine (AnyG.slices_Compact_int_empty lcompact none 0 w).mono ?_
    rintro e w' ⟨rfl, rfl⟩
    exact ⟨_, rfl, own_nil _ _ _ _, hB⟩
  have hlt : g < w.heap.size := (Array.getElem?_eq_some_iff.1 hb).1
  have hH : Sort.Holds (Value.int .i64) w g 0 xs.toArray := holds_of_blockI hb (by simpa using htk)
  refine (AnyG.slices_Compact_int lcompact g 0 cap xs w hH (by omega) hn).mono ?_
  rintro e w' ⟨rfl, q, rfl⟩
  have hcl := Zfi xs
  refine ⟨_, rfl, ⟨by simp, .inr ⟨g, cap, Sort.putCells (Value.int .i64) 0 (compact xs ++ List.replicate (xs.length - (compact xs).length) 0).toArray cur, rfl, hg, ?_, by omega, hcap, by simp [Sort.putCells, hsz], ?_⟩⟩, ?_⟩
  · simp [Sort.putRow, Sort.mapBlock, Sort.ahead, Array.getElem?_modify, hb, Sort.onCells]
  · rw [Nat.mul_one]
    exact take_compact cur (compact xs) _ (by omega)
  have hgr : w.grownBy (Sort.putRow (Value.int .i64) (Sort.ahead w q) g 0 (compact xs ++ List.replicate (xs.length - (compact xs).length) 0).toArray) (some g) := by
    refine ⟨rfl, rfl, rfl, by simp [Sort.size_putRow, Sort.ahead], fun k hk hne => ?_⟩
    have : g ≠ k := fun e => hne (by rw [e])
    simp [Sort.putRow, Sort.mapBlock, Sort.ahead, Array.getElem?_modify, this]
  exact hB.grown hgr hS (fun k e => by cases e; exact hg)
end Go.Proofs.Ytkgjaklnbgdmiaa.P
/- model.all: are numbers all others? -/
namespace Go.Proofs.Ytkgjaklnbgdmiaa.P
open Go.RowKit Go.Shelf Go.Proofs.YtkgjaklnbgdmiaaW.PrintWords Go.Proofs.YtkgjaklnbgdmiaaW.PrintLast Go.Proofs.YtkgjaklnbgdmiaaW.PrintMore
set_option linter.unusedVariables false
def Zcr.f (l0 : List Int) : Option Bool := if 1000000 < l0.length then none else some (decide (((sd l0).length : Int) = (l0.length : Int)))
theorem row_ofA (W : World) (base : Nat) (v : Value) (xs : List Int) {n : Nat} (hn : xs.length = n) (h : W.ownsRow base 3 1 v n (xs.map (Value.int .i64))) : W.ownsRow base 3 1 v xs.length (xs.map (Value.int .i64)) := by
  subst hn
  exact h
set_option maxRecDepth 100000 in
set_option maxHeartbeats 2000000 in
theorem Zcr.calls (A0 : Option Addr) (c0 : Nat) (l0 : List Int) (r : Bool) (w : World) (hr0 : Kd.C (Kd.int .i64) w A0 l0.length l0) (hc0 : l0.length ≤ c0) (h : Zcr.f l0 = some r) :
    Calls Try.prog 65 #[.slice A0 l0.length c0] w fun e w' => e = .returned (.bool r) ∧ Below w.heap.size w w' := by
  have HR := Za.mk hr0
  clear hr0
  have hlen : l0.length ≤ 9223372036854775807 := HR.out.2.1
  have cV := fun (W : World) => callsIn_wide.1 (values_in Fence.wide 9 trivial rfl A0 l0.length c0 W)
  unfold Zcr.f at h
  by_cases hbig : 1000000 < l0.length
  · rw [if_pos hbig] at h; cases h
  rw [if_neg hbig] at h
  obtain rfl := Option.some.inj h
  clear h
  have hsz : ∀ q, (w.drewN q).heap.size = w.heap.size := fun q => by simp
  have cS := fun (q : Nat) => sorted_calls 111 #[.pointer (some ⟨w.heap.size, 0, none⟩)] (enters_of Try.func111 (by kernel_rfl) rfl) w.heap.size _ _ l0.length (by omega) (fun xs e => by rw [e]; exact Nat.le_refl _)
    ((w.drewN q).alloc (.cells #[.slice A0 l0.length c0] 24)) ((w.drewN q).alloc (.cells #[.slice A0 l0.length c0] 24)) (Below.refl _ _) (by simp)
    (values_stops Fence.wide 7 trivial rfl (by omega) w.heap.size w _ A0 c0 l0 HR.out (by simp) ((Zaa (Below.refl _ w) q).alloc (by simp) _) (by have := (Boxed.new (w.drewN q) 24 (.slice A0 l0.length c0)).cell; rwa [hsz] at this))
  have cC := fun (v : Value) (w0 W : World) (h1 : w0.heap.size ≤ W.heap.size) (h2 : W.ownsRow w0.heap.size 3 1 v (sortI l0).length ((sortI l0).map (Value.int .i64))) (h3 : Below w0.heap.size w0 W) => compact_int v (sortI l0) w0 W h1 (by rw [Zdb]; omega) h2 h3
  have hsl := Za.mk (Zdb l0)
  have hcs := Za.mk (Zd4 l0)
  go_enter Try.func65, Try.ntmps65
  go_wp2_with (first | (go_at_call 89; refine (cV _).mono ?_; rintro e w' ⟨rfl, rfl⟩) | (go_at_call 88; go_loud (refine (cS 0).mono ?_; rintro e W1 ⟨v, xs, rfl, rfl, hrow, hb⟩)) | (go_at_call 46; go_loud (refine (cC _ _ _ hb.size (row_ofA _ _ _ _ hsl.out hrow) hb).mono ?_; rintro e W2 ⟨A1, c1, rfl, hcl, hC1, hb2⟩)))
  go_ret
  refine ⟨?_, ((Zaa (Below.refl _ w) 0).alloc (by simp) _).trans (hb2.mono (by simp))⟩
  rw [← hcs.out]
  rfl
end Go.Proofs.Ytkgjaklnbgdmiaa.P
namespace Go.Proofs.Ytkgjaklnbgdmiaa.P
open Go.RowKit Go.Proofs.YtkgjaklnbgdmiaaW.PrintWords Go.Proofs.YtkgjaklnbgdmiaaW.PrintLast Go.Proofs.YtkgjaklnbgdmiaaW.PrintMore
attribute [local go_sem] Zcs Zcu Zc7 Zc8 Zcc Zcd Zct Zcv
set_option linter.unusedVariables false
set_option linter.unusedSimpArgs false
def Zce.f (k : Nat) (a0_0 : Int) (l0_1 : List Int) (l0_2 : List Int) (a0_3 : Int) (a0_4 : Int) (l0_5 : List (List Int)) (a0_6 : Int) : Option (Bool) := if (l0_1.length : Int) > 0 then (if (l0_1.length : Int) = (l0_2.length : Int) then ((Zcr.f l0_1).bind fun t324 => (if t324 = true then ((slices_Contains_int.f k l0_2 0).bind fun t325 => (some (!t325))) else (some false))) else (some false)) else (some false)
theorem Zce.mono : ∀ a0 a1 a2 a3 a4 a5 a6 k, LeO (Zce.f k a0 a1 a2 a3 a4 a5 a6) (Zce.f (k + 1) a0 a1 a2 a3 a4 a5 a6) := by
 intro a0 a1 a2 a3 a4 a5 a6 k
 unfold Zce.f
 repeat' first
   | (with_reducible exact slices_Contains_int.mono _ _ _)
   | (with_reducible exact LeO.refl _)
   | (with_reducible exact LeO.none _)
   | (with_reducible refine LeO.ite ?_ ?_)
   | (with_reducible refine LeO.bind ?_ (fun _ => ?_))
   | exact slices_Contains_int.mono _ _ _
   | exact LeO.none _
   | refine LeO.ite ?_ ?_
   | refine LeO.bind ?_ (fun _ => ?_)
set_option maxHeartbeats 8000000 in
set_option maxRecDepth 100000 in
theorem Zce.calls (k : Nat) (a0_0 : Int) (A0_1 : Option Addr) (c0_1 : Nat) (l0_1 : List Int) (A0_2 : Option Addr) (c0_2 : Nat) (l0_2 : List Int) (a0_3 : Int) (a0_4 : Int) (A0_5 : Option Addr) (c0_5 : Nat) (l0_5 : List (List Int)) (a0_6 : Int) (r : Bool) (w : World) (hr0_1 : Kd.C (Kd.int .i64) w A0_1 l0_1.length l0_1) (hc0_1 : l0_1.length ≤ c0_1) (hr0_2 : Kd.C (Kd.int .i64) w A0_2 l0_2.length l0_2) (hc0_2 : l0_2.length ≤ c0_2) (hr0_5 : Kd.C (Kd.slice 3 (Kd.int .i64)) w A0_5 l0_5.length l0_5) (hc0_5 : l0_5.length ≤ c0_5) (h : Zce.f k a0_0 l0_1 l0_2 a0_3 a0_4 l0_5 a0_6 = some r) :
  Calls Try.prog 71 #[.agg #[.int .i64 a0_0, .slice A0_1 l0_1.length c0_1, .slice A0_2 l0_2.length c0_2, .int .i64 a0_3, .int .i64 a0_4, .slice A0_5 l0_5.length c0_5, .int .i64 a0_6]] w fun e w' => e = .returned (.bool r) ∧ Below w.heap.size w w' := by
 have hu31 := Try.underlying31
 have HR0_1 := Za.mk hr0_1
 have HC0_1 := Za.mk hc0_1
 clear hr0_1 hc0_1
 have HR0_2 := Za.mk hr0_2
 have HC0_2 := Za.mk hc0_2
 clear hr0_2 hc0_2
 have HR0_5 := Za.mk hr0_5
 have HC0_5 := Za.mk hc0_5
 clear hr0_5 hc0_5
 have HB := Za.mk (Below.refl w.heap.size w)
 have H : (if (l0_1.length : Int) > 0 then (if (l0_1.length : Int) = (l0_2.length : Int) then ((Zcr.f l0_1).bind fun t324 => (if t324 = true then ((slices_Contains_int.f k l0_2 0).bind fun t325 => (some (!t325))) else (some false))) else (some false)) else (some false)) = some r := h
 clear h
 by_cases c2 : (l0_1.length : Int) > 0
 rotate_left
 ·rw [if_neg c2] at H
  have c2b0 : decide (0 < (l0_1.length : Int)) = false := decide_eq_false c2
  have c2b1 : decide (0 < l0_1.length) = false := decide_eq_false (by omega)
  clear c2
  obtain rfl := Option.some.inj H
  go_enter Try.func71, Try.ntmps71
  go_wp2_with (first | ((with_reducible refine Zax (N := 1) rfl ?_); (try (refine Zco (by rfl) ?_; dsimp only)); refine Za7 ?hg (N := 1) ?hd (cs := #[.int .i64 a0_0, .slice A0_1 l0_1.length c0_1, .slice A0_2 l0_2.length c0_2, .int .i64 a0_3, .int .i64 a0_4, .slice A0_5 l0_5.length c0_5, .int .i64 a0_6]) (t := 31) ?hr ?_; (case hd => rfl); (case hg => rfl); (case hr => first | (go_simp; done) | (go_simp; rfl)); intro gb323 hg w16 hbox hb; have n0_ := Za.mk (Zaf (by repeat (first | (with_reducible first | exact HB.out | apply Zab | apply Zaa | apply Zad) | exact HB.out)) hb); have n1_ := Za.mk (hbox); have n3_ := Za.mk ((by rw [hg]; exact (Zan (by repeat (first | (with_reducible first | exact HB.out | apply Zab | apply Zaa | apply Zad) | exact HB.out))) : w.heap.size ≤ gb323)); clear HB; have HB := n0_; have BK323 := n1_; have GE323 := n3_; clear n0_ n1_ n3_; clear hb hbox hg; obtain ⟨hcz17_0, hcz17_1, hcz17_2, hcz17_3, hcz17_4, hcz17_5, hcz17_6, hfz17_0, hfz17_1, hfz17_2, hfz17_3, hfz17_4, hfz17_5, hfz17_6⟩ := Zdl BK323.out))
  go_ret
  exact ⟨by first | rfl | (simp [Zar, Zas] <;> rfl) | (simp [*, Zar, Zas] <;> rfl), by repeat (first | (with_reducible first | exact HB.out | apply Zab | apply Zaa | apply Zad | refine Zac ?_ GE323.out) | exact HB.out)⟩
 rw [if_pos c2] at H
 have c2b0 : decide (0 < (l0_1.length : Int)) = true := decide_eq_true c2
 have c2b1 : decide (0 < l0_1.length) = true := decide_eq_true (by omega)
 clear c2
 by_cases c3 : (l0_1.length : Int) = (l0_2.length : Int)
 rotate_left
 ·rw [if_neg c3] at H
  have c3b0 : ((l0_1.length : Int) == (l0_2.length : Int)) = false := beq_eq_false_iff_ne.mpr c3
  have c3b1 : ((l0_1.length : Int) != (l0_2.length : Int)) = true := bne_iff_ne.mpr c3
  have c3b2 : (l0_1.length == l0_2.length) = false := by first | simpa using c3 | (simp at c3 ⊢; omega)
  obtain rfl := Option.some.inj H
  go_enter Try.func71, Try.ntmps71
  go_wp2_with (first | ((with_reducible refine Zax (N := 1) rfl ?_); (try (refine Zco (by rfl) ?_; dsimp only)); refine Za7 ?hg (N := 1) ?hd (cs := #[.int .i64 a0_0, .slice A0_1 l0_1.length c0_1, .slice A0_2 l0_2.length c0_2, .int .i64 a0_3, .int .i64 a0_4, .slice A0_5 l0_5.length c0_5, .int .i64 a0_6]) (t := 31) ?hr ?_; (case hd => rfl); (case hg => rfl); (case hr => first | (go_simp; done) | (go_simp; rfl)); intro gb323 hg w14 hbox hb; have n0_ := Za.mk (Zaf (by repeat (first | (with_reducible first | exact HB.out | apply Zab | apply Zaa | apply Zad) | exact HB.out)) hb); have n1_ := Za.mk (hbox); have n3_ := Za.mk ((by rw [hg]; exact (Zan (by repeat (first | (with_reducible first | exact HB.out | apply Zab | apply Zaa | apply Zad) | exact HB.out))) : w.heap.size ≤ gb323)); clear HB; have HB := n0_; have BK323 := n1_; have GE323 := n3_; clear n0_ n1_ n3_; clear hb hbox hg; obtain ⟨hcz15_0, hcz15_1, hcz15_2, hcz15_3, hcz15_4, hcz15_5, hcz15_6, hfz15_0, hfz15_1, hfz15_2, hfz15_3, hfz15_4, hfz15_5, hfz15_6⟩ := Zdl BK323.out))
  go_ret
  exact ⟨by first | rfl | (simp [Zar, Zas] <;> rfl) | (simp [*, Zar, Zas] <;> rfl), by repeat (first | (with_reducible first | exact HB.out | apply Zab | apply Zaa | apply Zad | refine Zac ?_ GE323.out) | exact HB.out)⟩
 rw [if_pos c3] at H
 have c3b0 : ((l0_1.length : Int) == (l0_2.length : Int)) = true := beq_iff_eq.mpr c3
 have c3b1 : ((l0_1.length : Int) != (l0_2.length : Int)) = false := bne_eq_false_iff_eq.mpr c3
 have c3b2 : (l0_1.length == l0_2.length) = true := by first | simpa using c3 | (simp at c3 ⊢; omega)
 clear c3
 replace H := Option.bind_eq_some_iff.mp H
 obtain ⟨t324, A40, H⟩ := H
 replace H : (if t324 = true then ((slices_Contains_int.f k l0_2 0).bind fun t325 => (some (!t325))) else (some false)) = some r := H
 have A4 := Za.mk A40
 clear A40
 by_cases c5 : t324 = true
 rotate_left
 ·replace c5 := Bool.eq_false_iff.mpr c5
  subst c5
  have H1 : (some false) = some r := by rw [if_neg (show ¬ (false = true) by decide)] at H; exact H
  clear H
  have H := H1
  clear H1
  obtain rfl := Option.some.inj H
  go_enter Try.func71, Try.ntmps71
  go_wp2_with (first | ((with_reducible refine Zax (N := 1) rfl ?_); (try (refine Zco (by rfl) ?_; dsimp only)); refine Za7 ?hg (N := 1) ?hd (cs := #[.int .i64 a0_0, .slice A0_1 l0_1.length c0_1, .slice A0_2 l0_2.length c0_2, .int .i64 a0_3, .int .i64 a0_4, .slice A0_5 l0_5.length c0_5, .int .i64 a0_6]) (t := 31) ?hr ?_; (case hd => rfl); (case hg => rfl); (case hr => first | (go_simp; done) | (go_simp; rfl)); intro gb323 hg w11 hbox hb; have n0_ := Za.mk (Zaf (by repeat (first | (with_reducible first | exact HB.out | apply Zab | apply Zaa | apply Zad) | exact HB.out)) hb); have n1_ := Za.mk (hbox); have n3_ := Za.mk ((by rw [hg]; exact (Zan (by repeat (first | (with_reducible first | exact HB.out | apply Zab | apply Zaa | apply Zad) | exact HB.out))) : w.heap.size ≤ gb323)); clear HB; have HB := n0_; have BK323 := n1_; have GE323 := n3_; clear n0_ n1_ n3_; clear hb hbox hg; obtain ⟨hcz12_0, hcz12_1, hcz12_2, hcz12_3, hcz12_4, hcz12_5, hcz12_6, hfz12_0, hfz12_1, hfz12_2, hfz12_3, hfz12_4, hfz12_5, hfz12_6⟩ := Zdl BK323.out) | (go_at_call 65; (with_reducible refine (Zcr.calls _ _ l0_1 false _ ?side1 ?side2 A4.out).mono ?_); (case side1 => repeat (first | exact (Kd.Zal HR0_1.out HB.out) | (with_reducible refine Kd.C_alloc ?_ _) | (with_reducible refine Kd.Zaw ?_ _) | (with_reducible refine Kd.C_drew ?_))); (case side2 => exact HC0_1.out); rintro e w13 ⟨rfl, hb⟩; have n1_ := Za.mk (Zaf (by repeat (first | (with_reducible first | exact HB.out | apply Zab | apply Zaa | apply Zad | refine Zac ?_ GE323.out) | exact HB.out)) hb); clear BK323; clear HB; have HB := n1_; clear n1_; (try clear hb); (try clear hb2); (try clear hk); (try clear hi)))
  go_ret
  exact ⟨by first | rfl | (simp [Zar, Zas] <;> rfl) | (simp [*, Zar, Zas] <;> rfl), by repeat (first | (with_reducible first | exact HB.out | apply Zab | apply Zaa | apply Zad | refine Zac ?_ GE323.out) | exact HB.out)⟩
 subst c5
 have H1 : ((slices_Contains_int.f k l0_2 0).bind fun t325 => (some (!t325))) = some r := by rw [if_pos rfl] at H; exact H
 clear H
 have H := H1
 clear H1
 replace H := Option.bind_eq_some_iff.mp H
 obtain ⟨t325, A60, H⟩ := H
 replace H : (some (!t325)) = some r := H
 have A6 := Za.mk A60
 clear A60
 obtain rfl := Option.some.inj H
 go_enter Try.func71, Try.ntmps71
 go_wp2_with (first | ((with_reducible refine Zax (N := 1) rfl ?_); (try (refine Zco (by rfl) ?_; dsimp only)); refine Za7 ?hg (N := 1) ?hd (cs := #[.int .i64 a0_0, .slice A0_1 l0_1.length c0_1, .slice A0_2 l0_2.length c0_2, .int .i64 a0_3, .int .i64 a0_4, .slice A0_5 l0_5.length c0_5, .int .i64 a0_6]) (t := 31) ?hr ?_; (case hd => rfl); (case hg => rfl); (case hr => first | (go_simp; done) | (go_simp; rfl)); intro gb323 hg w7 hbox hb; have n0_ := Za.mk (Zaf (by repeat (first | (with_reducible first | exact HB.out | apply Zab | apply Zaa | apply Zad) | exact HB.out)) hb); have n1_ := Za.mk (hbox); have n3_ := Za.mk ((by rw [hg]; exact (Zan (by repeat (first | (with_reducible first | exact HB.out | apply Zab | apply Zaa | apply Zad) | exact HB.out))) : w.heap.size ≤ gb323)); clear HB; have HB := n0_; have BK323 := n1_; have GE323 := n3_; clear n0_ n1_ n3_; clear hb hbox hg; obtain ⟨hcz8_0, hcz8_1, hcz8_2, hcz8_3, hcz8_4, hcz8_5, hcz8_6, hfz8_0, hfz8_1, hfz8_2, hfz8_3, hfz8_4, hfz8_5, hfz8_6⟩ := Zdl BK323.out) | (go_at_call 65; (with_reducible refine (Zcr.calls _ _ l0_1 true _ ?side1 ?side2 A4.out).mono ?_); (case side1 => repeat (first | exact (Kd.Zal HR0_1.out HB.out) | (with_reducible refine Kd.C_alloc ?_ _) | (with_reducible refine Kd.Zaw ?_ _) | (with_reducible refine Kd.C_drew ?_))); (case side2 => exact HC0_1.out); rintro e w9 ⟨rfl, hb⟩; have n0_ := Za.mk (Zap (g := gb323) (o := .cells #[.int .i64 a0_0, .slice A0_1 l0_1.length c0_1, .slice A0_2 l0_2.length c0_2, .int .i64 a0_3, .int .i64 a0_4, .slice A0_5 l0_5.length c0_5, .int .i64 a0_6] 31 (0, 0)) (by (with_reducible repeat (first | refine Zag ?_ _ | refine Zai ?_ | refine Zae ?_ _)); exact BK323.out) hb); have n1_ := Za.mk (Zaf (by repeat (first | (with_reducible first | exact HB.out | apply Zab | apply Zaa | apply Zad | refine Zac ?_ GE323.out) | exact HB.out)) hb); clear BK323; clear HB; have BK323 := n0_; have HB := n1_; clear n0_ n1_; (try clear hb); (try clear hb2); (try clear hk); (try clear hi); obtain ⟨hcz10_0, hcz10_1, hcz10_2, hcz10_3, hcz10_4, hcz10_5, hcz10_6, hfz10_0, hfz10_1, hfz10_2, hfz10_3, hfz10_4, hfz10_5, hfz10_6⟩ := Zdl BK323.out) | (go_at_call 69; (with_reducible refine (slices_Contains_int.calls k _ _ l0_2 0 t325 _ ?side1 ?side2 A6.out).mono ?_); (case side1 => repeat (first | exact (Kd.Zal HR0_2.out HB.out) | (with_reducible refine Kd.C_alloc ?_ _) | (with_reducible refine Kd.Zaw ?_ _) | (with_reducible refine Kd.C_drew ?_))); (case side2 => exact HC0_2.out); rintro e w' ⟨rfl, ⟨nd, rfl⟩⟩))
 go_ret
 exact ⟨by first | rfl | (simp [Zar, Zas] <;> rfl) | (simp [*, Zar, Zas] <;> rfl), by repeat (first | (with_reducible first | exact HB.out | apply Zab | apply Zaa | apply Zad | refine Zac ?_ GE323.out) | exact HB.out)⟩
def Zch.f (k : Nat) (a0_0 : Int) (l0_1 : List Int) (l0_2 : List Int) (a0_3 : Int) (a0_4 : Int) (l0_5 : List (List Int)) (a0_6 : Int) : Option (Bool) := (Zce.f k a0_0 l0_1 l0_2 a0_3 a0_4 l0_5 a0_6).bind fun t327 => (if t327 = true then (if a0_3 ≥ 0 then (some (decide (a0_3 < 3))) else (some false)) else (some false))
theorem Zch.mono : ∀ a0 a1 a2 a3 a4 a5 a6 k, LeO (Zch.f k a0 a1 a2 a3 a4 a5 a6) (Zch.f (k + 1) a0 a1 a2 a3 a4 a5 a6) := by
 intro a0 a1 a2 a3 a4 a5 a6 k
 unfold Zch.f
 repeat' first
   | (with_reducible exact Zce.mono _ _ _ _ _ _ _ _)
   | (with_reducible exact LeO.refl _)
   | (with_reducible exact LeO.none _)
   | (with_reducible refine LeO.ite ?_ ?_)
   | (with_reducible refine LeO.bind ?_ (fun _ => ?_))
   | exact Zce.mono _ _ _ _ _ _ _ _
   | exact LeO.none _
   | refine LeO.ite ?_ ?_
   | refine LeO.bind ?_ (fun _ => ?_)
set_option maxHeartbeats 8000000 in
set_option maxRecDepth 100000 in
theorem Zch.calls (k : Nat) (a0_0 : Int) (A0_1 : Option Addr) (c0_1 : Nat) (l0_1 : List Int) (A0_2 : Option Addr) (c0_2 : Nat) (l0_2 : List Int) (a0_3 : Int) (a0_4 : Int) (A0_5 : Option Addr) (c0_5 : Nat) (l0_5 : List (List Int)) (a0_6 : Int) (r : Bool) (w : World) (hr0_1 : Kd.C (Kd.int .i64) w A0_1 l0_1.length l0_1) (hc0_1 : l0_1.length ≤ c0_1) (hr0_2 : Kd.C (Kd.int .i64) w A0_2 l0_2.length l0_2) (hc0_2 : l0_2.length ≤ c0_2) (hr0_5 : Kd.C (Kd.slice 3 (Kd.int .i64)) w A0_5 l0_5.length l0_5) (hc0_5 : l0_5.length ≤ c0_5) (h : Zch.f k a0_0 l0_1 l0_2 a0_3 a0_4 l0_5 a0_6 = some r) :
  Calls Try.prog 63 #[.agg #[.int .i64 a0_0, .slice A0_1 l0_1.length c0_1, .slice A0_2 l0_2.length c0_2, .int .i64 a0_3, .int .i64 a0_4, .slice A0_5 l0_5.length c0_5, .int .i64 a0_6]] w fun e w' => e = .returned (.bool r) ∧ Below w.heap.size w w' := by
 have hu31 := Try.underlying31
 have HR0_1 := Za.mk hr0_1
 have HC0_1 := Za.mk hc0_1
 clear hr0_1 hc0_1
 have HR0_2 := Za.mk hr0_2
 have HC0_2 := Za.mk hc0_2
 clear hr0_2 hc0_2
 have HR0_5 := Za.mk hr0_5
 have HC0_5 := Za.mk hc0_5
 clear hr0_5 hc0_5
 have HB := Za.mk (Below.refl w.heap.size w)
 have H : ((Zce.f k a0_0 l0_1 l0_2 a0_3 a0_4 l0_5 a0_6).bind fun t327 => (if t327 = true then (if a0_3 ≥ 0 then (some (decide (a0_3 < 3))) else (some false)) else (some false))) = some r := h
 clear h
 replace H := Option.bind_eq_some_iff.mp H
 obtain ⟨t327, A20, H⟩ := H
 replace H : (if t327 = true then (if a0_3 ≥ 0 then (some (decide (a0_3 < 3))) else (some false)) else (some false)) = some r := H
 have A2 := Za.mk A20
 clear A20
 by_cases c3 : t327 = true
 rotate_left
 ·replace c3 := Bool.eq_false_iff.mpr c3
  subst c3
  have H1 : (some false) = some r := by rw [if_neg (show ¬ (false = true) by decide)] at H; exact H
  clear H
  have H := H1
  clear H1
  obtain rfl := Option.some.inj H
  go_enter Try.func63, Try.ntmps63
  go_wp2_with (first | ((with_reducible refine Zax (N := 1) rfl ?_); refine Za7 ?hg (N := 1) ?hd (cs := #[.int .i64 a0_0, .slice A0_1 l0_1.length c0_1, .slice A0_2 l0_2.length c0_2, .int .i64 a0_3, .int .i64 a0_4, .slice A0_5 l0_5.length c0_5, .int .i64 a0_6]) (t := 31) ?hr ?_; (case hd => rfl); (case hg => rfl); (case hr => first | (go_simp; done) | (go_simp; rfl)); intro gb326 hg w13 hbox hb; have n0_ := Za.mk (Zaf (by repeat (first | (with_reducible first | exact HB.out | apply Zab | apply Zaa | apply Zad) | exact HB.out)) hb); have n1_ := Za.mk (hbox); have n3_ := Za.mk ((by rw [hg]; exact (Zan (by repeat (first | (with_reducible first | exact HB.out | apply Zab | apply Zaa | apply Zad) | exact HB.out))) : w.heap.size ≤ gb326)); clear HB; have HB := n0_; have BK326 := n1_; have GE326 := n3_; clear n0_ n1_ n3_; clear hb hbox hg; obtain ⟨hcz14_0, hcz14_1, hcz14_2, hcz14_3, hcz14_4, hcz14_5, hcz14_6, hfz14_0, hfz14_1, hfz14_2, hfz14_3, hfz14_4, hfz14_5, hfz14_6⟩ := Zdl BK326.out) | ((with_reducible refine Zay (f := 71) rfl ?_); refine Zbu (some 4) rfl rfl Try.func71 (by kernel_rfl) rfl #[.agg #[.int .i64 a0_0, .slice A0_1 l0_1.length c0_1, .slice A0_2 l0_2.length c0_2, .int .i64 a0_3, .int .i64 a0_4, .slice A0_5 l0_5.length c0_5, .int .i64 a0_6]] rfl (by (try simp only [List.map_toArray, List.map_cons, List.map_nil]); first | done | rfl | (simp only [List.length_drop, List.length_take]; rfl)) ?_; (with_reducible refine (Zce.calls k a0_0 _ _ l0_1 _ _ l0_2 a0_3 a0_4 _ _ l0_5 a0_6 false _ ?side1 ?side2 ?side3 ?side4 ?side5 ?side6 A2.out).mono ?_); (case side1 => repeat (first | exact (Kd.Zal HR0_1.out HB.out) | (with_reducible refine Kd.C_alloc ?_ _) | (with_reducible refine Kd.Zaw ?_ _) | (with_reducible refine Kd.C_drew ?_))); (case side2 => exact HC0_1.out); (case side3 => repeat (first | exact (Kd.Zal HR0_2.out HB.out) | (with_reducible refine Kd.C_alloc ?_ _) | (with_reducible refine Kd.Zaw ?_ _) | (with_reducible refine Kd.C_drew ?_))); (case side4 => exact HC0_2.out); (case side5 => repeat (first | exact (Kd.Zal HR0_5.out HB.out) | (with_reducible refine Kd.C_alloc ?_ _) | (with_reducible refine Kd.Zaw ?_ _) | (with_reducible refine Kd.C_drew ?_))); (case side6 => exact HC0_5.out); rintro e w15 ⟨rfl, hb⟩; refine ⟨_, rfl, ?_⟩; have n1_ := Za.mk (Zaf (by repeat (first | (with_reducible first | exact HB.out | apply Zab | apply Zaa | apply Zad | refine Zac ?_ GE326.out) | exact HB.out)) hb); clear BK326; clear HB; have HB := n1_; clear n1_; (try clear hb); (try clear hb2); (try clear hk); (try clear hi)))
  go_ret
  exact ⟨by first | rfl | (simp [Zar, Zas] <;> rfl) | (simp [*, Zar, Zas] <;> rfl), by repeat (first | (with_reducible first | exact HB.out | apply Zab | apply Zaa | apply Zad | refine Zac ?_ GE326.out) | exact HB.out)⟩
 subst c3
 have H1 : (if a0_3 ≥ 0 then (some (decide (a0_3 < 3))) else (some false)) = some r := by rw [if_pos rfl] at H; exact H
 clear H
 have H := H1
 clear H1
 by_cases c4 : a0_3 ≥ 0
 ·rw [if_pos c4] at H
  have c4b0 : decide (0 ≤ a0_3) = true := decide_eq_true c4
  clear c4
  obtain rfl := Option.some.inj H
  go_enter Try.func63, Try.ntmps63
  go_wp2_with (first | ((with_reducible refine Zax (N := 1) rfl ?_); refine Za7 ?hg (N := 1) ?hd (cs := #[.int .i64 a0_0, .slice A0_1 l0_1.length c0_1, .slice A0_2 l0_2.length c0_2, .int .i64 a0_3, .int .i64 a0_4, .slice A0_5 l0_5.length c0_5, .int .i64 a0_6]) (t := 31) ?hr ?_; (case hd => rfl); (case hg => rfl); (case hr => first | (go_simp; done) | (go_simp; rfl)); intro gb326 hg w5 hbox hb; have n0_ := Za.mk (Zaf (by repeat (first | (with_reducible first | exact HB.out | apply Zab | apply Zaa | apply Zad) | exact HB.out)) hb); have n1_ := Za.mk (hbox); have n3_ := Za.mk ((by rw [hg]; exact (Zan (by repeat (first | (with_reducible first | exact HB.out | apply Zab | apply Zaa | apply Zad) | exact HB.out))) : w.heap.size ≤ gb326)); clear HB; have HB := n0_; have BK326 := n1_; have GE326 := n3_; clear n0_ n1_ n3_; clear hb hbox hg; obtain ⟨hcz6_0, hcz6_1, hcz6_2, hcz6_3, hcz6_4, hcz6_5, hcz6_6, hfz6_0, hfz6_1, hfz6_2, hfz6_3, hfz6_4, hfz6_5, hfz6_6⟩ := Zdl BK326.out) | ((with_reducible refine Zay (f := 71) rfl ?_); refine Zbu (some 4) rfl rfl Try.func71 (by kernel_rfl) rfl #[.agg #[.int .i64 a0_0, .slice A0_1 l0_1.length c0_1, .slice A0_2 l0_2.length c0_2, .int .i64 a0_3, .int .i64 a0_4, .slice A0_5 l0_5.length c0_5, .int .i64 a0_6]] rfl (by (try simp only [List.map_toArray, List.map_cons, List.map_nil]); first | done | rfl | (simp only [List.length_drop, List.length_take]; rfl)) ?_; (with_reducible refine (Zce.calls k a0_0 _ _ l0_1 _ _ l0_2 a0_3 a0_4 _ _ l0_5 a0_6 true _ ?side1 ?side2 ?side3 ?side4 ?side5 ?side6 A2.out).mono ?_); (case side1 => repeat (first | exact (Kd.Zal HR0_1.out HB.out) | (with_reducible refine Kd.C_alloc ?_ _) | (with_reducible refine Kd.Zaw ?_ _) | (with_reducible refine Kd.C_drew ?_))); (case side2 => exact HC0_1.out); (case side3 => repeat (first | exact (Kd.Zal HR0_2.out HB.out) | (with_reducible refine Kd.C_alloc ?_ _) | (with_reducible refine Kd.Zaw ?_ _) | (with_reducible refine Kd.C_drew ?_))); (case side4 => exact HC0_2.out); (case side5 => repeat (first | exact (Kd.Zal HR0_5.out HB.out) | (with_reducible refine Kd.C_alloc ?_ _) | (with_reducible refine Kd.Zaw ?_ _) | (with_reducible refine Kd.C_drew ?_))); (case side6 => exact HC0_5.out); rintro e w7 ⟨rfl, hb⟩; refine ⟨_, rfl, ?_⟩; have n0_ := Za.mk (Zap (g := gb326) (o := .cells #[.int .i64 a0_0, .slice A0_1 l0_1.length c0_1, .slice A0_2 l0_2.length c0_2, .int .i64 a0_3, .int .i64 a0_4, .slice A0_5 l0_5.length c0_5, .int .i64 a0_6] 31 (0, 0)) (by (with_reducible repeat (first | refine Zag ?_ _ | refine Zai ?_ | refine Zae ?_ _)); exact BK326.out) hb); have n1_ := Za.mk (Zaf (by repeat (first | (with_reducible first | exact HB.out | apply Zab | apply Zaa | apply Zad | refine Zac ?_ GE326.out) | exact HB.out)) hb); clear BK326; clear HB; have BK326 := n0_; have HB := n1_; clear n0_ n1_; (try clear hb); (try clear hb2); (try clear hk); (try clear hi); obtain ⟨hcz8_0, hcz8_1, hcz8_2, hcz8_3, hcz8_4, hcz8_5, hcz8_6, hfz8_0, hfz8_1, hfz8_2, hfz8_3, hfz8_4, hfz8_5, hfz8_6⟩ := Zdl BK326.out))
  go_ret
  exact ⟨by first | rfl | (simp [Zar, Zas] <;> rfl) | (simp [*, Zar, Zas] <;> rfl), by repeat (first | (with_reducible first | exact HB.out | apply Zab | apply Zaa | apply Zad | refine Zac ?_ GE326.out) | exact HB.out)⟩
 rw [if_neg c4] at H
 have c4b0 : decide (0 ≤ a0_3) = false := decide_eq_false c4
 clear c4
 obtain rfl := Option.some.inj H
 go_enter Try.func63, Try.ntmps63
 go_wp2_with (first | ((with_reducible refine Zax (N := 1) rfl ?_); refine Za7 ?hg (N := 1) ?hd (cs := #[.int .i64 a0_0, .slice A0_1 l0_1.length c0_1, .slice A0_2 l0_2.length c0_2, .int .i64 a0_3, .int .i64 a0_4, .slice A0_5 l0_5.length c0_5, .int .i64 a0_6]) (t := 31) ?hr ?_; (case hd => rfl); (case hg => rfl); (case hr => first | (go_simp; done) | (go_simp; rfl)); intro gb326 hg w9 hbox hb; have n0_ := Za.mk (Zaf (by repeat (first | (with_reducible first | exact HB.out | apply Zab | apply Zaa | apply Zad) | exact HB.out)) hb); have n1_ := Za.mk (hbox); have n3_ := Za.mk ((by rw [hg]; exact (Zan (by repeat (first | (with_reducible first | exact HB.out | apply Zab | apply Zaa | apply Zad) | exact HB.out))) : w.heap.size ≤ gb326)); clear HB; have HB := n0_; have BK326 := n1_; have GE326 := n3_; clear n0_ n1_ n3_; clear hb hbox hg; obtain ⟨hcz10_0, hcz10_1, hcz10_2, hcz10_3, hcz10_4, hcz10_5, hcz10_6, hfz10_0, hfz10_1, hfz10_2, hfz10_3, hfz10_4, hfz10_5, hfz10_6⟩ := Zdl BK326.out) | ((with_reducible refine Zay (f := 71) rfl ?_); refine Zbu (some 4) rfl rfl Try.func71 (by kernel_rfl) rfl #[.agg #[.int .i64 a0_0, .slice A0_1 l0_1.length c0_1, .slice A0_2 l0_2.length c0_2, .int .i64 a0_3, .int .i64 a0_4, .slice A0_5 l0_5.length c0_5, .int .i64 a0_6]] rfl (by (try simp only [List.map_toArray, List.map_cons, List.map_nil]); first | done | rfl | (simp only [List.length_drop, List.length_take]; rfl)) ?_; (with_reducible refine (Zce.calls k a0_0 _ _ l0_1 _ _ l0_2 a0_3 a0_4 _ _ l0_5 a0_6 true _ ?side1 ?side2 ?side3 ?side4 ?side5 ?side6 A2.out).mono ?_); (case side1 => repeat (first | exact (Kd.Zal HR0_1.out HB.out) | (with_reducible refine Kd.C_alloc ?_ _) | (with_reducible refine Kd.Zaw ?_ _) | (with_reducible refine Kd.C_drew ?_))); (case side2 => exact HC0_1.out); (case side3 => repeat (first | exact (Kd.Zal HR0_2.out HB.out) | (with_reducible refine Kd.C_alloc ?_ _) | (with_reducible refine Kd.Zaw ?_ _) | (with_reducible refine Kd.C_drew ?_))); (case side4 => exact HC0_2.out); (case side5 => repeat (first | exact (Kd.Zal HR0_5.out HB.out) | (with_reducible refine Kd.C_alloc ?_ _) | (with_reducible refine Kd.Zaw ?_ _) | (with_reducible refine Kd.C_drew ?_))); (case side6 => exact HC0_5.out); rintro e w11 ⟨rfl, hb⟩; refine ⟨_, rfl, ?_⟩; have n0_ := Za.mk (Zap (g := gb326) (o := .cells #[.int .i64 a0_0, .slice A0_1 l0_1.length c0_1, .slice A0_2 l0_2.length c0_2, .int .i64 a0_3, .int .i64 a0_4, .slice A0_5 l0_5.length c0_5, .int .i64 a0_6] 31 (0, 0)) (by (with_reducible repeat (first | refine Zag ?_ _ | refine Zai ?_ | refine Zae ?_ _)); exact BK326.out) hb); have n1_ := Za.mk (Zaf (by repeat (first | (with_reducible first | exact HB.out | apply Zab | apply Zaa | apply Zad | refine Zac ?_ GE326.out) | exact HB.out)) hb); clear BK326; clear HB; have BK326 := n0_; have HB := n1_; clear n0_ n1_; (try clear hb); (try clear hb2); (try clear hk); (try clear hi); obtain ⟨hcz12_0, hcz12_1, hcz12_2, hcz12_3, hcz12_4, hcz12_5, hcz12_6, hfz12_0, hfz12_1, hfz12_2, hfz12_3, hfz12_4, hfz12_5, hfz12_6⟩ := Zdl BK326.out))
 go_ret
 exact ⟨by first | rfl | (simp [Zar, Zas] <;> rfl) | (simp [*, Zar, Zas] <;> rfl), by repeat (first | (with_reducible first | exact HB.out | apply Zab | apply Zaa | apply Zad | refine Zac ?_ GE326.out) | exact HB.out)⟩
def Zci.f (a0_0 : Int) (l0_1 : List Int) (l0_2 : List Int) (a0_3 : Int) (a0_4 : Int) (l0_5 : List (List Int)) (a0_6 : Int) : Option (Bool) := if (l0_2.length : Int) = 0 then (if a0_3 = 0 then (if a0_4 = 0 then (some (a0_6 == 0)) else (some false)) else (some false)) else (some false)
set_option maxHeartbeats 8000000 in
set_option maxRecDepth 100000 in
theorem Zci.calls (a0_0 : Int) (A0_1 : Option Addr) (c0_1 : Nat) (l0_1 : List Int) (A0_2 : Option Addr) (c0_2 : Nat) (l0_2 : List Int) (a0_3 : Int) (a0_4 : Int) (A0_5 : Option Addr) (c0_5 : Nat) (l0_5 : List (List Int)) (a0_6 : Int) (r : Bool) (w : World) (hr0_1 : Kd.C (Kd.int .i64) w A0_1 l0_1.length l0_1) (hc0_1 : l0_1.length ≤ c0_1) (hr0_2 : Kd.C (Kd.int .i64) w A0_2 l0_2.length l0_2) (hc0_2 : l0_2.length ≤ c0_2) (hr0_5 : Kd.C (Kd.slice 3 (Kd.int .i64)) w A0_5 l0_5.length l0_5) (hc0_5 : l0_5.length ≤ c0_5) (h : Zci.f a0_0 l0_1 l0_2 a0_3 a0_4 l0_5 a0_6 = some r) :
  Calls Try.prog 64 #[.agg #[.int .i64 a0_0, .slice A0_1 l0_1.length c0_1, .slice A0_2 l0_2.length c0_2, .int .i64 a0_3, .int .i64 a0_4, .slice A0_5 l0_5.length c0_5, .int .i64 a0_6]] w fun e w' => e = .returned (.bool r) ∧ Below w.heap.size w w' := by
 have hu31 := Try.underlying31
 have HR0_1 := Za.mk hr0_1
 have HC0_1 := Za.mk hc0_1
 clear hr0_1 hc0_1
 have HR0_2 := Za.mk hr0_2
 have HC0_2 := Za.mk hc0_2
 clear hr0_2 hc0_2
 have HR0_5 := Za.mk hr0_5
 have HC0_5 := Za.mk hc0_5
 clear hr0_5 hc0_5
 have HB := Za.mk (Below.refl w.heap.size w)
 have H : (if (l0_2.length : Int) = 0 then (if a0_3 = 0 then (if a0_4 = 0 then (some (a0_6 == 0)) else (some false)) else (some false)) else (some false)) = some r := h
 clear h
 by_cases c2 : (l0_2.length : Int) = 0
 rotate_left
 ·rw [if_neg c2] at H
  have c2b0 : ((l0_2.length : Int) == 0) = false := beq_eq_false_iff_ne.mpr c2
  have c2b1 : ((l0_2.length : Int) != 0) = true := bne_iff_ne.mpr c2
  have c2b2 : ¬ (l0_2 = []) := fun h_ => c2 (by rw [h_]; rfl)
  obtain rfl := Option.some.inj H
  go_enter Try.func64, Try.ntmps64
  go_wp2_with (first | ((with_reducible refine Zax (N := 1) rfl ?_); refine Za7 ?hg (N := 1) ?hd (cs := #[.int .i64 a0_0, .slice A0_1 l0_1.length c0_1, .slice A0_2 l0_2.length c0_2, .int .i64 a0_3, .int .i64 a0_4, .slice A0_5 l0_5.length c0_5, .int .i64 a0_6]) (t := 31) ?hr ?_; (case hd => rfl); (case hg => rfl); (case hr => first | (go_simp; done) | (go_simp; rfl)); intro gb328 hg w11 hbox hb; have n0_ := Za.mk (Zaf (by repeat (first | (with_reducible first | exact HB.out | apply Zab | apply Zaa | apply Zad) | exact HB.out)) hb); have n1_ := Za.mk (hbox); have n3_ := Za.mk ((by rw [hg]; exact (Zan (by repeat (first | (with_reducible first | exact HB.out | apply Zab | apply Zaa | apply Zad) | exact HB.out))) : w.heap.size ≤ gb328)); clear HB; have HB := n0_; have BK328 := n1_; have GE328 := n3_; clear n0_ n1_ n3_; clear hb hbox hg; obtain ⟨hcz12_0, hcz12_1, hcz12_2, hcz12_3, hcz12_4, hcz12_5, hcz12_6, hfz12_0, hfz12_1, hfz12_2, hfz12_3, hfz12_4, hfz12_5, hfz12_6⟩ := Zdl BK328.out))
  go_ret
  exact ⟨by first | rfl | (simp [Zar, Zas] <;> rfl) | (simp [*, Zar, Zas] <;> rfl), by repeat (first | (with_reducible first | exact HB.out | apply Zab | apply Zaa | apply Zad | refine Zac ?_ GE328.out) | exact HB.out)⟩
 rw [if_pos c2] at H
 have c2b0 : ((l0_2.length : Int) == 0) = true := beq_iff_eq.mpr c2
 have c2b1 : ((l0_2.length : Int) != 0) = false := bne_eq_false_iff_eq.mpr c2
 clear c2
 by_cases c3 : a0_3 = 0
 rotate_left
 ·rw [if_neg c3] at H
  have c3b0 : (a0_3 == 0) = false := beq_eq_false_iff_ne.mpr c3
  have c3b1 : (a0_3 != 0) = true := bne_iff_ne.mpr c3
  obtain rfl := Option.some.inj H
  go_enter Try.func64, Try.ntmps64
  go_wp2_with (first | ((with_reducible refine Zax (N := 1) rfl ?_); refine Za7 ?hg (N := 1) ?hd (cs := #[.int .i64 a0_0, .slice A0_1 l0_1.length c0_1, .slice A0_2 l0_2.length c0_2, .int .i64 a0_3, .int .i64 a0_4, .slice A0_5 l0_5.length c0_5, .int .i64 a0_6]) (t := 31) ?hr ?_; (case hd => rfl); (case hg => rfl); (case hr => first | (go_simp; done) | (go_simp; rfl)); intro gb328 hg w9 hbox hb; have n0_ := Za.mk (Zaf (by repeat (first | (with_reducible first | exact HB.out | apply Zab | apply Zaa | apply Zad) | exact HB.out)) hb); have n1_ := Za.mk (hbox); have n3_ := Za.mk ((by rw [hg]; exact (Zan (by repeat (first | (with_reducible first | exact HB.out | apply Zab | apply Zaa | apply Zad) | exact HB.out))) : w.heap.size ≤ gb328)); clear HB; have HB := n0_; have BK328 := n1_; have GE328 := n3_; clear n0_ n1_ n3_; clear hb hbox hg; obtain ⟨hcz10_0, hcz10_1, hcz10_2, hcz10_3, hcz10_4, hcz10_5, hcz10_6, hfz10_0, hfz10_1, hfz10_2, hfz10_3, hfz10_4, hfz10_5, hfz10_6⟩ := Zdl BK328.out))
  go_ret
  exact ⟨by first | rfl | (simp [Zar, Zas] <;> rfl) | (simp [*, Zar, Zas] <;> rfl), by repeat (first | (with_reducible first | exact HB.out | apply Zab | apply Zaa | apply Zad | refine Zac ?_ GE328.out) | exact HB.out)⟩
 rw [if_pos c3] at H
 have c3b0 : (a0_3 == 0) = true := beq_iff_eq.mpr c3
 have c3b1 : (a0_3 != 0) = false := bne_eq_false_iff_eq.mpr c3
 clear c3
 by_cases c4 : a0_4 = 0
 rotate_left
 ·rw [if_neg c4] at H
  have c4b0 : (a0_4 == 0) = false := beq_eq_false_iff_ne.mpr c4
  have c4b1 : (a0_4 != 0) = true := bne_iff_ne.mpr c4
  obtain rfl := Option.some.inj H
  go_enter Try.func64, Try.ntmps64
  go_wp2_with (first | ((with_reducible refine Zax (N := 1) rfl ?_); refine Za7 ?hg (N := 1) ?hd (cs := #[.int .i64 a0_0, .slice A0_1 l0_1.length c0_1, .slice A0_2 l0_2.length c0_2, .int .i64 a0_3, .int .i64 a0_4, .slice A0_5 l0_5.length c0_5, .int .i64 a0_6]) (t := 31) ?hr ?_; (case hd => rfl); (case hg => rfl); (case hr => first | (go_simp; done) | (go_simp; rfl)); intro gb328 hg w7 hbox hb; have n0_ := Za.mk (Zaf (by repeat (first | (with_reducible first | exact HB.out | apply Zab | apply Zaa | apply Zad) | exact HB.out)) hb); have n1_ := Za.mk (hbox); have n3_ := Za.mk ((by rw [hg]; exact (Zan (by repeat (first | (with_reducible first | exact HB.out | apply Zab | apply Zaa | apply Zad) | exact HB.out))) : w.heap.size ≤ gb328)); clear HB; have HB := n0_; have BK328 := n1_; have GE328 := n3_; clear n0_ n1_ n3_; clear hb hbox hg; obtain ⟨hcz8_0, hcz8_1, hcz8_2, hcz8_3, hcz8_4, hcz8_5, hcz8_6, hfz8_0, hfz8_1, hfz8_2, hfz8_3, hfz8_4, hfz8_5, hfz8_6⟩ := Zdl BK328.out))
  go_ret
  exact ⟨by first | rfl | (simp [Zar, Zas] <;> rfl) | (simp [*, Zar, Zas] <;> rfl), by repeat (first | (with_reducible first | exact HB.out | apply Zab | apply Zaa | apply Zad | refine Zac ?_ GE328.out) | exact HB.out)⟩
 rw [if_pos c4] at H
 have c4b0 : (a0_4 == 0) = true := beq_iff_eq.mpr c4
 have c4b1 : (a0_4 != 0) = false := bne_eq_false_iff_eq.mpr c4
 clear c4
 obtain rfl := Option.some.inj H
 go_enter Try.func64, Try.ntmps64
 go_wp2_with (first | ((with_reducible refine Zax (N := 1) rfl ?_); refine Za7 ?hg (N := 1) ?hd (cs := #[.int .i64 a0_0, .slice A0_1 l0_1.length c0_1, .slice A0_2 l0_2.length c0_2, .int .i64 a0_3, .int .i64 a0_4, .slice A0_5 l0_5.length c0_5, .int .i64 a0_6]) (t := 31) ?hr ?_; (case hd => rfl); (case hg => rfl); (case hr => first | (go_simp; done) | (go_simp; rfl)); intro gb328 hg w5 hbox hb; have n0_ := Za.mk (Zaf (by repeat (first | (with_reducible first | exact HB.out | apply Zab | apply Zaa | apply Zad) | exact HB.out)) hb); have n1_ := Za.mk (hbox); have n3_ := Za.mk ((by rw [hg]; exact (Zan (by repeat (first | (with_reducible first | exact HB.out | apply Zab | apply Zaa | apply Zad) | exact HB.out))) : w.heap.size ≤ gb328)); clear HB; have HB := n0_; have BK328 := n1_; have GE328 := n3_; clear n0_ n1_ n3_; clear hb hbox hg; obtain ⟨hcz6_0, hcz6_1, hcz6_2, hcz6_3, hcz6_4, hcz6_5, hcz6_6, hfz6_0, hfz6_1, hfz6_2, hfz6_3, hfz6_4, hfz6_5, hfz6_6⟩ := Zdl BK328.out))
 go_ret
 exact ⟨by first | rfl | (simp [Zar, Zas] <;> rfl) | (simp [*, Zar, Zas] <;> rfl), by repeat (first | (with_reducible first | exact HB.out | apply Zab | apply Zaa | apply Zad | refine Zac ?_ GE328.out) | exact HB.out)⟩
end Go.Proofs.Ytkgjaklnbgdmiaa.P
/- model.right: is a constraint's row kept? -/
namespace Go.Proofs.Ytkgjaklnbgdmiaa.P
open Go.RowKit Go.Shelf Go.Proofs.YtkgjaklnbgdmiaaW.PrintWords Go.Proofs.YtkgjaklnbgdmiaaW.PrintLast Go.Proofs.YtkgjaklnbgdmiaaW.PrintMore
set_option linter.unusedVariables false
set_option linter.unusedSimpArgs false
def truthOf (k : Nat) (l0 : List (List S48)) (v : Int) : Bool := (Zb2.f k (l0.getD v.toNat [])).getD false
theorem Zfx (k : Nat) (l0 : List (List S48)) : ∀ (l : List Int) (ts : List Bool), truthsL k l0 l = some ts → l.all (truthOf k l0) = ts.all fun t => t
  | [], ts, h => by
    obtain rfl := Option.some.inj h
    rfl
  | v :: vs, ts, h => by
    unfold truthsL at h
    split at h
    case isFalse => cases h
    case isTrue h1 =>
      obtain ⟨m, hm, h⟩ := Option.bind_eq_some_iff.1 h
      obtain ⟨ms', hms, h⟩ := Option.bind_eq_some_iff.1 h
      obtain rfl := Option.some.inj h
      rw [List.all_cons, List.all_cons, Zfx k l0 vs ms' hms]
      unfold truthOf
      rw [hm]
      rfl
section
variable {bd bc : Nat} {A0 : Option Addr} {c0 : Nat} {l0 : List (List S48)} {kd : Int} {A1 : Option Addr} {c1 : Nat} {vars : List Int} {A2 : Option Addr} {c2 : Nat} {coefs : List Int} {op rhs : Int} {A5 : Option Addr} {c5 : Nat} {rows : List (List Int)} {b : Int}
set_option maxHeartbeats 2000000 in
theorem truths_calls (k : Nat) (W : World) (h : ConAt W bd bc A0 c0 l0 kd A1 c1 vars A2 c2 coefs op rhs A5 c5 rows b) (A : Option Addr) (c : Nat) (l : List Int) (ts : List Bool) (hr : Kd.C (Kd.int .i64) W A l.length l) (hc : l.length ≤ c) (ht : truthsL k l0 l = some ts) :
    Calls Try.prog 60 #[.slice A l.length c, .pointer (some ⟨bd, 0, none⟩)] W fun e w' => e = .returned (.bool (ts.all fun t => t)) ∧ Below W.heap.size W w' := by
  rw [← Zfx k l0 l ts ht]
  have hany : (l.any fun v => !truthOf k l0 v) = !(l.all (truthOf k l0)) := by rw [List.not_all_eq_any_not]
  obtain ⟨hlen, hget⟩ := Zfy k l0 l ts ht
  have cC := fun (w : World) (hw : Below W.heap.size W w) => Ze2 (fun v => !truthOf k l0 v) 61 #[.pointer (some ⟨bd, 0, none⟩)] (enters_of Try.func61 (by kernel_rfl) rfl) A c l w (Kd.Zal hr hw) (fun i hi w2 hw2 => by
    have e : rd l (i : Int) = l[i] := by simp [rd, List.getD_eq_getElem?_getD, List.getElem?_eq_getElem hi]
    obtain ⟨g1, g2, g3⟩ := hget i hi
    have := truthPred k w2 (h.below (Zaf hw hw2)) (rd l (i : Int)) (by rw [e]; exact g1) (by rw [e]; exact g2) (truthOf k l0 (rd l (i : Int))) (by rw [e]; unfold truthOf; rw [g3]; rfl)
    exact this)
  simp only [hany] at cC
  have CC := Za.mk cC
  clear cC h hr hany hget hlen ht
  generalize l.all (truthOf k l0) = r at CC ⊢
  obtain ⟨wo, rfl⟩ : ∃ wo : World, wo = W := ⟨_, rfl⟩
  go_enter Try.func60, Try.ntmps60
  go_wp2_with (go_at_call 39; go_loud (refine (CC.out _ ?hB).mono ?_; (case hB => first | exact Below.refl _ _ | exact Zaa (Below.refl _ _) _ | exact Zdg (Below.refl _ _)); rintro e w' ⟨rfl, hb⟩))
  go_ret
  exact ⟨by simp, hb⟩
end
def Zbo.f (k : Nat) (l0 : List (List S48)) (kd : Int) (vars coefs : List Int) (op rhs : Int) (rows : List (List Int)) (b : Int) : Option Bool :=
  if kd ≠ 2 ∧ 0 < rows.length then some false
  else if kd = 0 then (Zch.f k kd vars coefs op rhs rows b).bind fun h => some (h && decide (b = 0))
  else if kd = 1 then (Zci.f kd vars coefs op rhs rows b).bind fun p => (Zcr.f vars).bind fun a => some (p && (decide (0 < vars.length) && a))
  else if kd = 2 then (Zci.f kd vars coefs op rhs rows b).bind fun p => (Zcr.f vars).bind fun a => some (p && (decide (0 < vars.length) && (a && (decide (rows.length ≤ 1024) && !(rows.any fun l => !rowOk vars l)))))
  else if kd = 3 then (Zci.f kd vars coefs op rhs rows b).bind fun p => (Zcr.f vars).bind fun a => some (p && (decide (3 ≤ vars.length) && a))
  else if kd = 4 then if 0 ≤ b ∧ b < (l0.length : Int) then (Zch.f k kd vars coefs op rhs rows b).bind fun h => (Zb2.f k (l0.getD b.toNat [])).bind fun t => (slices_Contains_int.f k vars b).bind fun c => some (h && (t && !c)) else none
  else if kd = 5 then (Zce.f k kd vars coefs op rhs rows b).bind fun s => (truthsL k l0 vars).bind fun ts => some (s && (decide (op = 0) && (decide (rhs = 0) && (decide (b = 0) && (!(coefs.any oddU) && ts.all fun t => t)))))
  else (Zci.f kd vars coefs op rhs rows b).bind fun p => some (p && (decide (2 ≤ vars.length) && decide ((vars.length : Int) % 2 = 0)))
theorem Ze9 (k : Nat) (l0 : List (List S48)) : ∀ l, LeO (truthsL k l0 l) (truthsL (k + 1) l0 l)
  | [] => LeO.refl _
  | v :: vs => by
    unfold truthsL
    exact LeO.ite (LeO.bind (Zb2.mono _ _) (fun _ => LeO.bind (Ze9 k l0 vs) (fun _ => LeO.refl _))) (LeO.refl _)
theorem Zda (A0 : Option Addr) (c0 : Nat) (l0 : List (List S48)) (kd : Int) (A1 : Option Addr) (c1 : Nat) (vars : List Int) (A2 : Option Addr) (c2 : Nat) (coefs : List Int) (op rhs : Int) (A5 : Option Addr) (c5 : Nat) (rows : List (List Int)) (b : Int) (w : World) (hr0 : Kd.C (Kd.slice 48 k48) w A0 l0.length l0) (hc0 : l0.length ≤ c0) (hr1 : Kd.C (Kd.int .i64) w A1 vars.length vars) (hc1 : vars.length ≤ c1) (hr2 : Kd.C (Kd.int .i64) w A2 coefs.length coefs) (hc2 : coefs.length ≤ c2) (hr5 : Kd.C (Kd.slice 3 (Kd.int .i64)) w A5 rows.length rows) (hc5 : rows.length ≤ c5) :
    ConAt ((w.alloc (.cells #[.slice A0 l0.length c0] 33)).alloc (.cells #[.int .i64 kd, .slice A1 vars.length c1, .slice A2 coefs.length c2, .int .i64 op, .int .i64 rhs, .slice A5 rows.length c5, .int .i64 b] 31)) w.heap.size (w.heap.size + 1) A0 c0 l0 kd A1 c1 vars A2 c2 coefs op rhs A5 c5 rows b := by
  have hb : Below w.heap.size w ((w.alloc (.cells #[.slice A0 l0.length c0] 33)).alloc (.cells #[.int .i64 kd, .slice A1 vars.length c1, .slice A2 coefs.length c2, .int .i64 op, .int .i64 rhs, .slice A5 rows.length c5, .int .i64 b] 31)) := Zab (Zab (Below.refl _ _) _) _
  exact ⟨by simp, by simp, by simp, by simp, by simp, by simp, by simp, by simp, Kd.Zal hr0 hb, Kd.Zal hr1 hb, Kd.Zal hr2 hb, Kd.Zal hr5 hb, hc0, hc1, hc2, hc5⟩
set_option maxHeartbeats 4000000 in
set_option maxRecDepth 100000 in
theorem right_0 (k : Nat) (A0 : Option Addr) (c0 : Nat) (l0 : List (List S48)) (kd : Int) (A1 : Option Addr) (c1 : Nat) (vars : List Int) (A2 : Option Addr) (c2 : Nat) (coefs : List Int) (op rhs : Int) (A5 : Option Addr) (c5 : Nat) (rows : List (List Int)) (b : Int) (r : Bool) (w : World) (hr0 : Kd.C (Kd.slice 48 k48) w A0 l0.length l0) (hc0 : l0.length ≤ c0) (hr1 : Kd.C (Kd.int .i64) w A1 vars.length vars) (hc1 : vars.length ≤ c1) (hr2 : Kd.C (Kd.int .i64) w A2 coefs.length coefs) (hc2 : coefs.length ≤ c2) (hr5 : Kd.C (Kd.slice 3 (Kd.int .i64)) w A5 rows.length rows) (hc5 : rows.length ≤ c5) (hk : kd = 0) (hrow : rows.length = 0) (h : Zbo.f k l0 kd vars coefs op rhs rows b = some r) :
    Calls Try.prog 40 #[.slice A0 l0.length c0, .agg #[.int .i64 kd, .slice A1 vars.length c1, .slice A2 coefs.length c2, .int .i64 op, .int .i64 rhs, .slice A5 rows.length c5, .int .i64 b]] w fun e w' => e = .returned (.bool r) ∧ Below w.heap.size w w' := by
  subst hk
  have HC := Za.mk (Zda A0 c0 l0 0 A1 c1 vars A2 c2 coefs op rhs A5 c5 rows b w hr0 hc0 hr1 hc1 hr2 hc2 hr5 hc5)
  have hwB : Below w.heap.size w ((w.alloc (.cells #[.slice A0 l0.length c0] 33)).alloc (.cells #[.int .i64 0, .slice A1 vars.length c1, .slice A2 coefs.length c2, .int .i64 op, .int .i64 rhs, .slice A5 rows.length c5, .int .i64 b] 31)) := Zab (Zab (Below.refl _ _) _) _
  have HWB := Za.mk hwB
  clear hwB hr0 hr1 hr2 hr5
  unfold Zbo.f at h
  rw [if_neg (fun h_ => absurd h_.2 (by omega))] at h
  rw [if_pos rfl] at h
  obtain ⟨q1, hq1, h2_⟩ := Option.bind_eq_some_iff.1 h
  clear h
  have h := h2_
  clear h2_
  have A_1 := Za.mk hq1
  clear hq1
  obtain rfl := Option.some.inj h
  clear h
  have CH := Za.mk (fun (w' : World) (hw : Below ((w.alloc (.cells #[.slice A0 l0.length c0] 33)).alloc (.cells #[.int .i64 0, .slice A1 vars.length c1, .slice A2 coefs.length c2, .int .i64 op, .int .i64 rhs, .slice A5 rows.length c5, .int .i64 b] 31)).heap.size ((w.alloc (.cells #[.slice A0 l0.length c0] 33)).alloc (.cells #[.int .i64 0, .slice A1 vars.length c1, .slice A2 coefs.length c2, .int .i64 op, .int .i64 rhs, .slice A5 rows.length c5, .int .i64 b] 31)) w') => Zch.calls k 0 A1 c1 vars A2 c2 coefs op rhs A5 c5 rows b q1 w' (Kd.Zal HC.out.r1 hw) hc1 (Kd.Zal HC.out.r2 hw) hc2 (Kd.Zal HC.out.r5 hw) hc5 A_1.out)
  have BW := Za.mk (Below.refl ((w.alloc (.cells #[.slice A0 l0.length c0] 33)).alloc (.cells #[.int .i64 0, .slice A1 vars.length c1, .slice A2 coefs.length c2, .int .i64 op, .int .i64 rhs, .slice A5 rows.length c5, .int .i64 b] 31)).heap.size ((w.alloc (.cells #[.slice A0 l0.length c0] 33)).alloc (.cells #[.int .i64 0, .slice A1 vars.length c1, .slice A2 coefs.length c2, .int .i64 op, .int .i64 rhs, .slice A5 rows.length c5, .int .i64 b] 31)))
  have hr0_ : decide (0 < (rows.length : Int)) = false := decide_eq_false (by omega)
  have hr0n_ : decide (0 < rows.length) = false := decide_eq_false (by omega)
  clear hrow
  cases q1 with
  | false =>
    go_enter Try.func40, Try.ntmps40
    go_wp2_with (first | (go_at_call 63; go_loud (refine (CH.out _ ?hB).mono ?_; (case hB => exact mvB BW.out); rintro e w' ⟨rfl, hb⟩; have BW1 := Za.mk (Zaf (mvB BW.out) hb); clear BW hb; have BW := BW1; clear BW1; have hx_ := HC.out.below BW.out; have ed := hx_.ed; have k0 := hx_.k0; have k1 := hx_.k1; have k2 := hx_.k2; have k3 := hx_.k3; have k4 := hx_.k4; have k5 := hx_.k5; have k6 := hx_.k6; clear hx_)))
    go_ret
    exact ⟨by first | rfl | (simp [*]; done) | (simp [*]; rfl), Zaf HWB.out (mvB BW.out)⟩
  | true =>
    go_enter Try.func40, Try.ntmps40
    go_wp2_with (first | (go_at_call 63; go_loud (refine (CH.out _ ?hB).mono ?_; (case hB => exact mvB BW.out); rintro e w' ⟨rfl, hb⟩; have BW1 := Za.mk (Zaf (mvB BW.out) hb); clear BW hb; have BW := BW1; clear BW1; have hx_ := HC.out.below BW.out; have ed := hx_.ed; have k0 := hx_.k0; have k1 := hx_.k1; have k2 := hx_.k2; have k3 := hx_.k3; have k4 := hx_.k4; have k5 := hx_.k5; have k6 := hx_.k6; clear hx_)))
    go_ret
    exact ⟨by first | rfl | (simp [*]; done) | (simp [*]; rfl), Zaf HWB.out (mvB BW.out)⟩
set_option maxHeartbeats 4000000 in
set_option maxRecDepth 100000 in
theorem right_1 (k : Nat) (A0 : Option Addr) (c0 : Nat) (l0 : List (List S48)) (kd : Int) (A1 : Option Addr) (c1 : Nat) (vars : List Int) (A2 : Option Addr) (c2 : Nat) (coefs : List Int) (op rhs : Int) (A5 : Option Addr) (c5 : Nat) (rows : List (List Int)) (b : Int) (r : Bool) (w : World) (hr0 : Kd.C (Kd.slice 48 k48) w A0 l0.length l0) (hc0 : l0.length ≤ c0) (hr1 : Kd.C (Kd.int .i64) w A1 vars.length vars) (hc1 : vars.length ≤ c1) (hr2 : Kd.C (Kd.int .i64) w A2 coefs.length coefs) (hc2 : coefs.length ≤ c2) (hr5 : Kd.C (Kd.slice 3 (Kd.int .i64)) w A5 rows.length rows) (hc5 : rows.length ≤ c5) (hk : kd = 1) (hrow : rows.length = 0) (h : Zbo.f k l0 kd vars coefs op rhs rows b = some r) :
    Calls Try.prog 40 #[.slice A0 l0.length c0, .agg #[.int .i64 kd, .slice A1 vars.length c1, .slice A2 coefs.length c2, .int .i64 op, .int .i64 rhs, .slice A5 rows.length c5, .int .i64 b]] w fun e w' => e = .returned (.bool r) ∧ Below w.heap.size w w' := by
  subst hk
  have HC := Za.mk (Zda A0 c0 l0 1 A1 c1 vars A2 c2 coefs op rhs A5 c5 rows b w hr0 hc0 hr1 hc1 hr2 hc2 hr5 hc5)
  have hwB : Below w.heap.size w ((w.alloc (.cells #[.slice A0 l0.length c0] 33)).alloc (.cells #[.int .i64 1, .slice A1 vars.length c1, .slice A2 coefs.length c2, .int .i64 op, .int .i64 rhs, .slice A5 rows.length c5, .int .i64 b] 31)) := Zab (Zab (Below.refl _ _) _) _
  have HWB := Za.mk hwB
  clear hwB hr0 hr1 hr2 hr5
  unfold Zbo.f at h
  rw [if_neg (fun h_ => absurd h_.2 (by omega))] at h
  rw [if_neg (by decide)] at h
  rw [if_pos rfl] at h
  obtain ⟨q1, hq1, h2_⟩ := Option.bind_eq_some_iff.1 h
  clear h
  have h := h2_
  clear h2_
  have A_1 := Za.mk hq1
  clear hq1
  obtain ⟨q2, hq2, h2_⟩ := Option.bind_eq_some_iff.1 h
  clear h
  have h := h2_
  clear h2_
  have A_2 := Za.mk hq2
  clear hq2
  obtain rfl := Option.some.inj h
  clear h
  have CP := Za.mk (fun (w' : World) (hw : Below ((w.alloc (.cells #[.slice A0 l0.length c0] 33)).alloc (.cells #[.int .i64 1, .slice A1 vars.length c1, .slice A2 coefs.length c2, .int .i64 op, .int .i64 rhs, .slice A5 rows.length c5, .int .i64 b] 31)).heap.size ((w.alloc (.cells #[.slice A0 l0.length c0] 33)).alloc (.cells #[.int .i64 1, .slice A1 vars.length c1, .slice A2 coefs.length c2, .int .i64 op, .int .i64 rhs, .slice A5 rows.length c5, .int .i64 b] 31)) w') => Zci.calls 1 A1 c1 vars A2 c2 coefs op rhs A5 c5 rows b q1 w' (Kd.Zal HC.out.r1 hw) hc1 (Kd.Zal HC.out.r2 hw) hc2 (Kd.Zal HC.out.r5 hw) hc5 A_1.out)
  have CA := Za.mk (fun (w' : World) (hw : Below ((w.alloc (.cells #[.slice A0 l0.length c0] 33)).alloc (.cells #[.int .i64 1, .slice A1 vars.length c1, .slice A2 coefs.length c2, .int .i64 op, .int .i64 rhs, .slice A5 rows.length c5, .int .i64 b] 31)).heap.size ((w.alloc (.cells #[.slice A0 l0.length c0] 33)).alloc (.cells #[.int .i64 1, .slice A1 vars.length c1, .slice A2 coefs.length c2, .int .i64 op, .int .i64 rhs, .slice A5 rows.length c5, .int .i64 b] 31)) w') => Zcr.calls A1 c1 vars q2 w' (Kd.Zal HC.out.r1 hw) hc1 A_2.out)
  have BW := Za.mk (Below.refl ((w.alloc (.cells #[.slice A0 l0.length c0] 33)).alloc (.cells #[.int .i64 1, .slice A1 vars.length c1, .slice A2 coefs.length c2, .int .i64 op, .int .i64 rhs, .slice A5 rows.length c5, .int .i64 b] 31)).heap.size ((w.alloc (.cells #[.slice A0 l0.length c0] 33)).alloc (.cells #[.int .i64 1, .slice A1 vars.length c1, .slice A2 coefs.length c2, .int .i64 op, .int .i64 rhs, .slice A5 rows.length c5, .int .i64 b] 31)))
  have hr0_ : decide (0 < (rows.length : Int)) = false := decide_eq_false (by omega)
  have hr0n_ : decide (0 < rows.length) = false := decide_eq_false (by omega)
  clear hrow
  cases q1 with
  | false =>
    go_enter Try.func40, Try.ntmps40
    go_wp2_with (first | (go_at_call 64; go_loud (refine (CP.out _ ?hB).mono ?_; (case hB => exact mvB BW.out); rintro e w' ⟨rfl, hb⟩; have BW1 := Za.mk (Zaf (mvB BW.out) hb); clear BW hb; have BW := BW1; clear BW1; have hx_ := HC.out.below BW.out; have ed := hx_.ed; have k0 := hx_.k0; have k1 := hx_.k1; have k2 := hx_.k2; have k3 := hx_.k3; have k4 := hx_.k4; have k5 := hx_.k5; have k6 := hx_.k6; clear hx_)) | (go_at_call 65; go_loud (refine (CA.out _ ?hB).mono ?_; (case hB => exact mvB BW.out); rintro e w' ⟨rfl, hb⟩; have BW1 := Za.mk (Zaf (mvB BW.out) hb); clear BW hb; have BW := BW1; clear BW1; have hx_ := HC.out.below BW.out; have ed := hx_.ed; have k0 := hx_.k0; have k1 := hx_.k1; have k2 := hx_.k2; have k3 := hx_.k3; have k4 := hx_.k4; have k5 := hx_.k5; have k6 := hx_.k6; clear hx_)))
    go_ret
    exact ⟨by first | rfl | (simp [*]; done) | (simp [*]; rfl), Zaf HWB.out (mvB BW.out)⟩
  | true =>
    by_cases hq_ : 0 < vars.length
    · have d1len0_ : decide (0 < (vars.length : Int)) = true := decide_eq_true (by omega)
      have d2len0_ : decide (0 < vars.length) = true := decide_eq_true hq_
      clear hq_
      go_enter Try.func40, Try.ntmps40
      go_wp2_with (first | (go_at_call 64; go_loud (refine (CP.out _ ?hB).mono ?_; (case hB => exact mvB BW.out); rintro e w' ⟨rfl, hb⟩; have BW1 := Za.mk (Zaf (mvB BW.out) hb); clear BW hb; have BW := BW1; clear BW1; have hx_ := HC.out.below BW.out; have ed := hx_.ed; have k0 := hx_.k0; have k1 := hx_.k1; have k2 := hx_.k2; have k3 := hx_.k3; have k4 := hx_.k4; have k5 := hx_.k5; have k6 := hx_.k6; clear hx_)) | (go_at_call 65; go_loud (refine (CA.out _ ?hB).mono ?_; (case hB => exact mvB BW.out); rintro e w' ⟨rfl, hb⟩; have BW1 := Za.mk (Zaf (mvB BW.out) hb); clear BW hb; have BW := BW1; clear BW1; have hx_ := HC.out.below BW.out; have ed := hx_.ed; have k0 := hx_.k0; have k1 := hx_.k1; have k2 := hx_.k2; have k3 := hx_.k3; have k4 := hx_.k4; have k5 := hx_.k5; have k6 := hx_.k6; clear hx_)))
      go_ret
      exact ⟨by first | rfl | (simp [*]; done) | (simp [*]; rfl), Zaf HWB.out (mvB BW.out)⟩
    have d1len0_ : decide (0 < (vars.length : Int)) = false := decide_eq_false (by omega)
    have d2len0_ : decide (0 < vars.length) = false := decide_eq_false hq_
    clear hq_
    go_enter Try.func40, Try.ntmps40
    go_wp2_with (first | (go_at_call 64; go_loud (refine (CP.out _ ?hB).mono ?_; (case hB => exact mvB BW.out); rintro e w' ⟨rfl, hb⟩; have BW1 := Za.mk (Zaf (mvB BW.out) hb); clear BW hb; have BW := BW1; clear BW1; have hx_ := HC.out.below BW.out; have ed := hx_.ed; have k0 := hx_.k0; have k1 := hx_.k1; have k2 := hx_.k2; have k3 := hx_.k3; have k4 := hx_.k4; have k5 := hx_.k5; have k6 := hx_.k6; clear hx_)) | (go_at_call 65; go_loud (refine (CA.out _ ?hB).mono ?_; (case hB => exact mvB BW.out); rintro e w' ⟨rfl, hb⟩; have BW1 := Za.mk (Zaf (mvB BW.out) hb); clear BW hb; have BW := BW1; clear BW1; have hx_ := HC.out.below BW.out; have ed := hx_.ed; have k0 := hx_.k0; have k1 := hx_.k1; have k2 := hx_.k2; have k3 := hx_.k3; have k4 := hx_.k4; have k5 := hx_.k5; have k6 := hx_.k6; clear hx_)))
    go_ret
    exact ⟨by first | rfl | (simp [*]; done) | (simp [*]; rfl), Zaf HWB.out (mvB BW.out)⟩
set_option maxHeartbeats 4000000 in
set_option maxRecDepth 100000 in
theorem right_2 (k : Nat) (A0 : Option Addr) (c0 : Nat) (l0 : List (List S48)) (kd : Int) (A1 : Option Addr) (c1 : Nat) (vars : List Int) (A2 : Option Addr) (c2 : Nat) (coefs : List Int) (op rhs : Int) (A5 : Option Addr) (c5 : Nat) (rows : List (List Int)) (b : Int) (r : Bool) (w : World) (hr0 : Kd.C (Kd.slice 48 k48) w A0 l0.length l0) (hc0 : l0.length ≤ c0) (hr1 : Kd.C (Kd.int .i64) w A1 vars.length vars) (hc1 : vars.length ≤ c1) (hr2 : Kd.C (Kd.int .i64) w A2 coefs.length coefs) (hc2 : coefs.length ≤ c2) (hr5 : Kd.C (Kd.slice 3 (Kd.int .i64)) w A5 rows.length rows) (hc5 : rows.length ≤ c5) (hk : kd = 2) (hrow : True) (h : Zbo.f k l0 kd vars coefs op rhs rows b = some r) :
    Calls Try.prog 40 #[.slice A0 l0.length c0, .agg #[.int .i64 kd, .slice A1 vars.length c1, .slice A2 coefs.length c2, .int .i64 op, .int .i64 rhs, .slice A5 rows.length c5, .int .i64 b]] w fun e w' => e = .returned (.bool r) ∧ Below w.heap.size w w' := by
  subst hk
  have HC := Za.mk (Zda A0 c0 l0 2 A1 c1 vars A2 c2 coefs op rhs A5 c5 rows b w hr0 hc0 hr1 hc1 hr2 hc2 hr5 hc5)
  have hwB : Below w.heap.size w ((w.alloc (.cells #[.slice A0 l0.length c0] 33)).alloc (.cells #[.int .i64 2, .slice A1 vars.length c1, .slice A2 coefs.length c2, .int .i64 op, .int .i64 rhs, .slice A5 rows.length c5, .int .i64 b] 31)) := Zab (Zab (Below.refl _ _) _) _
  have HWB := Za.mk hwB
  clear hwB hr0 hr1 hr2 hr5
  unfold Zbo.f at h
  rw [if_neg (fun h_ => h_.1 rfl)] at h
  rw [if_neg (by decide)] at h
  rw [if_neg (by decide)] at h
  rw [if_pos rfl] at h
  obtain ⟨q1, hq1, h2_⟩ := Option.bind_eq_some_iff.1 h
  clear h
  have h := h2_
  clear h2_
  have A_1 := Za.mk hq1
  clear hq1
  obtain ⟨q2, hq2, h2_⟩ := Option.bind_eq_some_iff.1 h
  clear h
  have h := h2_
  clear h2_
  have A_2 := Za.mk hq2
  clear hq2
  obtain rfl := Option.some.inj h
  clear h
  have CP := Za.mk (fun (w' : World) (hw : Below ((w.alloc (.cells #[.slice A0 l0.length c0] 33)).alloc (.cells #[.int .i64 2, .slice A1 vars.length c1, .slice A2 coefs.length c2, .int .i64 op, .int .i64 rhs, .slice A5 rows.length c5, .int .i64 b] 31)).heap.size ((w.alloc (.cells #[.slice A0 l0.length c0] 33)).alloc (.cells #[.int .i64 2, .slice A1 vars.length c1, .slice A2 coefs.length c2, .int .i64 op, .int .i64 rhs, .slice A5 rows.length c5, .int .i64 b] 31)) w') => Zci.calls 2 A1 c1 vars A2 c2 coefs op rhs A5 c5 rows b q1 w' (Kd.Zal HC.out.r1 hw) hc1 (Kd.Zal HC.out.r2 hw) hc2 (Kd.Zal HC.out.r5 hw) hc5 A_1.out)
  have CA := Za.mk (fun (w' : World) (hw : Below ((w.alloc (.cells #[.slice A0 l0.length c0] 33)).alloc (.cells #[.int .i64 2, .slice A1 vars.length c1, .slice A2 coefs.length c2, .int .i64 op, .int .i64 rhs, .slice A5 rows.length c5, .int .i64 b] 31)).heap.size ((w.alloc (.cells #[.slice A0 l0.length c0] 33)).alloc (.cells #[.int .i64 2, .slice A1 vars.length c1, .slice A2 coefs.length c2, .int .i64 op, .int .i64 rhs, .slice A5 rows.length c5, .int .i64 b] 31)) w') => Zcr.calls A1 c1 vars q2 w' (Kd.Zal HC.out.r1 hw) hc1 A_2.out)
  have CR := Za.mk (fun (w' : World) (hw : Below ((w.alloc (.cells #[.slice A0 l0.length c0] 33)).alloc (.cells #[.int .i64 2, .slice A1 vars.length c1, .slice A2 coefs.length c2, .int .i64 op, .int .i64 rhs, .slice A5 rows.length c5, .int .i64 b] 31)).heap.size ((w.alloc (.cells #[.slice A0 l0.length c0] 33)).alloc (.cells #[.int .i64 2, .slice A1 vars.length c1, .slice A2 coefs.length c2, .int .i64 op, .int .i64 rhs, .slice A5 rows.length c5, .int .i64 b] 31)) w') => Zf1 (fun l => !rowOk vars l) 66 #[.pointer (some ⟨w.heap.size + 1, 0, none⟩)] (enters_of Try.func66 (by kernel_rfl) rfl) A5 c5 rows w' (Kd.Zal HC.out.r5 hw) (fun x Ax cx _ w2 hw2 hrx hcx => rowBad w2 (HC.out.below (Zaf hw hw2)) Ax cx x hrx hcx))
  generalize (rows.any fun l => !rowOk vars l) = q4 at CR ⊢
  have BW := Za.mk (Below.refl ((w.alloc (.cells #[.slice A0 l0.length c0] 33)).alloc (.cells #[.int .i64 2, .slice A1 vars.length c1, .slice A2 coefs.length c2, .int .i64 op, .int .i64 rhs, .slice A5 rows.length c5, .int .i64 b] 31)).heap.size ((w.alloc (.cells #[.slice A0 l0.length c0] 33)).alloc (.cells #[.int .i64 2, .slice A1 vars.length c1, .slice A2 coefs.length c2, .int .i64 op, .int .i64 rhs, .slice A5 rows.length c5, .int .i64 b] 31)))
  clear hrow
  cases q1 with
  | false =>
    go_enter Try.func40, Try.ntmps40
    go_wp2_with (first | (go_at_call 64; go_loud (refine (CP.out _ ?hB).mono ?_; (case hB => exact mvB BW.out); rintro e w' ⟨rfl, hb⟩; have BW1 := Za.mk (Zaf (mvB BW.out) hb); clear BW hb; have BW := BW1; clear BW1; have hx_ := HC.out.below BW.out; have ed := hx_.ed; have k0 := hx_.k0; have k1 := hx_.k1; have k2 := hx_.k2; have k3 := hx_.k3; have k4 := hx_.k4; have k5 := hx_.k5; have k6 := hx_.k6; clear hx_)) | (go_at_call 65; go_loud (refine (CA.out _ ?hB).mono ?_; (case hB => exact mvB BW.out); rintro e w' ⟨rfl, hb⟩; have BW1 := Za.mk (Zaf (mvB BW.out) hb); clear BW hb; have BW := BW1; clear BW1; have hx_ := HC.out.below BW.out; have ed := hx_.ed; have k0 := hx_.k0; have k1 := hx_.k1; have k2 := hx_.k2; have k3 := hx_.k3; have k4 := hx_.k4; have k5 := hx_.k5; have k6 := hx_.k6; clear hx_)) | (go_at_call 68; go_loud (refine (CR.out _ ?hB).mono ?_; (case hB => exact mvB BW.out); rintro e w' ⟨rfl, hb⟩; have BW1 := Za.mk (Zaf (mvB BW.out) hb); clear BW hb; have BW := BW1; clear BW1; have hx_ := HC.out.below BW.out; have ed := hx_.ed; have k0 := hx_.k0; have k1 := hx_.k1; have k2 := hx_.k2; have k3 := hx_.k3; have k4 := hx_.k4; have k5 := hx_.k5; have k6 := hx_.k6; clear hx_)))
    go_ret
    exact ⟨by first | rfl | (simp [*]; done) | (simp [*]; rfl), Zaf HWB.out (mvB BW.out)⟩
  | true =>
    by_cases hq_ : 0 < vars.length
    rotate_left
    · have d1len0_ : decide (0 < (vars.length : Int)) = false := decide_eq_false (by omega)
      have d2len0_ : decide (0 < vars.length) = false := decide_eq_false hq_
      clear hq_
      go_enter Try.func40, Try.ntmps40
      go_wp2_with (first | (go_at_call 64; go_loud (refine (CP.out _ ?hB).mono ?_; (case hB => exact mvB BW.out); rintro e w' ⟨rfl, hb⟩; have BW1 := Za.mk (Zaf (mvB BW.out) hb); clear BW hb; have BW := BW1; clear BW1; have hx_ := HC.out.below BW.out; have ed := hx_.ed; have k0 := hx_.k0; have k1 := hx_.k1; have k2 := hx_.k2; have k3 := hx_.k3; have k4 := hx_.k4; have k5 := hx_.k5; have k6 := hx_.k6; clear hx_)) | (go_at_call 65; go_loud (refine (CA.out _ ?hB).mono ?_; (case hB => exact mvB BW.out); rintro e w' ⟨rfl, hb⟩; have BW1 := Za.mk (Zaf (mvB BW.out) hb); clear BW hb; have BW := BW1; clear BW1; have hx_ := HC.out.below BW.out; have ed := hx_.ed; have k0 := hx_.k0; have k1 := hx_.k1; have k2 := hx_.k2; have k3 := hx_.k3; have k4 := hx_.k4; have k5 := hx_.k5; have k6 := hx_.k6; clear hx_)) | (go_at_call 68; go_loud (refine (CR.out _ ?hB).mono ?_; (case hB => exact mvB BW.out); rintro e w' ⟨rfl, hb⟩; have BW1 := Za.mk (Zaf (mvB BW.out) hb); clear BW hb; have BW := BW1; clear BW1; have hx_ := HC.out.below BW.out; have ed := hx_.ed; have k0 := hx_.k0; have k1 := hx_.k1; have k2 := hx_.k2; have k3 := hx_.k3; have k4 := hx_.k4; have k5 := hx_.k5; have k6 := hx_.k6; clear hx_)))
      go_ret
      exact ⟨by first | rfl | (simp [*]; done) | (simp [*]; rfl), Zaf HWB.out (mvB BW.out)⟩
    have d1len0_ : decide (0 < (vars.length : Int)) = true := decide_eq_true (by omega)
    have d2len0_ : decide (0 < vars.length) = true := decide_eq_true hq_
    clear hq_
    cases q2 with
    | false =>
      go_enter Try.func40, Try.ntmps40
      go_wp2_with (first | (go_at_call 64; go_loud (refine (CP.out _ ?hB).mono ?_; (case hB => exact mvB BW.out); rintro e w' ⟨rfl, hb⟩; have BW1 := Za.mk (Zaf (mvB BW.out) hb); clear BW hb; have BW := BW1; clear BW1; have hx_ := HC.out.below BW.out; have ed := hx_.ed; have k0 := hx_.k0; have k1 := hx_.k1; have k2 := hx_.k2; have k3 := hx_.k3; have k4 := hx_.k4; have k5 := hx_.k5; have k6 := hx_.k6; clear hx_)) | (go_at_call 65; go_loud (refine (CA.out _ ?hB).mono ?_; (case hB => exact mvB BW.out); rintro e w' ⟨rfl, hb⟩; have BW1 := Za.mk (Zaf (mvB BW.out) hb); clear BW hb; have BW := BW1; clear BW1; have hx_ := HC.out.below BW.out; have ed := hx_.ed; have k0 := hx_.k0; have k1 := hx_.k1; have k2 := hx_.k2; have k3 := hx_.k3; have k4 := hx_.k4; have k5 := hx_.k5; have k6 := hx_.k6; clear hx_)) | (go_at_call 68; go_loud (refine (CR.out _ ?hB).mono ?_; (case hB => exact mvB BW.out); rintro e w' ⟨rfl, hb⟩; have BW1 := Za.mk (Zaf (mvB BW.out) hb); clear BW hb; have BW := BW1; clear BW1; have hx_ := HC.out.below BW.out; have ed := hx_.ed; have k0 := hx_.k0; have k1 := hx_.k1; have k2 := hx_.k2; have k3 := hx_.k3; have k4 := hx_.k4; have k5 := hx_.k5; have k6 := hx_.k6; clear hx_)))
      go_ret
      exact ⟨by first | rfl | (simp [*]; done) | (simp [*]; rfl), Zaf HWB.out (mvB BW.out)⟩
    | true =>
      by_cases hq_ : rows.length ≤ 1024
      · have d1len1_ : decide ((rows.length : Int) ≤ 1024) = true := decide_eq_true (by omega)
        have d2len1_ : decide (rows.length ≤ 1024) = true := decide_eq_true hq_
        clear hq_
        go_enter Try.func40, Try.ntmps40
        go_wp2_with (first | (go_at_call 64; go_loud (refine (CP.out _ ?hB).mono ?_; (case hB => exact mvB BW.out); rintro e w' ⟨rfl, hb⟩; have BW1 := Za.mk (Zaf (mvB BW.out) hb); clear BW hb; have BW := BW1; clear BW1; have hx_ := HC.out.below BW.out; have ed := hx_.ed; have k0 := hx_.k0; have k1 := hx_.k1; have k2 := hx_.k2; have k3 := hx_.k3; have k4 := hx_.k4; have k5 := hx_.k5; have k6 := hx_.k6; clear hx_)) | (go_at_call 65; go_loud (refine (CA.out _ ?hB).mono ?_; (case hB => exact mvB BW.out); rintro e w' ⟨rfl, hb⟩; have BW1 := Za.mk (Zaf (mvB BW.out) hb); clear BW hb; have BW := BW1; clear BW1; have hx_ := HC.out.below BW.out; have ed := hx_.ed; have k0 := hx_.k0; have k1 := hx_.k1; have k2 := hx_.k2; have k3 := hx_.k3; have k4 := hx_.k4; have k5 := hx_.k5; have k6 := hx_.k6; clear hx_)) | (go_at_call 68; go_loud (refine (CR.out _ ?hB).mono ?_; (case hB => exact mvB BW.out); rintro e w' ⟨rfl, hb⟩; have BW1 := Za.mk (Zaf (mvB BW.out) hb); clear BW hb; have BW := BW1; clear BW1; have hx_ := HC.out.below BW.out; have ed := hx_.ed; have k0 := hx_.k0; have k1 := hx_.k1; have k2 := hx_.k2; have k3 := hx_.k3; have k4 := hx_.k4; have k5 := hx_.k5; have k6 := hx_.k6; clear hx_)))
        go_ret
        exact ⟨by first | rfl | (simp [*]; done) | (simp [*]; rfl), Zaf HWB.out (mvB BW.out)⟩
      have d1len1_ : decide ((rows.length : Int) ≤ 1024) = false := decide_eq_false (by omega)
      have d2len1_ : decide (rows.length ≤ 1024) = false := decide_eq_false hq_
      clear hq_
      go_enter Try.func40, Try.ntmps40
      go_wp2_with (first | (go_at_call 64; go_loud (refine (CP.out _ ?hB).mono ?_; (case hB => exact mvB BW.out); rintro e w' ⟨rfl, hb⟩; have BW1 := Za.mk (Zaf (mvB BW.out) hb); clear BW hb; have BW := BW1; clear BW1; have hx_ := HC.out.below BW.out; have ed := hx_.ed; have k0 := hx_.k0; have k1 := hx_.k1; have k2 := hx_.k2; have k3 := hx_.k3; have k4 := hx_.k4; have k5 := hx_.k5; have k6 := hx_.k6; clear hx_)) | (go_at_call 65; go_loud (refine (CA.out _ ?hB).mono ?_; (case hB => exact mvB BW.out); rintro e w' ⟨rfl, hb⟩; have BW1 := Za.mk (Zaf (mvB BW.out) hb); clear BW hb; have BW := BW1; clear BW1; have hx_ := HC.out.below BW.out; have ed := hx_.ed; have k0 := hx_.k0; have k1 := hx_.k1; have k2 := hx_.k2; have k3 := hx_.k3; have k4 := hx_.k4; have k5 := hx_.k5; have k6 := hx_.k6; clear hx_)) | (go_at_call 68; go_loud (refine (CR.out _ ?hB).mono ?_; (case hB => exact mvB BW.out); rintro e w' ⟨rfl, hb⟩; have BW1 := Za.mk (Zaf (mvB BW.out) hb); clear BW hb; have BW := BW1; clear BW1; have hx_ := HC.out.below BW.out; have ed := hx_.ed; have k0 := hx_.k0; have k1 := hx_.k1; have k2 := hx_.k2; have k3 := hx_.k3; have k4 := hx_.k4; have k5 := hx_.k5; have k6 := hx_.k6; clear hx_)))
      go_ret
      exact ⟨by first | rfl | (simp [*]; done) | (simp [*]; rfl), Zaf HWB.out (mvB BW.out)⟩
set_option maxHeartbeats 4000000 in
set_option maxRecDepth 100000 in
theorem right_3 (k : Nat) (A0 : Option Addr) (c0 : Nat) (l0 : List (List S48)) (kd : Int) (A1 : Option Addr) (c1 : Nat) (vars : List Int) (A2 : Option Addr) (c2 : Nat) (coefs : List Int) (op rhs : Int) (A5 : Option Addr) (c5 : Nat) (rows : List (List Int)) (b : Int) (r : Bool) (w : World) (hr0 : Kd.C (Kd.slice 48 k48) w A0 l0.length l0) (hc0 : l0.length ≤ c0) (hr1 : Kd.C (Kd.int .i64) w A1 vars.length vars) (hc1 : vars.length ≤ c1) (hr2 : Kd.C (Kd.int .i64) w A2 coefs.length coefs) (hc2 : coefs.length ≤ c2) (hr5 : Kd.C (Kd.slice 3 (Kd.int .i64)) w A5 rows.length rows) (hc5 : rows.length ≤ c5) (hk : kd = 3) (hrow : rows.length = 0) (h : Zbo.f k l0 kd vars coefs op rhs rows b = some r) :
    Calls Try.prog 40 #[.slice A0 l0.length c0, .agg #[.int .i64 kd, .slice A1 vars.length c1, .slice A2 coefs.length c2, .int .i64 op, .int .i64 rhs, .slice A5 rows.length c5, .int .i64 b]] w fun e w' => e = .returned (.bool r) ∧ Below w.heap.size w w' := by
  subst hk
  have HC := Za.mk (Zda A0 c0 l0 3 A1 c1 vars A2 c2 coefs op rhs A5 c5 rows b w hr0 hc0 hr1 hc1 hr2 hc2 hr5 hc5)
  have hwB : Below w.heap.size w ((w.alloc (.cells #[.slice A0 l0.length c0] 33)).alloc (.cells #[.int .i64 3, .slice A1 vars.length c1, .slice A2 coefs.length c2, .int .i64 op, .int .i64 rhs, .slice A5 rows.length c5, .int .i64 b] 31)) := Zab (Zab (Below.refl _ _) _) _
  have HWB := Za.mk hwB
  clear hwB hr0 hr1 hr2 hr5
  unfold Zbo.f at h
  rw [if_neg (fun h_ => absurd h_.2 (by omega))] at h
  rw [if_neg (by decide)] at h
  rw [if_neg (by decide)] at h
  rw [if_neg (by decide)] at h
  rw [if_pos rfl] at h
  obtain ⟨q1, hq1, h2_⟩ := Option.bind_eq_some_iff.1 h
  clear h
  have h := h2_
  clear h2_
  have A_1 := Za.mk hq1
  clear hq1
  obtain ⟨q2, hq2, h2_⟩ := Option.bind_eq_some_iff.1 h
  clear h
  have h := h2_
  clear h2_
  have A_2 := Za.mk hq2
  clear hq2
  obtain rfl := Option.some.inj h
  clear h
  have CP := Za.mk (fun (w' : World) (hw : Below ((w.alloc (.cells #[.slice A0 l0.length c0] 33)).alloc (.cells #[.int .i64 3, .slice A1 vars.length c1, .slice A2 coefs.length c2, .int .i64 op, .int .i64 rhs, .slice A5 rows.length c5, .int .i64 b] 31)).heap.size ((w.alloc (.cells #[.slice A0 l0.length c0] 33)).alloc (.cells #[.int .i64 3, .slice A1 vars.length c1, .slice A2 coefs.length c2, .int .i64 op, .int .i64 rhs, .slice A5 rows.length c5, .int .i64 b] 31)) w') => Zci.calls 3 A1 c1 vars A2 c2 coefs op rhs A5 c5 rows b q1 w' (Kd.Zal HC.out.r1 hw) hc1 (Kd.Zal HC.out.r2 hw) hc2 (Kd.Zal HC.out.r5 hw) hc5 A_1.out)
  have CA := Za.mk (fun (w' : World) (hw : Below ((w.alloc (.cells #[.slice A0 l0.length c0] 33)).alloc (.cells #[.int .i64 3, .slice A1 vars.length c1, .slice A2 coefs.length c2, .int .i64 op, .int .i64 rhs, .slice A5 rows.length c5, .int .i64 b] 31)).heap.size ((w.alloc (.cells #[.slice A0 l0.length c0] 33)).alloc (.cells #[.int .i64 3, .slice A1 vars.length c1, .slice A2 coefs.length c2, .int .i64 op, .int .i64 rhs, .slice A5 rows.length c5, .int .i64 b] 31)) w') => Zcr.calls A1 c1 vars q2 w' (Kd.Zal HC.out.r1 hw) hc1 A_2.out)
  have BW := Za.mk (Below.refl ((w.alloc (.cells #[.slice A0 l0.length c0] 33)).alloc (.cells #[.int .i64 3, .slice A1 vars.length c1, .slice A2 coefs.length c2, .int .i64 op, .int .i64 rhs, .slice A5 rows.length c5, .int .i64 b] 31)).heap.size ((w.alloc (.cells #[.slice A0 l0.length c0] 33)).alloc (.cells #[.int .i64 3, .slice A1 vars.length c1, .slice A2 coefs.length c2, .int .i64 op, .int .i64 rhs, .slice A5 rows.length c5, .int .i64 b] 31)))
  have hr0_ : decide (0 < (rows.length : Int)) = false := decide_eq_false (by omega)
  have hr0n_ : decide (0 < rows.length) = false := decide_eq_false (by omega)
  clear hrow
  cases q1 with
  | false =>
    go_enter Try.func40, Try.ntmps40
    go_wp2_with (first | (go_at_call 64; go_loud (refine (CP.out _ ?hB).mono ?_; (case hB => exact mvB BW.out); rintro e w' ⟨rfl, hb⟩; have BW1 := Za.mk (Zaf (mvB BW.out) hb); clear BW hb; have BW := BW1; clear BW1; have hx_ := HC.out.below BW.out; have ed := hx_.ed; have k0 := hx_.k0; have k1 := hx_.k1; have k2 := hx_.k2; have k3 := hx_.k3; have k4 := hx_.k4; have k5 := hx_.k5; have k6 := hx_.k6; clear hx_)) | (go_at_call 65; go_loud (refine (CA.out _ ?hB).mono ?_; (case hB => exact mvB BW.out); rintro e w' ⟨rfl, hb⟩; have BW1 := Za.mk (Zaf (mvB BW.out) hb); clear BW hb; have BW := BW1; clear BW1; have hx_ := HC.out.below BW.out; have ed := hx_.ed; have k0 := hx_.k0; have k1 := hx_.k1; have k2 := hx_.k2; have k3 := hx_.k3; have k4 := hx_.k4; have k5 := hx_.k5; have k6 := hx_.k6; clear hx_)))
    go_ret
    exact ⟨by first | rfl | (simp [*]; done) | (simp [*]; rfl), Zaf HWB.out (mvB BW.out)⟩
  | true =>
    by_cases hq_ : 3 ≤ vars.length
    · have d1len2_ : decide (3 ≤ (vars.length : Int)) = true := decide_eq_true (by omega)
      have d2len2_ : decide (3 ≤ vars.length) = true := decide_eq_true hq_
      clear hq_
      go_enter Try.func40, Try.ntmps40
      go_wp2_with (first | (go_at_call 64; go_loud (refine (CP.out _ ?hB).mono ?_; (case hB => exact mvB BW.out); rintro e w' ⟨rfl, hb⟩; have BW1 := Za.mk (Zaf (mvB BW.out) hb); clear BW hb; have BW := BW1; clear BW1; have hx_ := HC.out.below BW.out; have ed := hx_.ed; have k0 := hx_.k0; have k1 := hx_.k1; have k2 := hx_.k2; have k3 := hx_.k3; have k4 := hx_.k4; have k5 := hx_.k5; have k6 := hx_.k6; clear hx_)) | (go_at_call 65; go_loud (refine (CA.out _ ?hB).mono ?_; (case hB => exact mvB BW.out); rintro e w' ⟨rfl, hb⟩; have BW1 := Za.mk (Zaf (mvB BW.out) hb); clear BW hb; have BW := BW1; clear BW1; have hx_ := HC.out.below BW.out; have ed := hx_.ed; have k0 := hx_.k0; have k1 := hx_.k1; have k2 := hx_.k2; have k3 := hx_.k3; have k4 := hx_.k4; have k5 := hx_.k5; have k6 := hx_.k6; clear hx_)))
      go_ret
      exact ⟨by first | rfl | (simp [*]; done) | (simp [*]; rfl), Zaf HWB.out (mvB BW.out)⟩
    have d1len2_ : decide (3 ≤ (vars.length : Int)) = false := decide_eq_false (by omega)
    have d2len2_ : decide (3 ≤ vars.length) = false := decide_eq_false hq_
    clear hq_
    go_enter Try.func40, Try.ntmps40
    go_wp2_with (first | (go_at_call 64; go_loud (refine (CP.out _ ?hB).mono ?_; (case hB => exact mvB BW.out); rintro e w' ⟨rfl, hb⟩; have BW1 := Za.mk (Zaf (mvB BW.out) hb); clear BW hb; have BW := BW1; clear BW1; have hx_ := HC.out.below BW.out; have ed := hx_.ed; have k0 := hx_.k0; have k1 := hx_.k1; have k2 := hx_.k2; have k3 := hx_.k3; have k4 := hx_.k4; have k5 := hx_.k5; have k6 := hx_.k6; clear hx_)) | (go_at_call 65; go_loud (refine (CA.out _ ?hB).mono ?_; (case hB => exact mvB BW.out); rintro e w' ⟨rfl, hb⟩; have BW1 := Za.mk (Zaf (mvB BW.out) hb); clear BW hb; have BW := BW1; clear BW1; have hx_ := HC.out.below BW.out; have ed := hx_.ed; have k0 := hx_.k0; have k1 := hx_.k1; have k2 := hx_.k2; have k3 := hx_.k3; have k4 := hx_.k4; have k5 := hx_.k5; have k6 := hx_.k6; clear hx_)))
    go_ret
    exact ⟨by first | rfl | (simp [*]; done) | (simp [*]; rfl), Zaf HWB.out (mvB BW.out)⟩
set_option maxHeartbeats 4000000 in
set_option maxRecDepth 100000 in
theorem right_4 (k : Nat) (A0 : Option Addr) (c0 : Nat) (l0 : List (List S48)) (kd : Int) (A1 : Option Addr) (c1 : Nat) (vars : List Int) (A2 : Option Addr) (c2 : Nat) (coefs : List Int) (op rhs : Int) (A5 : Option Addr) (c5 : Nat) (rows : List (List Int)) (b : Int) (r : Bool) (w : World) (hr0 : Kd.C (Kd.slice 48 k48) w A0 l0.length l0) (hc0 : l0.length ≤ c0) (hr1 : Kd.C (Kd.int .i64) w A1 vars.length vars) (hc1 : vars.length ≤ c1) (hr2 : Kd.C (Kd.int .i64) w A2 coefs.length coefs) (hc2 : coefs.length ≤ c2) (hr5 : Kd.C (Kd.slice 3 (Kd.int .i64)) w A5 rows.length rows) (hc5 : rows.length ≤ c5) (hk : kd = 4) (hrow : rows.length = 0) (h : Zbo.f k l0 kd vars coefs op rhs rows b = some r) :
    Calls Try.prog 40 #[.slice A0 l0.length c0, .agg #[.int .i64 kd, .slice A1 vars.length c1, .slice A2 coefs.length c2, .int .i64 op, .int .i64 rhs, .slice A5 rows.length c5, .int .i64 b]] w fun e w' => e = .returned (.bool r) ∧ Below w.heap.size w w' := by
  subst hk
  have HC := Za.mk (Zda A0 c0 l0 4 A1 c1 vars A2 c2 coefs op rhs A5 c5 rows b w hr0 hc0 hr1 hc1 hr2 hc2 hr5 hc5)
  have hwB : Below w.heap.size w ((w.alloc (.cells #[.slice A0 l0.length c0] 33)).alloc (.cells #[.int .i64 4, .slice A1 vars.length c1, .slice A2 coefs.length c2, .int .i64 op, .int .i64 rhs, .slice A5 rows.length c5, .int .i64 b] 31)) := Zab (Zab (Below.refl _ _) _) _
  have HWB := Za.mk hwB
  clear hwB hr0 hr1 hr2 hr5
  unfold Zbo.f at h
  rw [if_neg (fun h_ => absurd h_.2 (by omega))] at h
  rw [if_neg (by decide)] at h
  rw [if_neg (by decide)] at h
  rw [if_neg (by decide)] at h
  rw [if_neg (by decide)] at h
  rw [if_pos rfl] at h
  by_cases hbr : 0 ≤ b ∧ b < (l0.length : Int)
  case neg => rw [if_neg hbr] at h; cases h
  rw [if_pos hbr] at h
  obtain ⟨q1, hq1, h2_⟩ := Option.bind_eq_some_iff.1 h
  clear h
  have h := h2_
  clear h2_
  have A_1 := Za.mk hq1
  clear hq1
  obtain ⟨q2, hq2, h2_⟩ := Option.bind_eq_some_iff.1 h
  clear h
  have h := h2_
  clear h2_
  have A_2 := Za.mk hq2
  clear hq2
  obtain ⟨q3, hq3, h2_⟩ := Option.bind_eq_some_iff.1 h
  clear h
  have h := h2_
  clear h2_
  have A_3 := Za.mk hq3
  clear hq3
  obtain rfl := Option.some.inj h
  clear h
  obtain ⟨hb0, hb1⟩ := hbr
  obtain ⟨ad, A6, c6, e_, hx6, hl6, hi6⟩ := at_L4 HC.out.rd b hb0 hb1
  subst e_
  have HL := Za.mk hl6
  have HI := Za.mk hi6
  have HX := Za.mk hx6
  clear hl6 hi6 hx6
  have p1_ : decide (0 ≤ b) = true := decide_eq_true hb0
  have p2_ : decide (b < (l0.length : Int)) = true := decide_eq_true hb1
  have CH := Za.mk (fun (w' : World) (hw : Below ((w.alloc (.cells #[.slice (some ad) l0.length c0] 33)).alloc (.cells #[.int .i64 4, .slice A1 vars.length c1, .slice A2 coefs.length c2, .int .i64 op, .int .i64 rhs, .slice A5 rows.length c5, .int .i64 b] 31)).heap.size ((w.alloc (.cells #[.slice (some ad) l0.length c0] 33)).alloc (.cells #[.int .i64 4, .slice A1 vars.length c1, .slice A2 coefs.length c2, .int .i64 op, .int .i64 rhs, .slice A5 rows.length c5, .int .i64 b] 31)) w') => Zch.calls k 4 A1 c1 vars A2 c2 coefs op rhs A5 c5 rows b q1 w' (Kd.Zal HC.out.r1 hw) hc1 (Kd.Zal HC.out.r2 hw) hc2 (Kd.Zal HC.out.r5 hw) hc5 A_1.out)
  have CT := Za.mk (fun (w' : World) (hw : Below ((w.alloc (.cells #[.slice (some ad) l0.length c0] 33)).alloc (.cells #[.int .i64 4, .slice A1 vars.length c1, .slice A2 coefs.length c2, .int .i64 op, .int .i64 rhs, .slice A5 rows.length c5, .int .i64 b] 31)).heap.size ((w.alloc (.cells #[.slice (some ad) l0.length c0] 33)).alloc (.cells #[.int .i64 4, .slice A1 vars.length c1, .slice A2 coefs.length c2, .int .i64 op, .int .i64 rhs, .slice A5 rows.length c5, .int .i64 b] 31)) w') => Zb2.calls k A6 c6 (rd_L4 l0 b) q2 w' (Kd.Zal HI.out hw) HL.out A_2.out)
  have CN := Za.mk (fun (w' : World) (hw : Below ((w.alloc (.cells #[.slice (some ad) l0.length c0] 33)).alloc (.cells #[.int .i64 4, .slice A1 vars.length c1, .slice A2 coefs.length c2, .int .i64 op, .int .i64 rhs, .slice A5 rows.length c5, .int .i64 b] 31)).heap.size ((w.alloc (.cells #[.slice (some ad) l0.length c0] 33)).alloc (.cells #[.int .i64 4, .slice A1 vars.length c1, .slice A2 coefs.length c2, .int .i64 op, .int .i64 rhs, .slice A5 rows.length c5, .int .i64 b] 31)) w') => slices_Contains_int.calls k A1 c1 vars b q3 w' (Kd.Zal HC.out.r1 hw) hc1 A_3.out)
  have BW := Za.mk (Below.refl ((w.alloc (.cells #[.slice (some ad) l0.length c0] 33)).alloc (.cells #[.int .i64 4, .slice A1 vars.length c1, .slice A2 coefs.length c2, .int .i64 op, .int .i64 rhs, .slice A5 rows.length c5, .int .i64 b] 31)).heap.size ((w.alloc (.cells #[.slice (some ad) l0.length c0] 33)).alloc (.cells #[.int .i64 4, .slice A1 vars.length c1, .slice A2 coefs.length c2, .int .i64 op, .int .i64 rhs, .slice A5 rows.length c5, .int .i64 b] 31)))
  have hr0_ : decide (0 < (rows.length : Int)) = false := decide_eq_false (by omega)
  have hr0n_ : decide (0 < rows.length) = false := decide_eq_false (by omega)
  clear hrow
  cases q1 with
  | false =>
    go_enter Try.func40, Try.ntmps40
    go_wp2_with (first | (go_at_call 63; go_loud (refine (CH.out _ ?hB).mono ?_; (case hB => exact mvB BW.out); rintro e w' ⟨rfl, hb⟩; have BW1 := Za.mk (Zaf (mvB BW.out) hb); clear BW hb; have BW := BW1; clear BW1; have hx_ := HC.out.below BW.out; have ed := hx_.ed; have k0 := hx_.k0; have k1 := hx_.k1; have k2 := hx_.k2; have k3 := hx_.k3; have k4 := hx_.k4; have k5 := hx_.k5; have k6 := hx_.k6; clear hx_; have hx6 := cellB BW.out HX.out)) | (go_at_call 62; go_loud (refine (CT.out _ ?hB).mono ?_; (case hB => exact mvB BW.out); rintro e w' ⟨rfl, hb⟩; have BW1 := Za.mk (Zaf (mvB BW.out) hb); clear BW hb; have BW := BW1; clear BW1; have hx_ := HC.out.below BW.out; have ed := hx_.ed; have k0 := hx_.k0; have k1 := hx_.k1; have k2 := hx_.k2; have k3 := hx_.k3; have k4 := hx_.k4; have k5 := hx_.k5; have k6 := hx_.k6; clear hx_; have hx6 := cellB BW.out HX.out)) | (go_at_call 69; go_loud (refine (CN.out _ ?hB).mono ?_; (case hB => exact mvB BW.out); rintro e w' ⟨rfl, ⟨nd, rfl⟩⟩)))
    go_ret
    exact ⟨by first | rfl | (simp [*]; done) | (simp [*]; rfl), Zaf HWB.out (mvB BW.out)⟩
  | true =>
    cases q2 with
    | false =>
      go_enter Try.func40, Try.ntmps40
      go_wp2_with (first | (go_at_call 63; go_loud (refine (CH.out _ ?hB).mono ?_; (case hB => exact mvB BW.out); rintro e w' ⟨rfl, hb⟩; have BW1 := Za.mk (Zaf (mvB BW.out) hb); clear BW hb; have BW := BW1; clear BW1; have hx_ := HC.out.below BW.out; have ed := hx_.ed; have k0 := hx_.k0; have k1 := hx_.k1; have k2 := hx_.k2; have k3 := hx_.k3; have k4 := hx_.k4; have k5 := hx_.k5; have k6 := hx_.k6; clear hx_; have hx6 := cellB BW.out HX.out)) | (go_at_call 62; go_loud (refine (CT.out _ ?hB).mono ?_; (case hB => exact mvB BW.out); rintro e w' ⟨rfl, hb⟩; have BW1 := Za.mk (Zaf (mvB BW.out) hb); clear BW hb; have BW := BW1; clear BW1; have hx_ := HC.out.below BW.out; have ed := hx_.ed; have k0 := hx_.k0; have k1 := hx_.k1; have k2 := hx_.k2; have k3 := hx_.k3; have k4 := hx_.k4; have k5 := hx_.k5; have k6 := hx_.k6; clear hx_; have hx6 := cellB BW.out HX.out)) | (go_at_call 69; go_loud (refine (CN.out _ ?hB).mono ?_; (case hB => exact mvB BW.out); rintro e w' ⟨rfl, ⟨nd, rfl⟩⟩)))
      go_ret
      exact ⟨by first | rfl | (simp [*]; done) | (simp [*]; rfl), Zaf HWB.out (mvB BW.out)⟩
    | true =>
      go_enter Try.func40, Try.ntmps40
      go_wp2_with (first | (go_at_call 63; go_loud (refine (CH.out _ ?hB).mono ?_; (case hB => exact mvB BW.out); rintro e w' ⟨rfl, hb⟩; have BW1 := Za.mk (Zaf (mvB BW.out) hb); clear BW hb; have BW := BW1; clear BW1; have hx_ := HC.out.below BW.out; have ed := hx_.ed; have k0 := hx_.k0; have k1 := hx_.k1; have k2 := hx_.k2; have k3 := hx_.k3; have k4 := hx_.k4; have k5 := hx_.k5; have k6 := hx_.k6; clear hx_; have hx6 := cellB BW.out HX.out)) | (go_at_call 62; go_loud (refine (CT.out _ ?hB).mono ?_; (case hB => exact mvB BW.out); rintro e w' ⟨rfl, hb⟩; have BW1 := Za.mk (Zaf (mvB BW.out) hb); clear BW hb; have BW := BW1; clear BW1; have hx_ := HC.out.below BW.out; have ed := hx_.ed; have k0 := hx_.k0; have k1 := hx_.k1; have k2 := hx_.k2; have k3 := hx_.k3; have k4 := hx_.k4; have k5 := hx_.k5; have k6 := hx_.k6; clear hx_; have hx6 := cellB BW.out HX.out)) | (go_at_call 69; go_loud (refine (CN.out _ ?hB).mono ?_; (case hB => exact mvB BW.out); rintro e w' ⟨rfl, ⟨nd, rfl⟩⟩)))
      go_ret
      exact ⟨by first | rfl | (simp [*]; done) | (simp [*]; rfl), Zaf HWB.out (mvB BW.out)⟩
set_option maxHeartbeats 4000000 in
set_option maxRecDepth 100000 in
theorem right_5 (k : Nat) (A0 : Option Addr) (c0 : Nat) (l0 : List (List S48)) (kd : Int) (A1 : Option Addr) (c1 : Nat) (vars : List Int) (A2 : Option Addr) (c2 : Nat) (coefs : List Int) (op rhs : Int) (A5 : Option Addr) (c5 : Nat) (rows : List (List Int)) (b : Int) (r : Bool) (w : World) (hr0 : Kd.C (Kd.slice 48 k48) w A0 l0.length l0) (hc0 : l0.length ≤ c0) (hr1 : Kd.C (Kd.int .i64) w A1 vars.length vars) (hc1 : vars.length ≤ c1) (hr2 : Kd.C (Kd.int .i64) w A2 coefs.length coefs) (hc2 : coefs.length ≤ c2) (hr5 : Kd.C (Kd.slice 3 (Kd.int .i64)) w A5 rows.length rows) (hc5 : rows.length ≤ c5) (hk : kd = 5) (hrow : rows.length = 0) (h : Zbo.f k l0 kd vars coefs op rhs rows b = some r) :
    Calls Try.prog 40 #[.slice A0 l0.length c0, .agg #[.int .i64 kd, .slice A1 vars.length c1, .slice A2 coefs.length c2, .int .i64 op, .int .i64 rhs, .slice A5 rows.length c5, .int .i64 b]] w fun e w' => e = .returned (.bool r) ∧ Below w.heap.size w w' := by
  subst hk
  have HC := Za.mk (Zda A0 c0 l0 5 A1 c1 vars A2 c2 coefs op rhs A5 c5 rows b w hr0 hc0 hr1 hc1 hr2 hc2 hr5 hc5)
  have hwB : Below w.heap.size w ((w.alloc (.cells #[.slice A0 l0.length c0] 33)).alloc (.cells #[.int .i64 5, .slice A1 vars.length c1, .slice A2 coefs.length c2, .int .i64 op, .int .i64 rhs, .slice A5 rows.length c5, .int .i64 b] 31)) := Zab (Zab (Below.refl _ _) _) _
  have HWB := Za.mk hwB
  clear hwB hr0 hr1 hr2 hr5
  unfold Zbo.f at h
  rw [if_neg (fun h_ => absurd h_.2 (by omega))] at h
  rw [if_neg (by decide)] at h
  rw [if_neg (by decide)] at h
  rw [if_neg (by decide)] at h
  rw [if_neg (by decide)] at h
  rw [if_neg (by decide)] at h
  rw [if_pos rfl] at h
  obtain ⟨q1, hq1, h2_⟩ := Option.bind_eq_some_iff.1 h
  clear h
  have h := h2_
  clear h2_
  have A_1 := Za.mk hq1
  clear hq1
  obtain ⟨q2, hq2, h2_⟩ := Option.bind_eq_some_iff.1 h
  clear h
  have h := h2_
  clear h2_
  have A_2 := Za.mk hq2
  clear hq2
  obtain rfl := Option.some.inj h
  clear h
  have CS := Za.mk (fun (w' : World) (hw : Below ((w.alloc (.cells #[.slice A0 l0.length c0] 33)).alloc (.cells #[.int .i64 5, .slice A1 vars.length c1, .slice A2 coefs.length c2, .int .i64 op, .int .i64 rhs, .slice A5 rows.length c5, .int .i64 b] 31)).heap.size ((w.alloc (.cells #[.slice A0 l0.length c0] 33)).alloc (.cells #[.int .i64 5, .slice A1 vars.length c1, .slice A2 coefs.length c2, .int .i64 op, .int .i64 rhs, .slice A5 rows.length c5, .int .i64 b] 31)) w') => Zce.calls k 5 A1 c1 vars A2 c2 coefs op rhs A5 c5 rows b q1 w' (Kd.Zal HC.out.r1 hw) hc1 (Kd.Zal HC.out.r2 hw) hc2 (Kd.Zal HC.out.r5 hw) hc5 A_1.out)
  have CO := Za.mk (fun (w' : World) (hw : Below ((w.alloc (.cells #[.slice A0 l0.length c0] 33)).alloc (.cells #[.int .i64 5, .slice A1 vars.length c1, .slice A2 coefs.length c2, .int .i64 op, .int .i64 rhs, .slice A5 rows.length c5, .int .i64 b] 31)).heap.size ((w.alloc (.cells #[.slice A0 l0.length c0] 33)).alloc (.cells #[.int .i64 5, .slice A1 vars.length c1, .slice A2 coefs.length c2, .int .i64 op, .int .i64 rhs, .slice A5 rows.length c5, .int .i64 b] 31)) w') => Zdn oddU 70 #[] (enters_of Try.func70 (by kernel_rfl) rfl) A2 c2 coefs w' (Kd.Zal HC.out.r2 hw) (fun k _ q => oddPred _ _))
  have CZ := Za.mk (fun (w' : World) (hw : Below ((w.alloc (.cells #[.slice A0 l0.length c0] 33)).alloc (.cells #[.int .i64 5, .slice A1 vars.length c1, .slice A2 coefs.length c2, .int .i64 op, .int .i64 rhs, .slice A5 rows.length c5, .int .i64 b] 31)).heap.size ((w.alloc (.cells #[.slice A0 l0.length c0] 33)).alloc (.cells #[.int .i64 5, .slice A1 vars.length c1, .slice A2 coefs.length c2, .int .i64 op, .int .i64 rhs, .slice A5 rows.length c5, .int .i64 b] 31)) w') => truths_calls k w' (HC.out.below hw) A1 c1 vars q2 (Kd.Zal HC.out.r1 hw) hc1 A_2.out)
  generalize coefs.any oddU = q4 at CO ⊢
  generalize (q2.all fun t => t) = q5 at CZ ⊢
  have BW := Za.mk (Below.refl ((w.alloc (.cells #[.slice A0 l0.length c0] 33)).alloc (.cells #[.int .i64 5, .slice A1 vars.length c1, .slice A2 coefs.length c2, .int .i64 op, .int .i64 rhs, .slice A5 rows.length c5, .int .i64 b] 31)).heap.size ((w.alloc (.cells #[.slice A0 l0.length c0] 33)).alloc (.cells #[.int .i64 5, .slice A1 vars.length c1, .slice A2 coefs.length c2, .int .i64 op, .int .i64 rhs, .slice A5 rows.length c5, .int .i64 b] 31)))
  have hr0_ : decide (0 < (rows.length : Int)) = false := decide_eq_false (by omega)
  have hr0n_ : decide (0 < rows.length) = false := decide_eq_false (by omega)
  clear hrow
  cases q1 with
  | false =>
    go_enter Try.func40, Try.ntmps40
    go_wp2_with (first | (go_at_call 71; go_loud (refine (CS.out _ ?hB).mono ?_; (case hB => exact mvB BW.out); rintro e w' ⟨rfl, hb⟩; have BW1 := Za.mk (Zaf (mvB BW.out) hb); clear BW hb; have BW := BW1; clear BW1; have hx_ := HC.out.below BW.out; have ed := hx_.ed; have k0 := hx_.k0; have k1 := hx_.k1; have k2 := hx_.k2; have k3 := hx_.k3; have k4 := hx_.k4; have k5 := hx_.k5; have k6 := hx_.k6; clear hx_)) | (go_at_call 39; go_loud (refine (CO.out _ ?hB).mono ?_; (case hB => exact mvB BW.out); rintro e w' ⟨rfl, nd, rfl⟩)) | (go_at_fn 60; go_loud (refine (CZ.out _ ?hB).mono ?_; (case hB => exact mvB BW.out); rintro e w' ⟨rfl, hb⟩; have BW1 := Za.mk (Zaf (mvB BW.out) hb); clear BW hb; have BW := BW1; clear BW1; have hx_ := HC.out.below BW.out; have ed := hx_.ed; have k0 := hx_.k0; have k1 := hx_.k1; have k2 := hx_.k2; have k3 := hx_.k3; have k4 := hx_.k4; have k5 := hx_.k5; have k6 := hx_.k6; clear hx_)))
    go_ret
    exact ⟨by first | rfl | (simp [*]; done) | (simp [*]; rfl), Zaf HWB.out (mvB BW.out)⟩
  | true =>
    by_cases hq_ : op = 0
    rotate_left
    · have d_ : decide (op = 0) = false := decide_eq_false hq_
      have d2_ : (op == 0) = false := beq_eq_false_iff_ne.2 hq_
      clear hq_
      go_enter Try.func40, Try.ntmps40
      go_wp2_with (first | (go_at_call 71; go_loud (refine (CS.out _ ?hB).mono ?_; (case hB => exact mvB BW.out); rintro e w' ⟨rfl, hb⟩; have BW1 := Za.mk (Zaf (mvB BW.out) hb); clear BW hb; have BW := BW1; clear BW1; have hx_ := HC.out.below BW.out; have ed := hx_.ed; have k0 := hx_.k0; have k1 := hx_.k1; have k2 := hx_.k2; have k3 := hx_.k3; have k4 := hx_.k4; have k5 := hx_.k5; have k6 := hx_.k6; clear hx_)) | (go_at_call 39; go_loud (refine (CO.out _ ?hB).mono ?_; (case hB => exact mvB BW.out); rintro e w' ⟨rfl, nd, rfl⟩)) | (go_at_fn 60; go_loud (refine (CZ.out _ ?hB).mono ?_; (case hB => exact mvB BW.out); rintro e w' ⟨rfl, hb⟩; have BW1 := Za.mk (Zaf (mvB BW.out) hb); clear BW hb; have BW := BW1; clear BW1; have hx_ := HC.out.below BW.out; have ed := hx_.ed; have k0 := hx_.k0; have k1 := hx_.k1; have k2 := hx_.k2; have k3 := hx_.k3; have k4 := hx_.k4; have k5 := hx_.k5; have k6 := hx_.k6; clear hx_)))
      go_ret
      exact ⟨by first | rfl | (simp [*]; done) | (simp [*]; rfl), Zaf HWB.out (mvB BW.out)⟩
    subst hq_
    by_cases hq_ : rhs = 0
    rotate_left
    · have d_ : decide (rhs = 0) = false := decide_eq_false hq_
      have d2_ : (rhs == 0) = false := beq_eq_false_iff_ne.2 hq_
      clear hq_
      go_enter Try.func40, Try.ntmps40
      go_wp2_with (first | (go_at_call 71; go_loud (refine (CS.out _ ?hB).mono ?_; (case hB => exact mvB BW.out); rintro e w' ⟨rfl, hb⟩; have BW1 := Za.mk (Zaf (mvB BW.out) hb); clear BW hb; have BW := BW1; clear BW1; have hx_ := HC.out.below BW.out; have ed := hx_.ed; have k0 := hx_.k0; have k1 := hx_.k1; have k2 := hx_.k2; have k3 := hx_.k3; have k4 := hx_.k4; have k5 := hx_.k5; have k6 := hx_.k6; clear hx_)) | (go_at_call 39; go_loud (refine (CO.out _ ?hB).mono ?_; (case hB => exact mvB BW.out); rintro e w' ⟨rfl, nd, rfl⟩)) | (go_at_fn 60; go_loud (refine (CZ.out _ ?hB).mono ?_; (case hB => exact mvB BW.out); rintro e w' ⟨rfl, hb⟩; have BW1 := Za.mk (Zaf (mvB BW.out) hb); clear BW hb; have BW := BW1; clear BW1; have hx_ := HC.out.below BW.out; have ed := hx_.ed; have k0 := hx_.k0; have k1 := hx_.k1; have k2 := hx_.k2; have k3 := hx_.k3; have k4 := hx_.k4; have k5 := hx_.k5; have k6 := hx_.k6; clear hx_)))
      go_ret
      exact ⟨by first | rfl | (simp [*]; done) | (simp [*]; rfl), Zaf HWB.out (mvB BW.out)⟩
    subst hq_
    by_cases hq_ : b = 0
    rotate_left
    · have d_ : decide (b = 0) = false := decide_eq_false hq_
      have d2_ : (b == 0) = false := beq_eq_false_iff_ne.2 hq_
      clear hq_
      go_enter Try.func40, Try.ntmps40
      go_wp2_with (first | (go_at_call 71; go_loud (refine (CS.out _ ?hB).mono ?_; (case hB => exact mvB BW.out); rintro e w' ⟨rfl, hb⟩; have BW1 := Za.mk (Zaf (mvB BW.out) hb); clear BW hb; have BW := BW1; clear BW1; have hx_ := HC.out.below BW.out; have ed := hx_.ed; have k0 := hx_.k0; have k1 := hx_.k1; have k2 := hx_.k2; have k3 := hx_.k3; have k4 := hx_.k4; have k5 := hx_.k5; have k6 := hx_.k6; clear hx_)) | (go_at_call 39; go_loud (refine (CO.out _ ?hB).mono ?_; (case hB => exact mvB BW.out); rintro e w' ⟨rfl, nd, rfl⟩)) | (go_at_fn 60; go_loud (refine (CZ.out _ ?hB).mono ?_; (case hB => exact mvB BW.out); rintro e w' ⟨rfl, hb⟩; have BW1 := Za.mk (Zaf (mvB BW.out) hb); clear BW hb; have BW := BW1; clear BW1; have hx_ := HC.out.below BW.out; have ed := hx_.ed; have k0 := hx_.k0; have k1 := hx_.k1; have k2 := hx_.k2; have k3 := hx_.k3; have k4 := hx_.k4; have k5 := hx_.k5; have k6 := hx_.k6; clear hx_)))
      go_ret
      exact ⟨by first | rfl | (simp [*]; done) | (simp [*]; rfl), Zaf HWB.out (mvB BW.out)⟩
    subst hq_
    cases q4 with
    | false =>
      go_enter Try.func40, Try.ntmps40
      go_wp2_with (first | (go_at_call 71; go_loud (refine (CS.out _ ?hB).mono ?_; (case hB => exact mvB BW.out); rintro e w' ⟨rfl, hb⟩; have BW1 := Za.mk (Zaf (mvB BW.out) hb); clear BW hb; have BW := BW1; clear BW1; have hx_ := HC.out.below BW.out; have ed := hx_.ed; have k0 := hx_.k0; have k1 := hx_.k1; have k2 := hx_.k2; have k3 := hx_.k3; have k4 := hx_.k4; have k5 := hx_.k5; have k6 := hx_.k6; clear hx_)) | (go_at_call 39; go_loud (refine (CO.out _ ?hB).mono ?_; (case hB => exact mvB BW.out); rintro e w' ⟨rfl, nd, rfl⟩)) | (go_at_fn 60; go_loud (refine (CZ.out _ ?hB).mono ?_; (case hB => exact mvB BW.out); rintro e w' ⟨rfl, hb⟩; have BW1 := Za.mk (Zaf (mvB BW.out) hb); clear BW hb; have BW := BW1; clear BW1; have hx_ := HC.out.below BW.out; have ed := hx_.ed; have k0 := hx_.k0; have k1 := hx_.k1; have k2 := hx_.k2; have k3 := hx_.k3; have k4 := hx_.k4; have k5 := hx_.k5; have k6 := hx_.k6; clear hx_)))
      refine (CZ.out _ ?hB).mono ?_
      case hB => exact mvB BW.out
      rintro e w' ⟨rfl, hb⟩
      have BW1 := Za.mk (Zaf (mvB BW.out) hb)
      clear BW hb
      have BW := BW1
      clear BW1
      have hx_ := HC.out.below BW.out
      have ed := hx_.ed
      have k0 := hx_.k0
      have k1 := hx_.k1
      have k2 := hx_.k2
      have k3 := hx_.k3
      have k4 := hx_.k4
      have k5 := hx_.k5
      have k6 := hx_.k6
      clear hx_
      go_wp2
      go_ret
      exact ⟨by first | rfl | (simp [*]; done) | (simp [*]; rfl), Zaf HWB.out (mvB BW.out)⟩
    | true =>
      go_enter Try.func40, Try.ntmps40
      go_wp2_with (first | (go_at_call 71; go_loud (refine (CS.out _ ?hB).mono ?_; (case hB => exact mvB BW.out); rintro e w' ⟨rfl, hb⟩; have BW1 := Za.mk (Zaf (mvB BW.out) hb); clear BW hb; have BW := BW1; clear BW1; have hx_ := HC.out.below BW.out; have ed := hx_.ed; have k0 := hx_.k0; have k1 := hx_.k1; have k2 := hx_.k2; have k3 := hx_.k3; have k4 := hx_.k4; have k5 := hx_.k5; have k6 := hx_.k6; clear hx_)) | (go_at_call 39; go_loud (refine (CO.out _ ?hB).mono ?_; (case hB => exact mvB BW.out); rintro e w' ⟨rfl, nd, rfl⟩)) | (go_at_fn 60; go_loud (refine (CZ.out _ ?hB).mono ?_; (case hB => exact mvB BW.out); rintro e w' ⟨rfl, hb⟩; have BW1 := Za.mk (Zaf (mvB BW.out) hb); clear BW hb; have BW := BW1; clear BW1; have hx_ := HC.out.below BW.out; have ed := hx_.ed; have k0 := hx_.k0; have k1 := hx_.k1; have k2 := hx_.k2; have k3 := hx_.k3; have k4 := hx_.k4; have k5 := hx_.k5; have k6 := hx_.k6; clear hx_)))
      go_ret
      exact ⟨by first | rfl | (simp [*]; done) | (simp [*]; rfl), Zaf HWB.out (mvB BW.out)⟩
set_option maxHeartbeats 4000000 in
set_option maxRecDepth 100000 in
theorem right_6 (k : Nat) (A0 : Option Addr) (c0 : Nat) (l0 : List (List S48)) (kd : Int) (A1 : Option Addr) (c1 : Nat) (vars : List Int) (A2 : Option Addr) (c2 : Nat) (coefs : List Int) (op rhs : Int) (A5 : Option Addr) (c5 : Nat) (rows : List (List Int)) (b : Int) (r : Bool) (w : World) (hr0 : Kd.C (Kd.slice 48 k48) w A0 l0.length l0) (hc0 : l0.length ≤ c0) (hr1 : Kd.C (Kd.int .i64) w A1 vars.length vars) (hc1 : vars.length ≤ c1) (hr2 : Kd.C (Kd.int .i64) w A2 coefs.length coefs) (hc2 : coefs.length ≤ c2) (hr5 : Kd.C (Kd.slice 3 (Kd.int .i64)) w A5 rows.length rows) (hc5 : rows.length ≤ c5) (hk : kd ≠ 0 ∧ kd ≠ 1 ∧ kd ≠ 2 ∧ kd ≠ 3 ∧ kd ≠ 4 ∧ kd ≠ 5) (hrow : rows.length = 0) (h : Zbo.f k l0 kd vars coefs op rhs rows b = some r) :
    Calls Try.prog 40 #[.slice A0 l0.length c0, .agg #[.int .i64 kd, .slice A1 vars.length c1, .slice A2 coefs.length c2, .int .i64 op, .int .i64 rhs, .slice A5 rows.length c5, .int .i64 b]] w fun e w' => e = .returned (.bool r) ∧ Below w.heap.size w w' := by
  have HC := Za.mk (Zda A0 c0 l0 kd A1 c1 vars A2 c2 coefs op rhs A5 c5 rows b w hr0 hc0 hr1 hc1 hr2 hc2 hr5 hc5)
  have hwB : Below w.heap.size w ((w.alloc (.cells #[.slice A0 l0.length c0] 33)).alloc (.cells #[.int .i64 kd, .slice A1 vars.length c1, .slice A2 coefs.length c2, .int .i64 op, .int .i64 rhs, .slice A5 rows.length c5, .int .i64 b] 31)) := Zab (Zab (Below.refl _ _) _) _
  have HWB := Za.mk hwB
  clear hwB hr0 hr1 hr2 hr5
  unfold Zbo.f at h
  rw [if_neg (fun h_ => absurd h_.2 (by omega))] at h
  obtain ⟨n0_, n1_, n2_, n3_, n4_, n5_⟩ := hk
  rw [if_neg n0_, if_neg n1_, if_neg n2_, if_neg n3_, if_neg n4_, if_neg n5_] at h
  have e0_ : (kd == 0) = false := beq_eq_false_iff_ne.2 n0_
  have f0_ : decide (kd = 0) = false := decide_eq_false n0_
  have e1_ : (kd == 1) = false := beq_eq_false_iff_ne.2 n1_
  have f1_ : decide (kd = 1) = false := decide_eq_false n1_
  have e2_ : (kd == 2) = false := beq_eq_false_iff_ne.2 n2_
  have f2_ : decide (kd = 2) = false := decide_eq_false n2_
  have e3_ : (kd == 3) = false := beq_eq_false_iff_ne.2 n3_
  have f3_ : decide (kd = 3) = false := decide_eq_false n3_
  have e4_ : (kd == 4) = false := beq_eq_false_iff_ne.2 n4_
  have f4_ : decide (kd = 4) = false := decide_eq_false n4_
  have e5_ : (kd == 5) = false := beq_eq_false_iff_ne.2 n5_
  have f5_ : decide (kd = 5) = false := decide_eq_false n5_
  have g2_ : (kd != 2) = true := by simpa using n2_
  obtain ⟨q1, hq1, h2_⟩ := Option.bind_eq_some_iff.1 h
  clear h
  have h := h2_
  clear h2_
  have A_1 := Za.mk hq1
  clear hq1
  obtain rfl := Option.some.inj h
  clear h
  have CP := Za.mk (fun (w' : World) (hw : Below ((w.alloc (.cells #[.slice A0 l0.length c0] 33)).alloc (.cells #[.int .i64 kd, .slice A1 vars.length c1, .slice A2 coefs.length c2, .int .i64 op, .int .i64 rhs, .slice A5 rows.length c5, .int .i64 b] 31)).heap.size ((w.alloc (.cells #[.slice A0 l0.length c0] 33)).alloc (.cells #[.int .i64 kd, .slice A1 vars.length c1, .slice A2 coefs.length c2, .int .i64 op, .int .i64 rhs, .slice A5 rows.length c5, .int .i64 b] 31)) w') => Zci.calls kd A1 c1 vars A2 c2 coefs op rhs A5 c5 rows b q1 w' (Kd.Zal HC.out.r1 hw) hc1 (Kd.Zal HC.out.r2 hw) hc2 (Kd.Zal HC.out.r5 hw) hc5 A_1.out)
  have BW := Za.mk (Below.refl ((w.alloc (.cells #[.slice A0 l0.length c0] 33)).alloc (.cells #[.int .i64 kd, .slice A1 vars.length c1, .slice A2 coefs.length c2, .int .i64 op, .int .i64 rhs, .slice A5 rows.length c5, .int .i64 b] 31)).heap.size ((w.alloc (.cells #[.slice A0 l0.length c0] 33)).alloc (.cells #[.int .i64 kd, .slice A1 vars.length c1, .slice A2 coefs.length c2, .int .i64 op, .int .i64 rhs, .slice A5 rows.length c5, .int .i64 b] 31)))
  have hr0_ : decide (0 < (rows.length : Int)) = false := decide_eq_false (by omega)
  have hr0n_ : decide (0 < rows.length) = false := decide_eq_false (by omega)
  clear hrow
  cases q1 with
  | false =>
    go_enter Try.func40, Try.ntmps40
    go_wp2_with (first | (go_at_call 64; go_loud (refine (CP.out _ ?hB).mono ?_; (case hB => exact mvB BW.out); rintro e w' ⟨rfl, hb⟩; have BW1 := Za.mk (Zaf (mvB BW.out) hb); clear BW hb; have BW := BW1; clear BW1; have hx_ := HC.out.below BW.out; have ed := hx_.ed; have k0 := hx_.k0; have k1 := hx_.k1; have k2 := hx_.k2; have k3 := hx_.k3; have k4 := hx_.k4; have k5 := hx_.k5; have k6 := hx_.k6; clear hx_)))
    go_ret
    exact ⟨by first | rfl | (simp [*]; done) | (simp [*]; rfl), Zaf HWB.out (mvB BW.out)⟩
  | true =>
    by_cases hq_ : 2 ≤ vars.length
    · have d1len3_ : decide (2 ≤ (vars.length : Int)) = true := decide_eq_true (by omega)
      have d2len3_ : decide (2 ≤ vars.length) = true := decide_eq_true hq_
      clear hq_
      go_enter Try.func40, Try.ntmps40
      go_wp2_with (first | (go_at_call 64; go_loud (refine (CP.out _ ?hB).mono ?_; (case hB => exact mvB BW.out); rintro e w' ⟨rfl, hb⟩; have BW1 := Za.mk (Zaf (mvB BW.out) hb); clear BW hb; have BW := BW1; clear BW1; have hx_ := HC.out.below BW.out; have ed := hx_.ed; have k0 := hx_.k0; have k1 := hx_.k1; have k2 := hx_.k2; have k3 := hx_.k3; have k4 := hx_.k4; have k5 := hx_.k5; have k6 := hx_.k6; clear hx_)))
      go_ret
      exact ⟨by first | rfl | (simp [*]; done) | (simp [*]; rfl), Zaf HWB.out (mvB BW.out)⟩
    have d1len3_ : decide (2 ≤ (vars.length : Int)) = false := decide_eq_false (by omega)
    have d2len3_ : decide (2 ≤ vars.length) = false := decide_eq_false hq_
    clear hq_
    go_enter Try.func40, Try.ntmps40
    go_wp2_with (first | (go_at_call 64; go_loud (refine (CP.out _ ?hB).mono ?_; (case hB => exact mvB BW.out); rintro e w' ⟨rfl, hb⟩; have BW1 := Za.mk (Zaf (mvB BW.out) hb); clear BW hb; have BW := BW1; clear BW1; have hx_ := HC.out.below BW.out; have ed := hx_.ed; have k0 := hx_.k0; have k1 := hx_.k1; have k2 := hx_.k2; have k3 := hx_.k3; have k4 := hx_.k4; have k5 := hx_.k5; have k6 := hx_.k6; clear hx_)))
    go_ret
    exact ⟨by first | rfl | (simp [*]; done) | (simp [*]; rfl), Zaf HWB.out (mvB BW.out)⟩
set_option maxHeartbeats 4000000 in
set_option maxRecDepth 100000 in
theorem right_none (A0 : Option Addr) (c0 : Nat) (l0 : List (List S48)) (kd : Int) (A1 : Option Addr) (c1 : Nat) (vars : List Int) (A2 : Option Addr) (c2 : Nat) (coefs : List Int) (op rhs : Int) (A5 : Option Addr) (c5 : Nat) (rows : List (List Int)) (b : Int) (w : World) (hk : kd ≠ 2) (hrow : 0 < rows.length) :
    Calls Try.prog 40 #[.slice A0 l0.length c0, .agg #[.int .i64 kd, .slice A1 vars.length c1, .slice A2 coefs.length c2, .int .i64 op, .int .i64 rhs, .slice A5 rows.length c5, .int .i64 b]] w fun e w' => e = .returned (.bool false) ∧ Below w.heap.size w w' := by
  have hwB : Below w.heap.size w ((w.alloc (.cells #[.slice A0 l0.length c0] 33)).alloc (.cells #[.int .i64 kd, .slice A1 vars.length c1, .slice A2 coefs.length c2, .int .i64 op, .int .i64 rhs, .slice A5 rows.length c5, .int .i64 b] 31)) := Zab (Zab (Below.refl _ _) _) _
  have HWB := Za.mk hwB
  clear hwB
  have e2_ : (kd == 2) = false := beq_eq_false_iff_ne.2 hk
  have f2_ : decide (kd = 2) = false := decide_eq_false hk
  have g2_ : (kd != 2) = true := by simpa using hk
  have hr0_ : decide (0 < (rows.length : Int)) = true := decide_eq_true (by omega)
  have hr0n_ : decide (0 < rows.length) = true := decide_eq_true (by omega)
  clear hrow hk
  go_enter Try.func40, Try.ntmps40
  go_wp2
  go_ret
  exact ⟨by first | rfl | (simp [*]; done), HWB.out⟩
theorem Zbo.calls (k : Nat) (A0 : Option Addr) (c0 : Nat) (l0 : List (List S48)) (kd : Int) (A1 : Option Addr) (c1 : Nat) (vars : List Int) (A2 : Option Addr) (c2 : Nat) (coefs : List Int) (op rhs : Int) (A5 : Option Addr) (c5 : Nat) (rows : List (List Int)) (b : Int) (r : Bool) (w : World) (hr0 : Kd.C (Kd.slice 48 k48) w A0 l0.length l0) (hc0 : l0.length ≤ c0) (hr1 : Kd.C (Kd.int .i64) w A1 vars.length vars) (hc1 : vars.length ≤ c1) (hr2 : Kd.C (Kd.int .i64) w A2 coefs.length coefs) (hc2 : coefs.length ≤ c2) (hr5 : Kd.C (Kd.slice 3 (Kd.int .i64)) w A5 rows.length rows) (hc5 : rows.length ≤ c5) (h : Zbo.f k l0 kd vars coefs op rhs rows b = some r) :
    Calls Try.prog 40 #[.slice A0 l0.length c0, .agg #[.int .i64 kd, .slice A1 vars.length c1, .slice A2 coefs.length c2, .int .i64 op, .int .i64 rhs, .slice A5 rows.length c5, .int .i64 b]] w fun e w' => e = .returned (.bool r) ∧ Below w.heap.size w w' := by
  by_cases h2 : kd ≠ 2 ∧ 0 < rows.length
  · have h' := h
    unfold Zbo.f at h'
    rw [if_pos h2] at h'
    obtain rfl := Option.some.inj h'
    exact right_none A0 c0 l0 kd A1 c1 vars A2 c2 coefs op rhs A5 c5 rows b w h2.1 h2.2
  have hrow : kd ≠ 2 → rows.length = 0 := fun h_ => by
    have := fun h3 => h2 ⟨h_, h3⟩
    omega
  by_cases k0 : kd = 0
  · exact right_0 k A0 c0 l0 kd A1 c1 vars A2 c2 coefs op rhs A5 c5 rows b r w hr0 hc0 hr1 hc1 hr2 hc2 hr5 hc5 k0 (hrow (by omega)) h
  by_cases k1 : kd = 1
  · exact right_1 k A0 c0 l0 kd A1 c1 vars A2 c2 coefs op rhs A5 c5 rows b r w hr0 hc0 hr1 hc1 hr2 hc2 hr5 hc5 k1 (hrow (by omega)) h
  by_cases k2 : kd = 2
  · exact right_2 k A0 c0 l0 kd A1 c1 vars A2 c2 coefs op rhs A5 c5 rows b r w hr0 hc0 hr1 hc1 hr2 hc2 hr5 hc5 k2 trivial h
  by_cases k3 : kd = 3
  · exact right_3 k A0 c0 l0 kd A1 c1 vars A2 c2 coefs op rhs A5 c5 rows b r w hr0 hc0 hr1 hc1 hr2 hc2 hr5 hc5 k3 (hrow (by omega)) h
  by_cases k4 : kd = 4
  · exact right_4 k A0 c0 l0 kd A1 c1 vars A2 c2 coefs op rhs A5 c5 rows b r w hr0 hc0 hr1 hc1 hr2 hc2 hr5 hc5 k4 (hrow (by omega)) h
  by_cases k5 : kd = 5
  · exact right_5 k A0 c0 l0 kd A1 c1 vars A2 c2 coefs op rhs A5 c5 rows b r w hr0 hc0 hr1 hc1 hr2 hc2 hr5 hc5 k5 (hrow (by omega)) h
  exact right_6 k A0 c0 l0 kd A1 c1 vars A2 c2 coefs op rhs A5 c5 rows b r w hr0 hc0 hr1 hc1 hr2 hc2 hr5 hc5 ⟨k0, k1, k2, k3, k4, k5⟩ (hrow (by omega)) h
theorem Zbo.mono : ∀ a0 a1 a2 a3 a4 a5 a6 a7 k, LeO (Zbo.f k a0 a1 a2 a3 a4 a5 a6 a7) (Zbo.f (k + 1) a0 a1 a2 a3 a4 a5 a6 a7) := by
  intro a0 a1 a2 a3 a4 a5 a6 a7 k
  unfold Zbo.f
  exact LeO.ite (LeO.refl _) (LeO.ite (LeO.bind (Zch.mono _ _ _ _ _ _ _ _) (fun _ => LeO.refl _)) (LeO.ite (LeO.refl _) (LeO.ite (LeO.refl _) (LeO.ite (LeO.refl _) (LeO.ite (LeO.ite (LeO.bind (Zch.mono _ _ _ _ _ _ _ _) (fun _ => LeO.bind (Zb2.mono _ _) (fun _ => LeO.bind (slices_Contains_int.mono _ _ _) (fun _ => LeO.refl _)))) (LeO.refl _)) (LeO.ite (LeO.bind (Zce.mono _ _ _ _ _ _ _ _) (fun _ => LeO.bind (Ze9 _ _ _) (fun _ => LeO.refl _))) (LeO.refl _)))))))
end Go.Proofs.Ytkgjaklnbgdmiaa.P
namespace Go.Proofs.Ytkgjaklnbgdmiaa.P
open Go.RowKit Go.Proofs.YtkgjaklnbgdmiaaW.PrintWords Go.Proofs.YtkgjaklnbgdmiaaW.PrintLast Go.Proofs.YtkgjaklnbgdmiaaW.PrintMore
attribute [local go_sem] Zcs Zcu Zc7 Zc8 Zcc Zcd Zct Zcv
set_option linter.unusedVariables false
set_option linter.unusedSimpArgs false
def Zbe.l0 : Nat → List Int → Int → Int → Option (Bool)
 | 0, _, _, _ => none
 | k + 1, x5, x6, x7 => if x7 < x6 then (if 0 ≤ x7 then (if x7 < (x5.length : Int) then (if (rd x5 x7) < (-4611686018427387904) then (some false) else (if (rd x5 x7) > 4611686018427387904 then (some false) else (Zbe.l0 k x5 x6 (wrap64 (x7 + 1))))) else (none)) else (none)) else (some true)
def Zbe.f (k : Nat) (l0 : List Int) : Option (Bool) := Zbe.l0 k l0 (l0.length : Int) 0
set_option maxHeartbeats 8000000 in
set_option maxRecDepth 100000 in
theorem Zbe.calls (k : Nat) (A0 : Option Addr) (c0 : Nat) (l0 : List Int) (r : Bool) (w : World) (hr0 : Kd.C (Kd.int .i64) w A0 l0.length l0) (hc0 : l0.length ≤ c0) (h : Zbe.f k l0 = some r) :
  Calls Try.prog 94 #[.slice A0 l0.length c0] w fun e w' => e = .returned (.bool r) ∧ Zbf w w' := by
 have HR0 := Za.mk hr0
 have HC0 := Za.mk hc0
 clear hr0 hc0
 have H : (Zbe.l0 k l0 (l0.length : Int) 0) = some r := h
 clear h
 have H' := Za.mk H
 clear H
 go_enter Try.func94, Try.ntmps94
 go_wp2
 go_loopg [7] k (fun kq v7 w' => ∃ (x7_1 : Int), v7 = .int .i64 x7_1 ∧ Za (Zbe.l0 kq l0 (l0.length : Int) x7_1 = some r) ∧ Za (kq ≤ k) ∧ Zbf w w')
 case atStart => exact ⟨(0), (by first | rfl | (simp; done) | (simp [*]; done)), H', ⟨Nat.le_refl _⟩, by repeat (first | exact Zbf.refl _ | apply Zbf.step)⟩
 case round =>
  clear H'
  obtain ⟨x7_1, rfl, HA, HK1, ⟨m1, rfl⟩⟩ := hrel
  cases gk with
  | zero => exact absurd HA.out (by simp [Zbe.l0])
  | succ k1 =>
   have H := HA.out
   clear HA
   simp only [Zbe.l0] at H
   by_cases c2 : x7_1 < (l0.length : Int)
   rotate_left
   ·rw [if_neg c2] at H
    have c2b0 : decide (x7_1 < (l0.length : Int)) = false := decide_eq_false c2
    clear c2
    obtain rfl := Option.some.inj H
    go_wp2
    go_ret
    exact ⟨by first | rfl | (simp; done) | (simp [*]; done), by repeat (first | exact Zbf.refl _ | apply Zbf.step)⟩
   rw [if_pos c2] at H
   have c2b0 : decide (x7_1 < (l0.length : Int)) = true := decide_eq_true c2
   clear c2
   by_cases c3 : 0 ≤ x7_1
   rotate_left
   ·rw [if_neg c3] at H
    exact absurd H (by simp)
   rw [if_pos c3] at H
   have c3b0 : decide (0 ≤ x7_1) = true := decide_eq_true c3
   clear c3
   by_cases c4 : x7_1 < (l0.length : Int)
   rotate_left
   ·rw [if_neg c4] at H
    exact absurd H (by simp)
   rw [if_pos c4] at H
   have c4b0 : decide (x7_1 < (l0.length : Int)) = true := decide_eq_true c4
   clear c4
   by_cases c5 : (rd l0 x7_1) < (-4611686018427387904)
   ·rw [if_pos c5] at H
    have c5b0 : decide ((rd l0 x7_1) < (-4611686018427387904)) = true := decide_eq_true c5
    clear c5
    obtain rfl := Option.some.inj H
    have p261 : 0 ≤ (x7_1 : Int) := of_decide_eq_true (by first | (with_reducible assumption) | assumption)
    have q261 : x7_1 < (l0.length : Int) := of_decide_eq_true (by first | (with_reducible assumption) | assumption)
    obtain ⟨ad261, e261, hx261_0⟩ := Kd.Zcq HR0.out x7_1 p261 q261
    cases e261
    replace p261 := eq_true p261
    replace q261 := eq_true q261
    go_wp2
    go_ret
    exact ⟨by first | rfl | (simp; done) | (simp [*]; done), by repeat (first | exact Zbf.refl _ | apply Zbf.step)⟩
   rw [if_neg c5] at H
   have c5b0 : decide ((rd l0 x7_1) < (-4611686018427387904)) = false := decide_eq_false c5
   clear c5
   by_cases c6 : (rd l0 x7_1) > 4611686018427387904
   ·rw [if_pos c6] at H
    have c6b0 : decide (4611686018427387904 < (rd l0 x7_1)) = true := decide_eq_true c6
    clear c6
    obtain rfl := Option.some.inj H
    have p261 : 0 ≤ (x7_1 : Int) := of_decide_eq_true (by first | (with_reducible assumption) | assumption)
    have q261 : x7_1 < (l0.length : Int) := of_decide_eq_true (by first | (with_reducible assumption) | assumption)
    obtain ⟨ad261, e261, hx261_0⟩ := Kd.Zcq HR0.out x7_1 p261 q261
    cases e261
    replace p261 := eq_true p261
    replace q261 := eq_true q261
    go_wp2
    go_ret
    exact ⟨by first | rfl | (simp; done) | (simp [*]; done), by repeat (first | exact Zbf.refl _ | apply Zbf.step)⟩
   rw [if_neg c6] at H
   have c6b0 : decide (4611686018427387904 < (rd l0 x7_1)) = false := decide_eq_false c6
   clear c6
   have H' := Za.mk H
   clear H
   have p261 : 0 ≤ (x7_1 : Int) := of_decide_eq_true (by first | (with_reducible assumption) | assumption)
   have q261 : x7_1 < (l0.length : Int) := of_decide_eq_true (by first | (with_reducible assumption) | assumption)
   obtain ⟨ad261, e261, hx261_0⟩ := Kd.Zcq HR0.out x7_1 p261 q261
   cases e261
   replace p261 := eq_true p261
   replace q261 := eq_true q261
   go_wp2
   go_roundg k1
   case measure => have := HK1.out; omega
   case rel => exact ⟨(wrap64 (x7_1 + 1)), (by first | rfl | (simp; done) | (simp [*]; done)), H', ⟨by have := HK1.out; omega⟩, by repeat (first | exact Zbf.refl _ | apply Zbf.step)⟩
def Zbw.f (k : Nat) (a0 : Int) : Option (Int × Bool) := (Zbe.f k (([a0] : List Int))).bind fun t265 => (if t265 = true then (some (a0, true)) else (some (0, false)))
set_option maxHeartbeats 8000000 in
set_option maxRecDepth 100000 in
theorem Zbw.calls (k : Nat) (a0 : Int) (r1 : Int) (r2 : Bool) (w : World) (h : Zbw.f k a0 = some (r1, r2)) :
  Calls Try.prog 97 #[.int .i64 a0] w fun e w' => e = .returned (.tuple #[.int .i64 r1, .bool r2]) ∧ Below w.heap.size w w' := by
 have HB := Za.mk (Below.refl w.heap.size w)
 have H : ((Zbe.f k (([a0] : List Int))).bind fun t265 => (if t265 = true then (some (a0, true)) else (some (0, false)))) = some (r1, r2) := h
 clear h
 obtain ⟨y262, hy262⟩ : ∃ y_ : List Int, y_ = (([a0] : List Int)) := ⟨_, rfl⟩
 replace H : ((Zbe.f k y262).bind fun t265 => (if t265 = true then (some (a0, true)) else (some (0, false)))) = some (r1, r2) := by first | (rw [hy262]; with_reducible exact H) | (have H2_ := (Option.bind_some _ _).symm.trans H; rw [hy262]; with_reducible exact H2_) | (have H2_ := (Option.bind_some _ _).symm.trans H; with_reducible exact H2_) | with_reducible exact H | (rw [hy262]; exact H) | exact H
 have Ny262 := Za.mk hy262
 clear hy262
 replace H := Option.bind_eq_some_iff.mp H
 obtain ⟨t265, A20, H⟩ := H
 replace H : (if t265 = true then (some (a0, true)) else (some (0, false))) = some (r1, r2) := H
 have A2 := Za.mk A20
 clear A20
 by_cases c3 : t265 = true
 ·subst c3
  have H1 : (some (a0, true)) = some (r1, r2) := by rw [if_pos rfl] at H; exact H
  clear H
  have H := H1
  clear H1
  simp only [Option.some.injEq, Prod.mk.injEq] at H
  obtain ⟨rfl, rfl⟩ := H
  go_enter Try.func97, Try.ntmps97
  go_wp2_with (first | ((with_reducible refine Zax (N := 5) rfl ?_); refine Kd.Zc9 (Kd.int .i64) _ 3 ?hg (N := 5) ?hd (xs := ([a0] : List Int)) (inner := [.int .i64 a0]) (ok := fun _ => True) (okp := fun _ => True) ?hr ?hp (fun _ hk => hk) trivial (Below.refl _ _) (Nat.le_refl _) (by simp) ?_; (case hd => rfl); (case hg => rfl); (case hr => first | (go_simp; done) | (go_simp; rfl)); (case hp => exact (Reps.one (show Kd.M (Kd.int .i64) _ _ _ a0 [.int .i64 a0] from rfl) (Reps.none _ _))); intro v263 w4 ho5 hb hg_ hnew_; clear hg_ hnew_; (first | rw [← Ny262.out] at ho5 | (simp only [Int.reduceToNat] at ho5; rw [← Ny262.out] at ho5)); have n0_ := Za.mk (Kd.Zbp ho5 (Zan (by repeat (first | (with_reducible first | exact HB.out | apply Zab | apply Zaa | apply Zad) | exact HB.out)))); have n1_ := Za.mk (Zaf (by repeat (first | (with_reducible first | exact HB.out | apply Zab | apply Zaa | apply Zad) | exact HB.out)) hb); clear HB; have HO264 := n0_; have HB := n1_; clear n0_ n1_; clear hb ho5; obtain ⟨Ao6, co6, eo6⟩ := Kd.Za9 HO264.out; subst eo6) | ((with_reducible refine Zay (f := 94) rfl ?_); refine Zbu (some 6) rfl rfl Try.func94 (by kernel_rfl) rfl #[.slice Ao6 y262.length co6] rfl (by (try simp only [List.map_toArray, List.map_cons, List.map_nil]); first | done | rfl | (simp only [List.length_drop, List.length_take]; rfl)) ?_; (with_reducible refine (Zbe.calls k _ _ y262 true _ ?side1 ?side2 A2.out).mono ?_); (case side1 => repeat (first | exact (Kd.Za0 HO264.out).2.2 | (with_reducible refine Kd.C_alloc ?_ _) | (with_reducible refine Kd.Zaw ?_ _) | (with_reducible refine Kd.C_drew ?_))); (case side2 => exact (Kd.Za0 HO264.out).2.1); rintro e w' ⟨rfl, ⟨nd, rfl⟩⟩; refine ⟨_, rfl, ?_⟩))
  go_ret2
  exact ⟨by first | rfl | (simp [Zar, Zas] <;> rfl) | (simp [*, Zar, Zas] <;> rfl), by repeat (first | (with_reducible first | exact HB.out | apply Zab | apply Zaa | apply Zad) | exact HB.out)⟩
 replace c3 := Bool.eq_false_iff.mpr c3
 subst c3
 have H1 : (some (0, false)) = some (r1, r2) := by rw [if_neg (show ¬ (false = true) by decide)] at H; exact H
 clear H
 have H := H1
 clear H1
 simp only [Option.some.injEq, Prod.mk.injEq] at H
 obtain ⟨rfl, rfl⟩ := H
 go_enter Try.func97, Try.ntmps97
 go_wp2_with (first | ((with_reducible refine Zax (N := 5) rfl ?_); refine Kd.Zc9 (Kd.int .i64) _ 3 ?hg (N := 5) ?hd (xs := ([a0] : List Int)) (inner := [.int .i64 a0]) (ok := fun _ => True) (okp := fun _ => True) ?hr ?hp (fun _ hk => hk) trivial (Below.refl _ _) (Nat.le_refl _) (by simp) ?_; (case hd => rfl); (case hg => rfl); (case hr => first | (go_simp; done) | (go_simp; rfl)); (case hp => exact (Reps.one (show Kd.M (Kd.int .i64) _ _ _ a0 [.int .i64 a0] from rfl) (Reps.none _ _))); intro v263 w7 ho8 hb hg_ hnew_; clear hg_ hnew_; (first | rw [← Ny262.out] at ho8 | (simp only [Int.reduceToNat] at ho8; rw [← Ny262.out] at ho8)); have n0_ := Za.mk (Kd.Zbp ho8 (Zan (by repeat (first | (with_reducible first | exact HB.out | apply Zab | apply Zaa | apply Zad) | exact HB.out)))); have n1_ := Za.mk (Zaf (by repeat (first | (with_reducible first | exact HB.out | apply Zab | apply Zaa | apply Zad) | exact HB.out)) hb); clear HB; have HO264 := n0_; have HB := n1_; clear n0_ n1_; clear hb ho8; obtain ⟨Ao9, co9, eo9⟩ := Kd.Za9 HO264.out; subst eo9) | ((with_reducible refine Zay (f := 94) rfl ?_); refine Zbu (some 6) rfl rfl Try.func94 (by kernel_rfl) rfl #[.slice Ao9 y262.length co9] rfl (by (try simp only [List.map_toArray, List.map_cons, List.map_nil]); first | done | rfl | (simp only [List.length_drop, List.length_take]; rfl)) ?_; (with_reducible refine (Zbe.calls k _ _ y262 false _ ?side1 ?side2 A2.out).mono ?_); (case side1 => repeat (first | exact (Kd.Za0 HO264.out).2.2 | (with_reducible refine Kd.C_alloc ?_ _) | (with_reducible refine Kd.Zaw ?_ _) | (with_reducible refine Kd.C_drew ?_))); (case side2 => exact (Kd.Za0 HO264.out).2.1); rintro e w' ⟨rfl, ⟨nd, rfl⟩⟩; refine ⟨_, rfl, ?_⟩))
 go_ret2
 exact ⟨by first | rfl | (simp [Zar, Zas] <;> rfl) | (simp [*, Zar, Zas] <;> rfl), by repeat (first | (with_reducible first | exact HB.out | apply Zab | apply Zaa | apply Zad) | exact HB.out)⟩
def Zcg.f (k : Nat) (a0 : Int) (a1 : Int) : Option (Int × Bool) := (Zbe.f k (([a0, a1] : List Int))).bind fun t269 => (if t269 = true then (if a0 > 0 then (if a1 > (wrap64 (4611686018427387904 - a0)) then (some (0, false)) else (if a0 < 0 then (if a1 < (wrap64 ((-4611686018427387904) - a0)) then (some (0, false)) else ((Zbw.f k (wrap64 (a0 + a1))).bind fun bt270 => (some (bt270.1, bt270.2)))) else ((Zbw.f k (wrap64 (a0 + a1))).bind fun bt272 => (some (bt272.1, bt272.2))))) else (if a0 < 0 then (if a1 < (wrap64 ((-4611686018427387904) - a0)) then (some (0, false)) else ((Zbw.f k (wrap64 (a0 + a1))).bind fun bt274 => (some (bt274.1, bt274.2)))) else ((Zbw.f k (wrap64 (a0 + a1))).bind fun bt276 => (some (bt276.1, bt276.2))))) else (some (0, false)))
set_option maxHeartbeats 8000000 in
set_option maxRecDepth 100000 in
theorem Zcg.calls (k : Nat) (a0 : Int) (a1 : Int) (r1 : Int) (r2 : Bool) (w : World) (h : Zcg.f k a0 a1 = some (r1, r2)) :
  Calls Try.prog 74 #[.int .i64 a0, .int .i64 a1] w fun e w' => e = .returned (.tuple #[.int .i64 r1, .bool r2]) ∧ Below w.heap.size w w' := by
 have HB := Za.mk (Below.refl w.heap.size w)
 have H : ((Zbe.f k (([a0, a1] : List Int))).bind fun t269 => (if t269 = true then (if a0 > 0 then (if a1 > (wrap64 (4611686018427387904 - a0)) then (some (0, false)) else (if a0 < 0 then (if a1 < (wrap64 ((-4611686018427387904) - a0)) then (some (0, false)) else ((Zbw.f k (wrap64 (a0 + a1))).bind fun bt270 => (some (bt270.1, bt270.2)))) else ((Zbw.f k (wrap64 (a0 + a1))).bind fun bt272 => (some (bt272.1, bt272.2))))) else (if a0 < 0 then (if a1 < (wrap64 ((-4611686018427387904) - a0)) then (some (0, false)) else ((Zbw.f k (wrap64 (a0 + a1))).bind fun bt274 => (some (bt274.1, bt274.2)))) else ((Zbw.f k (wrap64 (a0 + a1))).bind fun bt276 => (some (bt276.1, bt276.2))))) else (some (0, false)))) = some (r1, r2) := h
 clear h
 obtain ⟨y266, hy266⟩ : ∃ y_ : List Int, y_ = (([a0, a1] : List Int)) := ⟨_, rfl⟩
 replace H : ((Zbe.f k y266).bind fun t269 => (if t269 = true then (if a0 > 0 then (if a1 > (wrap64 (4611686018427387904 - a0)) then (some (0, false)) else (if a0 < 0 then (if a1 < (wrap64 ((-4611686018427387904) - a0)) then (some (0, false)) else ((Zbw.f k (wrap64 (a0 + a1))).bind fun bt270 => (some (bt270.1, bt270.2)))) else ((Zbw.f k (wrap64 (a0 + a1))).bind fun bt272 => (some (bt272.1, bt272.2))))) else (if a0 < 0 then (if a1 < (wrap64 ((-4611686018427387904) - a0)) then (some (0, false)) else ((Zbw.f k (wrap64 (a0 + a1))).bind fun bt274 => (some (bt274.1, bt274.2)))) else ((Zbw.f k (wrap64 (a0 + a1))).bind fun bt276 => (some (bt276.1, bt276.2))))) else (some (0, false)))) = some (r1, r2) := by first | (rw [hy266]; with_reducible exact H) | (have H2_ := (Option.bind_some _ _).symm.trans H; rw [hy266]; with_reducible exact H2_) | (have H2_ := (Option.bind_some _ _).symm.trans H; with_reducible exact H2_) | with_reducible exact H | (rw [hy266]; exact H) | exact H
 have Ny266 := Za.mk hy266
 clear hy266
 replace H := Option.bind_eq_some_iff.mp H
 obtain ⟨t269, A30, H⟩ := H
 replace H : (if t269 = true then (if a0 > 0 then (if a1 > (wrap64 (4611686018427387904 - a0)) then (some (0, false)) else (if a0 < 0 then (if a1 < (wrap64 ((-4611686018427387904) - a0)) then (some (0, false)) else ((Zbw.f k (wrap64 (a0 + a1))).bind fun bt270 => (some (bt270.1, bt270.2)))) else ((Zbw.f k (wrap64 (a0 + a1))).bind fun bt272 => (some (bt272.1, bt272.2))))) else (if a0 < 0 then (if a1 < (wrap64 ((-4611686018427387904) - a0)) then (some (0, false)) else ((Zbw.f k (wrap64 (a0 + a1))).bind fun bt274 => (some (bt274.1, bt274.2)))) else ((Zbw.f k (wrap64 (a0 + a1))).bind fun bt276 => (some (bt276.1, bt276.2))))) else (some (0, false))) = some (r1, r2) := H
 have A3 := Za.mk A30
 clear A30
 by_cases c4 : t269 = true
 rotate_left
 ·replace c4 := Bool.eq_false_iff.mpr c4
  subst c4
  have H1 : (some (0, false)) = some (r1, r2) := by rw [if_neg (show ¬ (false = true) by decide)] at H; exact H
  clear H
  have H := H1
  clear H1
  simp only [Option.some.injEq, Prod.mk.injEq] at H
  obtain ⟨rfl, rfl⟩ := H
  go_enter Try.func74, Try.ntmps74
  go_wp2_with (first | ((with_reducible refine Zax (N := 8) rfl ?_); refine Kd.Zc9 (Kd.int .i64) _ 3 ?hg (N := 8) ?hd (xs := ([a0, a1] : List Int)) (inner := [.int .i64 a0, .int .i64 a1]) (ok := fun _ => True) (okp := fun _ => True) ?hr ?hp (fun _ hk => hk) trivial (Below.refl _ _) (Nat.le_refl _) (by simp) ?_; (case hd => rfl); (case hg => rfl); (case hr => first | (go_simp; done) | (go_simp; rfl)); (case hp => exact (Reps.one (show Kd.M (Kd.int .i64) _ _ _ a0 [.int .i64 a0] from rfl) (Reps.one (show Kd.M (Kd.int .i64) _ _ _ a1 [.int .i64 a1] from rfl) (Reps.none _ _)))); intro v267 w40 ho41 hb hg_ hnew_; clear hg_ hnew_; (first | rw [← Ny266.out] at ho41 | (simp only [Int.reduceToNat] at ho41; rw [← Ny266.out] at ho41)); have n0_ := Za.mk (Kd.Zbp ho41 (Zan (by repeat (first | (with_reducible first | exact HB.out | apply Zab | apply Zaa | apply Zad) | exact HB.out)))); have n1_ := Za.mk (Zaf (by repeat (first | (with_reducible first | exact HB.out | apply Zab | apply Zaa | apply Zad) | exact HB.out)) hb); clear HB; have HO268 := n0_; have HB := n1_; clear n0_ n1_; clear hb ho41; obtain ⟨Ao42, co42, eo42⟩ := Kd.Za9 HO268.out; subst eo42) | ((with_reducible refine Zay (f := 94) rfl ?_); refine Zbu (some 9) rfl rfl Try.func94 (by kernel_rfl) rfl #[.slice Ao42 y266.length co42] rfl (by (try simp only [List.map_toArray, List.map_cons, List.map_nil]); first | done | rfl | (simp only [List.length_drop, List.length_take]; rfl)) ?_; (with_reducible refine (Zbe.calls k _ _ y266 false _ ?side1 ?side2 A3.out).mono ?_); (case side1 => repeat (first | exact (Kd.Za0 HO268.out).2.2 | (with_reducible refine Kd.C_alloc ?_ _) | (with_reducible refine Kd.Zaw ?_ _) | (with_reducible refine Kd.C_drew ?_))); (case side2 => exact (Kd.Za0 HO268.out).2.1); rintro e w' ⟨rfl, ⟨nd, rfl⟩⟩; refine ⟨_, rfl, ?_⟩))
  go_ret2
  exact ⟨by first | rfl | (simp [Zar, Zas] <;> rfl) | (simp [*, Zar, Zas] <;> rfl), by repeat (first | (with_reducible first | exact HB.out | apply Zab | apply Zaa | apply Zad) | exact HB.out)⟩
 subst c4
 have H1 : (if a0 > 0 then (if a1 > (wrap64 (4611686018427387904 - a0)) then (some (0, false)) else (if a0 < 0 then (if a1 < (wrap64 ((-4611686018427387904) - a0)) then (some (0, false)) else ((Zbw.f k (wrap64 (a0 + a1))).bind fun bt270 => (some (bt270.1, bt270.2)))) else ((Zbw.f k (wrap64 (a0 + a1))).bind fun bt272 => (some (bt272.1, bt272.2))))) else (if a0 < 0 then (if a1 < (wrap64 ((-4611686018427387904) - a0)) then (some (0, false)) else ((Zbw.f k (wrap64 (a0 + a1))).bind fun bt274 => (some (bt274.1, bt274.2)))) else ((Zbw.f k (wrap64 (a0 + a1))).bind fun bt276 => (some (bt276.1, bt276.2))))) = some (r1, r2) := by rw [if_pos rfl] at H; exact H
 clear H
 have H := H1
 clear H1
 by_cases c5 : a0 > 0
 rotate_left
 ·rw [if_neg c5] at H
  have c5b0 : decide (0 < a0) = false := decide_eq_false c5
  clear c5
  by_cases c25 : a0 < 0
  rotate_left
  ·rw [if_neg c25] at H
   have c25b0 : decide (a0 < 0) = false := decide_eq_false c25
   clear c25
   replace H := Option.bind_eq_some_iff.mp H
   obtain ⟨⟨t276, t277⟩, A350, H⟩ := H
   replace H : (some (t276, t277)) = some (r1, r2) := H
   have A35 := Za.mk A350
   clear A350
   simp only [Option.some.injEq, Prod.mk.injEq] at H
   obtain ⟨rfl, rfl⟩ := H
   go_enter Try.func74, Try.ntmps74
   go_wp2_with (first | ((with_reducible refine Zax (N := 8) rfl ?_); refine Kd.Zc9 (Kd.int .i64) _ 3 ?hg (N := 8) ?hd (xs := ([a0, a1] : List Int)) (inner := [.int .i64 a0, .int .i64 a1]) (ok := fun _ => True) (okp := fun _ => True) ?hr ?hp (fun _ hk => hk) trivial (Below.refl _ _) (Nat.le_refl _) (by simp) ?_; (case hd => rfl); (case hg => rfl); (case hr => first | (go_simp; done) | (go_simp; rfl)); (case hp => exact (Reps.one (show Kd.M (Kd.int .i64) _ _ _ a0 [.int .i64 a0] from rfl) (Reps.one (show Kd.M (Kd.int .i64) _ _ _ a1 [.int .i64 a1] from rfl) (Reps.none _ _)))); intro v267 w36 ho37 hb hg_ hnew_; clear hg_ hnew_; (first | rw [← Ny266.out] at ho37 | (simp only [Int.reduceToNat] at ho37; rw [← Ny266.out] at ho37)); have n0_ := Za.mk (Kd.Zbp ho37 (Zan (by repeat (first | (with_reducible first | exact HB.out | apply Zab | apply Zaa | apply Zad) | exact HB.out)))); have n1_ := Za.mk (Zaf (by repeat (first | (with_reducible first | exact HB.out | apply Zab | apply Zaa | apply Zad) | exact HB.out)) hb); clear HB; have HO268 := n0_; have HB := n1_; clear n0_ n1_; clear hb ho37; obtain ⟨Ao38, co38, eo38⟩ := Kd.Za9 HO268.out; subst eo38) | ((with_reducible refine Zay (f := 94) rfl ?_); refine Zbu (some 9) rfl rfl Try.func94 (by kernel_rfl) rfl #[.slice Ao38 y266.length co38] rfl (by (try simp only [List.map_toArray, List.map_cons, List.map_nil]); first | done | rfl | (simp only [List.length_drop, List.length_take]; rfl)) ?_; (with_reducible refine (Zbe.calls k _ _ y266 true _ ?side1 ?side2 A3.out).mono ?_); (case side1 => repeat (first | exact (Kd.Za0 HO268.out).2.2 | (with_reducible refine Kd.C_alloc ?_ _) | (with_reducible refine Kd.Zaw ?_ _) | (with_reducible refine Kd.C_drew ?_))); (case side2 => exact (Kd.Za0 HO268.out).2.1); rintro e w' ⟨rfl, ⟨nd, rfl⟩⟩; refine ⟨_, rfl, ?_⟩) | ((with_reducible refine Zay (f := 97) rfl ?_); refine Zbu (some 34) rfl rfl Try.func97 (by kernel_rfl) rfl #[.int .i64 (wrap64 (a0 + a1))] rfl (by (try simp only [List.map_toArray, List.map_cons, List.map_nil]); first | done | rfl | (simp only [List.length_drop, List.length_take]; rfl)) ?_; (with_reducible refine (Zbw.calls k (wrap64 (a0 + a1)) t276 t277 _ A35.out).mono ?_); rintro e w39 ⟨rfl, hb⟩; refine ⟨_, rfl, ?_⟩; have n1_ := Za.mk (Zaf (by repeat (first | (with_reducible first | exact HB.out | apply Zab | apply Zaa | apply Zad) | exact HB.out)) hb); clear HO268; clear HB; have HB := n1_; clear n1_; (try clear hb); (try clear hb2); (try clear hk); (try clear hi)))
   go_ret2
   exact ⟨by first | rfl | (simp [Zar, Zas] <;> rfl) | (simp [*, Zar, Zas] <;> rfl), by repeat (first | (with_reducible first | exact HB.out | apply Zab | apply Zaa | apply Zad) | exact HB.out)⟩
  rw [if_pos c25] at H
  have c25b0 : decide (a0 < 0) = true := decide_eq_true c25
  clear c25
  by_cases c26 : a1 < (wrap64 ((-4611686018427387904) - a0))
  ·rw [if_pos c26] at H
   have c26b0 : decide (a1 < (wrap64 ((-4611686018427387904) - a0))) = true := decide_eq_true c26
   clear c26
   simp only [Option.some.injEq, Prod.mk.injEq] at H
   obtain ⟨rfl, rfl⟩ := H
   go_enter Try.func74, Try.ntmps74
   go_wp2_with (first | ((with_reducible refine Zax (N := 8) rfl ?_); refine Kd.Zc9 (Kd.int .i64) _ 3 ?hg (N := 8) ?hd (xs := ([a0, a1] : List Int)) (inner := [.int .i64 a0, .int .i64 a1]) (ok := fun _ => True) (okp := fun _ => True) ?hr ?hp (fun _ hk => hk) trivial (Below.refl _ _) (Nat.le_refl _) (by simp) ?_; (case hd => rfl); (case hg => rfl); (case hr => first | (go_simp; done) | (go_simp; rfl)); (case hp => exact (Reps.one (show Kd.M (Kd.int .i64) _ _ _ a0 [.int .i64 a0] from rfl) (Reps.one (show Kd.M (Kd.int .i64) _ _ _ a1 [.int .i64 a1] from rfl) (Reps.none _ _)))); intro v267 w27 ho28 hb hg_ hnew_; clear hg_ hnew_; (first | rw [← Ny266.out] at ho28 | (simp only [Int.reduceToNat] at ho28; rw [← Ny266.out] at ho28)); have n0_ := Za.mk (Kd.Zbp ho28 (Zan (by repeat (first | (with_reducible first | exact HB.out | apply Zab | apply Zaa | apply Zad) | exact HB.out)))); have n1_ := Za.mk (Zaf (by repeat (first | (with_reducible first | exact HB.out | apply Zab | apply Zaa | apply Zad) | exact HB.out)) hb); clear HB; have HO268 := n0_; have HB := n1_; clear n0_ n1_; clear hb ho28; obtain ⟨Ao29, co29, eo29⟩ := Kd.Za9 HO268.out; subst eo29) | ((with_reducible refine Zay (f := 94) rfl ?_); refine Zbu (some 9) rfl rfl Try.func94 (by kernel_rfl) rfl #[.slice Ao29 y266.length co29] rfl (by (try simp only [List.map_toArray, List.map_cons, List.map_nil]); first | done | rfl | (simp only [List.length_drop, List.length_take]; rfl)) ?_; (with_reducible refine (Zbe.calls k _ _ y266 true _ ?side1 ?side2 A3.out).mono ?_); (case side1 => repeat (first | exact (Kd.Za0 HO268.out).2.2 | (with_reducible refine Kd.C_alloc ?_ _) | (with_reducible refine Kd.Zaw ?_ _) | (with_reducible refine Kd.C_drew ?_))); (case side2 => exact (Kd.Za0 HO268.out).2.1); rintro e w' ⟨rfl, ⟨nd, rfl⟩⟩; refine ⟨_, rfl, ?_⟩))
   go_ret2
   exact ⟨by first | rfl | (simp [Zar, Zas] <;> rfl) | (simp [*, Zar, Zas] <;> rfl), by repeat (first | (with_reducible first | exact HB.out | apply Zab | apply Zaa | apply Zad) | exact HB.out)⟩
  rw [if_neg c26] at H
  have c26b0 : decide (a1 < (wrap64 ((-4611686018427387904) - a0))) = false := decide_eq_false c26
  clear c26
  replace H := Option.bind_eq_some_iff.mp H
  obtain ⟨⟨t274, t275⟩, A300, H⟩ := H
  replace H : (some (t274, t275)) = some (r1, r2) := H
  have A30 := Za.mk A300
  clear A300
  simp only [Option.some.injEq, Prod.mk.injEq] at H
  obtain ⟨rfl, rfl⟩ := H
  go_enter Try.func74, Try.ntmps74
  go_wp2_with (first | ((with_reducible refine Zax (N := 8) rfl ?_); refine Kd.Zc9 (Kd.int .i64) _ 3 ?hg (N := 8) ?hd (xs := ([a0, a1] : List Int)) (inner := [.int .i64 a0, .int .i64 a1]) (ok := fun _ => True) (okp := fun _ => True) ?hr ?hp (fun _ hk => hk) trivial (Below.refl _ _) (Nat.le_refl _) (by simp) ?_; (case hd => rfl); (case hg => rfl); (case hr => first | (go_simp; done) | (go_simp; rfl)); (case hp => exact (Reps.one (show Kd.M (Kd.int .i64) _ _ _ a0 [.int .i64 a0] from rfl) (Reps.one (show Kd.M (Kd.int .i64) _ _ _ a1 [.int .i64 a1] from rfl) (Reps.none _ _)))); intro v267 w31 ho32 hb hg_ hnew_; clear hg_ hnew_; (first | rw [← Ny266.out] at ho32 | (simp only [Int.reduceToNat] at ho32; rw [← Ny266.out] at ho32)); have n0_ := Za.mk (Kd.Zbp ho32 (Zan (by repeat (first | (with_reducible first | exact HB.out | apply Zab | apply Zaa | apply Zad) | exact HB.out)))); have n1_ := Za.mk (Zaf (by repeat (first | (with_reducible first | exact HB.out | apply Zab | apply Zaa | apply Zad) | exact HB.out)) hb); clear HB; have HO268 := n0_; have HB := n1_; clear n0_ n1_; clear hb ho32; obtain ⟨Ao33, co33, eo33⟩ := Kd.Za9 HO268.out; subst eo33) | ((with_reducible refine Zay (f := 94) rfl ?_); refine Zbu (some 9) rfl rfl Try.func94 (by kernel_rfl) rfl #[.slice Ao33 y266.length co33] rfl (by (try simp only [List.map_toArray, List.map_cons, List.map_nil]); first | done | rfl | (simp only [List.length_drop, List.length_take]; rfl)) ?_; (with_reducible refine (Zbe.calls k _ _ y266 true _ ?side1 ?side2 A3.out).mono ?_); (case side1 => repeat (first | exact (Kd.Za0 HO268.out).2.2 | (with_reducible refine Kd.C_alloc ?_ _) | (with_reducible refine Kd.Zaw ?_ _) | (with_reducible refine Kd.C_drew ?_))); (case side2 => exact (Kd.Za0 HO268.out).2.1); rintro e w' ⟨rfl, ⟨nd, rfl⟩⟩; refine ⟨_, rfl, ?_⟩) | ((with_reducible refine Zay (f := 97) rfl ?_); refine Zbu (some 34) rfl rfl Try.func97 (by kernel_rfl) rfl #[.int .i64 (wrap64 (a0 + a1))] rfl (by (try simp only [List.map_toArray, List.map_cons, List.map_nil]); first | done | rfl | (simp only [List.length_drop, List.length_take]; rfl)) ?_; (with_reducible refine (Zbw.calls k (wrap64 (a0 + a1)) t274 t275 _ A30.out).mono ?_); rintro e w34 ⟨rfl, hb⟩; refine ⟨_, rfl, ?_⟩; have n1_ := Za.mk (Zaf (by repeat (first | (with_reducible first | exact HB.out | apply Zab | apply Zaa | apply Zad) | exact HB.out)) hb); clear HO268; clear HB; have HB := n1_; clear n1_; (try clear hb); (try clear hb2); (try clear hk); (try clear hi)))
  go_ret2
  exact ⟨by first | rfl | (simp [Zar, Zas] <;> rfl) | (simp [*, Zar, Zas] <;> rfl), by repeat (first | (with_reducible first | exact HB.out | apply Zab | apply Zaa | apply Zad) | exact HB.out)⟩
 rw [if_pos c5] at H
 have c5b0 : decide (0 < a0) = true := decide_eq_true c5
 clear c5
 by_cases c6 : a1 > (wrap64 (4611686018427387904 - a0))
 ·rw [if_pos c6] at H
  have c6b0 : decide ((wrap64 (4611686018427387904 - a0)) < a1) = true := decide_eq_true c6
  clear c6
  simp only [Option.some.injEq, Prod.mk.injEq] at H
  obtain ⟨rfl, rfl⟩ := H
  go_enter Try.func74, Try.ntmps74
  go_wp2_with (first | ((with_reducible refine Zax (N := 8) rfl ?_); refine Kd.Zc9 (Kd.int .i64) _ 3 ?hg (N := 8) ?hd (xs := ([a0, a1] : List Int)) (inner := [.int .i64 a0, .int .i64 a1]) (ok := fun _ => True) (okp := fun _ => True) ?hr ?hp (fun _ hk => hk) trivial (Below.refl _ _) (Nat.le_refl _) (by simp) ?_; (case hd => rfl); (case hg => rfl); (case hr => first | (go_simp; done) | (go_simp; rfl)); (case hp => exact (Reps.one (show Kd.M (Kd.int .i64) _ _ _ a0 [.int .i64 a0] from rfl) (Reps.one (show Kd.M (Kd.int .i64) _ _ _ a1 [.int .i64 a1] from rfl) (Reps.none _ _)))); intro v267 w7 ho8 hb hg_ hnew_; clear hg_ hnew_; (first | rw [← Ny266.out] at ho8 | (simp only [Int.reduceToNat] at ho8; rw [← Ny266.out] at ho8)); have n0_ := Za.mk (Kd.Zbp ho8 (Zan (by repeat (first | (with_reducible first | exact HB.out | apply Zab | apply Zaa | apply Zad) | exact HB.out)))); have n1_ := Za.mk (Zaf (by repeat (first | (with_reducible first | exact HB.out | apply Zab | apply Zaa | apply Zad) | exact HB.out)) hb); clear HB; have HO268 := n0_; have HB := n1_; clear n0_ n1_; clear hb ho8; obtain ⟨Ao9, co9, eo9⟩ := Kd.Za9 HO268.out; subst eo9) | ((with_reducible refine Zay (f := 94) rfl ?_); refine Zbu (some 9) rfl rfl Try.func94 (by kernel_rfl) rfl #[.slice Ao9 y266.length co9] rfl (by (try simp only [List.map_toArray, List.map_cons, List.map_nil]); first | done | rfl | (simp only [List.length_drop, List.length_take]; rfl)) ?_; (with_reducible refine (Zbe.calls k _ _ y266 true _ ?side1 ?side2 A3.out).mono ?_); (case side1 => repeat (first | exact (Kd.Za0 HO268.out).2.2 | (with_reducible refine Kd.C_alloc ?_ _) | (with_reducible refine Kd.Zaw ?_ _) | (with_reducible refine Kd.C_drew ?_))); (case side2 => exact (Kd.Za0 HO268.out).2.1); rintro e w' ⟨rfl, ⟨nd, rfl⟩⟩; refine ⟨_, rfl, ?_⟩))
  go_ret2
  exact ⟨by first | rfl | (simp [Zar, Zas] <;> rfl) | (simp [*, Zar, Zas] <;> rfl), by repeat (first | (with_reducible first | exact HB.out | apply Zab | apply Zaa | apply Zad) | exact HB.out)⟩
 rw [if_neg c6] at H
 have c6b0 : decide ((wrap64 (4611686018427387904 - a0)) < a1) = false := decide_eq_false c6
 clear c6
 by_cases c10 : a0 < 0
 rotate_left
 ·rw [if_neg c10] at H
  have c10b0 : decide (a0 < 0) = false := decide_eq_false c10
  clear c10
  replace H := Option.bind_eq_some_iff.mp H
  obtain ⟨⟨t272, t273⟩, A200, H⟩ := H
  replace H : (some (t272, t273)) = some (r1, r2) := H
  have A20 := Za.mk A200
  clear A200
  simp only [Option.some.injEq, Prod.mk.injEq] at H
  obtain ⟨rfl, rfl⟩ := H
  go_enter Try.func74, Try.ntmps74
  go_wp2_with (first | ((with_reducible refine Zax (N := 8) rfl ?_); refine Kd.Zc9 (Kd.int .i64) _ 3 ?hg (N := 8) ?hd (xs := ([a0, a1] : List Int)) (inner := [.int .i64 a0, .int .i64 a1]) (ok := fun _ => True) (okp := fun _ => True) ?hr ?hp (fun _ hk => hk) trivial (Below.refl _ _) (Nat.le_refl _) (by simp) ?_; (case hd => rfl); (case hg => rfl); (case hr => first | (go_simp; done) | (go_simp; rfl)); (case hp => exact (Reps.one (show Kd.M (Kd.int .i64) _ _ _ a0 [.int .i64 a0] from rfl) (Reps.one (show Kd.M (Kd.int .i64) _ _ _ a1 [.int .i64 a1] from rfl) (Reps.none _ _)))); intro v267 w21 ho22 hb hg_ hnew_; clear hg_ hnew_; (first | rw [← Ny266.out] at ho22 | (simp only [Int.reduceToNat] at ho22; rw [← Ny266.out] at ho22)); have n0_ := Za.mk (Kd.Zbp ho22 (Zan (by repeat (first | (with_reducible first | exact HB.out | apply Zab | apply Zaa | apply Zad) | exact HB.out)))); have n1_ := Za.mk (Zaf (by repeat (first | (with_reducible first | exact HB.out | apply Zab | apply Zaa | apply Zad) | exact HB.out)) hb); clear HB; have HO268 := n0_; have HB := n1_; clear n0_ n1_; clear hb ho22; obtain ⟨Ao23, co23, eo23⟩ := Kd.Za9 HO268.out; subst eo23) | ((with_reducible refine Zay (f := 94) rfl ?_); refine Zbu (some 9) rfl rfl Try.func94 (by kernel_rfl) rfl #[.slice Ao23 y266.length co23] rfl (by (try simp only [List.map_toArray, List.map_cons, List.map_nil]); first | done | rfl | (simp only [List.length_drop, List.length_take]; rfl)) ?_; (with_reducible refine (Zbe.calls k _ _ y266 true _ ?side1 ?side2 A3.out).mono ?_); (case side1 => repeat (first | exact (Kd.Za0 HO268.out).2.2 | (with_reducible refine Kd.C_alloc ?_ _) | (with_reducible refine Kd.Zaw ?_ _) | (with_reducible refine Kd.C_drew ?_))); (case side2 => exact (Kd.Za0 HO268.out).2.1); rintro e w' ⟨rfl, ⟨nd, rfl⟩⟩; refine ⟨_, rfl, ?_⟩) | ((with_reducible refine Zay (f := 97) rfl ?_); refine Zbu (some 34) rfl rfl Try.func97 (by kernel_rfl) rfl #[.int .i64 (wrap64 (a0 + a1))] rfl (by (try simp only [List.map_toArray, List.map_cons, List.map_nil]); first | done | rfl | (simp only [List.length_drop, List.length_take]; rfl)) ?_; (with_reducible refine (Zbw.calls k (wrap64 (a0 + a1)) t272 t273 _ A20.out).mono ?_); rintro e w24 ⟨rfl, hb⟩; refine ⟨_, rfl, ?_⟩; have n1_ := Za.mk (Zaf (by repeat (first | (with_reducible first | exact HB.out | apply Zab | apply Zaa | apply Zad) | exact HB.out)) hb); clear HO268; clear HB; have HB := n1_; clear n1_; (try clear hb); (try clear hb2); (try clear hk); (try clear hi)))
  go_ret2
  exact ⟨by first | rfl | (simp [Zar, Zas] <;> rfl) | (simp [*, Zar, Zas] <;> rfl), by repeat (first | (with_reducible first | exact HB.out | apply Zab | apply Zaa | apply Zad) | exact HB.out)⟩
 rw [if_pos c10] at H
 have c10b0 : decide (a0 < 0) = true := decide_eq_true c10
 clear c10
 by_cases c11 : a1 < (wrap64 ((-4611686018427387904) - a0))
 ·rw [if_pos c11] at H
  have c11b0 : decide (a1 < (wrap64 ((-4611686018427387904) - a0))) = true := decide_eq_true c11
  clear c11
  simp only [Option.some.injEq, Prod.mk.injEq] at H
  obtain ⟨rfl, rfl⟩ := H
  go_enter Try.func74, Try.ntmps74
  go_wp2_with (first | ((with_reducible refine Zax (N := 8) rfl ?_); refine Kd.Zc9 (Kd.int .i64) _ 3 ?hg (N := 8) ?hd (xs := ([a0, a1] : List Int)) (inner := [.int .i64 a0, .int .i64 a1]) (ok := fun _ => True) (okp := fun _ => True) ?hr ?hp (fun _ hk => hk) trivial (Below.refl _ _) (Nat.le_refl _) (by simp) ?_; (case hd => rfl); (case hg => rfl); (case hr => first | (go_simp; done) | (go_simp; rfl)); (case hp => exact (Reps.one (show Kd.M (Kd.int .i64) _ _ _ a0 [.int .i64 a0] from rfl) (Reps.one (show Kd.M (Kd.int .i64) _ _ _ a1 [.int .i64 a1] from rfl) (Reps.none _ _)))); intro v267 w12 ho13 hb hg_ hnew_; clear hg_ hnew_; (first | rw [← Ny266.out] at ho13 | (simp only [Int.reduceToNat] at ho13; rw [← Ny266.out] at ho13)); have n0_ := Za.mk (Kd.Zbp ho13 (Zan (by repeat (first | (with_reducible first | exact HB.out | apply Zab | apply Zaa | apply Zad) | exact HB.out)))); have n1_ := Za.mk (Zaf (by repeat (first | (with_reducible first | exact HB.out | apply Zab | apply Zaa | apply Zad) | exact HB.out)) hb); clear HB; have HO268 := n0_; have HB := n1_; clear n0_ n1_; clear hb ho13; obtain ⟨Ao14, co14, eo14⟩ := Kd.Za9 HO268.out; subst eo14) | ((with_reducible refine Zay (f := 94) rfl ?_); refine Zbu (some 9) rfl rfl Try.func94 (by kernel_rfl) rfl #[.slice Ao14 y266.length co14] rfl (by (try simp only [List.map_toArray, List.map_cons, List.map_nil]); first | done | rfl | (simp only [List.length_drop, List.length_take]; rfl)) ?_; (with_reducible refine (Zbe.calls k _ _ y266 true _ ?side1 ?side2 A3.out).mono ?_); (case side1 => repeat (first | exact (Kd.Za0 HO268.out).2.2 | (with_reducible refine Kd.C_alloc ?_ _) | (with_reducible refine Kd.Zaw ?_ _) | (with_reducible refine Kd.C_drew ?_))); (case side2 => exact (Kd.Za0 HO268.out).2.1); rintro e w' ⟨rfl, ⟨nd, rfl⟩⟩; refine ⟨_, rfl, ?_⟩))
  go_ret2
  exact ⟨by first | rfl | (simp [Zar, Zas] <;> rfl) | (simp [*, Zar, Zas] <;> rfl), by repeat (first | (with_reducible first | exact HB.out | apply Zab | apply Zaa | apply Zad) | exact HB.out)⟩
 rw [if_neg c11] at H
 have c11b0 : decide (a1 < (wrap64 ((-4611686018427387904) - a0))) = false := decide_eq_false c11
 clear c11
 replace H := Option.bind_eq_some_iff.mp H
 obtain ⟨⟨t270, t271⟩, A150, H⟩ := H
 replace H : (some (t270, t271)) = some (r1, r2) := H
 have A15 := Za.mk A150
 clear A150
 simp only [Option.some.injEq, Prod.mk.injEq] at H
 obtain ⟨rfl, rfl⟩ := H
 go_enter Try.func74, Try.ntmps74
 go_wp2_with (first | ((with_reducible refine Zax (N := 8) rfl ?_); refine Kd.Zc9 (Kd.int .i64) _ 3 ?hg (N := 8) ?hd (xs := ([a0, a1] : List Int)) (inner := [.int .i64 a0, .int .i64 a1]) (ok := fun _ => True) (okp := fun _ => True) ?hr ?hp (fun _ hk => hk) trivial (Below.refl _ _) (Nat.le_refl _) (by simp) ?_; (case hd => rfl); (case hg => rfl); (case hr => first | (go_simp; done) | (go_simp; rfl)); (case hp => exact (Reps.one (show Kd.M (Kd.int .i64) _ _ _ a0 [.int .i64 a0] from rfl) (Reps.one (show Kd.M (Kd.int .i64) _ _ _ a1 [.int .i64 a1] from rfl) (Reps.none _ _)))); intro v267 w16 ho17 hb hg_ hnew_; clear hg_ hnew_; (first | rw [← Ny266.out] at ho17 | (simp only [Int.reduceToNat] at ho17; rw [← Ny266.out] at ho17)); have n0_ := Za.mk (Kd.Zbp ho17 (Zan (by repeat (first | (with_reducible first | exact HB.out | apply Zab | apply Zaa | apply Zad) | exact HB.out)))); have n1_ := Za.mk (Zaf (by repeat (first | (with_reducible first | exact HB.out | apply Zab | apply Zaa | apply Zad) | exact HB.out)) hb); clear HB; have HO268 := n0_; have HB := n1_; clear n0_ n1_; clear hb ho17; obtain ⟨Ao18, co18, eo18⟩ := Kd.Za9 HO268.out; subst eo18) | ((with_reducible refine Zay (f := 94) rfl ?_); refine Zbu (some 9) rfl rfl Try.func94 (by kernel_rfl) rfl #[.slice Ao18 y266.length co18] rfl (by (try simp only [List.map_toArray, List.map_cons, List.map_nil]); first | done | rfl | (simp only [List.length_drop, List.length_take]; rfl)) ?_; (with_reducible refine (Zbe.calls k _ _ y266 true _ ?side1 ?side2 A3.out).mono ?_); (case side1 => repeat (first | exact (Kd.Za0 HO268.out).2.2 | (with_reducible refine Kd.C_alloc ?_ _) | (with_reducible refine Kd.Zaw ?_ _) | (with_reducible refine Kd.C_drew ?_))); (case side2 => exact (Kd.Za0 HO268.out).2.1); rintro e w' ⟨rfl, ⟨nd, rfl⟩⟩; refine ⟨_, rfl, ?_⟩) | ((with_reducible refine Zay (f := 97) rfl ?_); refine Zbu (some 34) rfl rfl Try.func97 (by kernel_rfl) rfl #[.int .i64 (wrap64 (a0 + a1))] rfl (by (try simp only [List.map_toArray, List.map_cons, List.map_nil]); first | done | rfl | (simp only [List.length_drop, List.length_take]; rfl)) ?_; (with_reducible refine (Zbw.calls k (wrap64 (a0 + a1)) t270 t271 _ A15.out).mono ?_); rintro e w19 ⟨rfl, hb⟩; refine ⟨_, rfl, ?_⟩; have n1_ := Za.mk (Zaf (by repeat (first | (with_reducible first | exact HB.out | apply Zab | apply Zaa | apply Zad) | exact HB.out)) hb); clear HO268; clear HB; have HB := n1_; clear n1_; (try clear hb); (try clear hb2); (try clear hk); (try clear hi)))
 go_ret2
 exact ⟨by first | rfl | (simp [Zar, Zas] <;> rfl) | (simp [*, Zar, Zas] <;> rfl), by repeat (first | (with_reducible first | exact HB.out | apply Zab | apply Zaa | apply Zad) | exact HB.out)⟩
def Zd5.f (k : Nat) (a0 : Int) (a1 : Int) : Option (Int × Bool) := (Zbe.f k (([a0, a1] : List Int))).bind fun t281 => (if t281 = true then ((Zcg.f k a0 (wrap64 (-a1))).bind fun bt282 => (some (bt282.1, bt282.2))) else (some (0, false)))
set_option maxHeartbeats 8000000 in
set_option maxRecDepth 100000 in
theorem Zd5.calls (k : Nat) (a0 : Int) (a1 : Int) (r1 : Int) (r2 : Bool) (w : World) (h : Zd5.f k a0 a1 = some (r1, r2)) :
  Calls Try.prog 93 #[.int .i64 a0, .int .i64 a1] w fun e w' => e = .returned (.tuple #[.int .i64 r1, .bool r2]) ∧ Below w.heap.size w w' := by
 have HB := Za.mk (Below.refl w.heap.size w)
 have H : ((Zbe.f k (([a0, a1] : List Int))).bind fun t281 => (if t281 = true then ((Zcg.f k a0 (wrap64 (-a1))).bind fun bt282 => (some (bt282.1, bt282.2))) else (some (0, false)))) = some (r1, r2) := h
 clear h
 obtain ⟨y278, hy278⟩ : ∃ y_ : List Int, y_ = (([a0, a1] : List Int)) := ⟨_, rfl⟩
 replace H : ((Zbe.f k y278).bind fun t281 => (if t281 = true then ((Zcg.f k a0 (wrap64 (-a1))).bind fun bt282 => (some (bt282.1, bt282.2))) else (some (0, false)))) = some (r1, r2) := by first | (rw [hy278]; with_reducible exact H) | (have H2_ := (Option.bind_some _ _).symm.trans H; rw [hy278]; with_reducible exact H2_) | (have H2_ := (Option.bind_some _ _).symm.trans H; with_reducible exact H2_) | with_reducible exact H | (rw [hy278]; exact H) | exact H
 have Ny278 := Za.mk hy278
 clear hy278
 replace H := Option.bind_eq_some_iff.mp H
 obtain ⟨t281, A30, H⟩ := H
 replace H : (if t281 = true then ((Zcg.f k a0 (wrap64 (-a1))).bind fun bt282 => (some (bt282.1, bt282.2))) else (some (0, false))) = some (r1, r2) := H
 have A3 := Za.mk A30
 clear A30
 by_cases c4 : t281 = true
 rotate_left
 ·replace c4 := Bool.eq_false_iff.mpr c4
  subst c4
  have H1 : (some (0, false)) = some (r1, r2) := by rw [if_neg (show ¬ (false = true) by decide)] at H; exact H
  clear H
  have H := H1
  clear H1
  simp only [Option.some.injEq, Prod.mk.injEq] at H
  obtain ⟨rfl, rfl⟩ := H
  go_enter Try.func93, Try.ntmps93
  go_wp2_with (first | ((with_reducible refine Zax (N := 8) rfl ?_); refine Kd.Zc9 (Kd.int .i64) _ 3 ?hg (N := 8) ?hd (xs := ([a0, a1] : List Int)) (inner := [.int .i64 a0, .int .i64 a1]) (ok := fun _ => True) (okp := fun _ => True) ?hr ?hp (fun _ hk => hk) trivial (Below.refl _ _) (Nat.le_refl _) (by simp) ?_; (case hd => rfl); (case hg => rfl); (case hr => first | (go_simp; done) | (go_simp; rfl)); (case hp => exact (Reps.one (show Kd.M (Kd.int .i64) _ _ _ a0 [.int .i64 a0] from rfl) (Reps.one (show Kd.M (Kd.int .i64) _ _ _ a1 [.int .i64 a1] from rfl) (Reps.none _ _)))); intro v279 w10 ho11 hb hg_ hnew_; clear hg_ hnew_; (first | rw [← Ny278.out] at ho11 | (simp only [Int.reduceToNat] at ho11; rw [← Ny278.out] at ho11)); have n0_ := Za.mk (Kd.Zbp ho11 (Zan (by repeat (first | (with_reducible first | exact HB.out | apply Zab | apply Zaa | apply Zad) | exact HB.out)))); have n1_ := Za.mk (Zaf (by repeat (first | (with_reducible first | exact HB.out | apply Zab | apply Zaa | apply Zad) | exact HB.out)) hb); clear HB; have HO280 := n0_; have HB := n1_; clear n0_ n1_; clear hb ho11; obtain ⟨Ao12, co12, eo12⟩ := Kd.Za9 HO280.out; subst eo12) | ((with_reducible refine Zay (f := 94) rfl ?_); refine Zbu (some 9) rfl rfl Try.func94 (by kernel_rfl) rfl #[.slice Ao12 y278.length co12] rfl (by (try simp only [List.map_toArray, List.map_cons, List.map_nil]); first | done | rfl | (simp only [List.length_drop, List.length_take]; rfl)) ?_; (with_reducible refine (Zbe.calls k _ _ y278 false _ ?side1 ?side2 A3.out).mono ?_); (case side1 => repeat (first | exact (Kd.Za0 HO280.out).2.2 | (with_reducible refine Kd.C_alloc ?_ _) | (with_reducible refine Kd.Zaw ?_ _) | (with_reducible refine Kd.C_drew ?_))); (case side2 => exact (Kd.Za0 HO280.out).2.1); rintro e w' ⟨rfl, ⟨nd, rfl⟩⟩; refine ⟨_, rfl, ?_⟩))
  go_ret2
  exact ⟨by first | rfl | (simp [Zar, Zas] <;> rfl) | (simp [*, Zar, Zas] <;> rfl), by repeat (first | (with_reducible first | exact HB.out | apply Zab | apply Zaa | apply Zad) | exact HB.out)⟩
 subst c4
 have H1 : ((Zcg.f k a0 (wrap64 (-a1))).bind fun bt282 => (some (bt282.1, bt282.2))) = some (r1, r2) := by rw [if_pos rfl] at H; exact H
 clear H
 have H := H1
 clear H1
 replace H := Option.bind_eq_some_iff.mp H
 obtain ⟨⟨t282, t283⟩, A50, H⟩ := H
 replace H : (some (t282, t283)) = some (r1, r2) := H
 have A5 := Za.mk A50
 clear A50
 simp only [Option.some.injEq, Prod.mk.injEq] at H
 obtain ⟨rfl, rfl⟩ := H
 go_enter Try.func93, Try.ntmps93
 go_wp2_with (first | ((with_reducible refine Zax (N := 8) rfl ?_); refine Kd.Zc9 (Kd.int .i64) _ 3 ?hg (N := 8) ?hd (xs := ([a0, a1] : List Int)) (inner := [.int .i64 a0, .int .i64 a1]) (ok := fun _ => True) (okp := fun _ => True) ?hr ?hp (fun _ hk => hk) trivial (Below.refl _ _) (Nat.le_refl _) (by simp) ?_; (case hd => rfl); (case hg => rfl); (case hr => first | (go_simp; done) | (go_simp; rfl)); (case hp => exact (Reps.one (show Kd.M (Kd.int .i64) _ _ _ a0 [.int .i64 a0] from rfl) (Reps.one (show Kd.M (Kd.int .i64) _ _ _ a1 [.int .i64 a1] from rfl) (Reps.none _ _)))); intro v279 w6 ho7 hb hg_ hnew_; clear hg_ hnew_; (first | rw [← Ny278.out] at ho7 | (simp only [Int.reduceToNat] at ho7; rw [← Ny278.out] at ho7)); have n0_ := Za.mk (Kd.Zbp ho7 (Zan (by repeat (first | (with_reducible first | exact HB.out | apply Zab | apply Zaa | apply Zad) | exact HB.out)))); have n1_ := Za.mk (Zaf (by repeat (first | (with_reducible first | exact HB.out | apply Zab | apply Zaa | apply Zad) | exact HB.out)) hb); clear HB; have HO280 := n0_; have HB := n1_; clear n0_ n1_; clear hb ho7; obtain ⟨Ao8, co8, eo8⟩ := Kd.Za9 HO280.out; subst eo8) | ((with_reducible refine Zay (f := 94) rfl ?_); refine Zbu (some 9) rfl rfl Try.func94 (by kernel_rfl) rfl #[.slice Ao8 y278.length co8] rfl (by (try simp only [List.map_toArray, List.map_cons, List.map_nil]); first | done | rfl | (simp only [List.length_drop, List.length_take]; rfl)) ?_; (with_reducible refine (Zbe.calls k _ _ y278 true _ ?side1 ?side2 A3.out).mono ?_); (case side1 => repeat (first | exact (Kd.Za0 HO280.out).2.2 | (with_reducible refine Kd.C_alloc ?_ _) | (with_reducible refine Kd.Zaw ?_ _) | (with_reducible refine Kd.C_drew ?_))); (case side2 => exact (Kd.Za0 HO280.out).2.1); rintro e w' ⟨rfl, ⟨nd, rfl⟩⟩; refine ⟨_, rfl, ?_⟩) | ((with_reducible refine Zay (f := 74) rfl ?_); refine Zbu (some 14) rfl rfl Try.func74 (by kernel_rfl) rfl #[.int .i64 a0, .int .i64 (wrap64 (-a1))] rfl (by (try simp only [List.map_toArray, List.map_cons, List.map_nil]); first | done | rfl | (simp only [List.length_drop, List.length_take]; rfl)) ?_; (with_reducible refine (Zcg.calls k a0 (wrap64 (-a1)) t282 t283 _ A5.out).mono ?_); rintro e w9 ⟨rfl, hb⟩; refine ⟨_, rfl, ?_⟩; have n1_ := Za.mk (Zaf (by repeat (first | (with_reducible first | exact HB.out | apply Zab | apply Zaa | apply Zad) | exact HB.out)) hb); clear HO280; clear HB; have HB := n1_; clear n1_; (try clear hb); (try clear hb2); (try clear hk); (try clear hi)))
 go_ret2
 exact ⟨by first | rfl | (simp [Zar, Zas] <;> rfl) | (simp [*, Zar, Zas] <;> rfl), by repeat (first | (with_reducible first | exact HB.out | apply Zab | apply Zaa | apply Zad) | exact HB.out)⟩
def Zcx.f (k : Nat) (a0 : Int) : Option (Int × Bool) := if a0 < 0 then ((Zd5.f k 0 a0).bind fun bt284 => (some (bt284.1, bt284.2))) else ((Zcg.f k 0 a0).bind fun bt286 => (some (bt286.1, bt286.2)))
set_option maxHeartbeats 8000000 in
set_option maxRecDepth 100000 in
theorem Zcx.calls (k : Nat) (a0 : Int) (r1 : Int) (r2 : Bool) (w : World) (h : Zcx.f k a0 = some (r1, r2)) :
  Calls Try.prog 72 #[.int .i64 a0] w fun e w' => e = .returned (.tuple #[.int .i64 r1, .bool r2]) ∧ Below w.heap.size w w' := by
 have HB := Za.mk (Below.refl w.heap.size w)
 have H : (if a0 < 0 then ((Zd5.f k 0 a0).bind fun bt284 => (some (bt284.1, bt284.2))) else ((Zcg.f k 0 a0).bind fun bt286 => (some (bt286.1, bt286.2)))) = some (r1, r2) := h
 clear h
 by_cases c2 : a0 < 0
 ·rw [if_pos c2] at H
  have c2b0 : decide (a0 < 0) = true := decide_eq_true c2
  clear c2
  replace H := Option.bind_eq_some_iff.mp H
  obtain ⟨⟨t284, t285⟩, A30, H⟩ := H
  replace H : (some (t284, t285)) = some (r1, r2) := H
  have A3 := Za.mk A30
  clear A30
  simp only [Option.some.injEq, Prod.mk.injEq] at H
  obtain ⟨rfl, rfl⟩ := H
  go_enter Try.func72, Try.ntmps72
  go_wp2_with (first | ((with_reducible refine Zay (f := 93) rfl ?_); refine Zbu (some 7) rfl rfl Try.func93 (by kernel_rfl) rfl #[.int .i64 0, .int .i64 a0] rfl (by (try simp only [List.map_toArray, List.map_cons, List.map_nil]); first | done | rfl | (simp only [List.length_drop, List.length_take]; rfl)) ?_; (with_reducible refine (Zd5.calls k 0 a0 t284 t285 _ A3.out).mono ?_); rintro e w4 ⟨rfl, hb⟩; refine ⟨_, rfl, ?_⟩; have n0_ := Za.mk (Zaf (by repeat (first | (with_reducible first | exact HB.out | apply Zab | apply Zaa | apply Zad) | exact HB.out)) hb); clear HB; have HB := n0_; clear n0_; (try clear hb); (try clear hb2); (try clear hk); (try clear hi)))
  go_ret2
  exact ⟨by first | rfl | (simp [Zar, Zas] <;> rfl) | (simp [*, Zar, Zas] <;> rfl), by repeat (first | (with_reducible first | exact HB.out | apply Zab | apply Zaa | apply Zad) | exact HB.out)⟩
 rw [if_neg c2] at H
 have c2b0 : decide (a0 < 0) = false := decide_eq_false c2
 clear c2
 replace H := Option.bind_eq_some_iff.mp H
 obtain ⟨⟨t286, t287⟩, A50, H⟩ := H
 replace H : (some (t286, t287)) = some (r1, r2) := H
 have A5 := Za.mk A50
 clear A50
 simp only [Option.some.injEq, Prod.mk.injEq] at H
 obtain ⟨rfl, rfl⟩ := H
 go_enter Try.func72, Try.ntmps72
 go_wp2_with (first | ((with_reducible refine Zay (f := 74) rfl ?_); refine Zbu (some 11) rfl rfl Try.func74 (by kernel_rfl) rfl #[.int .i64 0, .int .i64 a0] rfl (by (try simp only [List.map_toArray, List.map_cons, List.map_nil]); first | done | rfl | (simp only [List.length_drop, List.length_take]; rfl)) ?_; (with_reducible refine (Zcg.calls k 0 a0 t286 t287 _ A5.out).mono ?_); rintro e w6 ⟨rfl, hb⟩; refine ⟨_, rfl, ?_⟩; have n0_ := Za.mk (Zaf (by repeat (first | (with_reducible first | exact HB.out | apply Zab | apply Zaa | apply Zad) | exact HB.out)) hb); clear HB; have HB := n0_; clear n0_; (try clear hb); (try clear hb2); (try clear hk); (try clear hi)))
 go_ret2
 exact ⟨by first | rfl | (simp [Zar, Zas] <;> rfl) | (simp [*, Zar, Zas] <;> rfl), by repeat (first | (with_reducible first | exact HB.out | apply Zab | apply Zaa | apply Zad) | exact HB.out)⟩
def bits_Mul64.f (a0 : Int) (a1 : Int) : Option (Int × Int) := some (IntKind.u64.wrap ((IntKind.u64.wrap ((IntKind.u64.wrap ((a0 / 4294967296) * (a1 / 4294967296))) + ((IntKind.u64.wrap ((IntKind.u64.wrap ((a0 / 4294967296) * (Go.bits .and .u64 a1 4294967295))) + ((IntKind.u64.wrap ((Go.bits .and .u64 a0 4294967295) * (Go.bits .and .u64 a1 4294967295))) / 4294967296))) / 4294967296))) + ((IntKind.u64.wrap ((Go.bits .and .u64 (IntKind.u64.wrap ((IntKind.u64.wrap ((a0 / 4294967296) * (Go.bits .and .u64 a1 4294967295))) + ((IntKind.u64.wrap ((Go.bits .and .u64 a0 4294967295) * (Go.bits .and .u64 a1 4294967295))) / 4294967296))) 4294967295) + (IntKind.u64.wrap ((Go.bits .and .u64 a0 4294967295) * (a1 / 4294967296))))) / 4294967296)), IntKind.u64.wrap (a0 * a1))
set_option maxHeartbeats 8000000 in
set_option maxRecDepth 100000 in
theorem bits_Mul64.calls (a0 : Int) (a1 : Int) (r1 : Int) (r2 : Int) (w : World) (h : bits_Mul64.f a0 a1 = some (r1, r2)) :
  Calls Try.prog 95 #[.int .u64 a0, .int .u64 a1] w fun e w' => e = .returned (.tuple #[.int .u64 r1, .int .u64 r2]) ∧ Zbf w w' := by
 have H : (some (IntKind.u64.wrap ((IntKind.u64.wrap ((IntKind.u64.wrap ((a0 / 4294967296) * (a1 / 4294967296))) + ((IntKind.u64.wrap ((IntKind.u64.wrap ((a0 / 4294967296) * (Go.bits .and .u64 a1 4294967295))) + ((IntKind.u64.wrap ((Go.bits .and .u64 a0 4294967295) * (Go.bits .and .u64 a1 4294967295))) / 4294967296))) / 4294967296))) + ((IntKind.u64.wrap ((Go.bits .and .u64 (IntKind.u64.wrap ((IntKind.u64.wrap ((a0 / 4294967296) * (Go.bits .and .u64 a1 4294967295))) + ((IntKind.u64.wrap ((Go.bits .and .u64 a0 4294967295) * (Go.bits .and .u64 a1 4294967295))) / 4294967296))) 4294967295) + (IntKind.u64.wrap ((Go.bits .and .u64 a0 4294967295) * (a1 / 4294967296))))) / 4294967296)), IntKind.u64.wrap (a0 * a1))) = some (r1, r2) := h
 clear h
 simp only [Option.some.injEq, Prod.mk.injEq] at H
 obtain ⟨rfl, rfl⟩ := H
 go_enter Try.func95, Try.ntmps95
 go_wp2
 go_ret2
 exact ⟨by first | rfl | (simp; done) | (simp [*]; done), by repeat (first | exact Zbf.refl _ | apply Zbf.step)⟩
def Zca.f (a0 : Int) : Option (Int) := if a0 < 0 then (some (IntKind.u64.wrap (-(IntKind.u64.wrap (a0))))) else (some (IntKind.u64.wrap (a0)))
set_option maxHeartbeats 8000000 in
set_option maxRecDepth 100000 in
theorem Zca.calls (a0 : Int) (r : Int) (w : World) (h : Zca.f a0 = some r) :
  Calls Try.prog 96 #[.int .i64 a0] w fun e w' => e = .returned (.int .u64 r) ∧ Zbf w w' := by
 have H : (if a0 < 0 then (some (IntKind.u64.wrap (-(IntKind.u64.wrap (a0))))) else (some (IntKind.u64.wrap (a0)))) = some r := h
 clear h
 by_cases c2 : a0 < 0
 ·rw [if_pos c2] at H
  have c2b0 : decide (a0 < 0) = true := decide_eq_true c2
  clear c2
  obtain rfl := Option.some.inj H
  go_enter Try.func96, Try.ntmps96
  go_wp2
  go_ret
  exact ⟨by first | rfl | (simp; done) | (simp [*]; done), by repeat (first | exact Zbf.refl _ | apply Zbf.step)⟩
 rw [if_neg c2] at H
 have c2b0 : decide (a0 < 0) = false := decide_eq_false c2
 clear c2
 obtain rfl := Option.some.inj H
 go_enter Try.func96, Try.ntmps96
 go_wp2
 go_ret
 exact ⟨by first | rfl | (simp; done) | (simp [*]; done), by repeat (first | exact Zbf.refl _ | apply Zbf.step)⟩
end Go.Proofs.Ytkgjaklnbgdmiaa.P
