/- Proved: the statement DomChecks. Conditions: none but those of the statement. -/
import Derived.Test.YtklanjkndoikeaaZ1
import Derived.Test.YtklanjkndoikeaaZ3
import Derived.Test.YtklanjkndoikeaaYDomChecks1
import Derived.Test.YtklanjkndoikeaaZ2
import Derived.Test.YtklanjkndoikeaaV1
import Derived.Deep.Slices
import Derived.ChangeArms
import Derived.DataReads
import Derived.Test.YtklanjkndoikeaaRows
import Derived.WalkKit
import Derived.ProofKit
import Derived.OpenShut
import Derived.ShutString
import Derived.ChangeOld
import Derived.Below
import Derived.SizedLaws

-- Written by wip/tools/px.py out of the translation. Lean checks it.
namespace Go.Proofs.Ytklanjkndoikeaa.P
open Go.RowKit Go.Proofs.YtklanjkndoikeaaW.PrintWords Go.Proofs.YtklanjkndoikeaaW.PrintLast Go.Proofs.YtklanjkndoikeaaW.PrintMore
attribute [local go_sem] max2_int min2_int max_two min_two max_three min_three max_four min_four   -- for this text's walks alone
set_option linter.unusedVariables false
set_option linter.unusedSimpArgs false

/-! ### secateurlaw02_DomChecks: function 3 -/
def secateurlaw02_DomChecks.f (k : Nat) (l0 : List (S52)) (l1 : List Int) : Option (Bool) := if 0 ≤ (mn (l0.length : Int) 60) then (if (mn (l0.length : Int) 60) ≤ (l0.length : Int) then ((some (l0.take ((mn (l0.length : Int) 60) : Int).toNat : List (S52))).bind fun y271 => (if 0 ≤ (mn (l1.length : Int) 60) then (if (mn (l1.length : Int) 60) ≤ (l1.length : Int) then ((some (([] : List Int) : List Int)).bind fun y276 => (if y276.length + (l1.take ((mn (l1.length : Int) 60) : Int).toNat).length < 17592186044416 then ((dom_Of.f k (l1.take ((mn (l1.length : Int) 60) : Int).toNat)).bind fun bt282 => ((secateurref02_Of.f k (l1.take ((mn (l1.length : Int) 60) : Int).toNat)).bind fun bt286 => ((dom_Check.f k y271).bind fun t290 => ((secateurref02_Check.f k y271).bind fun t291 => (if t290 = t291 then (if bt282.2 = bt286.2 then ((secateurref02_Same.f k bt282.1 bt286.1).bind fun t292 => (if t292 = true then ((secateurref02_Nums.f k (l1.take ((mn (l1.length : Int) 60) : Int).toNat) (y276 ++ (l1.take ((mn (l1.length : Int) 60) : Int).toNat))).bind fun t293 => (if t293 = true then ((secateurlaw02_fixed.f k).bind fun t294 => (some t294)) else (none))) else (none))) else (none)) else (none)))))) else (none))) else (none)) else (none))) else (none)) else (none)
theorem secateurlaw02_DomChecks.mono : ∀ a0 a1 k, LeO (secateurlaw02_DomChecks.f k a0 a1) (secateurlaw02_DomChecks.f (k + 1) a0 a1) := by
 intro a0 a1 k
 unfold secateurlaw02_DomChecks.f
 repeat' first
   | (with_reducible exact dom_Check.mono _ _)
   | (with_reducible exact dom_Of.mono _ _)
   | (with_reducible exact secateurlaw02_fixed.mono _)
   | (with_reducible exact secateurref02_Check.mono _ _)
   | (with_reducible exact secateurref02_Nums.mono _ _ _)
   | (with_reducible exact secateurref02_Of.mono _ _)
   | (with_reducible exact secateurref02_Same.mono _ _ _)
   | (with_reducible exact LeO.refl _)
   | (with_reducible exact LeO.none _)
   | (with_reducible refine LeO.ite ?_ ?_)
   | (with_reducible refine LeO.bind ?_ (fun _ => ?_))
   | exact dom_Check.mono _ _
   | exact dom_Of.mono _ _
   | exact secateurlaw02_fixed.mono _
   | exact secateurref02_Check.mono _ _
   | exact secateurref02_Nums.mono _ _ _
   | exact secateurref02_Of.mono _ _
   | exact secateurref02_Same.mono _ _ _
   | exact LeO.none _
   | refine LeO.ite ?_ ?_
   | refine LeO.bind ?_ (fun _ => ?_)
set_option maxHeartbeats 8000000 in
set_option maxRecDepth 100000 in
theorem secateurlaw02_DomChecks.calls (k : Nat) (A0 : Option Addr) (c0 : Nat) (l0 : List (S52)) (A1 : Option Addr) (c1 : Nat) (l1 : List Int) (r : Bool) (w : World) (hr0 : Kd.C k52 w A0 l0.length l0) (hc0 : l0.length ≤ c0) (hr1 : Kd.C (Kd.int .i64) w A1 l1.length l1) (hc1 : l1.length ≤ c1) (h : secateurlaw02_DomChecks.f k l0 l1 = some r) :
  Calls Try.prog 3 #[.slice A0 l0.length c0, .slice A1 l1.length c1] w fun e w' => e = .returned (.bool r) ∧ Below w.heap.size w w' := by
 have HR0 := Aside0.mk hr0
 have HC0 := Aside0.mk hc0
 clear hr0 hc0
 have HR1 := Aside0.mk hr1
 have HC1 := Aside0.mk hc1
 clear hr1 hc1
 have HB := Aside0.mk (Below.refl w.heap.size w)
 have H : (if 0 ≤ (mn (l0.length : Int) 60) then (if (mn (l0.length : Int) 60) ≤ (l0.length : Int) then ((some (l0.take ((mn (l0.length : Int) 60) : Int).toNat : List (S52))).bind fun y271 => (if 0 ≤ (mn (l1.length : Int) 60) then (if (mn (l1.length : Int) 60) ≤ (l1.length : Int) then ((some (([] : List Int) : List Int)).bind fun y276 => (if y276.length + (l1.take ((mn (l1.length : Int) 60) : Int).toNat).length < 17592186044416 then ((dom_Of.f k (l1.take ((mn (l1.length : Int) 60) : Int).toNat)).bind fun bt282 => ((secateurref02_Of.f k (l1.take ((mn (l1.length : Int) 60) : Int).toNat)).bind fun bt286 => ((dom_Check.f k y271).bind fun t290 => ((secateurref02_Check.f k y271).bind fun t291 => (if t290 = t291 then (if bt282.2 = bt286.2 then ((secateurref02_Same.f k bt282.1 bt286.1).bind fun t292 => (if t292 = true then ((secateurref02_Nums.f k (l1.take ((mn (l1.length : Int) 60) : Int).toNat) (y276 ++ (l1.take ((mn (l1.length : Int) 60) : Int).toNat))).bind fun t293 => (if t293 = true then ((secateurlaw02_fixed.f k).bind fun t294 => (some t294)) else (none))) else (none))) else (none)) else (none)))))) else (none))) else (none)) else (none))) else (none)) else (none)) = some r := h
 clear h
 obtain ⟨ji3, hji3⟩ : ∃ j_ : Int, (mn (l0.length : Int) 60) = j_ := ⟨_, rfl⟩
 replace H : (if 0 ≤ (ji3) then (if (ji3) ≤ (l0.length : Int) then ((some (l0.take ((ji3) : Int).toNat : List (S52))).bind fun y271 => (if 0 ≤ (mn (l1.length : Int) 60) then (if (mn (l1.length : Int) 60) ≤ (l1.length : Int) then ((some (([] : List Int) : List Int)).bind fun y276 => (if y276.length + (l1.take ((mn (l1.length : Int) 60) : Int).toNat).length < 17592186044416 then ((dom_Of.f k (l1.take ((mn (l1.length : Int) 60) : Int).toNat)).bind fun bt282 => ((secateurref02_Of.f k (l1.take ((mn (l1.length : Int) 60) : Int).toNat)).bind fun bt286 => ((dom_Check.f k y271).bind fun t290 => ((secateurref02_Check.f k y271).bind fun t291 => (if t290 = t291 then (if bt282.2 = bt286.2 then ((secateurref02_Same.f k bt282.1 bt286.1).bind fun t292 => (if t292 = true then ((secateurref02_Nums.f k (l1.take ((mn (l1.length : Int) 60) : Int).toNat) (y276 ++ (l1.take ((mn (l1.length : Int) 60) : Int).toNat))).bind fun t293 => (if t293 = true then ((secateurlaw02_fixed.f k).bind fun t294 => (some t294)) else (none))) else (none))) else (none)) else (none)))))) else (none))) else (none)) else (none))) else (none)) else (none)) = some r := by first | (rw [hji3] at H; exact H) | (simp only [hji3] at H ⊢; exact H)
 (try (have hji3h : ji3 ≤ 60 := by (rw [← hji3]; unfold mn; (repeat' split) <;> omega)))
 (try (have hji3g : ji3 ≤ 64 := by omega))
 (try (have hji3l : 0 ≤ ji3 := by (rw [← hji3]; unfold mn; (repeat' split) <;> omega)))
 (try (have hji3m : 0 ≤ ji3 := by omega))
 have hji3_ : (if 60 < (l0.length : Int) then 60 else (l0.length : Int)) = ji3 := hji3
 by_cases c4 : 0 ≤ (ji3)
 ·rw [if_pos c4] at H
  have c4b0 := eq_true c4
  have c4b1 : decide (0 ≤ (ji3)) = true := decide_eq_true c4
  clear c4
  by_cases c5 : (ji3) ≤ (l0.length : Int)
  ·rw [if_pos c5] at H
   have c5b0 := eq_true c5
   have c5b1 : decide ((ji3) ≤ (l0.length : Int)) = true := decide_eq_true c5
   clear c5
   obtain ⟨y271, hy271⟩ : ∃ y_ : List (S52), y_ = (l0.take ((ji3) : Int).toNat) := ⟨_, rfl⟩
   replace H : (if 0 ≤ (mn (l1.length : Int) 60) then (if (mn (l1.length : Int) 60) ≤ (l1.length : Int) then ((some (([] : List Int) : List Int)).bind fun y276 => (if y276.length + (l1.take ((mn (l1.length : Int) 60) : Int).toNat).length < 17592186044416 then ((dom_Of.f k (l1.take ((mn (l1.length : Int) 60) : Int).toNat)).bind fun bt282 => ((secateurref02_Of.f k (l1.take ((mn (l1.length : Int) 60) : Int).toNat)).bind fun bt286 => ((dom_Check.f k y271).bind fun t290 => ((secateurref02_Check.f k y271).bind fun t291 => (if t290 = t291 then (if bt282.2 = bt286.2 then ((secateurref02_Same.f k bt282.1 bt286.1).bind fun t292 => (if t292 = true then ((secateurref02_Nums.f k (l1.take ((mn (l1.length : Int) 60) : Int).toNat) (y276 ++ (l1.take ((mn (l1.length : Int) 60) : Int).toNat))).bind fun t293 => (if t293 = true then ((secateurlaw02_fixed.f k).bind fun t294 => (some t294)) else (none))) else (none))) else (none)) else (none)))))) else (none))) else (none)) else (none)) = some r := by first | (rw [hy271]; with_reducible exact H) | (have H2_ := (Option.bind_some _ _).symm.trans H; rw [hy271]; with_reducible exact H2_) | (have H2_ := (Option.bind_some _ _).symm.trans H; with_reducible exact H2_) | with_reducible exact H | (rw [hy271]; exact H) | exact H
   have Ny271 := Aside0.mk hy271
   clear hy271
   obtain ⟨ji6, hji6⟩ : ∃ j_ : Int, (mn (l1.length : Int) 60) = j_ := ⟨_, rfl⟩
   replace H : (if 0 ≤ (ji6) then (if (ji6) ≤ (l1.length : Int) then ((some (([] : List Int) : List Int)).bind fun y276 => (if y276.length + (l1.take ((ji6) : Int).toNat).length < 17592186044416 then ((dom_Of.f k (l1.take ((ji6) : Int).toNat)).bind fun bt282 => ((secateurref02_Of.f k (l1.take ((ji6) : Int).toNat)).bind fun bt286 => ((dom_Check.f k y271).bind fun t290 => ((secateurref02_Check.f k y271).bind fun t291 => (if t290 = t291 then (if bt282.2 = bt286.2 then ((secateurref02_Same.f k bt282.1 bt286.1).bind fun t292 => (if t292 = true then ((secateurref02_Nums.f k (l1.take ((ji6) : Int).toNat) (y276 ++ (l1.take ((ji6) : Int).toNat))).bind fun t293 => (if t293 = true then ((secateurlaw02_fixed.f k).bind fun t294 => (some t294)) else (none))) else (none))) else (none)) else (none)))))) else (none))) else (none)) else (none)) = some r := by first | (rw [hji6] at H; exact H) | (simp only [hji6] at H ⊢; exact H)
   (try (have hji6h : ji6 ≤ 60 := by (rw [← hji6]; unfold mn; (repeat' split) <;> omega)))
   (try (have hji6g : ji6 ≤ 64 := by omega))
   (try (have hji6l : 0 ≤ ji6 := by (rw [← hji6]; unfold mn; (repeat' split) <;> omega)))
   (try (have hji6m : 0 ≤ ji6 := by omega))
   have hji6_ : (if 60 < (l1.length : Int) then 60 else (l1.length : Int)) = ji6 := hji6
   by_cases c7 : 0 ≤ (ji6)
   ·rw [if_pos c7] at H
    have c7b0 := eq_true c7
    have c7b1 : decide (0 ≤ (ji6)) = true := decide_eq_true c7
    clear c7
    by_cases c8 : (ji6) ≤ (l1.length : Int)
    ·rw [if_pos c8] at H
     have c8b0 := eq_true c8
     have c8b1 : decide ((ji6) ≤ (l1.length : Int)) = true := decide_eq_true c8
     clear c8
     obtain ⟨y276, hy276⟩ : ∃ y_ : List Int, y_ = (([] : List Int)) := ⟨_, rfl⟩
     replace H : (if y276.length + (l1.take ((ji6) : Int).toNat).length < 17592186044416 then ((dom_Of.f k (l1.take ((ji6) : Int).toNat)).bind fun bt282 => ((secateurref02_Of.f k (l1.take ((ji6) : Int).toNat)).bind fun bt286 => ((dom_Check.f k y271).bind fun t290 => ((secateurref02_Check.f k y271).bind fun t291 => (if t290 = t291 then (if bt282.2 = bt286.2 then ((secateurref02_Same.f k bt282.1 bt286.1).bind fun t292 => (if t292 = true then ((secateurref02_Nums.f k (l1.take ((ji6) : Int).toNat) (y276 ++ (l1.take ((ji6) : Int).toNat))).bind fun t293 => (if t293 = true then ((secateurlaw02_fixed.f k).bind fun t294 => (some t294)) else (none))) else (none))) else (none)) else (none)))))) else (none)) = some r := by first | (rw [hy276]; with_reducible exact H) | (have H2_ := (Option.bind_some _ _).symm.trans H; rw [hy276]; with_reducible exact H2_) | (have H2_ := (Option.bind_some _ _).symm.trans H; with_reducible exact H2_) | with_reducible exact H | (rw [hy276]; exact H) | exact H
     have Ny276 := Aside0.mk hy276
     clear hy276
     by_cases c9 : y276.length + (l1.take ((ji6) : Int).toNat).length < 17592186044416
     ·rw [if_pos c9] at H
      have LMc9 := Aside0.mk c9
      clear c9
      obtain ⟨y279, hy279⟩ : ∃ y_ : List Int, y_ = (y276 ++ (l1.take ((ji6) : Int).toNat)) := ⟨_, rfl⟩
      replace H : ((dom_Of.f k (l1.take ((ji6) : Int).toNat)).bind fun bt282 => ((secateurref02_Of.f k (l1.take ((ji6) : Int).toNat)).bind fun bt286 => ((dom_Check.f k y271).bind fun t290 => ((secateurref02_Check.f k y271).bind fun t291 => (if t290 = t291 then (if bt282.2 = bt286.2 then ((secateurref02_Same.f k bt282.1 bt286.1).bind fun t292 => (if t292 = true then ((secateurref02_Nums.f k (l1.take ((ji6) : Int).toNat) y279).bind fun t293 => (if t293 = true then ((secateurlaw02_fixed.f k).bind fun t294 => (some t294)) else (none))) else (none))) else (none)) else (none)))))) = some r := by first | (rw [hy279]; with_reducible exact H) | (have H2_ := (Option.bind_some _ _).symm.trans H; rw [hy279]; with_reducible exact H2_) | (have H2_ := (Option.bind_some _ _).symm.trans H; with_reducible exact H2_) | with_reducible exact H | (rw [hy279]; exact H) | exact H
      have Ny279 := Aside0.mk hy279
      clear hy279
      replace H := Option.bind_eq_some_iff.mp H
      obtain ⟨⟨t282, t283⟩, A100, H⟩ := H
      replace H : ((secateurref02_Of.f k (l1.take ((ji6) : Int).toNat)).bind fun bt286 => ((dom_Check.f k y271).bind fun t290 => ((secateurref02_Check.f k y271).bind fun t291 => (if t290 = t291 then (if t283 = bt286.2 then ((secateurref02_Same.f k t282 bt286.1).bind fun t292 => (if t292 = true then ((secateurref02_Nums.f k (l1.take ((ji6) : Int).toNat) y279).bind fun t293 => (if t293 = true then ((secateurlaw02_fixed.f k).bind fun t294 => (some t294)) else (none))) else (none))) else (none)) else (none))))) = some r := H
      have A10 := Aside0.mk A100
      clear A100
      replace H := Option.bind_eq_some_iff.mp H
      obtain ⟨⟨t286, t287⟩, A110, H⟩ := H
      replace H : ((dom_Check.f k y271).bind fun t290 => ((secateurref02_Check.f k y271).bind fun t291 => (if t290 = t291 then (if t283 = t287 then ((secateurref02_Same.f k t282 t286).bind fun t292 => (if t292 = true then ((secateurref02_Nums.f k (l1.take ((ji6) : Int).toNat) y279).bind fun t293 => (if t293 = true then ((secateurlaw02_fixed.f k).bind fun t294 => (some t294)) else (none))) else (none))) else (none)) else (none)))) = some r := H
      have A11 := Aside0.mk A110
      clear A110
      replace H := Option.bind_eq_some_iff.mp H
      obtain ⟨t290, A120, H⟩ := H
      replace H : ((secateurref02_Check.f k y271).bind fun t291 => (if t290 = t291 then (if t283 = t287 then ((secateurref02_Same.f k t282 t286).bind fun t292 => (if t292 = true then ((secateurref02_Nums.f k (l1.take ((ji6) : Int).toNat) y279).bind fun t293 => (if t293 = true then ((secateurlaw02_fixed.f k).bind fun t294 => (some t294)) else (none))) else (none))) else (none)) else (none))) = some r := H
      have A12 := Aside0.mk A120
      clear A120
      replace H := Option.bind_eq_some_iff.mp H
      obtain ⟨t291, A130, H⟩ := H
      replace H : (if t290 = t291 then (if t283 = t287 then ((secateurref02_Same.f k t282 t286).bind fun t292 => (if t292 = true then ((secateurref02_Nums.f k (l1.take ((ji6) : Int).toNat) y279).bind fun t293 => (if t293 = true then ((secateurlaw02_fixed.f k).bind fun t294 => (some t294)) else (none))) else (none))) else (none)) else (none)) = some r := H
      have A13 := Aside0.mk A130
      clear A130
      by_cases c14 : t290 = t291
      ·rw [if_pos c14] at H
       have c14b0 : (t290 == t291) = true := beq_iff_eq.mpr c14
       have c14b1 : (t290 != t291) = false := bne_eq_false_iff_eq.mpr c14
       clear c14
       by_cases c15 : t283 = t287
       ·rw [if_pos c15] at H
        have c15b0 : (t283 == t287) = true := beq_iff_eq.mpr c15
        have c15b1 : (t283 != t287) = false := bne_eq_false_iff_eq.mpr c15
        clear c15
        replace H := Option.bind_eq_some_iff.mp H
        obtain ⟨t292, A160, H⟩ := H
        replace H : (if t292 = true then ((secateurref02_Nums.f k (l1.take ((ji6) : Int).toNat) y279).bind fun t293 => (if t293 = true then ((secateurlaw02_fixed.f k).bind fun t294 => (some t294)) else (none))) else (none)) = some r := H
        have A16 := Aside0.mk A160
        clear A160
        by_cases c17 : t292 = true
        ·subst c17
         have H1 : ((secateurref02_Nums.f k (l1.take ((ji6) : Int).toNat) y279).bind fun t293 => (if t293 = true then ((secateurlaw02_fixed.f k).bind fun t294 => (some t294)) else (none))) = some r := by rw [if_pos rfl] at H; exact H
         clear H
         have H := H1
         clear H1
         replace H := Option.bind_eq_some_iff.mp H
         obtain ⟨t293, A180, H⟩ := H
         replace H : (if t293 = true then ((secateurlaw02_fixed.f k).bind fun t294 => (some t294)) else (none)) = some r := H
         have A18 := Aside0.mk A180
         clear A180
         by_cases c19 : t293 = true
         ·subst c19
          have H1 : ((secateurlaw02_fixed.f k).bind fun t294 => (some t294)) = some r := by rw [if_pos rfl] at H; exact H
          clear H
          have H := H1
          clear H1
          replace H := Option.bind_eq_some_iff.mp H
          obtain ⟨t294, A200, H⟩ := H
          replace H : (some t294) = some r := H
          have A20 := Aside0.mk A200
          clear A200
          obtain rfl := Option.some.inj H
          have q21 : ((ji3) : Int) ≤ ((l0.length : Int) : Int) := of_decide_eq_true (by first | (with_reducible assumption) | assumption)
          obtain ⟨i021, hi021, _, hsz21, _⟩ := info_parts info52
          have hroom21 : l0.length ≤ c0 := HC0.out
          have hC21 : Kd.C k52 _ A0 l0.length l0 := HR0.out
          have hcut21 := cut_to (P := Try.prog) 22 52 .i64 Try.underlying22 hi021 A0 l0.length c0 (ji3) (of_decide_eq_true (by first | (with_reducible assumption) | assumption)) q21 hroom21
          have hr21 := Kd.C_take (m := ((ji3) : Int).toNat) hC21 (by omega)
          have hy21 : y271.length = ((ji3) : Int).toNat := (by rw [Ny271.out, List.length_take]; omega)
          rw [← Ny271.out] at hr21
          rw [← hy21] at hcut21
          have HR274 := Aside0.mk hr21
          have HC274 := Aside0.mk (show y271.length ≤ c0 from by omega)
          clear hr21 hC21 hroom21 hi021 hsz21
          have KY21 := Aside0.mk hy21
          clear hy21
          replace q21 := eq_true q21
          obtain ⟨i022, hi022, _, hsz22, _⟩ := info_parts info3
          obtain ⟨hcut22, hA22, hC22⟩ := print_take_of (P := Try.prog) (Value.int .i64) 0 23 3 .i64 Try.underlying23 hi022 hsz22 A1 c1 l1 (ji6) (of_decide_eq_true (by first | (with_reducible assumption) | assumption)) (of_decide_eq_true (by first | (with_reducible assumption) | assumption)) HC1.out
          have HR275 := Aside0.mk (Kd.C_of_reads (h1 := fun _ => rfl) (hA22 _ (Kd.reads_of_C HR1.out)))
          have HC275 := Aside0.mk hC22
          clear hA22 hC22 hi022 hsz22
          go_enter Try.func3, Try.ntmps3
          go_wp2_with (first | ((with_reducible refine gate_dst (N := 20) rfl ?_); refine Kd.R_lit (Kd.int .i64) _ 3 ?hg (N := 20) ?hd (xs := ([] : List Int)) (inner := []) (ok := fun _ => True) (okp := fun _ => True) ?hr ?hp (fun _ hk => hk) trivial (Below.refl _ _) (Nat.le_refl _) (by simp) ?_; (case hd => rfl); (case hg => rfl); (case hr => first | (go_simp; done) | (go_simp; rfl)); (case hp => exact (Reps.none _ _)); intro v277 w23 ho24 hb hg_ hnew_; clear hg_ hnew_; (first | rw [← Ny276.out] at ho24 | (simp only [Int.reduceToNat] at ho24; rw [← Ny276.out] at ho24)); have n0_ := Aside0.mk (Kd.R_lower ho24 (below_size (by repeat (first | (with_reducible first | exact HB.out | apply below_alloc | apply pw_below_drewN | apply below_drew1) | exact HB.out)))); have n1_ := Aside0.mk (below_step (by repeat (first | (with_reducible first | exact HB.out | apply below_alloc | apply pw_below_drewN | apply below_drew1) | exact HB.out)) hb); clear HB; have HO278 := n0_; have HB := n1_; clear n0_ n1_; clear hb ho24) | ((with_reducible refine gate_builtin (b := .append) (xs := #[.tmp 20, .tmp 21]) rfl ?_); at_builtin; refine Kd.R_append_rows (Kd.int .i64) (w0 := w) w.heap.size rfl (.tmp 20) (.tmp 21) 23 3 (.int .i64 0) 8 rfl Try.underlying23 info3 rfl (by decide) (by omega) v277 y276 (l1.take ((ji6) : Int).toNat) _ _ _ (fun _ => True) (fun _ => False) rfl rfl ?aO ?aR (fun _ _ h => h) (fun _ h => h.elim) ?aF ?aB ?aS ?aL ?_; (case aR => first | (have q_ := (Kd.C_below HR275.out HB.out); rw [show (l1.take ((ji6) : Int).toNat).length = (ji6).toNat from (by rw [List.length_take]; have h_ : ((ji6) : Int) ≤ (l1.length : Int) := of_decide_eq_true (by first | (with_reducible assumption) | assumption); omega)] at q_; exact q_) | (rw [← show (l1.take ((ji6) : Int).toNat).length = (ji6).toNat from (by rw [List.length_take]; have h_ : ((ji6) : Int) ≤ (l1.length : Int) := of_decide_eq_true (by first | (with_reducible assumption) | assumption); omega)]; repeat (first | exact (Kd.C_below HR275.out HB.out) | (with_reducible refine Kd.C_alloc ?_ _) | (with_reducible refine Kd.C_drewN ?_ _) | (with_reducible refine Kd.C_drew ?_))) | (repeat (first | exact (Kd.C_below HR275.out HB.out) | (with_reducible refine Kd.C_alloc ?_ _) | (with_reducible refine Kd.C_drewN ?_ _) | (with_reducible refine Kd.C_drew ?_)))); (case aB => exact (by repeat (first | (with_reducible first | exact HB.out | apply below_alloc | apply pw_below_drewN | apply below_drew1) | exact HB.out))); (case aF => exact (fun _ _ => trivial)); (case aO => exact (by (with_reducible repeat (first | apply Kd.R_alloc | apply Kd.R_drewN | apply Kd.R_drew)); exact HO278.out)); (case aS => exact (below_size (by repeat (first | (with_reducible first | exact HB.out | apply below_alloc | apply pw_below_drewN | apply below_drew1) | exact HB.out)))); (case aL => have := LMc9.out; have hlx_ := (show (l1.take ((ji6) : Int).toNat).length = (ji6).toNat from (by rw [List.length_take]; have h_ : ((ji6) : Int) ≤ (l1.length : Int) := of_decide_eq_true (by first | (with_reducible assumption) | assumption); omega)); omega); intro v280 w25 ho hb hg hat; rw [← Ny279.out] at ho; have n0_ := Aside0.mk (hb); have n1_ := Aside0.mk (ho); clear HB; clear HO278; have HB := n0_; have HO281 := n1_; clear n0_ n1_; clear ho hb hg hat) | ((with_reducible refine gate_callee (f := 13) rfl ?_); refine goesL_ (some 25) rfl rfl Try.func13 (by kernel_rfl) rfl #[.slice A1 (l1.take ((ji6) : Int).toNat).length c1] rfl (by (try simp only [List.map_toArray, List.map_cons, List.map_nil]); first | done | (rw [show (l1.take ((ji6) : Int).toNat).length = (ji6).toNat from (by rw [List.length_take]; have h_ : ((ji6) : Int) ≤ (l1.length : Int) := of_decide_eq_true (by first | (with_reducible assumption) | assumption); omega)] <;> rfl) | (simp only [hji6]; rfl) | rfl | (simp only [List.length_drop, List.length_take]; rfl)) ?_; (with_reducible refine (dom_Of.calls k _ _ (l1.take ((ji6) : Int).toNat) t282 t283 _ ?side1 ?side2 A10.out).mono ?_); (case side1 => repeat (first | exact (Kd.C_below HR275.out HB.out) | (with_reducible refine Kd.C_alloc ?_ _) | (with_reducible refine Kd.C_drewN ?_ _) | (with_reducible refine Kd.C_drew ?_))); (case side2 => exact HC275.out); rintro e w26 ⟨v284, rfl, ho0, hb⟩; refine ⟨_, rfl, ?_⟩; have n0_ := Aside0.mk (Kd.R_below (by (with_reducible repeat (first | apply Kd.R_alloc | apply Kd.R_drewN | apply Kd.R_drew)); exact HO281.out) hb); have n1_ := Aside0.mk (Kd.R_lower ho0 (below_size (by repeat (first | (with_reducible first | exact HB.out | apply below_alloc | apply pw_below_drewN | apply below_drew1) | exact HB.out)))); have n2_ := Aside0.mk (below_step (by repeat (first | (with_reducible first | exact HB.out | apply below_alloc | apply pw_below_drewN | apply below_drew1) | exact HB.out)) hb); clear HO281; clear HB; have HO281 := n0_; have HO285 := n1_; have HB := n2_; clear n0_ n1_ n2_; (try clear hb); (try clear hb2); (try clear hk); (try clear hi); (try clear ho0)) | ((with_reducible refine gate_callee (f := 14) rfl ?_); refine goesL_ (some 30) rfl rfl Try.func14 (by kernel_rfl) rfl #[.slice A1 (l1.take ((ji6) : Int).toNat).length c1] rfl (by (try simp only [List.map_toArray, List.map_cons, List.map_nil]); first | done | (rw [show (l1.take ((ji6) : Int).toNat).length = (ji6).toNat from (by rw [List.length_take]; have h_ : ((ji6) : Int) ≤ (l1.length : Int) := of_decide_eq_true (by first | (with_reducible assumption) | assumption); omega)] <;> rfl) | (simp only [hji6]; rfl) | rfl | (simp only [List.length_drop, List.length_take]; rfl)) ?_; (with_reducible refine (secateurref02_Of.calls k _ _ (l1.take ((ji6) : Int).toNat) t286 t287 _ ?side1 ?side2 A11.out).mono ?_); (case side1 => repeat (first | exact (Kd.C_below HR275.out HB.out) | (with_reducible refine Kd.C_alloc ?_ _) | (with_reducible refine Kd.C_drewN ?_ _) | (with_reducible refine Kd.C_drew ?_))); (case side2 => exact HC275.out); rintro e w27 ⟨v288, rfl, ho0, hb⟩; refine ⟨_, rfl, ?_⟩; have n0_ := Aside0.mk (Kd.R_below (by (with_reducible repeat (first | apply Kd.R_alloc | apply Kd.R_drewN | apply Kd.R_drew)); exact HO281.out) hb); have n1_ := Aside0.mk (Kd.R_elder' (by (with_reducible repeat (first | apply Kd.R_alloc | apply Kd.R_drewN | apply Kd.R_drew)); exact HO285.out) (Kd.R_base ho0) hb); have n2_ := Aside0.mk (Kd.R_lower (Kd.R_new' ho0 (Kd.R_lt (by (with_reducible repeat (first | apply Kd.R_alloc | apply Kd.R_drewN | apply Kd.R_drew)); exact HO285.out))) (below_size (by repeat (first | (with_reducible first | exact HB.out | apply below_alloc | apply pw_below_drewN | apply below_drew1) | exact HB.out)))); have n3_ := Aside0.mk (below_step (by repeat (first | (with_reducible first | exact HB.out | apply below_alloc | apply pw_below_drewN | apply below_drew1) | exact HB.out)) hb); clear HO281; clear HO285; clear HB; have HO281 := n0_; have HO285 := n1_; have HO289 := n2_; have HB := n3_; clear n0_ n1_ n2_ n3_; (try clear hb); (try clear hb2); (try clear hk); (try clear hi); (try clear ho0)) | ((with_reducible refine gate_callee (f := 15) rfl ?_); refine goesL_ (some 34) rfl rfl Try.func15 (by kernel_rfl) rfl #[.slice A0 y271.length c0] rfl (by (try simp only [List.map_toArray, List.map_cons, List.map_nil]); first | done | rfl | (simp only [List.length_drop, List.length_take]; rfl)) ?_; (with_reducible refine (dom_Check.calls k _ _ y271 t290 _ ?side1 ?side2 A12.out).mono ?_); (case side1 => repeat (first | exact (Kd.C_below HR274.out HB.out) | (with_reducible refine Kd.C_alloc ?_ _) | (with_reducible refine Kd.C_drewN ?_ _) | (with_reducible refine Kd.C_drew ?_))); (case side2 => exact HC274.out); rintro e w28 ⟨rfl, hb⟩; refine ⟨_, rfl, ?_⟩; have n0_ := Aside0.mk (Kd.R_below (by (with_reducible repeat (first | apply Kd.R_alloc | apply Kd.R_drewN | apply Kd.R_drew)); exact HO281.out) hb); have n1_ := Aside0.mk (Kd.R_below (by (with_reducible repeat (first | apply Kd.R_alloc | apply Kd.R_drewN | apply Kd.R_drew)); exact HO285.out) hb); have n2_ := Aside0.mk (Kd.R_below (by (with_reducible repeat (first | apply Kd.R_alloc | apply Kd.R_drewN | apply Kd.R_drew)); exact HO289.out) hb); have n3_ := Aside0.mk (below_step (by repeat (first | (with_reducible first | exact HB.out | apply below_alloc | apply pw_below_drewN | apply below_drew1) | exact HB.out)) hb); clear HO281; clear HO285; clear HO289; clear HB; have HO281 := n0_; have HO285 := n1_; have HO289 := n2_; have HB := n3_; clear n0_ n1_ n2_ n3_; (try clear hb); (try clear hb2); (try clear hk); (try clear hi)) | ((with_reducible refine gate_callee (f := 16) rfl ?_); refine goesL_ (some 36) rfl rfl Try.func16 (by kernel_rfl) rfl #[.slice A0 y271.length c0] rfl (by (try simp only [List.map_toArray, List.map_cons, List.map_nil]); first | done | rfl | (simp only [List.length_drop, List.length_take]; rfl)) ?_; (with_reducible refine (secateurref02_Check.calls k _ _ y271 t291 _ ?side1 ?side2 A13.out).mono ?_); (case side1 => repeat (first | exact (Kd.C_below HR274.out HB.out) | (with_reducible refine Kd.C_alloc ?_ _) | (with_reducible refine Kd.C_drewN ?_ _) | (with_reducible refine Kd.C_drew ?_))); (case side2 => exact HC274.out); rintro e w29 ⟨rfl, hb⟩; refine ⟨_, rfl, ?_⟩; have n0_ := Aside0.mk (Kd.R_below (by (with_reducible repeat (first | apply Kd.R_alloc | apply Kd.R_drewN | apply Kd.R_drew)); exact HO281.out) hb); have n1_ := Aside0.mk (Kd.R_below (by (with_reducible repeat (first | apply Kd.R_alloc | apply Kd.R_drewN | apply Kd.R_drew)); exact HO285.out) hb); have n2_ := Aside0.mk (Kd.R_below (by (with_reducible repeat (first | apply Kd.R_alloc | apply Kd.R_drewN | apply Kd.R_drew)); exact HO289.out) hb); have n3_ := Aside0.mk (below_step (by repeat (first | (with_reducible first | exact HB.out | apply below_alloc | apply pw_below_drewN | apply below_drew1) | exact HB.out)) hb); clear HO281; clear HO285; clear HO289; clear HB; have HO281 := n0_; have HO285 := n1_; have HO289 := n2_; have HB := n3_; clear n0_ n1_ n2_ n3_; (try clear hb); (try clear hb2); (try clear hk); (try clear hi); obtain ⟨Ao30, co30, eo30⟩ := Kd.R_slice HO285.out; subst eo30; obtain ⟨Ao31, co31, eo31⟩ := Kd.R_slice HO289.out; subst eo31) | (go_at_call 17; (with_reducible refine (secateurref02_Same.calls k _ _ t282 _ _ t286 true _ ?side1 ?side2 ?side3 ?side4 A16.out).mono ?_); (case side1 => repeat (first | exact (Kd.R_reads' HO285.out).2.2 | (with_reducible refine Kd.C_alloc ?_ _) | (with_reducible refine Kd.C_drewN ?_ _) | (with_reducible refine Kd.C_drew ?_))); (case side2 => exact (Kd.R_reads' HO285.out).2.1); (case side3 => repeat (first | exact (Kd.R_reads' HO289.out).2.2 | (with_reducible refine Kd.C_alloc ?_ _) | (with_reducible refine Kd.C_drewN ?_ _) | (with_reducible refine Kd.C_drew ?_))); (case side4 => exact (Kd.R_reads' HO289.out).2.1); rintro e w' ⟨rfl, ⟨nd, rfl⟩⟩; obtain ⟨Ao32, co32, eo32⟩ := Kd.R_slice HO281.out; subst eo32) | (go_at_call 18; (try rw [← show (l1.take ((ji6) : Int).toNat).length = (ji6).toNat from (by rw [List.length_take]; have h_ : ((ji6) : Int) ≤ (l1.length : Int) := of_decide_eq_true (by first | (with_reducible assumption) | assumption); omega)]); (with_reducible refine (secateurref02_Nums.calls k _ _ (l1.take ((ji6) : Int).toNat) _ _ y279 true _ ?side1 ?side2 ?side3 ?side4 A18.out).mono ?_); (case side1 => repeat (first | exact (Kd.C_below HR275.out (by repeat (first | (with_reducible first | exact HB.out | apply below_alloc | apply pw_below_drewN | apply below_drew1) | exact HB.out))) | (with_reducible refine Kd.C_alloc ?_ _) | (with_reducible refine Kd.C_drewN ?_ _) | (with_reducible refine Kd.C_drew ?_))); (case side2 => exact HC275.out); (case side3 => repeat (first | exact (Kd.R_reads' HO281.out).2.2 | (with_reducible refine Kd.C_alloc ?_ _) | (with_reducible refine Kd.C_drewN ?_ _) | (with_reducible refine Kd.C_drew ?_))); (case side4 => exact (Kd.R_reads' HO281.out).2.1); rintro e w' ⟨rfl, ⟨nd, rfl⟩⟩) | (go_at_call 19; (with_reducible refine (secateurlaw02_fixed.calls k  t294 _ A20.out).mono ?_); rintro e w33 ⟨rfl, hb⟩; have n0_ := Aside0.mk (Kd.R_below (by (with_reducible repeat (first | apply Kd.R_alloc | apply Kd.R_drewN | apply Kd.R_drew)); exact HO281.out) hb); have n1_ := Aside0.mk (Kd.R_below (by (with_reducible repeat (first | apply Kd.R_alloc | apply Kd.R_drewN | apply Kd.R_drew)); exact HO285.out) hb); have n2_ := Aside0.mk (Kd.R_below (by (with_reducible repeat (first | apply Kd.R_alloc | apply Kd.R_drewN | apply Kd.R_drew)); exact HO289.out) hb); have n3_ := Aside0.mk (below_step (by repeat (first | (with_reducible first | exact HB.out | apply below_alloc | apply pw_below_drewN | apply below_drew1) | exact HB.out)) hb); clear HO281; clear HO285; clear HO289; clear HB; have HO281 := n0_; have HO285 := n1_; have HO289 := n2_; have HB := n3_; clear n0_ n1_ n2_ n3_; (try clear hb); (try clear hb2); (try clear hk); (try clear hi)))
          go_ret
          exact ⟨by first | rfl | (simp [errW_none, errW_some] <;> rfl) | (simp only [← hji3, ← hji6]; first | rfl | (simp [errW_none, errW_some] <;> rfl)) | (simp [*, errW_none, errW_some] <;> rfl), by repeat (first | (with_reducible first | exact HB.out | apply below_alloc | apply pw_below_drewN | apply below_drew1) | exact HB.out)⟩
         ·replace c19 := Bool.eq_false_iff.mpr c19
          subst c19
          have H1 : (none) = some r := by rw [if_neg (show ¬ (false = true) by decide)] at H; exact H
          clear H
          have H := H1
          clear H1
          exact absurd H (by simp)
        ·replace c17 := Bool.eq_false_iff.mpr c17
         subst c17
         have H1 : (none) = some r := by rw [if_neg (show ¬ (false = true) by decide)] at H; exact H
         clear H
         have H := H1
         clear H1
         exact absurd H (by simp)
       ·rw [if_neg c15] at H
        exact absurd H (by simp)
      ·rw [if_neg c14] at H
       exact absurd H (by simp)
     ·rw [if_neg c9] at H
      exact absurd H (by simp)
    ·rw [if_neg c8] at H
     exact absurd H (by simp)
   ·rw [if_neg c7] at H
    exact absurd H (by simp)
  ·rw [if_neg c5] at H
   exact absurd H (by simp)
 ·rw [if_neg c4] at H
  exact absurd H (by simp)

end Go.Proofs.Ytklanjkndoikeaa.P

/- Whether ranges are a domain: the program's answer and the document's. -/
namespace Go.Proofs.Ytklanjkndoikeaa.P
open Go.RowKit Go.Proofs.YtklanjkndoikeaaW.PrintWords Go.Proofs.YtklanjkndoikeaaW.PrintLast Go.Proofs.YtklanjkndoikeaaW.PrintMore
set_option linter.unusedVariables false
set_option linter.unusedSimpArgs false

/-- Are ranges a domain, none below b? -/
def rb : Int → List Rg → Bool
  | _, [] => true
  | b, x :: d => isVal x.f0 && isVal x.f1 && decide (x.f0 ≤ x.f1) && decide (b ≤ x.f0) && rb (x.f1 + 2) d
theorem rb_good : ∀ {b : Int} {d : List Rg}, rb b d = true → Gd 1048576 b d
  | _, [], _ => trivial
  | b, x :: d, h => by
    simp only [rb, Bool.and_eq_true, decide_eq_true_iff] at h
    obtain ⟨⟨⟨⟨h1, h2⟩, h3⟩, h4⟩, h5⟩ := h
    exact ⟨h4, h3, ((isVal_iff _).1 h2).2, rb_good h5⟩
theorem vals_append : ∀ d e : List Rg, vals (d ++ e) = vals d ++ vals e
  | [], e => rfl
  | x :: d, e => by rw [List.cons_append, vals, vals, vals_append d e, List.append_assoc]
/-- What whether ranges are a domain comes to. -/
def checkSpec (d : List Rg) : Int := if rb (-1048576) d = true then (if (vals d).length > 4096 then 2 else 0) else 20
theorem dom_value_is' (v : Int) : dom_value.f v = some (isVal v) := value_f v
theorem endB_take (d : List Rg) (n : Nat) (hn : n < d.length) : endB (-1048576) (d.take (n + 1)) = d[n].f1 + 2 := by rw [List.take_succ_eq_append_getElem hn, endB_snoc]
theorem right_l0 (d : List Rg) (hl : d.length < 4611686018427387904) : ∀ (m n : Nat), n + m = d.length → (0 < n → ∀ h : n - 1 < d.length, isVal d[n - 1].f1 = true) →
    Ev (fun k => dom_right.l0 k d d (d.length : Int) (n : Int)) (rb (endB (-1048576) (d.take n)) (d.drop n)) := by
  intro m
  induction m with
  | zero =>
    intro n h _
    rw [drop_nil' h]
    exact Ev.step (G := fun _ => some true) (fun k => by rw [dom_right.l0, if_neg (by omega)]) (Ev.pure _)
  | succ m ih =>
    intro n h hp
    have hn : n < d.length := by omega
    rw [List.drop_eq_getElem_cons hn, rb]
    have hat := show rd_T52 d (n : Int) = d[n] from rg_nat d n hn
    cases h0 : isVal d[n].f0 with
    | false => exact Ev.step (G := fun _ => some false) (fun k => by rw [dom_right.l0, if_pos (by omega), if_pos (by omega), if_pos (by omega), hat, dom_value_is', Option.bind_some, if_neg (by rw [h0]; simp)]) (Ev.const (by simp))
    | true =>
      cases h1 : isVal d[n].f1 with
      | false => exact Ev.step (G := fun _ => some false) (fun k => by rw [dom_right.l0, if_pos (by omega), if_pos (by omega), if_pos (by omega), hat, dom_value_is', Option.bind_some, if_pos h0, dom_value_is', Option.bind_some, if_neg (by rw [h1]; simp)]) (Ev.const (by simp))
      | true =>
        have b0 := (isVal_iff _).1 h0
        have b1 := (isVal_iff _).1 h1
        by_cases h2 : d[n].f0 > d[n].f1
        · have hnle : ¬ d[n].f0 ≤ d[n].f1 := by omega
          exact Ev.step (G := fun _ => some false) (fun k => by rw [dom_right.l0, if_pos (by omega), if_pos (by omega), if_pos (by omega), hat, dom_value_is', Option.bind_some, if_pos h0, dom_value_is', Option.bind_some, if_pos h1, if_pos h2]) (Ev.const (by simp [hnle]))
        · have hle : d[n].f0 ≤ d[n].f1 := by omega
          have hnext := ih (n + 1) (by omega) (fun _ _ => h1)
          rw [endB_take d n hn] at hnext
          have e : ∀ b, ((true && true && decide (d[n].f0 ≤ d[n].f1) && decide (b ≤ d[n].f0) && rb (d[n].f1 + 2) (d.drop (n + 1)))) = (decide (b ≤ d[n].f0) && rb (d[n].f1 + 2) (d.drop (n + 1))) := fun b => by simp [hle]
          rw [e]
          rcases Nat.eq_zero_or_pos n with rfl | hpos
          · have e2 : decide (endB (-1048576) (d.take 0) ≤ d[0].f0) = true := decide_eq_true (by simp [endB]; omega)
            rw [e2, Bool.true_and]
            exact Ev.step (fun k => by rw [dom_right.l0, if_pos (by omega), if_pos (by omega), if_pos (by omega), hat, dom_value_is', Option.bind_some, if_pos h0, dom_value_is', Option.bind_some, if_pos h1, if_neg h2, if_neg (by omega), w1 (by omega)]) hnext
          · have hn1 : n - 1 < d.length := by omega
            have hprev := (isVal_iff _).1 (hp hpos hn1)
            have e3 : endB (-1048576) (d.take n) = d[n - 1].f1 + 2 := by have := endB_take d (n - 1) hn1; rwa [show n - 1 + 1 = n by omega] at this
            have e4 : wrap64 ((n : Int) - 1) = ((n - 1 : Nat) : Int) := by rw [w64 (by omega) (by omega)]; omega
            have hat1 := show rd_T52 d ((n - 1 : Nat) : Int) = d[n - 1] from rg_nat d (n - 1) hn1
            rw [e3]
            by_cases h3 : d[n].f0 < d[n - 1].f1 + 2
            · rw [decide_eq_false (show ¬ d[n - 1].f1 + 2 ≤ d[n].f0 by omega), Bool.false_and]
              exact Ev.step (G := fun _ => some false) (fun k => by rw [dom_right.l0, if_pos (by omega), if_pos (by omega), if_pos (by omega), hat, dom_value_is', Option.bind_some, if_pos h0, dom_value_is', Option.bind_some, if_pos h1, if_neg h2, if_pos (by omega), e4, if_pos (by omega), if_pos (by omega), hat1, w64 (n := d[n - 1].f1 + 2) (by omega) (by omega), if_pos h3]) (Ev.pure _)
            · rw [decide_eq_true (show d[n - 1].f1 + 2 ≤ d[n].f0 by omega), Bool.true_and]
              exact Ev.step (fun k => by rw [dom_right.l0, if_pos (by omega), if_pos (by omega), if_pos (by omega), hat, dom_value_is', Option.bind_some, if_pos h0, dom_value_is', Option.bind_some, if_pos h1, if_neg h2, if_pos (by omega), e4, if_pos (by omega), if_pos (by omega), hat1, w64 (n := d[n - 1].f1 + 2) (by omega) (by omega), if_neg h3, w1 (by omega)]) hnext
theorem dom_Check_ev (d : List Rg) (hl : d.length < 4611686018427387904) : Ev (fun k => dom_Check.f k d) (checkSpec d) := by
  refine Ev.bind (a := rb (-1048576) d) (by have := right_l0 d hl d.length 0 (by omega) (fun h => by omega); exact this) ?_
  unfold checkSpec
  by_cases h : rb (-1048576) d = true
  · rw [if_pos h]
    simp only [if_pos h]
    refine Ev.bind (Size_ev d (rb_good h) (Int.le_refl _)) ?_
    by_cases h2 : (vals d).length > 4096
    · rw [if_pos h2]; exact Ev.ite_pos (by omega) (Ev.pure _)
    · rw [if_neg h2]; exact Ev.ite_neg (c := ((vals d).length : Int) > 4096) (by omega) (Ev.pure _)
  · rw [if_neg h]
    simp only [if_neg h]
    exact Ev.pure _
theorem ref_Check_l0 (d : List Rg) (hl : d.length < 4611686018427387904) : ∀ (m n : Nat) (s : Int), n + m = d.length → Gd 1048576 (-1048576) (d.take n) → s = (vals (d.take n)).length →
    Ev (fun k => secateurref02_Check.l0 k d s (n : Int)) (if rb (endB (-1048576) (d.take n)) (d.drop n) = true then (if (vals d).length > 4096 then 2 else 0) else 20) := by
  intro m
  induction m with
  | zero =>
    intro n s h hg hs
    rw [drop_nil' h, rb, if_pos rfl]
    rw [List.take_of_length_le (by omega)] at hs
    subst hs
    refine Ev.step (fun k => by rw [secateurref02_Check.l0, if_neg (by omega)]) ?_
    by_cases h2 : (vals d).length > 4096
    · rw [if_pos h2]; exact Ev.ite_pos (by omega) (Ev.pure _)
    · rw [if_neg h2]; exact Ev.ite_neg (c := ((vals d).length : Int) > 4096) (by omega) (Ev.pure _)
  | succ m ih =>
    intro n s h hg hs
    have hn : n < d.length := by omega
    rw [List.drop_eq_getElem_cons hn, rb]
    have hat := show rd_T52 d (n : Int) = d[n] from rg_nat d n hn
    have hvl := vals_length hg
    cases h0 : isVal d[n].f0 with
    | false => exact Ev.step (G := fun _ => some 20) (fun k => by rw [secateurref02_Check.l0, if_pos (by omega), if_pos (by omega), hat, refValue_f, Option.bind_some, if_neg (by rw [h0]; simp)]) (Ev.const (by simp))
    | true =>
      cases h1 : isVal d[n].f1 with
      | false => exact Ev.step (G := fun _ => some 20) (fun k => by rw [secateurref02_Check.l0, if_pos (by omega), if_pos (by omega), hat, refValue_f, Option.bind_some, if_pos h0, refValue_f, Option.bind_some, if_neg (by rw [h1]; simp)]) (Ev.const (by simp))
      | true =>
        have b0 := (isVal_iff _).1 h0
        have b1 := (isVal_iff _).1 h1
        by_cases h2 : d[n].f0 > d[n].f1
        · have hnle : ¬ d[n].f0 ≤ d[n].f1 := by omega
          exact Ev.step (G := fun _ => some 20) (fun k => by rw [secateurref02_Check.l0, if_pos (by omega), if_pos (by omega), hat, refValue_f, Option.bind_some, if_pos h0, refValue_f, Option.bind_some, if_pos h1, if_pos h2]) (Ev.const (by simp [hnle]))
        · have hle : d[n].f0 ≤ d[n].f1 := by omega
          have e : ∀ b, ((true && true && decide (d[n].f0 ≤ d[n].f1) && decide (b ≤ d[n].f0) && rb (d[n].f1 + 2) (d.drop (n + 1)))) = (decide (b ≤ d[n].f0) && rb (d[n].f1 + 2) (d.drop (n + 1))) := fun b => by simp [hle]
          rw [e]
          have hul := upTo_len (d[n].f1 + 1 - d[n].f0).toNat d[n].f0 d[n].f1
          have hv1 : ((vals (d.take (n + 1))).length : Int) = (vals (d.take n)).length + (d[n].f1 - d[n].f0 + 1) := by
            rw [List.take_succ_eq_append_getElem hn, vals_append, List.length_append]
            simp only [vals, List.append_nil]
            omega
          have w2 : wrap64 (s + wrap64 (wrap64 (d[n].f1 - d[n].f0) + 1)) = ((vals (d.take (n + 1))).length : Int) := by
            rw [w64 (n := d[n].f1 - d[n].f0) (by omega) (by omega), w64 (n := d[n].f1 - d[n].f0 + 1) (by omega) (by omega), w64 (n := s + _) (by omega) (by omega)]
            omega
          have hnext : endB (-1048576) (d.take n) ≤ d[n].f0 → _ := fun hh => ih (n + 1) ((vals (d.take (n + 1))).length : Int) (by omega) (by rw [List.take_succ_eq_append_getElem hn]; exact Gd_snoc.2 ⟨hg, hh, hle, b1.2⟩) rfl
          rw [endB_take d n hn] at hnext
          rcases Nat.eq_zero_or_pos n with rfl | hpos
          · have hh : endB (-1048576) (d.take 0) ≤ d[0].f0 := by simp [endB]; omega
            rw [decide_eq_true hh, Bool.true_and]
            exact Ev.step (fun k => by rw [secateurref02_Check.l0, if_pos (by omega), if_pos (by omega), hat, refValue_f, Option.bind_some, if_pos h0, refValue_f, Option.bind_some, if_pos h1, if_neg h2, if_neg (by omega), w2, w1 (by omega)]) (hnext hh)
          · have hn1 : n - 1 < d.length := by omega
            have e3 : endB (-1048576) (d.take n) = d[n - 1].f1 + 2 := by have := endB_take d (n - 1) hn1; rwa [show n - 1 + 1 = n by omega] at this
            have hprev : -1048576 ≤ d[n - 1].f1 ∧ d[n - 1].f1 ≤ 1048576 := by
              have : d.take n = d.take (n - 1) ++ [d[n - 1]] := by have := List.take_succ_eq_append_getElem hn1; rwa [show n - 1 + 1 = n by omega] at this
              rw [this] at hg
              obtain ⟨g1, g2, g3, g4⟩ := Gd_snoc.1 hg
              have := g1.end_ge
              omega
            have e4 : wrap64 ((n : Int) - 1) = ((n - 1 : Nat) : Int) := by rw [w64 (by omega) (by omega)]; omega
            have hat1 := show rd_T52 d ((n - 1 : Nat) : Int) = d[n - 1] from rg_nat d (n - 1) hn1
            rw [e3] at hnext ⊢
            by_cases h3 : d[n].f0 - d[n - 1].f1 < 2
            · rw [decide_eq_false (show ¬ d[n - 1].f1 + 2 ≤ d[n].f0 by omega), Bool.false_and]
              exact Ev.step (G := fun _ => some 20) (fun k => by rw [secateurref02_Check.l0, if_pos (by omega), if_pos (by omega), hat, refValue_f, Option.bind_some, if_pos h0, refValue_f, Option.bind_some, if_pos h1, if_neg h2, if_pos (by omega), e4, if_pos (by omega), if_pos (by omega), hat1, w64 (n := d[n].f0 - d[n - 1].f1) (by omega) (by omega), if_pos h3]) (Ev.const (by simp))
            · rw [decide_eq_true (show d[n - 1].f1 + 2 ≤ d[n].f0 by omega), Bool.true_and]
              exact Ev.step (fun k => by rw [secateurref02_Check.l0, if_pos (by omega), if_pos (by omega), hat, refValue_f, Option.bind_some, if_pos h0, refValue_f, Option.bind_some, if_pos h1, if_neg h2, if_pos (by omega), e4, if_pos (by omega), if_pos (by omega), hat1, w64 (n := d[n].f0 - d[n - 1].f1) (by omega) (by omega), if_neg h3, w2, w1 (by omega)]) (hnext (by omega))
theorem ref_Check_ev (d : List Rg) (hl : d.length < 4611686018427387904) : Ev (fun k => secateurref02_Check.f k d) (checkSpec d) := by
  have := ref_Check_l0 d hl d.length 0 0 (by omega) trivial rfl
  exact this
end Go.Proofs.Ytklanjkndoikeaa.P

namespace Go.Proofs.Ytklanjkndoikeaa.Pure
open Go.RowKit Go.Proofs.Ytklanjkndoikeaa.P
set_option linter.unusedVariables false

theorem mn_take (n : Nat) : 0 ≤ Go.Proofs.YtklanjkndoikeaaW.PrintWords.mn (n : Int) 60 ∧ Go.Proofs.YtklanjkndoikeaaW.PrintWords.mn (n : Int) 60 ≤ n ∧ Go.Proofs.YtklanjkndoikeaaW.PrintWords.mn (n : Int) 60 ≤ 60 := by
  unfold Go.Proofs.YtklanjkndoikeaaW.PrintWords.mn
  split <;> omega
theorem DomChecks (l0 : List Rg) (l1 : List Int) : ∃ k, secateurlaw02_DomChecks.f k l0 l1 = some true := by
  obtain ⟨a1, a2, a3⟩ := mn_take l0.length
  obtain ⟨b1, b2, b3⟩ := mn_take l1.length
  have hl0 : (l0.take (Go.Proofs.YtklanjkndoikeaaW.PrintWords.mn (l0.length : Int) 60).toNat).length ≤ 60 := by rw [List.length_take]; omega
  have hl1 : (l1.take (Go.Proofs.YtklanjkndoikeaaW.PrintWords.mn (l1.length : Int) 60).toNat).length ≤ 60 := by rw [List.length_take]; omega
  have hlen := ofSpec_length (l := l1.take (Go.Proofs.YtklanjkndoikeaaW.PrintWords.mn (l1.length : Int) 60).toNat) (by omega)
  refine Ev.out (F := fun k => secateurlaw02_DomChecks.f k l0 l1) ?_
  unfold secateurlaw02_DomChecks.f
  refine Ev.ite_pos a1 (Ev.ite_pos a2 (Ev.bind (Ev.pure _) (Ev.ite_pos b1 (Ev.ite_pos b2 (Ev.bind (Ev.pure _) ?_)))))
  generalize l0.take (Go.Proofs.YtklanjkndoikeaaW.PrintWords.mn (l0.length : Int) 60).toNat = d at *
  generalize l1.take (Go.Proofs.YtklanjkndoikeaaW.PrintWords.mn (l1.length : Int) 60).toNat = l at *
  refine Ev.ite_pos (by simp; omega) (Ev.bind (Of_ev l (by omega)) (Ev.bind (ref_Of l (by omega)) (Ev.bind (dom_Check_ev d (by omega)) (Ev.bind (ref_Check_ev d (by omega)) (Ev.ite_pos rfl (Ev.ite_pos rfl ?_))))))
  refine Ev.bind (ref_Same_self _ (by omega)) (Ev.ite_pos rfl (Ev.bind (by rw [List.nil_append]; exact ref_Nums_self l (by omega)) (Ev.ite_pos rfl (Ev.bind fixed_ev (Ev.pure _)))))
end Go.Proofs.Ytklanjkndoikeaa.Pure

/- What a datum of a statement's arguments holds: a number, a text, a row, a struct, whatever is nested: its cells read as a value of the kind. -/
namespace Go.Proofs.Ytklanjkndoikeaa.P
open Go.RowKit Go.ChangeShapes Go.WideShapes Go.Proofs.YtklanjkndoikeaaW.PrintWords
set_option linter.unusedVariables false

/-- Whatever reads as a datum of type t is a value of kind d, of which ok is true. -/
structure Opens {α : Type} (P : Program) (d : Kd α) (ok : α → Prop) (t : TypeId) : Prop where
  out : ∀ {H : Type} (enc : TypeId × Value → H) (w : World) (base : Nat) (sp : Nat → Bool) (held : Bool) (fuel : Nat) (cs : List Value) (x : DataW H × List MemPlace),
    DataW.trod enc P w base sp held fuel t cs = some x → ∃ v : α, d.K w v cs ∧ ok v
theorem Opens.int {P : Program} {t : TypeId} {k : IntKind} (ht : P.underlying t = some (.int k)) : Opens P (Kd.int k) (fun n => (Lit.int k n).wf = true) t := by
  refine ⟨?_⟩
  intro H enc w base sp held fuel cs x h
  obtain ⟨n, rfl, rfl, hw⟩ := DataW.trod_int ht h
  exact ⟨n, rfl, hw⟩
theorem Opens.bool {P : Program} {t : TypeId} (ht : P.underlying t = some .bool) : Opens P Kd.bool (fun _ => True) t := by
  refine ⟨?_⟩
  intro H enc w base sp held fuel cs x h
  obtain ⟨b, rfl, rfl⟩ := DataW.trod_bool ht h
  exact ⟨b, rfl, trivial⟩
theorem Opens.string {P : Program} {t : TypeId} (ht : P.underlying t = some .string) : Opens P Kd.string (fun s => s.size ≤ maxLen) t := by
  refine ⟨?_⟩
  intro H enc w base sp held fuel cs x h
  obtain ⟨s, rfl, rfl, hs⟩ := DataW.trod_string ht h
  exact ⟨s, rfl, hs⟩
theorem Opens.iso {α β : Type} {P : Program} {d : Kd α} {ok : α → Prop} {t : TypeId} (h : Opens P d ok t) (f : β → α) (g : α → β) (hfg : ∀ a, f (g a) = a) : Opens P (Kd.iso d f) (fun b => ok (f b)) t := by
  refine ⟨?_⟩
  intro H enc w base sp held fuel cs x hx
  obtain ⟨v, hK, hok⟩ := h.out enc w base sp held fuel cs x hx
  exact ⟨g v, by show d.K w (f (g v)) cs; rw [hfg]; exact hK, by show ok (f (g v)); rw [hfg]; exact hok⟩
theorem choose_list {α : Type} {n : Nat} {R : Nat → α → Prop} (h : ∀ i, i < n → ∃ a, R i a) : ∃ l : List α, l.length = n ∧ ∀ i (hi : i < l.length), R i l[i] := by
  induction n with
  | zero => exact ⟨[], rfl, fun i hi => absurd hi (by simp)⟩
  | succ n ih =>
    obtain ⟨l, hl, hR⟩ := ih (fun i hi => h i (by omega))
    obtain ⟨a, ha⟩ := h n (by omega)
    refine ⟨l ++ [a], by simp [hl], fun i hi => ?_⟩
    rcases Nat.lt_or_ge i l.length with hlt | hge
    · rw [List.getElem_append_left hlt]
      exact hR i hlt
    · have : i = l.length := by simp at hi; omega
      subst this
      rw [List.getElem_append_right (by omega)]
      simpa [hl] using ha
theorem addr_add (a : Addr) (i j : Nat) : (a.add i).add j = a.add (i + j) := by
  by_cases h : i = 0
  · subst h; simp [Addr.add]
  · by_cases h2 : j = 0
    · subst h2; simp [Addr.add]
    · simp [Addr.add, h, h2, Nat.add_assoc]
theorem Opens.row {α : Type} {P : Program} {d : Kd α} {ok : α → Prop} {t e : TypeId} (ht : P.underlying t = some (.slice e)) (hc : P.cellsOf e = d.sz) (h : Opens P d ok e) :
    Opens P (Kd.slice e d) (fun l => l.length ≤ maxLen ∧ ∀ x ∈ l, ok x) t := by
  refine ⟨?_⟩
  intro H enc w base sp held fuel cs x hx
  rcases Go.Deep.open_slice ht hx with ⟨rfl, rfl⟩ | ⟨a, len, cap, m, n, D, Pl, rfl, hb, hl, hm, hmm, rfl, he⟩
  · exact ⟨[], ⟨none, 0, rfl, Nat.le_refl _, rfl, by simp, fun h => absurd h (by simp)⟩, by simp, fun x hx => by simp at hx⟩
  · have hlm : len ≤ m := by rw [hmm]; split <;> omega
    have each : ∀ i, i < len → ∃ v : α, ok v ∧ ∃ c, c.length = d.sz ∧ d.K w v c ∧ ∀ j u, c[j]? = some u → w.cell? (a.add (i * d.sz + j)) = some u := fun i hi => by
      obtain ⟨cs', h1, h2⟩ := he i (by omega)
      obtain ⟨v, hK, hok⟩ := h.out enc w base sp held n cs' _ h2
      obtain ⟨_, hlen, hcell⟩ := World.cells?_some h1
      rw [hc] at hlen hcell
      refine ⟨v, hok, cs', hlen, hK, fun j u hu => ?_⟩
      have hj : j < d.sz := by rw [← hlen]; exact (List.getElem?_eq_some_iff.1 hu).1
      have := hcell j hj
      rw [hu] at this
      rw [← this, addr_add]
    obtain ⟨l, hll, hR⟩ := choose_list each
    have hmax : cap ≤ 9223372036854775807 := by unfold maxLen at hm; exact hm
    refine ⟨l, ⟨some a, cap, by rw [hll], by omega, rfl, by omega, fun _ => ⟨a, rfl, fun j p hp => ?_⟩⟩, by omega, fun x hx => ?_⟩
    · obtain ⟨hj, rfl⟩ := List.getElem?_eq_some_iff.1 hp
      obtain ⟨_, c, h1, h2, h3⟩ := hR j hj
      exact ⟨c, h1, h2, h3⟩
    · obtain ⟨i, hi, rfl⟩ := List.mem_iff_getElem.1 hx
      exact (hR i hi).1
/-- The fields from an offset on. -/
structure OpensF {α : Type} (P : Program) (d : Kd α) (ok : α → Prop) (fs : List Field) (off : Nat) : Prop where
  out : ∀ {H : Type} (enc : TypeId × Value → H) (w : World) (base : Nat) (sp : Nat → Bool) (held : Bool) (fuel : Nat) (cs : List Value), cs.length = off + d.sz →
    (∀ f ∈ fs, ∃ x, DataW.trod enc P w base sp held fuel f.type ((cs.drop f.offset).take (P.cellsOf f.type)) = some x) → ∃ v : α, d.K w v (cs.drop off) ∧ ok v
theorem OpensF.last {α : Type} {P : Program} {d : Kd α} {ok : α → Prop} {f : Field} {off : Nat} (ho : f.offset = off) (hc : P.cellsOf f.type = d.sz) (h : Opens P d ok f.type) : OpensF P d ok [f] off := by
  refine ⟨?_⟩
  intro H enc w base sp held fuel cs hl hf
  obtain ⟨x, hx⟩ := hf f (by simp)
  rw [ho, hc, List.take_of_length_le (by simp; omega)] at hx
  exact h.out enc w base sp held fuel _ x hx
theorem OpensF.cons {α β : Type} {P : Program} {d : Kd α} {ok : α → Prop} {d' : Kd β} {ok' : β → Prop} {f : Field} {fs : List Field} {off : Nat} (ho : f.offset = off) (hc : P.cellsOf f.type = d.sz) (h : Opens P d ok f.type) (h' : OpensF P d' ok' fs (off + d.sz)) :
    OpensF P (Kd.pair d d') (fun z => ok z.1 ∧ ok' z.2) (f :: fs) off := by
  refine ⟨?_⟩
  intro H enc w base sp held fuel cs hl hf
  have hl' : cs.length = off + (d.sz + d'.sz) := hl
  obtain ⟨x, hx⟩ := hf f (by simp)
  obtain ⟨v, hK, hok⟩ := h.out enc w base sp held fuel _ x hx
  obtain ⟨v', hK', hok'⟩ := h'.out enc w base sp held fuel cs (by omega) (fun g hg => hf g (List.mem_cons_of_mem _ hg))
  rw [ho, hc] at hK
  refine ⟨(v, v'), ⟨(cs.drop off).take d.sz, cs.drop (off + d.sz), ?_, hK, hK'⟩, hok, hok'⟩
  rw [← List.drop_drop, List.take_append_drop]
theorem Opens.struct {α : Type} {P : Program} {d : Kd α} {ok : α → Prop} {t : TypeId} {fs : List Field} (ht : P.underlying t = some (.struct fs.toArray)) (hc : P.cellsOf t = d.sz) (h : OpensF P d ok fs 0) : Opens P d ok t := by
  refine ⟨?_⟩
  intro H enc w base sp held fuel cs x hx
  obtain ⟨xs, n, rfl, rfl, hl, hxl, hf⟩ := DataW.trod_struct ht hx
  have := h.out enc w base sp held n cs (by omega) (fun f hf' => by
    obtain ⟨i, hi, rfl⟩ := List.mem_iff_getElem.1 hf'
    have := hf i fs[i] (by simp [hi])
    rw [List.getElem?_eq_getElem (by simp at hxl; omega)] at this
    exact ⟨_, by simpa using this⟩)
  simpa using this
/-- A slice that is an argument. -/
theorem Opens.arg {α H : Type} {P : Program} {d : Kd α} {ok : List α → Prop} {e t : TypeId} (h : Opens P (Kd.slice e d) ok t) {enc : TypeId × Value → H} {w : World} {base : Nat} {sp : Nat → Bool} {held : Bool} {A : Option Addr} {len cap : Nat} {dt : DataW H} {ps : List MemPlace}
    (hT : DataW.Trod enc P w base sp held t (.slice A len cap) dt ps) : ∃ l : List α, l.length = len ∧ l.length ≤ cap ∧ d.C w A l.length l ∧ ok l := by
  obtain ⟨fuel, hf⟩ := hT
  obtain ⟨l, ⟨A', c, hcs, hl, hC⟩, hok⟩ := h.out enc w base sp held fuel _ _ hf
  simp [Value.cells] at hcs
  obtain ⟨rfl, rfl, rfl⟩ := hcs
  exact ⟨l, rfl, hl, hC, hok⟩
end Go.Proofs.Ytklanjkndoikeaa.P

namespace Go.Proofs.Ytklanjkndoikeaa.domChecks
open Go.ChangeShapes Go.WideShapes Go.ChangeAt Go.RowKit
open Go.ChangeMaps (open_string shut_string)
open Go.Proofs.Ytklanjkndoikeaa.P (Opens OpensF Opens.int Opens.row Opens.struct Opens.iso Opens.arg OpensF.last OpensF.cons S52 k52)
open Go.Proofs.YtklanjkndoikeaaW.PrintWords
set_option linter.unusedVariables false
theorem own : ownKnob Try.prog.godebug = none := by kernel_rfl
theorem laidOut : laidOutB Try.prog = true := by kernel_rfl
theorem o_int : Opens Try.prog (Kd.int .i64) (fun n => (Lit.int .i64 n).wf = true) 3 := Opens.int Try.underlying3
theorem o_ints : Opens Try.prog (Kd.slice 3 (Kd.int .i64)) (fun l => l.length ≤ maxLen ∧ ∀ x ∈ l, (Lit.int .i64 x).wf = true) 23 := Opens.row Try.underlying23 (by kernel_rfl) o_int
theorem o_range : Opens Try.prog k52 (fun b : S52 => (Lit.int .i64 b.f0).wf = true ∧ (Lit.int .i64 b.f1).wf = true) 52 :=
  Opens.iso (Opens.struct (d := Kd.pair (Kd.int .i64) (Kd.int .i64)) (ok := fun z => (Lit.int .i64 z.1).wf = true ∧ (Lit.int .i64 z.2).wf = true) Try.underlying52 (by kernel_rfl) (OpensF.cons (ok := fun n => (Lit.int .i64 n).wf = true) (ok' := fun n => (Lit.int .i64 n).wf = true) rfl (by kernel_rfl) o_int (OpensF.last rfl (by kernel_rfl) o_int))) (fun x : S52 => (x.f0, x.f1)) (fun z => ⟨z.1, z.2⟩) (fun _ => rfl)
theorem o_ranges : Opens Try.prog (Kd.slice 52 k52) (fun l => l.length ≤ maxLen ∧ ∀ x ∈ l, (Lit.int .i64 x.f0).wf = true ∧ (Lit.int .i64 x.f1).wf = true) 22 := Opens.row Try.underlying22 (by kernel_rfl) o_range
set_option maxRecDepth 100000 in
theorem lifted (os : Os) (started : os.Started) (H : Type) (enc : TypeId × Value → H) :
  ReturnsInHanded {} Try.checked os 3 .any (Rows.domChecksSpec.pre6 enc Try.prog Try.f3 Rows.domChecksRow.domain false) (Rows.domChecksSpec.post enc Try.prog Try.f3 false true false false) := by
 refine returnsInHanded_of_change_sized (C := Try.checked) own started (by kernel_rfl) Try.func3
  (ChangeSpec.witness6 (enc := enc) (C := Try.checked) false ⟨#[], #[.slice none 0 0, .slice none 0 0], []⟩ 8 (by kernel_rfl) (by kernel_rfl) (by kernel_rfl) (by kernel_rfl)) ?_
 intro W base args ds gs before hval0 hW hcnd hsz0 _
 have hval : ∀ (j : Nat) t v, Try.f3.params[j]? = some t → args[j]? = some v → Value.okWide Try.prog W .any base t v := hval0
 have hW' := hW
 obtain ⟨p, q, hA0, hV, rfl, hfz, hnd⟩ := hW
 have hA : DataW.TrodAll enc Try.prog W 0 (fun _ => true) true Try.f3.params.toList args.toList ds p := hA0
 rw [Try.params3] at hA hval
 obtain ⟨v0, vs0, d0, ds0, p0, q0, hargs, rfl, rfl, h0, r0⟩ := trodAll_cons hA
 obtain ⟨v1, vs1, d1, ds1, p1, q1, rfl, rfl, rfl, h1, r1⟩ := trodAll_cons r0
 obtain ⟨rfl, rfl, rfl⟩ := trodAll_nil r1
 obtain rfl : args = #[v0, v1] := by cases args; simp_all
 obtain ⟨rfl, rfl⟩ := trodVars_none hV
 obtain ⟨a0, len0, cap0, rfl⟩ := okWide_slice Try.underlying22 (hval 0 22 v0 rfl rfl)
 have k0 := h0
 have lt0 : ∀ x ∈ p0, x.block < W.heap.size := by obtain ⟨m, hm⟩ := k0; exact DataW.trod_lt m _ _ _ hm
 obtain ⟨l0, rfl, hc0, hC0, ok0⟩ := Opens.arg o_ranges h0
 obtain ⟨a1, len1, cap1, rfl⟩ := okWide_slice Try.underlying23 (hval 1 23 v1 rfl rfl)
 have k1 := h1
 have lt1 : ∀ x ∈ p1, x.block < W.heap.size := by obtain ⟨m, hm⟩ := k1; exact DataW.trod_lt m _ _ _ hm
 obtain ⟨l1, rfl, hc1, hC1, ok1⟩ := Opens.arg o_ints h1
 clear hA0 hval0 hsz0
 obtain ⟨k, hk⟩ := Pure.DomChecks l0 l1
 refine (P.secateurlaw02_DomChecks.calls k a0 cap0 l0 a1 cap1 l1 true W hC0 hc0 hC1 hc1 hk).mono fun e W' ⟨he, bel⟩ => ?_
 subst he
 exact ⟨_, rfl, _, _, _, [], _, [], hW', trodAll_mk1 (shut_bool Try.underlying4 _), (trodAll_cons_mk (Below.trod laidOut (by kernel_rfl) (of_decide_eq_true (by kernel_rfl)) k0 bel lt0) (trodAll_cons_mk (Below.trod laidOut (by kernel_rfl) (of_decide_eq_true (by kernel_rfl)) k1 bel lt1) trodAll_mk0)), rfl, bel.frame _, fun h => by cases h⟩
theorem over : Rows.domChecksRow.holds Try.pinned (OpenSpec.ofChange Rows.domChecksSpec) :=
 OpenClaim.holds_of_wide 3 Try.f3 rfl rfl rfl rfl rfl rfl rfl ⟨rfl, rfl, rfl, rfl, rfl⟩ rfl rfl rfl rfl rfl (by kernel_rfl) Try.func3 (by kernel_rfl)
  (of_decide_eq_true (by kernel_rfl)) (by unfold Func.isWrapper; first | (rw [if_pos (by decide +kernel)]; kernel_rfl) | (rw [if_neg (by decide +kernel)]; exact ⟨rfl, rfl⟩))
  (fun os started H enc _ => lifted os started H enc)
theorem proved : Rows.DomChecksSaid := over
end Go.Proofs.Ytklanjkndoikeaa.domChecks
namespace Go.Proofs.Ytklanjkndoikeaa
/-- The row, under a short name, for the claim. -/
theorem domChecks_holds : Rows.DomChecksSaid := domChecks.proved
end Go.Proofs.Ytklanjkndoikeaa
