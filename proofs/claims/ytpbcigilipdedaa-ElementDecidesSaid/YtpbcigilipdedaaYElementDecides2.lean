/- Proved: the statement ElementDecides. Conditions: none but those of the statement. -/
import Derived.Test.YtpbcigilipdedaaRows
import Derived.Test.YtpbcigilipdedaaYElementDecides1
import Derived.WalkKit
import Derived.ProofKit
import Derived.OpenShut
import Derived.ShutString
import Derived.ChangeOld
import Derived.Below
import Derived.SizedLaws
import Derived.Test.YtpbcigilipdedaaU1
namespace Go.Proofs.Ytpbcigilipdedaa.elementDecides
open Go.ChangeShapes Go.WideShapes Go.ChangeAt Go.RowKit
open Go.ChangeMaps (open_string shut_string)
open Go.Proofs.Ytpbcigilipdedaa.P
open Go.Proofs.YtpbcigilipdedaaW.PrintWords
set_option linter.unusedVariables false
theorem own : ownKnob Try.prog.godebug = none := by kernel_rfl
theorem laidOut : laidOutB Try.prog = true := by kernel_rfl
theorem o_int : OpensZ Try.prog (Kd.int .i64) (fun n => (Lit.int .i64 n).wf = true) 3 := OpensZ.int Try.underlying3
theorem o_Lint : OpensZ Try.prog (Kd.slice 3 (Kd.int .i64)) (fun l => (List.length l * 8 ≤ 140737488351232 ∧ ∀ y1_ ∈ l, (Lit.int .i64 y1_).wf = true)) 23 := OpensZ.row Try.underlying23 (by kernel_rfl) (by kernel_rfl) o_int
theorem o_LLint : OpensZ Try.prog (Kd.slice 23 (Kd.slice 3 (Kd.int .i64))) (fun l => (List.length l * 24 ≤ 140737488351232 ∧ ∀ y1_ ∈ l, (List.length y1_ * 8 ≤ 140737488351232 ∧ ∀ y2_ ∈ y1_, (Lit.int .i64 y2_).wf = true))) 22 := OpensZ.row Try.underlying22 (by kernel_rfl) (by kernel_rfl) o_Lint
set_option maxHeartbeats 2000000 in
theorem p_api_Con : OpensZ Try.prog (Kd.pair (Kd.int .i64) (Kd.pair (Kd.slice 3 (Kd.int .i64)) (Kd.pair (Kd.slice 3 (Kd.int .i64)) (Kd.pair (Kd.int .i64) (Kd.pair (Kd.int .i64) (Kd.pair (Kd.slice 23 (Kd.slice 3 (Kd.int .i64))) (Kd.int .i64))))))) (fun z => ((Lit.int .i64 (z).1).wf = true ∧ ((List.length ((z).2).1 * 8 ≤ 140737488351232 ∧ ∀ y1_ ∈ ((z).2).1, (Lit.int .i64 y1_).wf = true) ∧ ((List.length (((z).2).2).1 * 8 ≤ 140737488351232 ∧ ∀ y1_ ∈ (((z).2).2).1, (Lit.int .i64 y1_).wf = true) ∧ ((Lit.int .i64 ((((z).2).2).2).1).wf = true ∧ ((Lit.int .i64 (((((z).2).2).2).2).1).wf = true ∧ ((List.length ((((((z).2).2).2).2).2).1 * 24 ≤ 140737488351232 ∧ ∀ y1_ ∈ ((((((z).2).2).2).2).2).1, (List.length y1_ * 8 ≤ 140737488351232 ∧ ∀ y2_ ∈ y1_, (Lit.int .i64 y2_).wf = true)) ∧ (Lit.int .i64 ((((((z).2).2).2).2).2).2).wf = true))))))) 25 := by
 refine OpensZ.struct (d := (Kd.pair (Kd.int .i64) (Kd.pair (Kd.slice 3 (Kd.int .i64)) (Kd.pair (Kd.slice 3 (Kd.int .i64)) (Kd.pair (Kd.int .i64) (Kd.pair (Kd.int .i64) (Kd.pair (Kd.slice 23 (Kd.slice 3 (Kd.int .i64))) (Kd.int .i64)))))))) Try.underlying25 (by kernel_rfl) ?_
 refine OpensZF.cons (d := (Kd.int .i64)) (ok := fun v_ : Int => (Lit.int .i64 v_).wf = true) (ok' := fun z_ : ((List Int) × (List Int) × Int × Int × (List (List Int)) × Int) => ((List.length (z_).1 * 8 ≤ 140737488351232 ∧ ∀ y1_ ∈ (z_).1, (Lit.int .i64 y1_).wf = true) ∧ ((List.length ((z_).2).1 * 8 ≤ 140737488351232 ∧ ∀ y1_ ∈ ((z_).2).1, (Lit.int .i64 y1_).wf = true) ∧ ((Lit.int .i64 (((z_).2).2).1).wf = true ∧ ((Lit.int .i64 ((((z_).2).2).2).1).wf = true ∧ ((List.length (((((z_).2).2).2).2).1 * 24 ≤ 140737488351232 ∧ ∀ y1_ ∈ (((((z_).2).2).2).2).1, (List.length y1_ * 8 ≤ 140737488351232 ∧ ∀ y2_ ∈ y1_, (Lit.int .i64 y2_).wf = true)) ∧ (Lit.int .i64 (((((z_).2).2).2).2).2).wf = true)))))) (by kernel_rfl) (by kernel_rfl) o_int ?_
 refine OpensZF.cons (d := (Kd.slice 3 (Kd.int .i64))) (ok := fun v_ : (List Int) => (List.length v_ * 8 ≤ 140737488351232 ∧ ∀ y1_ ∈ v_, (Lit.int .i64 y1_).wf = true)) (ok' := fun z_ : ((List Int) × Int × Int × (List (List Int)) × Int) => ((List.length (z_).1 * 8 ≤ 140737488351232 ∧ ∀ y1_ ∈ (z_).1, (Lit.int .i64 y1_).wf = true) ∧ ((Lit.int .i64 ((z_).2).1).wf = true ∧ ((Lit.int .i64 (((z_).2).2).1).wf = true ∧ ((List.length ((((z_).2).2).2).1 * 24 ≤ 140737488351232 ∧ ∀ y1_ ∈ ((((z_).2).2).2).1, (List.length y1_ * 8 ≤ 140737488351232 ∧ ∀ y2_ ∈ y1_, (Lit.int .i64 y2_).wf = true)) ∧ (Lit.int .i64 ((((z_).2).2).2).2).wf = true))))) (by kernel_rfl) (by kernel_rfl) o_Lint ?_
 refine OpensZF.cons (d := (Kd.slice 3 (Kd.int .i64))) (ok := fun v_ : (List Int) => (List.length v_ * 8 ≤ 140737488351232 ∧ ∀ y1_ ∈ v_, (Lit.int .i64 y1_).wf = true)) (ok' := fun z_ : (Int × Int × (List (List Int)) × Int) => ((Lit.int .i64 (z_).1).wf = true ∧ ((Lit.int .i64 ((z_).2).1).wf = true ∧ ((List.length (((z_).2).2).1 * 24 ≤ 140737488351232 ∧ ∀ y1_ ∈ (((z_).2).2).1, (List.length y1_ * 8 ≤ 140737488351232 ∧ ∀ y2_ ∈ y1_, (Lit.int .i64 y2_).wf = true)) ∧ (Lit.int .i64 (((z_).2).2).2).wf = true)))) (by kernel_rfl) (by kernel_rfl) o_Lint ?_
 refine OpensZF.cons (d := (Kd.int .i64)) (ok := fun v_ : Int => (Lit.int .i64 v_).wf = true) (ok' := fun z_ : (Int × (List (List Int)) × Int) => ((Lit.int .i64 (z_).1).wf = true ∧ ((List.length ((z_).2).1 * 24 ≤ 140737488351232 ∧ ∀ y1_ ∈ ((z_).2).1, (List.length y1_ * 8 ≤ 140737488351232 ∧ ∀ y2_ ∈ y1_, (Lit.int .i64 y2_).wf = true)) ∧ (Lit.int .i64 ((z_).2).2).wf = true))) (by kernel_rfl) (by kernel_rfl) o_int ?_
 refine OpensZF.cons (d := (Kd.int .i64)) (ok := fun v_ : Int => (Lit.int .i64 v_).wf = true) (ok' := fun z_ : ((List (List Int)) × Int) => ((List.length (z_).1 * 24 ≤ 140737488351232 ∧ ∀ y1_ ∈ (z_).1, (List.length y1_ * 8 ≤ 140737488351232 ∧ ∀ y2_ ∈ y1_, (Lit.int .i64 y2_).wf = true)) ∧ (Lit.int .i64 (z_).2).wf = true)) (by kernel_rfl) (by kernel_rfl) o_int ?_
 refine OpensZF.cons (d := (Kd.slice 23 (Kd.slice 3 (Kd.int .i64)))) (ok := fun v_ : (List (List Int)) => (List.length v_ * 24 ≤ 140737488351232 ∧ ∀ y1_ ∈ v_, (List.length y1_ * 8 ≤ 140737488351232 ∧ ∀ y2_ ∈ y1_, (Lit.int .i64 y2_).wf = true))) (ok' := fun z_ : (Int) => (Lit.int .i64 z_).wf = true) (by kernel_rfl) (by kernel_rfl) o_LLint ?_
 exact OpensZF.last (d := (Kd.int .i64)) (ok := fun v_ : Int => (Lit.int .i64 v_).wf = true) (by kernel_rfl) (by kernel_rfl) o_int
set_option maxHeartbeats 2000000 in
theorem Ze4 : OpensZ Try.prog (Kd.pair (Kd.slice 23 (Kd.slice 3 (Kd.int .i64))) (Kd.pair (Kd.pair (Kd.int .i64) (Kd.pair (Kd.slice 3 (Kd.int .i64)) (Kd.pair (Kd.slice 3 (Kd.int .i64)) (Kd.pair (Kd.int .i64) (Kd.pair (Kd.int .i64) (Kd.pair (Kd.slice 23 (Kd.slice 3 (Kd.int .i64))) (Kd.int .i64))))))) (Kd.pair (Kd.slice 3 (Kd.int .i64)) (Kd.slice 3 (Kd.int .i64))))) (fun z => ((List.length (z).1 * 24 ≤ 140737488351232 ∧ ∀ y1_ ∈ (z).1, (List.length y1_ * 8 ≤ 140737488351232 ∧ ∀ y2_ ∈ y1_, (Lit.int .i64 y2_).wf = true)) ∧ (((Lit.int .i64 (((z).2).1).1).wf = true ∧ ((List.length ((((z).2).1).2).1 * 8 ≤ 140737488351232 ∧ ∀ y1_ ∈ ((((z).2).1).2).1, (Lit.int .i64 y1_).wf = true) ∧ ((List.length (((((z).2).1).2).2).1 * 8 ≤ 140737488351232 ∧ ∀ y1_ ∈ (((((z).2).1).2).2).1, (Lit.int .i64 y1_).wf = true) ∧ ((Lit.int .i64 ((((((z).2).1).2).2).2).1).wf = true ∧ ((Lit.int .i64 (((((((z).2).1).2).2).2).2).1).wf = true ∧ ((List.length ((((((((z).2).1).2).2).2).2).2).1 * 24 ≤ 140737488351232 ∧ ∀ y1_ ∈ ((((((((z).2).1).2).2).2).2).2).1, (List.length y1_ * 8 ≤ 140737488351232 ∧ ∀ y2_ ∈ y1_, (Lit.int .i64 y2_).wf = true)) ∧ (Lit.int .i64 ((((((((z).2).1).2).2).2).2).2).2).wf = true)))))) ∧ ((List.length (((z).2).2).1 * 8 ≤ 140737488351232 ∧ ∀ y1_ ∈ (((z).2).2).1, (Lit.int .i64 y1_).wf = true) ∧ (List.length (((z).2).2).2 * 8 ≤ 140737488351232 ∧ ∀ y1_ ∈ (((z).2).2).2, (Lit.int .i64 y1_).wf = true))))) 27 := by
 refine OpensZ.struct (d := (Kd.pair (Kd.slice 23 (Kd.slice 3 (Kd.int .i64))) (Kd.pair (Kd.pair (Kd.int .i64) (Kd.pair (Kd.slice 3 (Kd.int .i64)) (Kd.pair (Kd.slice 3 (Kd.int .i64)) (Kd.pair (Kd.int .i64) (Kd.pair (Kd.int .i64) (Kd.pair (Kd.slice 23 (Kd.slice 3 (Kd.int .i64))) (Kd.int .i64))))))) (Kd.pair (Kd.slice 3 (Kd.int .i64)) (Kd.slice 3 (Kd.int .i64)))))) Try.underlying27 (by kernel_rfl) ?_
 refine OpensZF.cons (d := (Kd.slice 23 (Kd.slice 3 (Kd.int .i64)))) (ok := fun v_ : (List (List Int)) => (List.length v_ * 24 ≤ 140737488351232 ∧ ∀ y1_ ∈ v_, (List.length y1_ * 8 ≤ 140737488351232 ∧ ∀ y2_ ∈ y1_, (Lit.int .i64 y2_).wf = true))) (ok' := fun z_ : ((Int × (List Int) × (List Int) × Int × Int × (List (List Int)) × Int) × (List Int) × (List Int)) => (((Lit.int .i64 ((z_).1).1).wf = true ∧ ((List.length (((z_).1).2).1 * 8 ≤ 140737488351232 ∧ ∀ y1_ ∈ (((z_).1).2).1, (Lit.int .i64 y1_).wf = true) ∧ ((List.length ((((z_).1).2).2).1 * 8 ≤ 140737488351232 ∧ ∀ y1_ ∈ ((((z_).1).2).2).1, (Lit.int .i64 y1_).wf = true) ∧ ((Lit.int .i64 (((((z_).1).2).2).2).1).wf = true ∧ ((Lit.int .i64 ((((((z_).1).2).2).2).2).1).wf = true ∧ ((List.length (((((((z_).1).2).2).2).2).2).1 * 24 ≤ 140737488351232 ∧ ∀ y1_ ∈ (((((((z_).1).2).2).2).2).2).1, (List.length y1_ * 8 ≤ 140737488351232 ∧ ∀ y2_ ∈ y1_, (Lit.int .i64 y2_).wf = true)) ∧ (Lit.int .i64 (((((((z_).1).2).2).2).2).2).2).wf = true)))))) ∧ ((List.length ((z_).2).1 * 8 ≤ 140737488351232 ∧ ∀ y1_ ∈ ((z_).2).1, (Lit.int .i64 y1_).wf = true) ∧ (List.length ((z_).2).2 * 8 ≤ 140737488351232 ∧ ∀ y1_ ∈ ((z_).2).2, (Lit.int .i64 y1_).wf = true)))) (by kernel_rfl) (by kernel_rfl) o_LLint ?_
 refine OpensZF.cons (d := (Kd.pair (Kd.int .i64) (Kd.pair (Kd.slice 3 (Kd.int .i64)) (Kd.pair (Kd.slice 3 (Kd.int .i64)) (Kd.pair (Kd.int .i64) (Kd.pair (Kd.int .i64) (Kd.pair (Kd.slice 23 (Kd.slice 3 (Kd.int .i64))) (Kd.int .i64)))))))) (ok := fun v_ : (Int × (List Int) × (List Int) × Int × Int × (List (List Int)) × Int) => ((Lit.int .i64 (v_).1).wf = true ∧ ((List.length ((v_).2).1 * 8 ≤ 140737488351232 ∧ ∀ y1_ ∈ ((v_).2).1, (Lit.int .i64 y1_).wf = true) ∧ ((List.length (((v_).2).2).1 * 8 ≤ 140737488351232 ∧ ∀ y1_ ∈ (((v_).2).2).1, (Lit.int .i64 y1_).wf = true) ∧ ((Lit.int .i64 ((((v_).2).2).2).1).wf = true ∧ ((Lit.int .i64 (((((v_).2).2).2).2).1).wf = true ∧ ((List.length ((((((v_).2).2).2).2).2).1 * 24 ≤ 140737488351232 ∧ ∀ y1_ ∈ ((((((v_).2).2).2).2).2).1, (List.length y1_ * 8 ≤ 140737488351232 ∧ ∀ y2_ ∈ y1_, (Lit.int .i64 y2_).wf = true)) ∧ (Lit.int .i64 ((((((v_).2).2).2).2).2).2).wf = true))))))) (ok' := fun z_ : ((List Int) × (List Int)) => ((List.length (z_).1 * 8 ≤ 140737488351232 ∧ ∀ y1_ ∈ (z_).1, (Lit.int .i64 y1_).wf = true) ∧ (List.length (z_).2 * 8 ≤ 140737488351232 ∧ ∀ y1_ ∈ (z_).2, (Lit.int .i64 y1_).wf = true))) (by kernel_rfl) (by kernel_rfl) p_api_Con ?_
 refine OpensZF.cons (d := (Kd.slice 3 (Kd.int .i64))) (ok := fun v_ : (List Int) => (List.length v_ * 8 ≤ 140737488351232 ∧ ∀ y1_ ∈ v_, (Lit.int .i64 y1_).wf = true)) (ok' := fun z_ : ((List Int)) => (List.length z_ * 8 ≤ 140737488351232 ∧ ∀ y1_ ∈ z_, (Lit.int .i64 y1_).wf = true)) (by kernel_rfl) (by kernel_rfl) o_Lint ?_
 exact OpensZF.last (d := (Kd.slice 3 (Kd.int .i64))) (ok := fun v_ : (List Int) => (List.length v_ * 8 ≤ 140737488351232 ∧ ∀ y1_ ∈ v_, (Lit.int .i64 y1_).wf = true)) (by kernel_rfl) (by kernel_rfl) o_Lint
set_option maxRecDepth 100000 in
theorem lifted (os : Os) (started : os.Started) (H : Type) (enc : TypeId × Value → H) :
  ReturnsInHanded {} Try.checked os 12 .any (Rows.elementDecidesSpec.pre6 enc Try.prog Try.f12 Rows.elementDecidesRow.domain false) (Rows.elementDecidesSpec.post enc Try.prog Try.f12 false true false false) := by
 refine returnsInHanded_of_change_sized (C := Try.checked) own started (by kernel_rfl) Try.func12
  (ChangeSpec.witness6 (enc := enc) (C := Try.checked) false ⟨#[], #[.agg #[.slice none 0 0, .int .i64 0, .slice none 0 0, .slice none 0 0, .int .i64 0, .int .i64 0, .slice none 0 0, .int .i64 0, .slice none 0 0, .slice none 0 0]], []⟩ 8 (by kernel_rfl) (by kernel_rfl) (by kernel_rfl) (by kernel_rfl)) ?_
 intro W base args ds gs before hval0 hW hcnd hsz0 _
 have hsz : (DataW.weightsEach Try.prog (Try.f12.params.toList ++ Rows.elementDecidesSpec.plain.varTypes Try.prog) (ds ++ gs)).all (· ≤ reachBytes) = true := hsz0
 have hval : ∀ (j : Nat) t v, Try.f12.params[j]? = some t → args[j]? = some v → Value.okWide Try.prog W .any base t v := hval0
 have hW' := hW
 obtain ⟨p, q, hA0, hV, rfl, hfz, hnd⟩ := hW
 have hA : DataW.TrodAll enc Try.prog W 0 (fun _ => true) true Try.f12.params.toList args.toList ds p := hA0
 rw [Try.params12] at hA hval hsz
 obtain ⟨v0, vs0, d0, ds0, p0, q0, hargs, rfl, rfl, h0, r0⟩ := trodAll_cons hA
 obtain ⟨rfl, rfl, rfl⟩ := trodAll_nil r0
 obtain rfl : args = #[v0] := by cases args; simp_all
 obtain ⟨rfl, rfl⟩ := trodVars_none hV
 have k0 := h0
 have lt0 : ∀ x ∈ p0, x.block < W.heap.size := by obtain ⟨m, hm⟩ := k0; exact DataW.trod_lt m _ _ _ hm
 obtain ⟨cs0, rfl, _⟩ := okWide_struct Try.underlying27 (hval 0 27 v0 rfl rfl)
 obtain ⟨fu0, hf0⟩ := h0
 obtain ⟨⟨x0, ⟨⟨x1, ⟨x2, ⟨x3, ⟨x4, ⟨x5, ⟨x6, x7⟩⟩⟩⟩⟩⟩, ⟨x8, x9⟩⟩⟩, hK0, ⟨ok0, ⟨⟨ok1, ⟨ok2, ⟨ok3, ⟨ok4, ⟨ok5, ⟨ok6, ok7⟩⟩⟩⟩⟩⟩, ⟨ok8, ok9⟩⟩⟩⟩ := Ze4.out _ _ _ _ _ _ _ _ hf0 (each_weights hsz (j := 0) (t := 27) rfl rfl)
 obtain ⟨_, _, e, ⟨A0, c0, rfl, hc0, hC0⟩, ⟨_, _, rfl, ⟨_, _, rfl, rfl, ⟨_, _, rfl, ⟨A2, c2, rfl, hc2, hC2⟩, ⟨_, _, rfl, ⟨A3, c3, rfl, hc3, hC3⟩, ⟨_, _, rfl, rfl, ⟨_, _, rfl, rfl, ⟨_, _, rfl, ⟨A6, c6, rfl, hc6, hC6⟩, rfl⟩⟩⟩⟩⟩⟩, ⟨_, _, rfl, ⟨A8, c8, rfl, hc8, hC8⟩, ⟨A9, c9, rfl, hc9, hC9⟩⟩⟩⟩ := hK0
 obtain rfl : cs0 = #[.slice A0 x0.length c0, .int .i64 x1, .slice A2 x2.length c2, .slice A3 x3.length c3, .int .i64 x4, .int .i64 x5, .slice A6 x6.length c6, .int .i64 x7, .slice A8 x8.length c8, .slice A9 x9.length c9] := by
  apply Array.ext'
  simpa [Value.cells] using e
 clear hA0 hval0 hsz0 hsz
 refine (P.Zfk A0 c0 x0 x1 A2 c2 x2 A3 c3 x3 x4 x5 A6 c6 x6 x7 A8 c8 x8 A9 c9 x9 W hC0 hc0 ok0 ok1 hC2 hc2 ok2 hC3 hc3 ok3 ok4 ok5 hC6 hc6 ok6 ok7 hC8 hc8 ok8 hC9 hc9 ok9).mono fun e W' ⟨he, bel⟩ => ?_
 subst he
 exact ⟨_, rfl, _, _, _, [], _, [], hW', trodAll_mk1 (shut_bool Try.underlying4 _), (trodAll_cons_mk (Below.trod laidOut (by kernel_rfl) (of_decide_eq_true (by kernel_rfl)) k0 bel lt0) trodAll_mk0), rfl, bel.frame _, fun h => by cases h⟩
theorem over : Rows.elementDecidesRow.holds Try.pinned (OpenSpec.ofChange Rows.elementDecidesSpec) :=
 OpenClaim.holds_of_wide 12 Try.f12 rfl rfl rfl rfl rfl rfl rfl ⟨rfl, rfl, rfl, rfl, rfl⟩ rfl rfl rfl rfl rfl (by kernel_rfl) Try.func12 (by kernel_rfl)
  (of_decide_eq_true (by kernel_rfl)) (by unfold Func.isWrapper; first | (rw [if_pos (by decide +kernel)]; kernel_rfl) | (rw [if_neg (by decide +kernel)]; exact ⟨rfl, rfl⟩))
  (fun os started H enc _ => lifted os started H enc)
theorem proved : Rows.ElementDecidesSaid := over
end Go.Proofs.Ytpbcigilipdedaa.elementDecides
namespace Go.Proofs.Ytpbcigilipdedaa
theorem elementDecides_holds : Rows.ElementDecidesSaid := elementDecides.proved
end Go.Proofs.Ytpbcigilipdedaa
