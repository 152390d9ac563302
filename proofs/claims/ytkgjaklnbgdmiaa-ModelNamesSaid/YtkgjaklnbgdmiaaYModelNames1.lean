/- Proved: the statement ModelNames. Conditions: none but those of the statement. -/
import Derived.Test.YtkgjaklnbgdmiaaZ1
import Derived.Test.YtkgjaklnbgdmiaaZ2
import Derived.Test.YtkgjaklnbgdmiaaZ4
import Derived.Test.YtkgjaklnbgdmiaaRows
import Derived.WalkKit
import Derived.ProofKit
import Derived.OpenShut
import Derived.ShutString
import Derived.ChangeOld
import Derived.Below
import Derived.SizedLaws
namespace Go.Proofs.Ytkgjaklnbgdmiaa.P
open Go.RowKit Go.Proofs.YtkgjaklnbgdmiaaW.PrintWords Go.Proofs.YtkgjaklnbgdmiaaW.PrintLast Go.Proofs.YtkgjaklnbgdmiaaW.PrintMore
attribute [local go_sem] Zck Zcm Zcy Zcz Zb8 Zb9 Zcl Zcn
set_option linter.unusedVariables false
set_option linter.unusedSimpArgs false
def Zaw.l0 : Nat → ByteArray → Int → Option (Bool)
 | 0, _, _ => none
 | k + 1, x0, x3 => if x3 < (x0.size : Int) then (if 0 ≤ x3 then (if (bt x0 x3) ≥ 97 then (if ((bt x0 x3) ≤ 122) then (Zaw.l0 k x0 (wrap64 (x3 + 1))) else (if x3 = 0 then (some false) else (if (bt x0 x3) = 95 then (Zaw.l0 k x0 (wrap64 (x3 + 1))) else (if (bt x0 x3) < 48 then (some false) else (if (bt x0 x3) > 57 then (some false) else (Zaw.l0 k x0 (wrap64 (x3 + 1)))))))) else (if x3 = 0 then (some false) else (if (bt x0 x3) = 95 then (Zaw.l0 k x0 (wrap64 (x3 + 1))) else (if (bt x0 x3) < 48 then (some false) else (if (bt x0 x3) > 57 then (some false) else (Zaw.l0 k x0 (wrap64 (x3 + 1)))))))) else (none)) else (if x0.toList = ([] : List UInt8) then (some false) else (some (decide ((x0.size : Int) ≤ 16))))
def Zaw.f (k : Nat) (a0 : ByteArray) : Option (Bool) := Zaw.l0 k a0 0
set_option maxHeartbeats 8000000 in
set_option maxRecDepth 100000 in
theorem Zaw.calls (k : Nat) (a0 : ByteArray) (r : Bool) (w : World) (h : Zaw.f k a0 = some r) :
  Calls Try.prog 22 #[.string a0] w fun e w' => e = .returned (.bool r) ∧ Za3 w w' := by
 have H : (Zaw.l0 k a0 0) = some r := h
 clear h
 have H' := Za.mk H
 clear H
 go_enter Try.func22, Try.ntmps22
 go_wp2
 go_loopg [3] k (fun kq v3 w' => ∃ (x3_1 : Int), v3 = .int .i64 x3_1 ∧ Za (Zaw.l0 kq a0 x3_1 = some r) ∧ Za (kq ≤ k) ∧ Za3 w w')
 case atStart => exact ⟨(0), (by first | rfl | (simp; done) | (simp [*]; done)), H', ⟨Nat.le_refl _⟩, by repeat (first | exact Za3.refl _ | apply Za3.step)⟩
 case round =>
  clear H'
  obtain ⟨x3_1, rfl, HA, HK1, ⟨m1, rfl⟩⟩ := hrel
  cases gk with
  | zero => exact absurd HA.out (by simp [Zaw.l0])
  | succ k1 =>
   have H := HA.out
   clear HA
   simp only [Zaw.l0] at H
   by_cases c2 : x3_1 < (a0.size : Int)
   rotate_left
   ·rw [if_neg c2] at H
    have c2b0 : decide (x3_1 < (a0.size : Int)) = false := decide_eq_false c2
    clear c2
    by_cases c22 : a0.toList = ([] : List UInt8)
    rotate_left
    ·rw [if_neg c22] at H
     have c22b0 : (a0.toList == ([] : List UInt8)) = false := beq_eq_false_iff_ne.mpr c22
     have c22b1 : (a0.toList != ([] : List UInt8)) = true := bne_iff_ne.mpr c22
     obtain rfl := Option.some.inj H
     go_wp2
     go_ret
     exact ⟨by first | rfl | (simp; done) | (simp [*]; done), by repeat (first | exact Za3.refl _ | apply Za3.step)⟩
    rw [if_pos c22] at H
    have c22b0 : (a0.toList == ([] : List UInt8)) = true := beq_iff_eq.mpr c22
    have c22b1 : (a0.toList != ([] : List UInt8)) = false := bne_eq_false_iff_eq.mpr c22
    clear c22
    obtain rfl := Option.some.inj H
    go_wp2
    go_ret
    exact ⟨by first | rfl | (simp; done) | (simp [*]; done), by repeat (first | exact Za3.refl _ | apply Za3.step)⟩
   rw [if_pos c2] at H
   have c2b0 : decide (x3_1 < (a0.size : Int)) = true := decide_eq_true c2
   clear c2
   by_cases c3 : 0 ≤ x3_1
   rotate_left
   ·rw [if_neg c3] at H
    exact absurd H (by simp)
   rw [if_pos c3] at H
   have c3b0 : decide (0 ≤ x3_1) = true := decide_eq_true c3
   clear c3
   by_cases c5 : (bt a0 x3_1) ≥ 97
   rotate_left
   ·rw [if_neg c5] at H
    have c5b0 : decide (97 ≤ (bt a0 x3_1)) = false := decide_eq_false c5
    clear c5
    by_cases c15 : x3_1 = 0
    ·rw [if_pos c15] at H
     have c15b0 : (x3_1 == 0) = true := beq_iff_eq.mpr c15
     have c15b1 : (x3_1 != 0) = false := bne_eq_false_iff_eq.mpr c15
     clear c15
     obtain rfl := Option.some.inj H
     have p4 : 0 ≤ (x3_1 : Int) := of_decide_eq_true (by first | (with_reducible assumption) | assumption)
     have q4 : x3_1 < (a0.size : Int) := of_decide_eq_true (by first | (with_reducible assumption) | assumption)
     have hx4 := Zci a0 x3_1
     replace p4 := eq_true p4
     replace q4 := eq_true q4
     go_wp2
     go_ret
     exact ⟨by first | rfl | (simp; done) | (simp [*]; done), by repeat (first | exact Za3.refl _ | apply Za3.step)⟩
    rw [if_neg c15] at H
    have c15b0 : (x3_1 == 0) = false := beq_eq_false_iff_ne.mpr c15
    have c15b1 : (x3_1 != 0) = true := bne_iff_ne.mpr c15
    by_cases c17 : (bt a0 x3_1) = 95
    ·rw [if_pos c17] at H
     have c17b0 : ((bt a0 x3_1) == 95) = true := beq_iff_eq.mpr c17
     have c17b1 : ((bt a0 x3_1) != 95) = false := bne_eq_false_iff_eq.mpr c17
     clear c17
     have H' := Za.mk H
     clear H
     have p4 : 0 ≤ (x3_1 : Int) := of_decide_eq_true (by first | (with_reducible assumption) | assumption)
     have q4 : x3_1 < (a0.size : Int) := of_decide_eq_true (by first | (with_reducible assumption) | assumption)
     have hx4 := Zci a0 x3_1
     replace p4 := eq_true p4
     replace q4 := eq_true q4
     have p16 : 0 ≤ (x3_1 : Int) := of_decide_eq_true (by first | (with_reducible assumption) | assumption)
     have q16 : x3_1 < (a0.size : Int) := of_decide_eq_true (by first | (with_reducible assumption) | assumption)
     have hx16 := Zci a0 x3_1
     replace p16 := eq_true p16
     replace q16 := eq_true q16
     go_wp2
     go_roundg k1
     case measure => have := HK1.out; omega
     case rel => exact ⟨(wrap64 (x3_1 + 1)), (by first | rfl | (simp; done) | (simp [*]; done)), H', ⟨by have := HK1.out; omega⟩, by repeat (first | exact Za3.refl _ | apply Za3.step)⟩
    rw [if_neg c17] at H
    have c17b0 : ((bt a0 x3_1) == 95) = false := beq_eq_false_iff_ne.mpr c17
    have c17b1 : ((bt a0 x3_1) != 95) = true := bne_iff_ne.mpr c17
    by_cases c19 : (bt a0 x3_1) < 48
    ·rw [if_pos c19] at H
     have c19b0 : decide ((bt a0 x3_1) < 48) = true := decide_eq_true c19
     clear c19
     obtain rfl := Option.some.inj H
     have p4 : 0 ≤ (x3_1 : Int) := of_decide_eq_true (by first | (with_reducible assumption) | assumption)
     have q4 : x3_1 < (a0.size : Int) := of_decide_eq_true (by first | (with_reducible assumption) | assumption)
     have hx4 := Zci a0 x3_1
     replace p4 := eq_true p4
     replace q4 := eq_true q4
     have p16 : 0 ≤ (x3_1 : Int) := of_decide_eq_true (by first | (with_reducible assumption) | assumption)
     have q16 : x3_1 < (a0.size : Int) := of_decide_eq_true (by first | (with_reducible assumption) | assumption)
     have hx16 := Zci a0 x3_1
     replace p16 := eq_true p16
     replace q16 := eq_true q16
     have p18 : 0 ≤ (x3_1 : Int) := of_decide_eq_true (by first | (with_reducible assumption) | assumption)
     have q18 : x3_1 < (a0.size : Int) := of_decide_eq_true (by first | (with_reducible assumption) | assumption)
     have hx18 := Zci a0 x3_1
     replace p18 := eq_true p18
     replace q18 := eq_true q18
     go_wp2
     go_ret
     exact ⟨by first | rfl | (simp; done) | (simp [*]; done), by repeat (first | exact Za3.refl _ | apply Za3.step)⟩
    rw [if_neg c19] at H
    have c19b0 : decide ((bt a0 x3_1) < 48) = false := decide_eq_false c19
    clear c19
    by_cases c21 : (bt a0 x3_1) > 57
    ·rw [if_pos c21] at H
     have c21b0 : decide (57 < (bt a0 x3_1)) = true := decide_eq_true c21
     clear c21
     obtain rfl := Option.some.inj H
     have p4 : 0 ≤ (x3_1 : Int) := of_decide_eq_true (by first | (with_reducible assumption) | assumption)
     have q4 : x3_1 < (a0.size : Int) := of_decide_eq_true (by first | (with_reducible assumption) | assumption)
     have hx4 := Zci a0 x3_1
     replace p4 := eq_true p4
     replace q4 := eq_true q4
     have p16 : 0 ≤ (x3_1 : Int) := of_decide_eq_true (by first | (with_reducible assumption) | assumption)
     have q16 : x3_1 < (a0.size : Int) := of_decide_eq_true (by first | (with_reducible assumption) | assumption)
     have hx16 := Zci a0 x3_1
     replace p16 := eq_true p16
     replace q16 := eq_true q16
     have p18 : 0 ≤ (x3_1 : Int) := of_decide_eq_true (by first | (with_reducible assumption) | assumption)
     have q18 : x3_1 < (a0.size : Int) := of_decide_eq_true (by first | (with_reducible assumption) | assumption)
     have hx18 := Zci a0 x3_1
     replace p18 := eq_true p18
     replace q18 := eq_true q18
     have p20 : 0 ≤ (x3_1 : Int) := of_decide_eq_true (by first | (with_reducible assumption) | assumption)
     have q20 : x3_1 < (a0.size : Int) := of_decide_eq_true (by first | (with_reducible assumption) | assumption)
     have hx20 := Zci a0 x3_1
     replace p20 := eq_true p20
     replace q20 := eq_true q20
     go_wp2
     go_ret
     exact ⟨by first | rfl | (simp; done) | (simp [*]; done), by repeat (first | exact Za3.refl _ | apply Za3.step)⟩
    rw [if_neg c21] at H
    have c21b0 : decide (57 < (bt a0 x3_1)) = false := decide_eq_false c21
    clear c21
    have H' := Za.mk H
    clear H
    have p4 : 0 ≤ (x3_1 : Int) := of_decide_eq_true (by first | (with_reducible assumption) | assumption)
    have q4 : x3_1 < (a0.size : Int) := of_decide_eq_true (by first | (with_reducible assumption) | assumption)
    have hx4 := Zci a0 x3_1
    replace p4 := eq_true p4
    replace q4 := eq_true q4
    have p16 : 0 ≤ (x3_1 : Int) := of_decide_eq_true (by first | (with_reducible assumption) | assumption)
    have q16 : x3_1 < (a0.size : Int) := of_decide_eq_true (by first | (with_reducible assumption) | assumption)
    have hx16 := Zci a0 x3_1
    replace p16 := eq_true p16
    replace q16 := eq_true q16
    have p18 : 0 ≤ (x3_1 : Int) := of_decide_eq_true (by first | (with_reducible assumption) | assumption)
    have q18 : x3_1 < (a0.size : Int) := of_decide_eq_true (by first | (with_reducible assumption) | assumption)
    have hx18 := Zci a0 x3_1
    replace p18 := eq_true p18
    replace q18 := eq_true q18
    have p20 : 0 ≤ (x3_1 : Int) := of_decide_eq_true (by first | (with_reducible assumption) | assumption)
    have q20 : x3_1 < (a0.size : Int) := of_decide_eq_true (by first | (with_reducible assumption) | assumption)
    have hx20 := Zci a0 x3_1
    replace p20 := eq_true p20
    replace q20 := eq_true q20
    go_wp2
    go_roundg k1
    case measure => have := HK1.out; omega
    case rel => exact ⟨(wrap64 (x3_1 + 1)), (by first | rfl | (simp; done) | (simp [*]; done)), H', ⟨by have := HK1.out; omega⟩, by repeat (first | exact Za3.refl _ | apply Za3.step)⟩
   rw [if_pos c5] at H
   have c5b0 : decide (97 ≤ (bt a0 x3_1)) = true := decide_eq_true c5
   clear c5
   by_cases c7 : ((bt a0 x3_1) ≤ 122)
   ·rw [if_pos c7] at H
    have c7b0 : decide ((bt a0 x3_1) ≤ 122) = true := decide_eq_true c7
    clear c7
    have H' := Za.mk H
    clear H
    have p4 : 0 ≤ (x3_1 : Int) := of_decide_eq_true (by first | (with_reducible assumption) | assumption)
    have q4 : x3_1 < (a0.size : Int) := of_decide_eq_true (by first | (with_reducible assumption) | assumption)
    have hx4 := Zci a0 x3_1
    replace p4 := eq_true p4
    replace q4 := eq_true q4
    have p6 : 0 ≤ (x3_1 : Int) := of_decide_eq_true (by first | (with_reducible assumption) | assumption)
    have q6 : x3_1 < (a0.size : Int) := of_decide_eq_true (by first | (with_reducible assumption) | assumption)
    have hx6 := Zci a0 x3_1
    replace p6 := eq_true p6
    replace q6 := eq_true q6
    go_wp2
    go_roundg k1
    case measure => have := HK1.out; omega
    case rel => exact ⟨(wrap64 (x3_1 + 1)), (by first | rfl | (simp; done) | (simp [*]; done)), H', ⟨by have := HK1.out; omega⟩, by repeat (first | exact Za3.refl _ | apply Za3.step)⟩
   rw [if_neg c7] at H
   have c7b0 : decide ((bt a0 x3_1) ≤ 122) = false := decide_eq_false c7
   clear c7
   by_cases c8 : x3_1 = 0
   ·rw [if_pos c8] at H
    have c8b0 : (x3_1 == 0) = true := beq_iff_eq.mpr c8
    have c8b1 : (x3_1 != 0) = false := bne_eq_false_iff_eq.mpr c8
    clear c8
    obtain rfl := Option.some.inj H
    have p4 : 0 ≤ (x3_1 : Int) := of_decide_eq_true (by first | (with_reducible assumption) | assumption)
    have q4 : x3_1 < (a0.size : Int) := of_decide_eq_true (by first | (with_reducible assumption) | assumption)
    have hx4 := Zci a0 x3_1
    replace p4 := eq_true p4
    replace q4 := eq_true q4
    have p6 : 0 ≤ (x3_1 : Int) := of_decide_eq_true (by first | (with_reducible assumption) | assumption)
    have q6 : x3_1 < (a0.size : Int) := of_decide_eq_true (by first | (with_reducible assumption) | assumption)
    have hx6 := Zci a0 x3_1
    replace p6 := eq_true p6
    replace q6 := eq_true q6
    go_wp2
    go_ret
    exact ⟨by first | rfl | (simp; done) | (simp [*]; done), by repeat (first | exact Za3.refl _ | apply Za3.step)⟩
   rw [if_neg c8] at H
   have c8b0 : (x3_1 == 0) = false := beq_eq_false_iff_ne.mpr c8
   have c8b1 : (x3_1 != 0) = true := bne_iff_ne.mpr c8
   by_cases c10 : (bt a0 x3_1) = 95
   ·rw [if_pos c10] at H
    have c10b0 : ((bt a0 x3_1) == 95) = true := beq_iff_eq.mpr c10
    have c10b1 : ((bt a0 x3_1) != 95) = false := bne_eq_false_iff_eq.mpr c10
    clear c10
    have H' := Za.mk H
    clear H
    have p4 : 0 ≤ (x3_1 : Int) := of_decide_eq_true (by first | (with_reducible assumption) | assumption)
    have q4 : x3_1 < (a0.size : Int) := of_decide_eq_true (by first | (with_reducible assumption) | assumption)
    have hx4 := Zci a0 x3_1
    replace p4 := eq_true p4
    replace q4 := eq_true q4
    have p6 : 0 ≤ (x3_1 : Int) := of_decide_eq_true (by first | (with_reducible assumption) | assumption)
    have q6 : x3_1 < (a0.size : Int) := of_decide_eq_true (by first | (with_reducible assumption) | assumption)
    have hx6 := Zci a0 x3_1
    replace p6 := eq_true p6
    replace q6 := eq_true q6
    have p9 : 0 ≤ (x3_1 : Int) := of_decide_eq_true (by first | (with_reducible assumption) | assumption)
    have q9 : x3_1 < (a0.size : Int) := of_decide_eq_true (by first | (with_reducible assumption) | assumption)
    have hx9 := Zci a0 x3_1
    replace p9 := eq_true p9
    replace q9 := eq_true q9
    go_wp2
    go_roundg k1
    case measure => have := HK1.out; omega
    case rel => exact ⟨(wrap64 (x3_1 + 1)), (by first | rfl | (simp; done) | (simp [*]; done)), H', ⟨by have := HK1.out; omega⟩, by repeat (first | exact Za3.refl _ | apply Za3.step)⟩
   rw [if_neg c10] at H
   have c10b0 : ((bt a0 x3_1) == 95) = false := beq_eq_false_iff_ne.mpr c10
   have c10b1 : ((bt a0 x3_1) != 95) = true := bne_iff_ne.mpr c10
   by_cases c12 : (bt a0 x3_1) < 48
   ·rw [if_pos c12] at H
    have c12b0 : decide ((bt a0 x3_1) < 48) = true := decide_eq_true c12
    clear c12
    obtain rfl := Option.some.inj H
    have p4 : 0 ≤ (x3_1 : Int) := of_decide_eq_true (by first | (with_reducible assumption) | assumption)
    have q4 : x3_1 < (a0.size : Int) := of_decide_eq_true (by first | (with_reducible assumption) | assumption)
    have hx4 := Zci a0 x3_1
    replace p4 := eq_true p4
    replace q4 := eq_true q4
    have p6 : 0 ≤ (x3_1 : Int) := of_decide_eq_true (by first | (with_reducible assumption) | assumption)
    have q6 : x3_1 < (a0.size : Int) := of_decide_eq_true (by first | (with_reducible assumption) | assumption)
    have hx6 := Zci a0 x3_1
    replace p6 := eq_true p6
    replace q6 := eq_true q6
    have p9 : 0 ≤ (x3_1 : Int) := of_decide_eq_true (by first | (with_reducible assumption) | assumption)
    have q9 : x3_1 < (a0.size : Int) := of_decide_eq_true (by first | (with_reducible assumption) | assumption)
    have hx9 := Zci a0 x3_1
    replace p9 := eq_true p9
    replace q9 := eq_true q9
    have p11 : 0 ≤ (x3_1 : Int) := of_decide_eq_true (by first | (with_reducible assumption) | assumption)
    have q11 : x3_1 < (a0.size : Int) := of_decide_eq_true (by first | (with_reducible assumption) | assumption)
    have hx11 := Zci a0 x3_1
    replace p11 := eq_true p11
    replace q11 := eq_true q11
    go_wp2
    go_ret
    exact ⟨by first | rfl | (simp; done) | (simp [*]; done), by repeat (first | exact Za3.refl _ | apply Za3.step)⟩
   rw [if_neg c12] at H
   have c12b0 : decide ((bt a0 x3_1) < 48) = false := decide_eq_false c12
   clear c12
   by_cases c14 : (bt a0 x3_1) > 57
   ·rw [if_pos c14] at H
    have c14b0 : decide (57 < (bt a0 x3_1)) = true := decide_eq_true c14
    clear c14
    obtain rfl := Option.some.inj H
    have p4 : 0 ≤ (x3_1 : Int) := of_decide_eq_true (by first | (with_reducible assumption) | assumption)
    have q4 : x3_1 < (a0.size : Int) := of_decide_eq_true (by first | (with_reducible assumption) | assumption)
    have hx4 := Zci a0 x3_1
    replace p4 := eq_true p4
    replace q4 := eq_true q4
    have p6 : 0 ≤ (x3_1 : Int) := of_decide_eq_true (by first | (with_reducible assumption) | assumption)
    have q6 : x3_1 < (a0.size : Int) := of_decide_eq_true (by first | (with_reducible assumption) | assumption)
    have hx6 := Zci a0 x3_1
    replace p6 := eq_true p6
    replace q6 := eq_true q6
    have p9 : 0 ≤ (x3_1 : Int) := of_decide_eq_true (by first | (with_reducible assumption) | assumption)
    have q9 : x3_1 < (a0.size : Int) := of_decide_eq_true (by first | (with_reducible assumption) | assumption)
    have hx9 := Zci a0 x3_1
    replace p9 := eq_true p9
    replace q9 := eq_true q9
    have p11 : 0 ≤ (x3_1 : Int) := of_decide_eq_true (by first | (with_reducible assumption) | assumption)
    have q11 : x3_1 < (a0.size : Int) := of_decide_eq_true (by first | (with_reducible assumption) | assumption)
    have hx11 := Zci a0 x3_1
    replace p11 := eq_true p11
    replace q11 := eq_true q11
    have p13 : 0 ≤ (x3_1 : Int) := of_decide_eq_true (by first | (with_reducible assumption) | assumption)
    have q13 : x3_1 < (a0.size : Int) := of_decide_eq_true (by first | (with_reducible assumption) | assumption)
    have hx13 := Zci a0 x3_1
    replace p13 := eq_true p13
    replace q13 := eq_true q13
    go_wp2
    go_ret
    exact ⟨by first | rfl | (simp; done) | (simp [*]; done), by repeat (first | exact Za3.refl _ | apply Za3.step)⟩
   rw [if_neg c14] at H
   have c14b0 : decide (57 < (bt a0 x3_1)) = false := decide_eq_false c14
   clear c14
   have H' := Za.mk H
   clear H
   have p4 : 0 ≤ (x3_1 : Int) := of_decide_eq_true (by first | (with_reducible assumption) | assumption)
   have q4 : x3_1 < (a0.size : Int) := of_decide_eq_true (by first | (with_reducible assumption) | assumption)
   have hx4 := Zci a0 x3_1
   replace p4 := eq_true p4
   replace q4 := eq_true q4
   have p6 : 0 ≤ (x3_1 : Int) := of_decide_eq_true (by first | (with_reducible assumption) | assumption)
   have q6 : x3_1 < (a0.size : Int) := of_decide_eq_true (by first | (with_reducible assumption) | assumption)
   have hx6 := Zci a0 x3_1
   replace p6 := eq_true p6
   replace q6 := eq_true q6
   have p9 : 0 ≤ (x3_1 : Int) := of_decide_eq_true (by first | (with_reducible assumption) | assumption)
   have q9 : x3_1 < (a0.size : Int) := of_decide_eq_true (by first | (with_reducible assumption) | assumption)
   have hx9 := Zci a0 x3_1
   replace p9 := eq_true p9
   replace q9 := eq_true q9
   have p11 : 0 ≤ (x3_1 : Int) := of_decide_eq_true (by first | (with_reducible assumption) | assumption)
   have q11 : x3_1 < (a0.size : Int) := of_decide_eq_true (by first | (with_reducible assumption) | assumption)
   have hx11 := Zci a0 x3_1
   replace p11 := eq_true p11
   replace q11 := eq_true q11
   have p13 : 0 ≤ (x3_1 : Int) := of_decide_eq_true (by first | (with_reducible assumption) | assumption)
   have q13 : x3_1 < (a0.size : Int) := of_decide_eq_true (by first | (with_reducible assumption) | assumption)
   have hx13 := Zci a0 x3_1
   replace p13 := eq_true p13
   replace q13 := eq_true q13
   go_wp2
   go_roundg k1
   case measure => have := HK1.out; omega
   case rel => exact ⟨(wrap64 (x3_1 + 1)), (by first | rfl | (simp; done) | (simp [*]; done)), H', ⟨by have := HK1.out; omega⟩, by repeat (first | exact Za3.refl _ | apply Za3.step)⟩
def Za6.f (k : Nat) (a0 : ByteArray) : Option (Bool) := (Zbb.f k).bind fun t451 => (if t451 = true then ((Zbm.f a0).bind fun t452 => ((Zaw.f k a0).bind fun t453 => (some (t452 == t453)))) else (none))
set_option maxHeartbeats 8000000 in
set_option maxRecDepth 100000 in
theorem Za6.calls (k : Nat) (a0 : ByteArray) (r : Bool) (w : World) (h : Za6.f k a0 = some r) :
  Calls Try.prog 4 #[.string a0] w fun e w' => e = .returned (.bool r) ∧ Below w.heap.size w w' := by
 have HB := Za.mk (Below.refl w.heap.size w)
 have H : ((Zbb.f k).bind fun t451 => (if t451 = true then ((Zbm.f a0).bind fun t452 => ((Zaw.f k a0).bind fun t453 => (some (t452 == t453)))) else (none))) = some r := h
 clear h
 replace H := Option.bind_eq_some_iff.mp H
 obtain ⟨t451, A20, H⟩ := H
 replace H : (if t451 = true then ((Zbm.f a0).bind fun t452 => ((Zaw.f k a0).bind fun t453 => (some (t452 == t453)))) else (none)) = some r := H
 have A2 := Za.mk A20
 clear A20
 by_cases c3 : t451 = true
 rotate_left
 ·replace c3 := Bool.eq_false_iff.mpr c3
  subst c3
  have H1 : (none) = some r := by rw [if_neg (show ¬ (false = true) by decide)] at H; exact H
  clear H
  have H := H1
  clear H1
  exact absurd H (by simp)
 subst c3
 have H1 : ((Zbm.f a0).bind fun t452 => ((Zaw.f k a0).bind fun t453 => (some (t452 == t453)))) = some r := by rw [if_pos rfl] at H; exact H
 clear H
 have H := H1
 clear H1
 replace H := Option.bind_eq_some_iff.mp H
 obtain ⟨t452, A40, H⟩ := H
 replace H : ((Zaw.f k a0).bind fun t453 => (some (t452 == t453))) = some r := H
 have A4 := Za.mk A40
 clear A40
 replace H := Option.bind_eq_some_iff.mp H
 obtain ⟨t453, A50, H⟩ := H
 replace H : (some (t452 == t453)) = some r := H
 have A5 := Za.mk A50
 clear A50
 obtain rfl := Option.some.inj H
 go_enter Try.func4, Try.ntmps4
 go_wp2_with (first | ((with_reducible refine Zas (f := 13) rfl ?_); refine Zbi (some 3) rfl rfl Try.func13 (by kernel_rfl) rfl #[] rfl (by (try simp only [List.map_toArray, List.map_cons, List.map_nil]); first | done | rfl | (simp only [List.length_drop, List.length_take]; rfl)) ?_; (with_reducible refine (Zbb.calls k  true _ A2.out).mono ?_); rintro e w6 ⟨rfl, hb⟩; refine ⟨_, rfl, ?_⟩; have n0_ := Za.mk (Zad (by repeat (first | (with_reducible first | exact HB.out | apply Zab | apply Zaa | apply Zac) | exact HB.out)) hb); clear HB; have HB := n0_; clear n0_; (try clear hb); (try clear hb2); (try clear hk); (try clear hi)) | (go_at_call 21; (with_reducible refine (Zbm.calls a0 t452 _ A4.out).mono ?_); rintro e w7 ⟨rfl, hb⟩; have n0_ := Za.mk (Zad (by repeat (first | (with_reducible first | exact HB.out | apply Zab | apply Zaa | apply Zac) | exact HB.out)) hb); clear HB; have HB := n0_; clear n0_; (try clear hb); (try clear hb2); (try clear hk); (try clear hi)) | (go_at_call 22; (with_reducible refine (Zaw.calls k a0 t453 _ A5.out).mono ?_); rintro e w' ⟨rfl, ⟨nd, rfl⟩⟩))
 go_ret
 exact ⟨by first | rfl | (simp [Zan, Zao] <;> rfl) | (simp [*, Zan, Zao] <;> rfl), by repeat (first | (with_reducible first | exact HB.out | apply Zab | apply Zaa | apply Zac) | exact HB.out)⟩
def Za6.Pure : Prop := ∀ (a0 : ByteArray), a0.size ≤ 140737488351232 → ∃ k, Za6.f k a0 = some true
theorem Za6.walk (P : Za6.Pure) (a0 : ByteArray) (w : World) (w0 : a0.size ≤ 140737488351232) :
  Calls Try.prog 4 #[.string a0] w fun e w' => e = .returned (.bool true) ∧ Below w.heap.size w w' := by
 obtain ⟨k, h⟩ := P a0 w0
 refine (Za6.calls k a0 true w h).mono ?_
 rintro e w' ⟨rfl, hd⟩
 exact ⟨rfl, hd⟩
end Go.Proofs.Ytkgjaklnbgdmiaa.P
/- Whether a text may be a name is as the document says. -/
namespace Go.Proofs.Ytkgjaklnbgdmiaa.P
open Go.RowKit Go.Proofs.YtkgjaklnbgdmiaaW.PrintWords Go.Proofs.YtkgjaklnbgdmiaaW.PrintLast
set_option linter.unusedVariables false
theorem Zci (s : ByteArray) (i : Nat) (h : i < s.size) : bt s (i : Int) = ((s[i]'h).toNat : Int) := by
  unfold bt
  simp [h]
theorem okAt_iff (i c : Nat) : okAt i c = true ↔ (97 ≤ c ∧ c ≤ 122) ∨ (i ≠ 0 ∧ (c = 95 ∨ (48 ≤ c ∧ c ≤ 57))) := by
  unfold okAt
  simp
theorem Zd6 (s : ByteArray) (hs : s.size ≤ 140737488351232) : ∀ (d i : Nat), i + d = s.size → Ev (fun k => Zaw.l0 k s (i : Int)) (nameGo s d i && (!decide (s.size = 0) && decide (s.size ≤ 16)))
  | 0, i, h => by
    obtain rfl : i = s.size := by omega
    refine Ev.step (G := fun _ => some (nameGo s 0 s.size && (!decide (s.size = 0) && decide (s.size ≤ 16)))) (fun k => ?_) (Ev.const rfl)
    rw [Zaw.l0, if_neg (by omega)]
    by_cases h0 : s.size = 0
    · rw [if_pos (by
        rw [ByteArray.toList_eq]
        exact List.length_eq_zero_iff.1 (by rw [Array.length_toList]; exact h0))]
      simp [h0]
    rw [if_neg (by
      rw [ByteArray.toList_eq]
      intro e
      exact h0 (show s.data.size = 0 by rw [← Array.length_toList, e]; rfl))]
    have : decide ((s.size : Int) ≤ 16) = decide (s.size ≤ 16) := decide_eq_decide.2 (by omega)
    rw [this]
    simp [nameGo, h0]
  | d + 1, i, h => by
    have hi : i < s.size := by omega
    have ih := Zd6 s hs d (i + 1) (by omega)
    have hb := Zci s i hi
    have hw : wrap64 ((i : Int) + 1) = ((i + 1 : Nat) : Int) := by unfold wrap64; omega
    have hz : ((i : Int) = 0) = (i = 0) := propext (by omega)
    rw [nameGo, dif_pos hi]
    generalize (s[i]'hi).toNat = c at hb ⊢
    have cont : okAt i c = true → (∀ k, Zaw.l0 (k + 1) s (i : Int) = Zaw.l0 k s ((i + 1 : Nat) : Int)) → Ev (fun k => Zaw.l0 k s (i : Int)) ((okAt i c && nameGo s d (i + 1)) && (!decide (s.size = 0) && decide (s.size ≤ 16))) := fun h1 h2 => by
      rw [h1, Bool.true_and]
      exact Ev.step h2 ih
    have stop : okAt i c = false → (∀ k, Zaw.l0 (k + 1) s (i : Int) = some false) → Ev (fun k => Zaw.l0 k s (i : Int)) ((okAt i c && nameGo s d (i + 1)) && (!decide (s.size = 0) && decide (s.size ≤ 16))) := fun h1 h2 => by
      rw [h1, Bool.false_and, Bool.false_and]
      exact Ev.step (G := fun _ => some false) h2 (Ev.const rfl)
    by_cases q1 : 97 ≤ c <;> by_cases q2 : c ≤ 122 <;> by_cases q3 : i = 0 <;> by_cases q4 : c = 95 <;> by_cases q5 : c < 48 <;> by_cases q6 : 57 < c
    all_goals first
      | (exfalso; omega)
      | (refine cont ((okAt_iff i c).2 (by omega)) (fun k => ?_)
         rw [Zaw.l0, hb, hw]
         repeat (first | rw [if_pos (by omega)] | rw [if_neg (by omega)]))
      | (refine stop (Bool.eq_false_iff.2 (fun h_ => absurd ((okAt_iff i c).1 h_) (by omega))) (fun k => ?_)
         rw [Zaw.l0, hb, hw]
         repeat (first | rw [if_pos (by omega)] | rw [if_neg (by omega)]))
theorem Zer (a0 : ByteArray) (h0 : a0.size ≤ 140737488351232) : ∃ k, Za6.f k a0 = some true := by
  have hr := Zd6 a0 h0 a0.size 0 (by omega)
  refine Ev.out (F := fun k => Za6.f k a0) ?_
  unfold Za6.f
  refine Ev.bind (a := true) (Ev.const rfl) (Ev.ite_pos rfl (Ev.bind (a := (!decide (a0.size = 0) && (decide (a0.size ≤ 16) && nameGo a0 a0.size 0))) (Ev.const rfl) ?_))
  unfold Zaw.f
  refine Ev.bind hr (Ev.const ?_)
  congr 1
  rw [beq_iff_eq]
  cases nameGo a0 a0.size 0 <;> cases decide (a0.size = 0) <;> cases decide (a0.size ≤ 16) <;> rfl
end Go.Proofs.Ytkgjaklnbgdmiaa.P
namespace Go.Proofs.Ytkgjaklnbgdmiaa.Pure
open Go.RowKit Go.Proofs.Ytkgjaklnbgdmiaa.P Go.Proofs.YtkgjaklnbgdmiaaW.PrintWords Go.Proofs.YtkgjaklnbgdmiaaW.PrintLast
theorem ModelNames : Za6.Pure := Zer
end Go.Proofs.Ytkgjaklnbgdmiaa.Pure
namespace Go.Proofs.Ytkgjaklnbgdmiaa.modelNames
open Go.ChangeShapes Go.WideShapes Go.ChangeAt Go.RowKit
open Go.ChangeMaps (open_string shut_string)
set_option linter.unusedVariables false
theorem own : ownKnob Try.prog.godebug = none := by kernel_rfl
set_option maxRecDepth 100000 in
theorem lifted (os : Os) (started : os.Started) (H : Type) (enc : TypeId × Value → H) :
  ReturnsInHanded {} Try.checked os 4 .any (Rows.modelNamesSpec.pre6 enc Try.prog Try.f4 Rows.modelNamesRow.domain false) (Rows.modelNamesSpec.post enc Try.prog Try.f4 false true false false) := by
 refine returnsInHanded_of_change_sized (C := Try.checked) own started (by kernel_rfl) Try.func4
  (ChangeSpec.witness6 (enc := enc) (C := Try.checked) false ⟨#[], #[.string ByteArray.empty], []⟩ 8 (by kernel_rfl) (by kernel_rfl) (by kernel_rfl) (by kernel_rfl)) ?_
 intro W base args ds gs before hval0 hW hcnd hsz0 _
 have hsz : (DataW.weightsEach Try.prog (Try.f4.params.toList ++ Rows.modelNamesSpec.plain.varTypes Try.prog) (ds ++ gs)).all (· ≤ reachBytes) = true := hsz0
 have hval : ∀ (j : Nat) t v, Try.f4.params[j]? = some t → args[j]? = some v → Value.okWide Try.prog W .any base t v := hval0
 have hW' := hW
 obtain ⟨p, q, hA0, hV, rfl, hfz, hnd⟩ := hW
 have hA : DataW.TrodAll enc Try.prog W 0 (fun _ => true) true Try.f4.params.toList args.toList ds p := hA0
 rw [Try.params4] at hA hval hsz
 obtain ⟨v0, vs0, d0, ds0, p0, q0, hargs, rfl, rfl, h0, r0⟩ := trodAll_cons hA
 obtain ⟨rfl, rfl, rfl⟩ := trodAll_nil r0
 obtain rfl : args = #[v0] := by cases args; simp_all
 obtain ⟨rfl, rfl⟩ := trodVars_none hV
 obtain ⟨a0, rfl, rfl, rfl, y0⟩ := open_string Try.underlying9 (hval 0 9 v0 rfl rfl) h0
 have w0 : a0.size ≤ 140737488351232 := by
  have z := sized_string hsz (j := 0) (t := 9) rfl rfl
  rw [Array.length_toList] at z
  exact z
 clear hA0 hval0 hsz0 hsz
 refine (P.Za6.walk Pure.ModelNames a0 W w0).mono fun e W' ⟨he, bel⟩ => ?_
 subst he
 exact ⟨_, rfl, _, _, _, [], _, [], hW', trodAll_mk1 (shut_bool Try.underlying4 _), (trodAll_cons_mk (shut_string Try.underlying9 y0) trodAll_mk0), rfl, bel.frame _, fun h => by cases h⟩
theorem over : Rows.modelNamesRow.holds Try.pinned (OpenSpec.ofChange Rows.modelNamesSpec) :=
 OpenClaim.holds_of_wide 4 Try.f4 rfl rfl rfl rfl rfl rfl rfl ⟨rfl, rfl, rfl, rfl, rfl⟩ rfl rfl rfl rfl rfl (by kernel_rfl) Try.func4 (by kernel_rfl)
  (of_decide_eq_true (by kernel_rfl)) (by unfold Func.isWrapper; first | (rw [if_pos (by decide +kernel)]; kernel_rfl) | (rw [if_neg (by decide +kernel)]; exact ⟨rfl, rfl⟩))
  (fun os started H enc _ => lifted os started H enc)
theorem proved : Rows.ModelNamesSaid := over
end Go.Proofs.Ytkgjaklnbgdmiaa.modelNames
namespace Go.Proofs.Ytkgjaklnbgdmiaa
theorem modelNames_holds : Rows.ModelNamesSaid := modelNames.proved
end Go.Proofs.Ytkgjaklnbgdmiaa
