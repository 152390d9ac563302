/- Proved: the statement TableOrders. Conditions: none but those of the statement. -/
import Derived.Test.YtpbcigilipdedaaZ4
import Derived.Test.YtpbcigilipdedaaZ2
import Derived.Test.YtpbcigilipdedaaZ1
import Derived.Shelf.SlSortCmp.WholeK
import Derived.Shelf.SlSortCmp.NoneTotal
import Derived.Sort.OwnSortedInts
import Derived.Test.YtpbcigilipdedaaZ3
import Derived.Test.YtpbcigilipdedaaU1
import Derived.Deep.Slices
import Derived.ChangeArms
import Derived.DataReads
import Derived.SizedLaws
import Derived.Test.YtpbcigilipdedaaRows
import Derived.WalkKit
import Derived.ProofKit
import Derived.OpenShut
import Derived.ShutString
import Derived.ChangeOld
import Derived.Below
/- What a laid table's constraint gives. -/
namespace Go.Proofs.Ytpbcigilipdedaa.P
open Go.RowKit Go.Proofs.YtpbcigilipdedaaW.PrintWords Go.Proofs.YtpbcigilipdedaaW.PrintLast Go.Proofs.YtpbcigilipdedaaW.PrintMore
set_option linter.unusedVariables false
set_option linter.unusedSimpArgs false
structure TabOK (n : Nat) (vars coefs : List Int) (op rhs : Int) (rows : List (List Int)) (b : Int) : Prop where
  mem : ∀ v ∈ vars, 0 ≤ v ∧ v < (n : Int)
  nodup : vars.Nodup
  some : vars ≠ []
  coefs : coefs = []
  op : op = 0
  rhs : rhs = 0
  b : b = 0
  row : ∀ r ∈ rows, r.length = vars.length ∧ ∀ x ∈ r, isVal x = true
theorem ConOK.tab {n : Nat} {vars coefs : List Int} {op rhs : Int} {rows : List (List Int)} {b : Int} (h : ConOK 2 n vars coefs op rhs rows b) : TabOK n vars coefs op rhs rows b := by
  have hB := h.right
  unfold rightB plainB manyB rowsOK at hB
  simp only [Bool.and_eq_true, decide_eq_true_iff, if_pos, List.all_eq_true] at hB
  obtain ⟨⟨⟨⟨⟨h1, h2⟩, h3⟩, h4⟩, h5, h6⟩, h7, h8⟩ := hB
  exact ⟨h.mem, h6, h5, h4, h1, h2, h3, fun r hr => ⟨(h7 r hr).1, (h7 r hr).2⟩⟩
theorem Zga {l : List Int} {n : Nat} (h : l.Nodup) (hm : ∀ v ∈ l, 0 ≤ v ∧ v < (n : Int)) : l.length ≤ n := by
  have h1 := ss_length (Zfp l) (a := 0) (b := (n : Int) - 1) (fun x hx => by have := hm x ((Zdp x l).1 hx); omega)
  have h2 : (sd l).length = l.length := by
    have : ∀ l : List Int, l.Nodup → (sd l).length = l.length := by
      intro l
      induction l with
      | nil => intro _; rfl
      | cons x l ih =>
        intro h
        obtain ⟨hx, hl⟩ := List.nodup_cons.1 h
        have hins : ∀ (m : List Int), x ∉ m → (insU x m).length = m.length + 1 := by
          intro m
          induction m with
          | nil => intro _; rfl
          | cons y m ihm =>
            intro hxm
            rw [List.mem_cons, not_or] at hxm
            unfold insU
            split
            · rfl
            rw [if_neg hxm.1, List.length_cons, ihm hxm.2]; rfl
        rw [sd, hins _ (fun e => hx ((Zdp x l).1 e)), ih hl]
        rfl
    exact this l h
  omega
end Go.Proofs.Ytpbcigilipdedaa.P
/- Two lists of domains that are one. -/
namespace Go.Proofs.Ytpbcigilipdedaa.P
open Go.RowKit Go.Proofs.YtpbcigilipdedaaW.PrintWords Go.Proofs.YtpbcigilipdedaaW.PrintLast Go.Proofs.YtpbcigilipdedaaW.PrintMore
set_option linter.unusedVariables false
set_option linter.unusedSimpArgs false
theorem dv_ext {l m : List (List Rg)} (e : l.length = m.length) (h : ∀ j : Int, 0 ≤ j → j < (l.length : Int) → dv l j = dv m j) : l = m := by
  refine List.ext_getElem e (fun i h1 h2 => ?_)
  have := h (i : Int) (by omega) (by omega)
  unfold dv at this
  simpa [List.getD_eq_getElem?_getD, List.getElem?_eq_getElem h1, List.getElem?_eq_getElem h2] using this
theorem same3_l0 (l : List (List Rg)) (hl : l.length < 4611686018427387904) (hin : ∀ x ∈ l, x.length < 4611686018427387904) : ∀ (m n : Nat), n + m = l.length → Ev (fun k => Za8.l0 k l l (n : Int)) true := by
  intro m
  induction m with
  | zero =>
    intro n h
    exact Ev.step (G := fun _ => some true) (fun k => by rw [Za8.l0, if_neg (by omega)]) (Ev.pure _)
  | succ m ih =>
    intro n h
    have hn : n < l.length := by omega
    refine Ev.step (fun k => by rw [Za8.l0, if_pos (by omega), if_pos (by omega), if_pos (by omega), rdR_nat l n hn]) (Ev.bind (ref_Same_self l[n] (hin _ (List.getElem_mem hn))) (Ev.Zcf rfl ?_))
    simp only [w1 (show n < 4611686018427387904 by omega)]
    exact ih (n + 1) (by omega)
theorem Zgw (l : List (List Rg)) (hl : l.length < 4611686018427387904) (hin : ∀ x ∈ l, x.length < 4611686018427387904) : Ev (fun k => Za8.f k l l) true :=
  Ev.Zcf rfl (same3_l0 l hl hin l.length 0 (by omega))
end Go.Proofs.Ytpbcigilipdedaa.P
/- table.Prune on good domains: what is left of them. -/
namespace Go.Proofs.Ytpbcigilipdedaa.P
open Go.RowKit Go.Proofs.YtpbcigilipdedaaW.PrintWords Go.Proofs.YtpbcigilipdedaaW.PrintLast Go.Proofs.YtpbcigilipdedaaW.PrintMore
set_option linter.unusedVariables false
set_option linter.unusedSimpArgs false
set_option linter.unusedSectionVars false
def DomIs (r : List Rg) (q : Int → Prop) : Prop := Gd 1048576 (-1048576) r ∧ ∀ v, Va r v ↔ q v
theorem DomIs.eq {r s : List Rg} {q q' : Int → Prop} (h : DomIs r q) (k : DomIs s q') (e : ∀ v, q v ↔ q' v) : r = s := Gd.ext h.1 k.1 (fun v => (h.2 v).trans ((e v).trans (k.2 v).symm))
theorem dvt_same {d : List (List Rg)} {i : Int} {x : List Rg} (h0 : 0 ≤ i) (h1 : i < (d.length : Int)) : dv (d.set i.toNat x) i = x := by
  unfold dv
  rw [List.getD_eq_getElem?_getD, List.getElem?_set, if_pos rfl, if_pos (by omega)]
  rfl
theorem dvt_other {d : List (List Rg)} {i j : Int} {x : List Rg} (h0 : 0 ≤ i) (h1 : 0 ≤ j) (h : i ≠ j) : dv (d.set i.toNat x) j = dv d j := by
  unfold dv
  rw [List.getD_eq_getElem?_getD, List.getElem?_set, if_neg (by omega), List.getD_eq_getElem?_getD]
theorem nd_inj {l : List Int} (h : l.Nodup) {i j : Nat} (hi : i < l.length) (hj : j < l.length) (e : l[i] = l[j]) : i = j := by
  rcases Nat.lt_trichotomy i j with q | q | q
  · exact absurd e (List.pairwise_iff_getElem.1 h i j hi hj q)
  · exact q
  exact absurd e.symm (List.pairwise_iff_getElem.1 h j i hj hi q)
section
variable {vars : List Int} {keep : List (List Int)} (hk : ∀ r ∈ keep, r.length = vars.length) (hv : ∀ r ∈ keep, ∀ x ∈ r, isVal x = true) (hkl : keep.length ≤ 4096) (hvl : vars.length ≤ 4096)
include hk hv hkl hvl
def ColIs (keep : List (List Int)) (i : Nat) (o : List Rg) : Prop := DomIs o (fun x => ∃ r ∈ keep, r.getD i 0 = x)
theorem column_l2 (i : Nat) (hi : i < vars.length) (out : List (List Rg)) (x37 : List Int) (x38 v : Int) (res : List (List Rg) × Bool) (h0 : 0 ≤ v) (h1 : v < (out.length : Int))
    (next : ∀ o, ColIs keep i o → Ev (fun k => Zau.l1 k (out.set v.toNat o) keep x37 x38 ((i + 1 : Nat) : Int)) res) :
    ∀ (m n : Nat), n + m = keep.length → Ev (fun k => Zau.l2 k out keep (i : Int) v ((keep.take n).map fun r => r.getD i 0) x37 x38 (i : Int) keep (keep.length : Int) (n : Int)) res := by
  intro m
  induction m with
  | zero =>
    intro n h
    rw [List.take_of_length_le (by omega)]
    have hval : ∀ x ∈ keep.map (fun r => r.getD i 0), isVal x = true := fun x hx => by
      obtain ⟨r, hr, rfl⟩ := List.mem_map.1 hx
      have hl := hk r hr
      refine hv r hr _ ?_
      rw [List.getD_eq_getElem?_getD, List.getElem?_eq_getElem (by omega)]
      exact List.getElem_mem _
    have hO := Of_ev (keep.map fun r => r.getD i 0) (by rw [List.length_map]; exact hkl)
    rw [Zgs hval] at hO
    have hg := Zc8 (V := 1048576) (b := -1048576) (Zfp (keep.map fun r => r.getD i 0)) (fun x hx => (Zd9 x).1 (hval x ((Zdp x _).1 hx)))
    refine Ev.step (fun k => by rw [Zau.l2, if_neg (by omega)]) (Ev.bind hO (Ev.Zcf h0 (Ev.Zcf h1 ?_)))
    simp only [w1 (show i < 4611686018427387904 by omega)]
    refine next _ ⟨hg.1, fun x => (hg.2 x).trans ?_⟩
    rw [Zdp, List.mem_map]
  | succ m ih =>
    intro n h
    have hn : n < keep.length := by omega
    have hl := hk _ (List.getElem_mem hn)
    have e : Go.Proofs.YtpbcigilipdedaaW.PrintWords.rd (Zbt keep (n : Int)) (i : Int) = keep[n].getD i 0 := by
      rw [Zdr keep n hn, Zcd _ i (by omega), List.getD_eq_getElem?_getD, List.getElem?_eq_getElem (by omega)]
      rfl
    have hs := ih (n + 1) (by omega)
    rw [List.take_succ_eq_append_getElem hn, List.map_append] at hs
    simp only [List.map_cons, List.map_nil] at hs
    refine Ev.step (fun k => by rw [Zau.l2, if_pos (by omega), if_pos (by omega), if_pos (by omega), if_pos (by omega), if_pos (by rw [Zdr keep n hn]; omega), if_pos (by rw [List.length_map, List.length_take]; omega), e, w1 (show n < 4611686018427387904 by omega)]) hs
theorem columns_l1 (d : List (List Rg)) (hm : ∀ v ∈ vars, 0 ≤ v ∧ v < (d.length : Int)) (hnd : vars.Nodup) :
    ∀ (m n : Nat) (out : List (List Rg)), n + m = vars.length → out.length = d.length → (∀ i (h : i < vars.length), i < n → ColIs keep i (dv out vars[i])) → (∀ j, 0 ≤ j → j ∉ vars.take n → dv out j = dv d j) →
    ∃ l, Ev (fun k => Zau.l1 k out keep vars (vars.length : Int) (n : Int)) (l, true) ∧ l.length = d.length ∧ (∀ i (h : i < vars.length), ColIs keep i (dv l vars[i])) ∧ (∀ j, 0 ≤ j → j ∉ vars → dv l j = dv d j) := by
  intro m
  induction m with
  | zero =>
    intro n out h hl h1 h2
    rw [List.take_of_length_le (by omega)] at h2
    exact ⟨out, Ev.step (G := fun _ => some (out, true)) (fun k => by rw [Zau.l1, if_neg (by omega)]) (Ev.pure _), hl, fun i hi => h1 i hi (by omega), h2⟩
  | succ m ih =>
    intro n out h hl h1 h2
    have hn : n < vars.length := by omega
    obtain ⟨v0, v1⟩ := hm _ (List.getElem_mem hn)
    have hcol : ∃ o, ColIs keep n o := by
      have hval : ∀ x ∈ keep.map (fun r => r.getD n 0), isVal x = true := fun x hx => by
        obtain ⟨r, hr, rfl⟩ := List.mem_map.1 hx
        have hl := hk r hr
        refine hv r hr _ ?_
        rw [List.getD_eq_getElem?_getD, List.getElem?_eq_getElem (by omega)]
        exact List.getElem_mem _
      have hg := Zc8 (V := 1048576) (b := -1048576) (Zfp (keep.map fun r => r.getD n 0)) (fun x hx => (Zd9 x).1 (hval x ((Zdp x _).1 hx)))
      exact ⟨_, hg.1, fun x => (hg.2 x).trans (by rw [Zdp, List.mem_map])⟩
    obtain ⟨o, ho⟩ := hcol
    obtain ⟨l, hE, hL⟩ := ih (n + 1) (out.set vars[n].toNat o) (by omega) (by rw [List.length_set]; exact hl)
      (fun i hi hin => by
        by_cases e : i = n
        · subst e
          rw [dvt_same v0 (by omega)]
          exact ho
        rw [dvt_other v0 (hm _ (List.getElem_mem hi)).1 (fun e2 => e (nd_inj hnd hn hi e2).symm)]
        exact h1 i hi (by omega))
      (fun j hj hjn => by
        rw [List.take_succ_eq_append_getElem hn, List.mem_append, List.mem_singleton, not_or] at hjn
        rw [dvt_other v0 hj (fun e => hjn.2 e.symm)]
        exact h2 j hj hjn.1)
    refine ⟨l, ?_, hL⟩
    refine Ev.step (fun k => by rw [Zau.l1, if_pos (by omega), if_pos (by omega), if_pos (by omega), Zcd vars n hn]) ?_
    have := column_l2 hk hv hkl hvl n hn out vars (vars.length : Int) vars[n] (l, true) v0 (by omega) (fun o' ho' => by
      obtain rfl := DomIs.eq ho' ho (fun _ => Iff.rfl)
      exact hE) keep.length 0 (by omega)
    simpa using this
end
theorem Ze3 (d : List (List Rg)) (hd : Doms d) (vars : List Int) (hm : ∀ v ∈ vars, 0 ≤ v ∧ v < (d.length : Int)) (hnd : vars.Nodup) (kd : Int) (coefs : List Int) (op rhs : Int) (rows : List (List Int)) (b : Int)
    (hrl : rows.length ≤ 4096) (hrow : ∀ r ∈ rows, r.length = vars.length ∧ ∀ x ∈ r, isVal x = true) :
    ((∃ x ∈ d, x = []) ∧ Ev (fun k => Zau.f k d kd vars coefs op rhs rows b) ([], false)) ∨
    ((∀ x ∈ d, x ≠ []) ∧ ((rows.filter (rowIn d vars) = [] ∧ Ev (fun k => Zau.f k d kd vars coefs op rhs rows b) ([], false)) ∨
      (rows.filter (rowIn d vars) ≠ [] ∧ ∃ l, Ev (fun k => Zau.f k d kd vars coefs op rhs rows b) (l, true) ∧ l.length = d.length ∧ (∀ i (h : i < vars.length), ColIs (rows.filter (rowIn d vars)) i (dv l vars[i])) ∧ (∀ j, 0 ≤ j → j ∉ vars → dv l j = dv d j)))) := by
  have h64 := hd.1
  have hvl := Zga hnd hm
  have hkeep : (rows.filter (rowIn d vars)).length ≤ rows.length := List.length_filter_le _ _
  have hlen : ∀ x ∈ d, x.length ≤ 4096 := fun x hx => Nat.le_trans (Zcu (hd.2 x hx).1) (hd.2 x hx).2
  have hR := Rows_ev d kd vars coefs op rhs rows b hm (by omega) (by omega) (fun x hx => ⟨(hrow x hx).1, by have := (hrow x hx).1; omega⟩)
  have loop : ∀ (res : List (List Rg) × Bool), ((∀ x ∈ d, x ≠ []) → Ev (fun k => if ((rows.filter (rowIn d vars)).length : Int) = 0 then some (([] : List (List Rg)), false) else Zau.l1 k d (rows.filter (rowIn d vars)) vars (vars.length : Int) 0) res) → ((∃ x ∈ d, x = []) → res = ([], false)) →
      ∀ (m n : Nat), n + m = d.length → (∀ x ∈ d.take n, x ≠ []) → Ev (fun k => Zau.l0 k d (d.take n) d (d.length : Int) (n : Int) kd vars coefs op rhs rows b) res := by
    intro res hend hemp m
    induction m with
    | zero =>
      intro n h ht
      rw [List.take_of_length_le (by omega)] at ht ⊢
      exact Ev.step (fun k => by rw [Zau.l0, if_neg (by omega)]) (Ev.bind hR (hend ht))
    | succ m ih =>
      intro n h ht
      have hn : n < d.length := by omega
      refine Ev.step (fun k => by rw [Zau.l0, if_pos (by omega), if_pos (by omega), if_pos (by omega), rdR_nat d n hn]) ?_
      by_cases hz : d[n] = []
      · rw [hemp ⟨_, List.getElem_mem hn, hz⟩]
        exact Ev.Zcf (by rw [hz]; rfl) (Ev.pure _)
      have hpos : 0 < d[n].length := List.length_pos_iff.2 hz
      have hl9 := hlen _ (List.getElem_mem hn)
      refine Ev.Zd (by omega) (Ev.bind (Ev.const (show cloneR.f d[n] = some d[n] by rw [cloneR.f, if_pos (by omega)])) (Ev.Zcf (by rw [List.length_take]; omega) ?_))
      have := ih (n + 1) (by omega) (fun x hx => by
        rw [List.take_succ_eq_append_getElem hn, List.mem_append, List.mem_singleton] at hx
        exact hx.elim (ht x) (fun e => e ▸ hz))
      rw [List.take_succ_eq_append_getElem hn] at this
      simp only [w1 (show n < 4611686018427387904 by omega)]
      exact this
  have start : ∀ res, Ev (fun k => Zau.l0 k d (d.take 0) d (d.length : Int) ((0 : Nat) : Int) kd vars coefs op rhs rows b) res → Ev (fun k => Zau.f k d kd vars coefs op rhs rows b) res := fun res h => by
    unfold Zau.f
    exact h
  by_cases he : ∃ x ∈ d, x = []
  · exact .inl ⟨he, start _ (loop _ (fun h => by obtain ⟨x, hx, hx0⟩ := he; exact absurd hx0 (h x hx)) (fun _ => rfl) d.length 0 (by omega) (by simp))⟩
  have hne : ∀ x ∈ d, x ≠ [] := fun x hx e => he ⟨x, hx, e⟩
  refine .inr ⟨hne, ?_⟩
  by_cases hk0 : rows.filter (rowIn d vars) = []
  · refine .inl ⟨hk0, start _ (loop _ (fun _ => ?_) (fun h => absurd h he) d.length 0 (by omega) (by simp))⟩
    exact Ev.Zcf (by rw [hk0]; rfl) (Ev.pure _)
  have hpos : 0 < (rows.filter (rowIn d vars)).length := List.length_pos_iff.2 hk0
  have hmem : ∀ r ∈ rows.filter (rowIn d vars), r ∈ rows := fun r hr => (List.mem_filter.1 hr).1
  obtain ⟨l, hE, hL⟩ := columns_l1 (keep := rows.filter (rowIn d vars)) (fun r hr => (hrow r (hmem r hr)).1) (fun r hr => (hrow r (hmem r hr)).2) (by omega) (by omega) d hm hnd vars.length 0 d (by omega) rfl (fun i _ h => absurd h (Nat.not_lt_zero _)) (fun j _ _ => rfl)
  refine .inr ⟨hk0, l, start _ (loop _ (fun _ => ?_) (fun h => absurd h he) d.length 0 (by omega) (by simp)), hL⟩
  exact Ev.Zd (by omega) hE
end Go.Proofs.Ytpbcigilipdedaa.P
namespace Go.Proofs.Ytpbcigilipdedaa.P
open Go.RowKit Go.Proofs.YtpbcigilipdedaaW.PrintWords Go.Proofs.YtpbcigilipdedaaW.PrintLast Go.Proofs.YtpbcigilipdedaaW.PrintMore
attribute [local go_sem] Zcg Zci Zcr Zcs Zb7 Zb8 Zch Zcj
set_option linter.unusedVariables false
set_option linter.unusedSimpArgs false
end Go.Proofs.Ytpbcigilipdedaa.P
/- slices.SortFunc of ranges by their least values (dom.Join's closure). -/
namespace Go.Proofs.Ytpbcigilipdedaa.P
open Go.RowKit Go.Shelf Go.Proofs.YtpbcigilipdedaaW.PrintWords Go.Proofs.YtpbcigilipdedaaW.PrintLast Go.Proofs.YtpbcigilipdedaaW.PrintMore
set_option linter.unusedVariables false
set_option linter.unusedSimpArgs false
def okLo (x : S41) : Prop := -1152921504606846976 ≤ x.f0 ∧ x.f0 ≤ 1152921504606846976
instance (x : S41) : Decidable (okLo x) := inferInstanceAs (Decidable (_ ∧ _))
structure SubLo where
  r : S41
  ok : okLo r
instance : Inhabited SubLo := ⟨⟨⟨0, 0⟩, by constructor <;> decide⟩⟩
def encLo (x : SubLo) : List Value := [.int .i64 x.r.f0, .int .i64 x.r.f1]
def cfLo (x y : SubLo) : Int := x.r.f0 - y.r.f0
theorem ltLo (x y : SubLo) : ltOf cfLo x y = decide (x.r.f0 < y.r.f0) := by
  unfold ltOf cfLo
  exact decide_eq_decide.2 (by omega)
theorem swoLo : Go.Sort.SWO (ltOf cfLo) := by
  refine ⟨fun x => ?_, fun x y z h1 h2 => ?_, fun x y z h1 h2 => ?_⟩
  · rw [ltLo]; simp
  · rw [ltLo, decide_eq_true_iff] at *; omega
  rw [ltLo, decide_eq_false_iff_not] at *; omega
def toLo (x : S41) : SubLo := if h : okLo x then ⟨x, h⟩ else default
theorem toLo_val {x : S41} (h : okLo x) : (toLo x).r = x := by unfold toLo; rw [dif_pos h]
def sortedLo (l : List S41) : Array SubLo := Go.Sort.pdq (ltOf cfLo) (l.map toLo).toArray 0 (l.map toLo).toArray.size (Go.Lib.bitLen (l.map toLo).toArray.size) true true
def sortLo.f (l : List S41) : Option (List S41) :=
  if (l.all fun x => decide (okLo x)) = true then (if l.length < 1000000000000 then some ((sortedLo l).toList.map (·.r)) else none) else none
theorem sortedLo_size (l : List S41) : (sortedLo l).size = l.length := by
  have h := Go.Sort.pdq_sorts (ltOf cfLo) swoLo (l.map toLo).toArray 0 (l.map toLo).toArray.size (Go.Lib.bitLen (l.map toLo).toArray.size) true true (Nat.zero_le _) (Nat.le_refl _) (Or.inl rfl)
  have h1 := h.1.1
  unfold sortedLo
  rw [h1]
  simp
theorem loPred (x y : SubLo) (W : World) : Calls Try.prog 84 #[.agg #[.int .i64 x.r.f0, .int .i64 x.r.f1], .agg #[.int .i64 y.r.f0, .int .i64 y.r.f1]] W fun e w' => e = .returned (.int .i64 (cfLo x y)) ∧ ∃ q os', w' = Go.Sort.grow (W.drewN q) os' := by
  obtain ⟨x, hx1, hx2⟩ := x
  obtain ⟨y, hy1, hy2⟩ := y
  have hw : wrap64 (x.f0 - y.f0) = x.f0 - y.f0 := by unfold wrap64; omega
  have hw' : IntKind.i64.wrap (x.f0 - y.f0) = x.f0 - y.f0 := (Za4 _).trans hw
  show Calls Try.prog 84 #[.agg #[.int .i64 x.f0, .int .i64 x.f1], .agg #[.int .i64 y.f0, .int .i64 y.f1]] W fun e w' => e = .returned (.int .i64 (x.f0 - y.f0)) ∧ ∃ q os', w' = Go.Sort.grow (W.drewN q) os'
  clear hx1 hx2 hy1 hy2
  go_enter Try.func84, Try.ntmps84
  go_wp2
  go_ret
  refine ⟨by first | rfl | (simp [hw']; done) | (simp [hw]; done), 0, #[.cells #[.int .i64 x.f0, .int .i64 x.f1] 41, .cells #[.int .i64 y.f0, .int .i64 y.f1] 41], ?_⟩
  rw [Go.Sort.alloc_eq_grow, Go.Sort.alloc_eq_grow, Go.Sort.grow_grow]
  rfl
theorem flat_get (d : Array SubLo) (j : Nat) (h : j < d.size * 2) : (Go.Sort.flatK encLo 2 d)[j]! = (encLo d[j / 2]!)[j % 2]! := Go.Sort.get_flatK encLo 2 d j h
theorem rows_flat (w : World) (base : Nat) (ok : Nat → Prop) (l : List S41) (hok : ∀ x ∈ l, okLo x) (inner : List Value) (h : Reps (k41.M w base ok) 2 l inner) : inner = (Go.Sort.flatK encLo 2 (l.map toLo).toArray).toList := by
  have hl : inner.length = l.length * 2 := h.1
  refine List.ext_getElem (by simp [hl]) (fun j h1 h2 => ?_)
  have hj : j / 2 < l.length := by omega
  have hm := Zf7 (h.2 (j / 2) _ (List.getElem?_eq_getElem hj))
  have hj2 : j < (l.map toLo).toArray.size * 2 := by simp; omega
  have e1 : (Go.Sort.flatK encLo 2 (l.map toLo).toArray).toList[j] = (encLo (toLo l[j / 2]))[j % 2]! := by
    have := flat_get (l.map toLo).toArray j hj2
    rw [getElem!_pos _ j (by simp; omega)] at this
    rw [Array.getElem_toList, this, getElem!_pos _ (j / 2) (by simp; omega)]
    simp
  have e2 : inner[j] = ([Value.int .i64 l[j / 2].f0, .int .i64 l[j / 2].f1] : List Value)[j % 2]! := by
    rw [← hm]
    have : j = j / 2 * 2 + j % 2 := by omega
    rw [getElem!_pos _ (j % 2) (by simp; omega)]
    simp
    congr 1
  rw [e1, e2, encLo, toLo_val (hok _ (List.getElem_mem hj))]
theorem rows_flat' (w : World) (base : Nat) (ok : Nat → Prop) (d : Array SubLo) : Reps (k41.M w base ok) 2 (d.toList.map (·.r)) (Go.Sort.flatK encLo 2 d).toList := by
  refine ⟨by simp, fun j p hp => ?_⟩
  obtain ⟨hj, rfl⟩ := List.getElem?_eq_some_iff.1 hp
  have hj' : j < d.size := by simpa using hj
  have e : (((Go.Sort.flatK encLo 2 d).toList.drop (j * 2)).take 2) = encLo d[j] := by
    refine List.ext_getElem (by simp [encLo]; omega) (fun i h1 h2 => ?_)
    have hi : i < 2 := by simpa [encLo] using h2
    have := flat_get d (j * 2 + i) (by omega)
    rw [getElem!_pos _ (j * 2 + i) (by simp; omega), getElem!_pos _ ((j * 2 + i) / 2) (by omega), getElem!_pos _ ((j * 2 + i) % 2) (by simp [encLo]; omega)] at this
    simp only [List.getElem_take, List.getElem_drop, Array.getElem_toList]
    rw [this]
    have e3 : (j * 2 + i) / 2 = j := by omega
    have e4 : (j * 2 + i) % 2 = i := by omega
    simp only [e3, e4]
  have e5 : (d.toList.map (·.r))[j] = d[j].r := by simp
  show k41.M w base ok _ (((Go.Sort.flatK encLo 2 d).toList.drop (j * 2)).take 2)
  rw [e, e5]
  exact Ze w base ok (d[j].r)
theorem heap_sortedV {w : World} {g n : Nat} {os : Array Obj} {cur : Array Value} {e : TypeId} {fr : Nat × Nat} (F : Array Value) (hb : w.heap[g]? = some (.cells cur e fr)) :
    (Go.Sort.grow (Go.Sort.putRow id (Go.Sort.ahead w n) g 0 F) os).heap[g]? = some (.cells (Go.Sort.putCells id 0 F cur) e fr) := by
  have hg : g < w.heap.size := (Array.getElem?_eq_some_iff.1 hb).1
  rw [Go.Sort.heap_grow_old _ _ (by simpa using hg)]
  simp [Go.Sort.putRow, Go.Sort.mapBlock, Go.Sort.ahead, Array.getElem?_modify, hb, Go.Sort.onCells]
theorem Zf2 {w : World} {g n : Nat} {os : Array Obj} (F : Array Value) : w.grownBy (Go.Sort.grow (Go.Sort.putRow id (Go.Sort.ahead w n) g 0 F) os) (some g) := by
  refine ⟨rfl, rfl, rfl, by simp, fun k hk hne => ?_⟩
  rw [Go.Sort.heap_grow_old _ _ (by simpa using hk)]
  have : g ≠ k := fun e => hne (by rw [e])
  simp [Go.Sort.putRow, Go.Sort.mapBlock, Go.Sort.ahead, Array.getElem?_modify, this]
theorem Zgi (cur F : Array Value) (h : F.size ≤ cur.size) : (Go.Sort.putCells id 0 F cur).toList.take F.size = F.toList := by
  apply List.ext_getElem?
  intro j
  by_cases hj : j < F.size
  rotate_left
  · rw [List.getElem?_take_eq_none (by omega), List.getElem?_eq_none (by simp; omega)]
  rw [List.getElem?_take_of_lt hj, Array.getElem?_toList]
  simp [Go.Sort.putCells, hj, show j < cur.size by omega]
set_option maxHeartbeats 2000000 in
theorem sortLo.calls (P0_ : Nat → Prop) (u9000_ : Value) (l0 : List S41) (r : List S41) (w0 w : World) (hB : Below w0.heap.size w0 w) (ho0 : Kd.R k41 41 w w0.heap.size P0_ u9000_ l0) (h : sortLo.f l0 = some r) :
    Calls Try.prog 83 #[u9000_, .func (.func 84) #[] #[]] w fun e w' => e = .returned (.tuple #[]) ∧ Kd.R k41 41 w' w0.heap.size P0_ u9000_ r ∧ Below w0.heap.size w0 w' ∧ Kept w w' (fun k_ => P0_ k_) := by
  unfold sortLo.f at h
  split at h
  case isFalse => cases h
  case isTrue hall =>
    split at h
    case isFalse => cases h
    case isTrue hlen =>
      obtain rfl := Option.some.inj h
      have hok : ∀ x ∈ l0, okLo x := fun x hx => by simpa using List.all_eq_true.1 hall x hx
      have hsz := sortedLo_size l0
      obtain ⟨hP, inner, hown, hreps⟩ := ho0
      have hin := rows_flat w w0.heap.size _ l0 hok inner hreps
      rcases hown.2 with ⟨rfl, h0⟩ | ⟨g, cap, cur, rfl, hg, hb, hn, hcap, hcs, htk⟩
      · have hl : l0 = [] := List.length_eq_zero_iff.1 h0
        subst hl
        refine (AnyF.slices_SortFunc_none lsortF none 0 _ w).mono ?_
        rintro e w' ⟨rfl, rfl⟩
        have hr : ((sortedLo []).toList.map (·.r)) = [] := by
          have : (sortedLo []).size = 0 := hsz
          apply List.length_eq_zero_iff.1
          simpa using this
        rw [hr]
        exact ⟨rfl, Kd.Zem _ _ _ _ _, hB, Kept.refl _ _⟩
      have hgl : g < w.heap.size := (Array.getElem?_eq_some_iff.1 hb).1
      have hds : (l0.map toLo).toArray.size = l0.length := by simp
      have hil : inner.length = l0.length * 2 := hreps.1
      have hfs : (Go.Sort.flatK encLo 2 (l0.map toLo).toArray).size = l0.length * 2 := by rw [Go.Sort.size_flatK, hds]
      have hH : Go.Sort.HoldsK encLo 2 w g 0 (l0.map toLo).toArray := by
        intro j hj
        rw [hfs] at hj
        refine ⟨?_, by simp [World.frozen?, hb]⟩
        have h1 : (cur.toList.take (l0.length * 2))[j]? = inner[j]? := by rw [← htk]; rfl
        rw [List.getElem?_take_of_lt hj, hin, Array.getElem?_toList, Array.getElem?_toList] at h1
        have h2 := Array.getElem?_eq_getElem (xs := Go.Sort.flatK encLo 2 (l0.map toLo).toArray) (i := j) (by rw [hfs]; exact hj)
        rw [h2] at h1
        simp only [World.cell?, hb, Nat.zero_add]
        simp only [Option.isSome_none, Bool.false_eq_true, if_false]
        rw [h1, getElem!_pos _ j (by rw [hfs]; exact hj)]
        rfl
      have hc := AnyQ.slices_SortFunc_eq lsortF 2 Try.isAgg41 Try.sizeOf41 encLo (fun _ => rfl) (fun x v hv => by simp [encLo] at hv; rcases hv with rfl | rfl <;> rfl) cfLo swoLo 84 #[] g 0 cap (l0.map toLo).toArray w
        (enters_of Try.func84 (by kernel_rfl) rfl) (fun m os dk hs x y => loPred x y _) hH hgl (by rw [hds]; omega)
      rw [hds] at hc
      refine Calls.mono (P := Try.prog) (f := 83) hc ?_
      rintro e w' ⟨rfl, n, os, rfl⟩
      have hD : Go.Sort.pdq (ltOf cfLo) (l0.map toLo).toArray 0 l0.length (Go.Lib.bitLen l0.length) true true = sortedLo l0 := by unfold sortedLo; rw [hds]
      rw [hD]
      have hF : (Go.Sort.flatK encLo 2 (sortedLo l0)).size = l0.length * 2 := by rw [Go.Sort.size_flatK, hsz]
      have hgr := Zf2 (w := w) (g := g) (n := n) (os := os) (Go.Sort.flatK encLo 2 (sortedLo l0))
      refine ⟨rfl, ⟨hP, (Go.Sort.flatK encLo 2 (sortedLo l0)).toList, ⟨by simp [hsz]; rfl, .inr ⟨g, cap, Go.Sort.putCells id 0 (Go.Sort.flatK encLo 2 (sortedLo l0)) cur, by simp [hsz], hg, heap_sortedV _ hb, by simp [hsz]; exact hn, hcap, by simp [Go.Sort.putCells]; exact hcs, ?_⟩⟩, rows_flat' _ _ _ _⟩, hB.grown hgr hB.size (fun k e => by cases e; exact hg), Kept.of_grown hgr (Kept.refl _ _) (fun k e => .inl (hP k (by simpa [Value.ownBlock] using e)))⟩
      have hsz2 : ((sortedLo l0).toList.map (·.r)).length * 2 = (Go.Sort.flatK encLo 2 (sortedLo l0)).size := by rw [hF]; simp [hsz]
      show (Go.Sort.putCells id 0 (Go.Sort.flatK encLo 2 (sortedLo l0)) cur).toList.take (((sortedLo l0).toList.map (·.r)).length * 2) = _
      rw [hsz2]
      exact Zgi _ _ (by rw [hF, hcs]; show l0.length * 2 ≤ cap * 2; omega)
end Go.Proofs.Ytpbcigilipdedaa.P
namespace Go.Proofs.Ytpbcigilipdedaa.P
open Go.RowKit Go.Proofs.YtpbcigilipdedaaW.PrintWords Go.Proofs.YtpbcigilipdedaaW.PrintLast Go.Proofs.YtpbcigilipdedaaW.PrintMore
attribute [local go_sem] Zcg Zci Zcr Zcs Zb7 Zb8 Zch Zcj
set_option linter.unusedVariables false
set_option linter.unusedSimpArgs false
end Go.Proofs.Ytpbcigilipdedaa.P
/- Plain: what is in both, and in one (the seat that has no Cut and no Minus). -/
namespace Go.Proofs.Ytpbcigilipdedaa.P
open Go.RowKit Go.Proofs.YtpbcigilipdedaaW.PrintWords Go.Proofs.YtpbcigilipdedaaW.PrintLast Go.Proofs.YtpbcigilipdedaaW.PrintMore
set_option linter.unusedVariables false
set_option linter.unusedSimpArgs false
def DomOf (r : List Rg) (q : Int → Prop) : Prop := Gd 1048576 (-1048576) r ∧ ∀ v, Va r v ↔ q v
theorem DomOf.eq {r s : List Rg} {q q' : Int → Prop} (h : DomOf r q) (k : DomOf s q') (e : ∀ v, q v ↔ q' v) : r = s := Gd.ext h.1 k.1 (fun v => (h.2 v).trans ((e v).trans (k.2 v).symm))
theorem DomOf.len {r : List Rg} {q : Int → Prop} (h : DomOf r q) : r.length ≤ 2097153 := by
  have h1 := Zcu h.1
  have h2 := Zdc h.1
  omega
theorem Gd.at {V b : Int} {d : List Rg} (h : Gd V b d) {n : Nat} (hn : n < d.length) : b ≤ d[n].f0 ∧ d[n].f0 ≤ d[n].f1 ∧ d[n].f1 ≤ V ∧ Gd V (d[n].f1 + 2) (d.drop (n + 1)) := by
  have hg := h.drop n
  rw [List.drop_eq_getElem_cons hn] at hg
  exact hg
end Go.Proofs.Ytpbcigilipdedaa.P
namespace Go.Proofs.Ytpbcigilipdedaa.P
open Go.RowKit Go.Proofs.YtpbcigilipdedaaW.PrintWords Go.Proofs.YtpbcigilipdedaaW.PrintLast Go.Proofs.YtpbcigilipdedaaW.PrintMore
attribute [local go_sem] Zcg Zci Zcr Zcs Zb7 Zb8 Zch Zcj
set_option linter.unusedVariables false
set_option linter.unusedSimpArgs false
def Zba.l0 : Nat → Bool → List Int → List Int → List Int → Int → Option ((List (S41)))
 | 0, _, _, _, _, _ => none
 | k + 1, x2, x7, x8, x9, x10 => if x10 < (x7.length : Int) then (if 0 ≤ x10 then ((Zbc.f k x8 (rd x7 x10)).bind fun t558 => (if (t558 == x2) = true then (if x9.length < 17592186044416 then (Zba.l0 k x2 x7 x8 (x9 ++ [rd x7 x10]) (wrap64 (x10 + 1))) else (none)) else (Zba.l0 k x2 x7 x8 x9 (wrap64 (x10 + 1))))) else (none)) else ((Zal.f k x9).bind fun t563 => (some t563))
def Zba.f (k : Nat) (l0 : List (S41)) (l1 : List (S41)) (a2 : Bool) : Option ((List (S41))) := (Zas.f k l0).bind fun t548 => ((Zas.f k l1).bind fun t551 => (Zba.l0 k a2 t548 t551 (([] : List Int)) 0))
set_option maxHeartbeats 8000000 in
set_option maxRecDepth 100000 in
theorem Zba.calls (k : Nat) (A0 : Option Addr) (c0 : Nat) (l0 : List (S41)) (A1 : Option Addr) (c1 : Nat) (l1 : List (S41)) (a2 : Bool) (r : List (S41)) (w : World) (hr0 : Kd.C k41 w A0 l0.length l0) (hc0 : l0.length ≤ c0) (hr1 : Kd.C k41 w A1 l1.length l1) (hc1 : l1.length ≤ c1) (h : Zba.f k l0 l1 a2 = some r) :
  Calls Try.prog 37 #[.slice A0 l0.length c0, .slice A1 l1.length c1, .bool a2] w fun e w' => ∃ v0_ : Value, e = .returned (v0_) ∧ Kd.R k41 41 w' w.heap.size (fun _ => True) v0_ r ∧ Below w.heap.size w w' := by
 have HR0 := Za.mk hr0
 have HC0 := Za.mk hc0
 clear hr0 hc0
 have HR1 := Za.mk hr1
 have HC1 := Za.mk hc1
 clear hr1 hc1
 have HB := Za.mk (Below.refl w.heap.size w)
 have H : ((Zas.f k l0).bind fun t548 => ((Zas.f k l1).bind fun t551 => (Zba.l0 k a2 t548 t551 (([] : List Int)) 0))) = some r := h
 clear h
 replace H := Option.bind_eq_some_iff.mp H
 obtain ⟨t548, A40, H⟩ := H
 replace H : ((Zas.f k l1).bind fun t551 => (Zba.l0 k a2 t548 t551 (([] : List Int)) 0)) = some r := H
 have A4 := Za.mk A40
 clear A40
 replace H := Option.bind_eq_some_iff.mp H
 obtain ⟨t551, A50, H⟩ := H
 replace H : (Zba.l0 k a2 t548 t551 (([] : List Int)) 0) = some r := H
 have A5 := Za.mk A50
 clear A50
 obtain ⟨y554, hy554⟩ : ∃ y_ : List Int, y_ = (([] : List Int)) := ⟨_, rfl⟩
 replace H : (Zba.l0 k a2 t548 t551 y554 0) = some r := by first | (rw [hy554]; with_reducible exact H) | (have H2_ := (Option.bind_some _ _).symm.trans H; rw [hy554]; with_reducible exact H2_) | (have H2_ := (Option.bind_some _ _).symm.trans H; with_reducible exact H2_) | with_reducible exact H | (rw [hy554]; exact H) | exact H
 have Ny554 := Za.mk hy554
 clear hy554
 have H' := Za.mk H
 clear H
 go_enter Try.func37, Try.ntmps37
 go_wp2_with (first | ((with_reducible refine Za2 (f := 29) rfl ?_); refine Zb0 (some 12) rfl rfl Try.func29 (by kernel_rfl) rfl #[.slice A0 l0.length c0] rfl (by (try simp only [List.map_toArray, List.map_cons, List.map_nil]); first | done | rfl | (simp only [List.length_drop, List.length_take]; rfl)) ?_; (refine withB (m := w.heap.size) (w0 := w) (by repeat (first | (with_reducible first | exact HB.out | apply Zac | apply Zaa | apply Zab) | exact HB.out)) ?_); intro hL_; (with_reducible refine (Zas.calls k _ _ l0 t548 _ ?side1 ?side2 A4.out).mono ?_); (case side1 => repeat (first | exact HR0.out | (with_reducible refine Kd.C_alloc ?_ _) | (with_reducible refine Kd.Za0 ?_ _) | (with_reducible refine Kd.C_drew ?_))); (case side2 => exact HC0.out); rintro e w6 ⟨v549, rfl, ho0, hb⟩; refine ⟨_, rfl, ?_⟩; have n0_ := Za.mk (Kd.Zbz ho0 (Zam hL_)); have n1_ := Za.mk (Zan hL_ hb); clear HB; have HO550 := n0_; have HB := n1_; clear n0_ n1_; (try clear hb); (try clear hb2); (try clear hk); (try clear hi); (try clear ho0)) | ((with_reducible refine Za2 (f := 29) rfl ?_); refine Zb0 (some 14) rfl rfl Try.func29 (by kernel_rfl) rfl #[.slice A1 l1.length c1] rfl (by (try simp only [List.map_toArray, List.map_cons, List.map_nil]); first | done | rfl | (simp only [List.length_drop, List.length_take]; rfl)) ?_; (refine withB (m := w.heap.size) (w0 := w) (by repeat (first | (with_reducible first | exact HB.out | apply Zac | apply Zaa | apply Zab) | exact HB.out)) ?_); intro hL_; (with_reducible refine (Zas.calls k _ _ l1 t551 _ ?side1 ?side2 A5.out).mono ?_); (case side1 => repeat (first | exact (Kd.Zaw HR1.out HB.out) | (with_reducible refine Kd.C_alloc ?_ _) | (with_reducible refine Kd.Za0 ?_ _) | (with_reducible refine Kd.C_drew ?_))); (case side2 => exact HC1.out); rintro e w7 ⟨v552, rfl, ho0, hb⟩; refine ⟨_, rfl, ?_⟩; have n0_ := Za.mk (Kd.Zdo (mvR HO550.out) (Kd.Zdn ho0) hb); have n1_ := Za.mk (Kd.Zbz (Kd.Zej ho0 (Kd.R_lt (mvR HO550.out))) (Zam hL_)); have n2_ := Za.mk (Zan hL_ hb); clear HO550; clear HB; have HO550 := n0_; have HO553 := n1_; have HB := n2_; clear n0_ n1_ n2_; (try clear hb); (try clear hb2); (try clear hk); (try clear hi); (try clear ho0)) | ((with_reducible refine Zbv (N := 15) rfl ?_); refine Kd.Zdt (Kd.int .i64) _ 3 ?hg (N := 15) ?hd (xs := ([] : List Int)) (inner := []) (ok := fun _ => True) (okp := fun _ => True) ?hr ?hp (fun _ hk => hk) trivial (Below.refl _ _) (Nat.le_refl _) (by simp) ?_; (case hd => rfl); (case hg => rfl); (case hr => first | (go_simp; done) | (go_simp; rfl)); (case hp => exact (Reps.none _ _)); intro v555 w8 ho9 hb hg_ hnew_; clear hg_ hnew_; (first | rw [← Ny554.out] at ho9 | (simp only [Int.reduceToNat] at ho9; rw [← Ny554.out] at ho9)); have n0_ := Za.mk (Kd.Zdo (mvR HO550.out) (Kd.Zdn ho9) hb); have n1_ := Za.mk (Kd.Zdo (mvR HO553.out) (Kd.Zdn ho9) hb); have n2_ := Za.mk (Kd.Zbz (Kd.Zej (Kd.Zej ho9 (Kd.R_lt (mvR HO550.out))) (Kd.R_lt (mvR HO553.out))) (Zam (by repeat (first | (with_reducible first | exact HB.out | apply Zac | apply Zaa | apply Zab) | exact HB.out)))); have n3_ := Za.mk (Zan (by repeat (first | (with_reducible first | exact HB.out | apply Zac | apply Zaa | apply Zab) | exact HB.out)) hb); clear HO550; clear HO553; clear HB; have HO550 := n0_; have HO553 := n1_; have HO556 := n2_; have HB := n3_; clear n0_ n1_ n2_ n3_; clear hb ho9))
 go_loopg [9, 10] k (fun kq v9 v10 w' => ∃ (x9_1 : List Int) (x10_1 : Int), v10 = .int .i64 x10_1 ∧ Za (Zba.l0 kq a2 t548 t551 x9_1 x10_1 = some r) ∧ Za (kq ≤ k) ∧ Za (Kd.R (Kd.int .i64) 3 w' w.heap.size (fun k_ => some k_ ≠ (v552 : Value).ownBlock ∧ some k_ ≠ (v9 : Value).ownBlock) v549 t548) ∧ Za (Kd.R (Kd.int .i64) 3 w' w.heap.size (fun k_ => some k_ ≠ (v549 : Value).ownBlock ∧ some k_ ≠ (v9 : Value).ownBlock) v552 t551) ∧ Za (Kd.R (Kd.int .i64) 3 w' w.heap.size (fun k_ => some k_ ≠ (v549 : Value).ownBlock ∧ some k_ ≠ (v552 : Value).ownBlock) v9 x9_1) ∧ Za (Below w.heap.size w w'))
 case atStart => exact ⟨(y554), (0), (by first | rfl | (simp; done) | (simp [*]; done)), H', ⟨Nat.le_refl _⟩, ⟨by (with_reducible repeat (first | apply Kd.R_alloc | apply Kd.Zbh | apply Kd.Zbl)); exact Kd.Zbm HO550.out (fun _ hk => ⟨hk.1.2, hk.2⟩)⟩, ⟨by (with_reducible repeat (first | apply Kd.R_alloc | apply Kd.Zbh | apply Kd.Zbl)); exact Kd.Zbm HO553.out (fun _ hk => ⟨hk.1.2, hk.2⟩)⟩, ⟨by (with_reducible repeat (first | apply Kd.R_alloc | apply Kd.Zbh | apply Kd.Zbl)); exact Kd.Zbm HO556.out (fun _ hk => ⟨hk.1.2, hk.2⟩)⟩, ⟨by repeat (first | (with_reducible first | exact HB.out | apply Zac | apply Zaa | apply Zab) | exact HB.out)⟩⟩
 case round =>
  clear H'
  try clear c1
  try clear c2
  try clear p2
  try clear c3
  obtain ⟨x9_1, x10_1, rfl, HA, HK1, HO_7, HO_8, HO_9, HB⟩ := hrel
  cases gk with
  | zero => exact absurd HA.out (by simp [Zba.l0])
  | succ k1 =>
   have H := HA.out
   clear HA
   simp only [Zba.l0] at H
   by_cases c10 : x10_1 < (t548.length : Int)
   rotate_left
   ·rw [if_neg c10] at H
    have c10b0 : decide (x10_1 < (t548.length : Int)) = false := decide_eq_false c10
    clear c10
    replace H := Option.bind_eq_some_iff.mp H
    obtain ⟨t563, A200, H⟩ := H
    replace H : (some t563) = some r := H
    have A20 := Za.mk A200
    clear A200
    obtain rfl := Option.some.inj H
    obtain ⟨Ao21, co21, eo21⟩ := Kd.Zbw HO_7.out
    subst eo21
    obtain ⟨Ao22, co22, eo22⟩ := Kd.Zbw HO_9.out
    subst eo22
    go_wp2_with (first | ((with_reducible refine Za2 (f := 58) rfl ?_); refine Zb0 (some 38) rfl rfl Try.func58 (by kernel_rfl) rfl #[.slice Ao22 x9_1.length co22] rfl (by (try simp only [List.map_toArray, List.map_cons, List.map_nil]); first | done | rfl | (simp only [List.length_drop, List.length_take]; rfl)) ?_; (refine withB (m := w.heap.size) (w0 := w) (by repeat (first | (with_reducible first | exact HB.out | apply Zac | apply Zaa | apply Zab) | exact HB.out)) ?_); intro hL_; (with_reducible refine (Zal.calls k1 _ _ x9_1 t563 _ ?side1 ?side2 A20.out).mono ?_); (case side1 => repeat (first | exact (Kd.Za3 HO_9.out).2.2 | (with_reducible refine Kd.C_alloc ?_ _) | (with_reducible refine Kd.Za0 ?_ _) | (with_reducible refine Kd.C_drew ?_))); (case side2 => exact (Kd.Za3 HO_9.out).2.1); rintro e w23 ⟨v564, rfl, ho0, hb⟩; refine ⟨_, rfl, ?_⟩; have n3_ := Za.mk (Kd.Zbz ho0 (Zam hL_)); have n4_ := Za.mk (Zan hL_ hb); clear HO_7; clear HO_8; clear HO_9; clear HB; have HO565 := n3_; have HB := n4_; clear n3_ n4_; (try clear hb); (try clear hb2); (try clear hk); (try clear hi); (try clear ho0)))
    go_ret
    exact ⟨_, by first | rfl | (simp [Zaq, Zar] <;> rfl) | (simp [*, Zaq, Zar] <;> rfl), by (with_reducible repeat (first | apply Kd.R_alloc | apply Kd.Zbh | apply Kd.Zbl)); exact HO565.out, by repeat (first | (with_reducible first | exact HB.out | apply Zac | apply Zaa | apply Zab) | exact HB.out)⟩
   rw [if_pos c10] at H
   have c10b0 : decide (x10_1 < (t548.length : Int)) = true := decide_eq_true c10
   clear c10
   by_cases c11 : 0 ≤ x10_1
   rotate_left
   ·rw [if_neg c11] at H
    exact absurd H (by simp)
   rw [if_pos c11] at H
   have c11b0 : decide (0 ≤ x10_1) = true := decide_eq_true c11
   clear c11
   replace H := Option.bind_eq_some_iff.mp H
   obtain ⟨t558, A120, H⟩ := H
   replace H : (if (t558 == a2) = true then (if x9_1.length < 17592186044416 then (Zba.l0 k1 a2 t548 t551 (x9_1 ++ [rd t548 x10_1]) (wrap64 (x10_1 + 1))) else (none)) else (Zba.l0 k1 a2 t548 t551 x9_1 (wrap64 (x10_1 + 1)))) = some r := H
   have A12 := Za.mk A120
   clear A120
   by_cases c13 : (t558 == a2) = true
   rotate_left
   ·rw [if_neg c13] at H
    have c13b0 : (t558 == a2) = false := by simpa using c13
    (try (have c13b1 : decide (t558 = a2) = false := by simpa using c13))
    (try (have c13b2 : (t558 == a2) = false := by simpa using c13))
    (try (have c13b3 : ¬ (t558 = a2) := by simpa using c13))
    clear c13
    have H' := Za.mk H
    clear H
    obtain ⟨Ao18, co18, eo18⟩ := Kd.Zbw HO_7.out
    subst eo18
    have p557 : 0 ≤ (x10_1 : Int) := of_decide_eq_true (by first | (with_reducible assumption) | assumption)
    have q557 : x10_1 < (t548.length : Int) := of_decide_eq_true (by first | (with_reducible assumption) | assumption)
    obtain ⟨ad557, e557, hx557_0⟩ := Kd.Zby (Kd.Za3 HO_7.out).2.2 x10_1 p557 q557
    cases e557
    replace p557 := eq_true p557
    replace q557 := eq_true q557
    obtain ⟨Ao19, co19, eo19⟩ := Kd.Zbw HO_8.out
    subst eo19
    go_wp2_with (first | ((with_reducible refine Za2 (f := 31) rfl ?_); refine Zb0 (some 27) rfl rfl Try.func31 (by kernel_rfl) rfl #[.slice Ao19 t551.length co19, .int .i64 (rd t548 x10_1)] rfl (by (try simp only [List.map_toArray, List.map_cons, List.map_nil]); first | done | rfl | (simp only [List.length_drop, List.length_take]; rfl)) ?_; (with_reducible refine (Zbc.calls k1 _ _ t551 (rd t548 x10_1) t558 _ ?side1 ?side2 A12.out).mono ?_); (case side1 => repeat (first | exact (Kd.Za3 HO_8.out).2.2 | (with_reducible refine Kd.C_alloc ?_ _) | (with_reducible refine Kd.Za0 ?_ _) | (with_reducible refine Kd.C_drew ?_))); (case side2 => exact (Kd.Za3 HO_8.out).2.1); rintro e w' ⟨rfl, ⟨nd, rfl⟩⟩; refine ⟨_, rfl, ?_⟩))
    go_roundg k1
    case measure => have := HK1.out; omega
    case rel => exact ⟨(x9_1), (wrap64 (x10_1 + 1)), (by first | rfl | (simp; done) | (simp [*]; done)), H', ⟨by have := HK1.out; omega⟩, ⟨by (with_reducible repeat (first | apply Kd.R_alloc | apply Kd.Zbh | apply Kd.Zbl)); exact HO_7.out⟩, ⟨by (with_reducible repeat (first | apply Kd.R_alloc | apply Kd.Zbh | apply Kd.Zbl)); exact HO_8.out⟩, ⟨by (with_reducible repeat (first | apply Kd.R_alloc | apply Kd.Zbh | apply Kd.Zbl)); exact HO_9.out⟩, ⟨by repeat (first | (with_reducible first | exact HB.out | apply Zac | apply Zaa | apply Zab) | exact HB.out)⟩⟩
   rw [if_pos c13] at H
   have c13b0 : (t558 == a2) = true := c13
   (try (have c13b1 : decide (t558 = a2) = true := by simpa using c13))
   (try (have c13b2 : (t558 == a2) = true := by simpa using c13))
   clear c13
   by_cases c14 : x9_1.length < 17592186044416
   rotate_left
   ·rw [if_neg c14] at H
    exact absurd H (by simp)
   rw [if_pos c14] at H
   have LMc14 := Za.mk c14
   clear c14
   obtain ⟨y560, hy560⟩ : ∃ y_ : List Int, y_ = (x9_1 ++ [rd t548 x10_1]) := ⟨_, rfl⟩
   replace H : (Zba.l0 k1 a2 t548 t551 y560 (wrap64 (x10_1 + 1))) = some r := by first | (rw [hy560]; with_reducible exact H) | (have H2_ := (Option.bind_some _ _).symm.trans H; rw [hy560]; with_reducible exact H2_) | (have H2_ := (Option.bind_some _ _).symm.trans H; with_reducible exact H2_) | with_reducible exact H | (rw [hy560]; exact H) | exact H
   have Ny560 := Za.mk hy560
   clear hy560
   have H' := Za.mk H
   clear H
   obtain ⟨Ao15, co15, eo15⟩ := Kd.Zbw HO_7.out
   subst eo15
   have p557 : 0 ≤ (x10_1 : Int) := of_decide_eq_true (by first | (with_reducible assumption) | assumption)
   have q557 : x10_1 < (t548.length : Int) := of_decide_eq_true (by first | (with_reducible assumption) | assumption)
   obtain ⟨ad557, e557, hx557_0⟩ := Kd.Zby (Kd.Za3 HO_7.out).2.2 x10_1 p557 q557
   cases e557
   replace p557 := eq_true p557
   replace q557 := eq_true q557
   obtain ⟨Ao16, co16, eo16⟩ := Kd.Zbw HO_8.out
   subst eo16
   go_wp2_with (first | ((with_reducible refine Za2 (f := 31) rfl ?_); refine Zb0 (some 27) rfl rfl Try.func31 (by kernel_rfl) rfl #[.slice Ao16 t551.length co16, .int .i64 (rd t548 x10_1)] rfl (by (try simp only [List.map_toArray, List.map_cons, List.map_nil]); first | done | rfl | (simp only [List.length_drop, List.length_take]; rfl)) ?_; (with_reducible refine (Zbc.calls k1 _ _ t551 (rd t548 x10_1) t558 _ ?side1 ?side2 A12.out).mono ?_); (case side1 => repeat (first | exact (Kd.Za3 HO_8.out).2.2 | (with_reducible refine Kd.C_alloc ?_ _) | (with_reducible refine Kd.Za0 ?_ _) | (with_reducible refine Kd.C_drew ?_))); (case side2 => exact (Kd.Za3 HO_8.out).2.1); rintro e w' ⟨rfl, ⟨nd, rfl⟩⟩; refine ⟨_, rfl, ?_⟩; have p559 : 0 ≤ (x10_1 : Int) := of_decide_eq_true (by first | (with_reducible assumption) | assumption); have q559 : x10_1 < (t548.length : Int) := of_decide_eq_true (by first | (with_reducible assumption) | assumption); obtain ⟨ad559, e559, hx559_0⟩ := Kd.Zby (Kd.Za3 HO_7.out).2.2 x10_1 p559 q559; obtain rfl : ad557 = ad559 := (by injection e559); replace p559 := eq_true p559; replace q559 := eq_true q559) | ((with_reducible refine Zbg (b := .append) (xs := #[.tmp 30, .tmp 35]) rfl ?_); at_builtin; refine Kd.Zb9 (Kd.int .i64) (w0 := w) w.heap.size rfl (.tmp 30) (.tmp 35) 23 3 (.int .i64 0) 8 rfl Try.underlying23 info3 rfl (by decide) (by omega) u9 x9_1 (rd t548 x10_1) [.int .i64 (rd t548 x10_1)] (fun k_ => some k_ ≠ (.slice (some ad557) t548.length co15 : Value).ownBlock ∧ some k_ ≠ (.slice Ao16 t551.length co16 : Value).ownBlock) (fun _ => False) rfl rfl ?aP (fun _ hk => hk.elim) ?aF ?aO ?aB ?aS ?aL ?_; (case aP => exact rfl); (case aB => exact (by repeat (first | (with_reducible first | exact HB.out | apply Zac | apply Zaa | apply Zab) | exact HB.out))); (case aF => exact (fun k_ hk => ⟨Kd.fresh' (Kd.R_lt (mvR HO_7.out)) k_ hk, Kd.fresh' (Kd.R_lt (mvR HO_8.out)) k_ hk⟩)); (case aO => exact (mvR HO_9.out)); (case aS => exact (Zam (by repeat (first | (with_reducible first | exact HB.out | apply Zac | apply Zaa | apply Zab) | exact HB.out)))); (case aL => have := LMc14.out; omega); intro v561 w17 ho hb hg hat; rw [← Ny560.out] at ho; have n0_ := Za.mk (Kd.Zcv (ok := (fun k_ => some k_ ≠ (.slice Ao16 t551.length co16 : Value).ownBlock)) (mvR HO_7.out) hg hat); have n1_ := Za.mk (Kd.Zcv (ok := (fun k_ => some k_ ≠ (.slice (some ad557) t548.length co15 : Value).ownBlock)) (mvR HO_8.out) hg hat); have n2_ := Za.mk (hb); have n3_ := Za.mk (ho); clear HO_7; clear HO_8; clear HB; clear HO_9; have HO_7 := n0_; have HO_8 := n1_; have HB := n2_; have HO562 := n3_; clear n0_ n1_ n2_ n3_; clear ho hb hg hat))
   go_roundg k1
   case measure => have := HK1.out; omega
   case rel => exact ⟨(y560), (wrap64 (x10_1 + 1)), (by first | rfl | (simp; done) | (simp [*]; done)), H', ⟨by have := HK1.out; omega⟩, ⟨by (with_reducible repeat (first | apply Kd.R_alloc | apply Kd.Zbh | apply Kd.Zbl)); exact HO_7.out⟩, ⟨by (with_reducible repeat (first | apply Kd.R_alloc | apply Kd.Zbh | apply Kd.Zbl)); exact HO_8.out⟩, ⟨by (with_reducible repeat (first | apply Kd.R_alloc | apply Kd.Zbh | apply Kd.Zbl)); exact HO562.out⟩, ⟨by repeat (first | (with_reducible first | exact HB.out | apply Zac | apply Zaa | apply Zab) | exact HB.out)⟩⟩
end Go.Proofs.Ytpbcigilipdedaa.P
/- Plain: the document's Pick (the seat that has no Cut and no Minus). -/
namespace Go.Proofs.Ytpbcigilipdedaa.P
open Go.RowKit Go.Proofs.YtpbcigilipdedaaW.PrintWords Go.Proofs.YtpbcigilipdedaaW.PrintLast Go.Proofs.YtpbcigilipdedaaW.PrintMore
set_option linter.unusedVariables false
set_option linter.unusedSimpArgs false
theorem pack_dom {l : List Int} (hs : SS l) (hb : ∀ x ∈ l, -1048576 ≤ x ∧ x ≤ 1048576) : DomOf (pack l) (fun v => v ∈ l) := Zc8 hs hb
theorem vals_bd {d : List Rg} (hd : Gd 1048576 (-1048576) d) : ∀ x ∈ vals d, -1048576 ≤ x ∧ x ≤ 1048576 := fun x hx => ⟨hd.ge ((Zdf x d).1 hx), hd.le ((Zdf x d).1 hx)⟩
def pickL (q : Bool) (x y : List Int) : List Int := x.filter fun v => decide (v ∈ y) == q
theorem ref_Pick_l0 (q : Bool) (x y : List Int) (hx : x.length ≤ 3000000) (hy : y.length ≤ 3000000) (hs : SS x) (hb : ∀ v ∈ x, -1048576 ≤ v ∧ v ≤ 1048576) : ∀ (m n : Nat), n + m = x.length → Ev (fun k => Zba.l0 k q x y (pickL q (x.take n) y) (n : Int)) (pack (pickL q x y)) := by
  intro m
  induction m with
  | zero =>
    intro n h
    rw [List.take_of_length_le (by omega)]
    have hl : (pickL q x y).length ≤ x.length := List.length_filter_le _ _
    refine Ev.step (fun k => by rw [Zba.l0, if_neg (by omega)]) (Ev.bind (ref_Pack (pickL q x y) (by omega) (List.Pairwise.filter _ hs) (fun v hv => ?_)) (Ev.pure _))
    have := hb v (List.mem_filter.1 hv).1
    omega
  | succ m ih =>
    intro n h
    have hn : n < x.length := by omega
    have hl : (pickL q (x.take n) y).length ≤ (x.take n).length := List.length_filter_le _ _
    rw [List.length_take] at hl
    have next := ih (n + 1) (by omega)
    rw [List.take_succ_eq_append_getElem hn, pickL, List.filter_append] at next
    refine Ev.step (fun k => by rw [Zba.l0, if_pos (by omega), if_pos (by omega), Zcd x n hn]) (Ev.bind (ref_Has y x[n] (by omega)) ?_)
    by_cases c : (decide (x[n] ∈ y) == q) = true
    · simp only [List.filter_cons, c, if_true, List.filter_nil] at next
      refine Ev.Zcf c (Ev.Zcf (by omega) ?_)
      rw [w1 (by omega)]
      exact next
    simp only [List.filter_cons, Bool.eq_false_iff.mpr c, Bool.false_eq_true, if_false, List.filter_nil, List.append_nil] at next
    refine Ev.Zd c ?_
    rw [w1 (by omega)]
    exact next
theorem ref_Pick_ev (q : Bool) (a b : List Rg) (ha : Gd 1048576 (-1048576) a) (hb : Gd 1048576 (-1048576) b) : ∃ r, Ev (fun k => Zba.f k a b q) r ∧ DomOf r (fun v => Va a v ∧ (decide (Va b v) = q)) := by
  have h1 := Zdc ha
  have h2 := Zdc hb
  have hs := vals_ss ha
  refine ⟨pack (pickL q (vals a) (vals b)), Ev.bind (Zgv a ha (Int.le_refl _)) (Ev.bind (Zgv b hb (Int.le_refl _)) (ref_Pick_l0 q (vals a) (vals b) (by omega) (by omega) hs (vals_bd ha) (vals a).length 0 (by omega))), ?_⟩
  have hd := pack_dom (l := pickL q (vals a) (vals b)) (List.Pairwise.filter _ hs) (fun v hv => vals_bd ha v (List.mem_filter.1 hv).1)
  refine ⟨hd.1, fun v => (hd.2 v).trans ?_⟩
  show v ∈ pickL q (vals a) (vals b) ↔ Va a v ∧ decide (Va b v) = q
  unfold pickL
  rw [List.mem_filter, Zdf, show decide (v ∈ vals b) = decide (Va b v) from decide_eq_decide.2 (Zdf v b)]
  simp
end Go.Proofs.Ytpbcigilipdedaa.P
namespace Go.Proofs.Ytpbcigilipdedaa.P
open Go.RowKit Go.Proofs.YtpbcigilipdedaaW.PrintWords Go.Proofs.YtpbcigilipdedaaW.PrintLast Go.Proofs.YtpbcigilipdedaaW.PrintMore
attribute [local go_sem] Zcg Zci Zcr Zcs Zb7 Zb8 Zch Zcj
set_option linter.unusedVariables false
set_option linter.unusedSimpArgs false
def Zao.l0 : Nat → List (List (S41)) → List (List (S41)) → Int → Option (Bool)
 | 0, _, _, _ => none
 | k + 1, x0, x1, x5 => if x5 < (x0.length : Int) then (if 0 ≤ x5 then (if x5 < (x1.length : Int) then ((Zba.f k (Zcb x0 x5) (Zcb x1 x5) false).bind fun t568 => (if (t568.length : Int) > 0 then (some false) else (Zao.l0 k x0 x1 (wrap64 (x5 + 1))))) else (none)) else (none)) else (some true)
def Zao.f (k : Nat) (l0 : List (List (S41))) (l1 : List (List (S41))) : Option (Bool) := if (l0.length : Int) = (l1.length : Int) then (Zao.l0 k l0 l1 0) else (some false)
def Zao.T6 : Bool × List (List Nat × List Nat) := (true, [([], []), ([], []), ([0, 1], [0, 1]), ([2], [2]), ([], []), ([], []), ([4, 5], [4, 5]), ([6], [6]), ([3, 7], [3, 7]), ([8], [8]), ([9], [9])])
def Zao.B6 : List Nat := [0, 0, 3, 7, 0, 0, 48, 112, 255, 511, 1023]
theorem Zao.tab6 : rtab .any (opsOf Try.f27 6) = Zao.T6 := by kernel_rfl
theorem Zao.bits6 : waitsOk Zao.T6.2 Zao.B6 = true := by kernel_rfl
set_option maxHeartbeats 8000000 in
set_option maxRecDepth 100000 in
theorem Zao.calls (k : Nat) (A0 : Option Addr) (c0 : Nat) (l0 : List (List (S41))) (A1 : Option Addr) (c1 : Nat) (l1 : List (List (S41))) (r : Bool) (w : World) (hr0 : Kd.C (Kd.slice 41 k41) w A0 l0.length l0) (hc0 : l0.length ≤ c0) (hr1 : Kd.C (Kd.slice 41 k41) w A1 l1.length l1) (hc1 : l1.length ≤ c1) (h : Zao.f k l0 l1 = some r) :
  Calls Try.prog 27 #[.slice A0 l0.length c0, .slice A1 l1.length c1] w fun e w' => e = .returned (.bool r) ∧ Below w.heap.size w w' := by
 have HR0 := Za.mk hr0
 have HC0 := Za.mk hc0
 clear hr0 hc0
 have HR1 := Za.mk hr1
 have HC1 := Za.mk hc1
 clear hr1 hc1
 have HB := Za.mk (Below.refl w.heap.size w)
 have H : (if (l0.length : Int) = (l1.length : Int) then (Zao.l0 k l0 l1 0) else (some false)) = some r := h
 clear h
 by_cases c3 : (l0.length : Int) = (l1.length : Int)
 rotate_left
 ·rw [if_neg c3] at H
  have c3b0 : ((l0.length : Int) == (l1.length : Int)) = false := beq_eq_false_iff_ne.mpr c3
  have c3b1 : ((l0.length : Int) != (l1.length : Int)) = true := bne_iff_ne.mpr c3
  have c3b2 : (l0.length == l1.length) = false := by first | simpa using c3 | (simp at c3 ⊢; omega)
  obtain rfl := Option.some.inj H
  go_enter Try.func27, Try.ntmps27
  go_wp2
  go_ret
  exact ⟨by first | rfl | (simp [Zaq, Zar] <;> rfl) | (simp [*, Zaq, Zar] <;> rfl), by repeat (first | (with_reducible first | exact HB.out | apply Zac | apply Zaa | apply Zab) | exact HB.out)⟩
 rw [if_pos c3] at H
 have c3b0 : ((l0.length : Int) == (l1.length : Int)) = true := beq_iff_eq.mpr c3
 have c3b1 : ((l0.length : Int) != (l1.length : Int)) = false := bne_eq_false_iff_eq.mpr c3
 have c3b2 : (l0.length == l1.length) = true := by first | simpa using c3 | (simp at c3 ⊢; omega)
 clear c3
 have H' := Za.mk H
 clear H
 go_enter Try.func27, Try.ntmps27
 go_wp2
 go_loopg [5] k (fun kq v5 w' => ∃ (x5_1 : Int), v5 = .int .i64 x5_1 ∧ Za (Zao.l0 kq l0 l1 x5_1 = some r) ∧ Za (kq ≤ k) ∧ Za (Below w.heap.size w w'))
 case atStart => exact ⟨(0), (by first | rfl | (simp; done) | (simp [*]; done)), H', ⟨Nat.le_refl _⟩, ⟨by repeat (first | (with_reducible first | exact HB.out | apply Zac | apply Zaa | apply Zab) | exact HB.out)⟩⟩
 case round =>
  clear H'
  try clear c1
  try clear c2
  try clear p2
  try clear c3
  try clear c3b0
  try clear c3b1
  try clear c3b2
  obtain ⟨x5_1, rfl, HA, HK1, HB⟩ := hrel
  cases gk with
  | zero => exact absurd HA.out (by simp [Zao.l0])
  | succ k1 =>
   have H := HA.out
   clear HA
   simp only [Zao.l0] at H
   by_cases c4 : x5_1 < (l0.length : Int)
   rotate_left
   ·rw [if_neg c4] at H
    have c4b0 : decide (x5_1 < (l0.length : Int)) = false := decide_eq_false c4
    clear c4
    obtain rfl := Option.some.inj H
    go_wp2
    go_ret
    exact ⟨by first | rfl | (simp [Zaq, Zar] <;> rfl) | (simp [*, Zaq, Zar] <;> rfl), by repeat (first | (with_reducible first | exact HB.out | apply Zac | apply Zaa | apply Zab) | exact HB.out)⟩
   rw [if_pos c4] at H
   have c4b0 : decide (x5_1 < (l0.length : Int)) = true := decide_eq_true c4
   clear c4
   by_cases c5 : 0 ≤ x5_1
   rotate_left
   ·rw [if_neg c5] at H
    exact absurd H (by simp)
   rw [if_pos c5] at H
   have c5b0 : decide (0 ≤ x5_1) = true := decide_eq_true c5
   clear c5
   by_cases c6 : x5_1 < (l1.length : Int)
   rotate_left
   ·rw [if_neg c6] at H
    exact absurd H (by simp)
   rw [if_pos c6] at H
   have c6b0 : decide (x5_1 < (l1.length : Int)) = true := decide_eq_true c6
   clear c6
   replace H := Option.bind_eq_some_iff.mp H
   obtain ⟨t568, A70, H⟩ := H
   replace H : (if (t568.length : Int) > 0 then (some false) else (Zao.l0 k1 l0 l1 (wrap64 (x5_1 + 1)))) = some r := H
   have A7 := Za.mk A70
   clear A70
   by_cases c8 : (t568.length : Int) > 0
   ·rw [if_pos c8] at H
    have c8b0 : decide (0 < (t568.length : Int)) = true := decide_eq_true c8
    have c8b1 : decide (0 < t568.length) = true := decide_eq_true (by omega)
    clear c8
    obtain rfl := Option.some.inj H
    try go_wp2
    have n0_ := Za.mk (Zab HB.out)
    clear HB
    have HB := n0_
    clear n0_
    have p566 : 0 ≤ (x5_1 : Int) := of_decide_eq_true (by first | (with_reducible assumption) | assumption)
    have q566 : x5_1 < (l0.length : Int) := of_decide_eq_true (by first | (with_reducible assumption) | assumption)
    obtain ⟨ad566, A566_0, c566_0, e566, hx566_0, hl566_0, hi566_0⟩ := Zfn HR0.out x5_1 p566 q566
    have hw566_0 := hx566_0
    cases e566
    replace hx566_0 := (HB.out.cell (World.block_lt_of_cell? w _ hx566_0)).trans hx566_0
    have HR566_0 := Za.mk hi566_0
    have HC566_0 := Za.mk hl566_0
    clear hi566_0 hl566_0
    replace p566 := eq_true p566
    replace q566 := eq_true q566
    have p567 : 0 ≤ (x5_1 : Int) := of_decide_eq_true (by first | (with_reducible assumption) | assumption)
    have q567 : x5_1 < (l1.length : Int) := of_decide_eq_true (by first | (with_reducible assumption) | assumption)
    obtain ⟨ad567, A567_0, c567_0, e567, hx567_0, hl567_0, hi567_0⟩ := Zfn HR1.out x5_1 p567 q567
    have hw567_0 := hx567_0
    cases e567
    replace hx567_0 := (HB.out.cell (World.block_lt_of_cell? w _ hx567_0)).trans hx567_0
    have HR567_0 := Za.mk hi567_0
    have HC567_0 := Za.mk hl567_0
    clear hi567_0 hl567_0
    replace p567 := eq_true p567
    replace q567 := eq_true q567
    refine Zdl (n := 11) (S := fun w' => w'.cell? (ad566.add (x5_1).toNat) = some (.slice A566_0 (Zcb l0 x5_1).length c566_0) ∧ w'.cell? (ad567.add (x5_1).toNat) = some (.slice A567_0 (Zcb l1 x5_1).length c567_0)) (ds := []) #[false, false, false, false, false, false, false, false, false, false, false] (by kernel_rfl) rfl rfl ⟨((HB.out.cell (World.block_lt_of_cell? w _ hw566_0)).trans hw566_0), ((HB.out.cell (World.block_lt_of_cell? w _ hw567_0)).trans hw567_0)⟩ (fun hHeld => ?_); refine Zcl Zao.tab6 Zao.bits6 (fun HT_ HW_ => ?_)
    generalize wr.drew = w9 at HB HR566_0 HR567_0 hx566_0 hx567_0 hHeld ⊢
    refine Zbn (i := 0) (N := some 17) (v := ?_) (a' := ?_) #[true, false, false, false, false, false, false, false, false, false, false] rfl rfl (Za5 HT_.out (by kernel_rfl)) (fun _ _ _ h => h) (Or.inl ⟨by rfl, ?_⟩) ?_ ?_
    rotate_left
    ·intro w'
     go_simp
     with_reducible rfl
    rotate_left
    ·simp only [Act.put, List.setIfInBounds_toArray, List.set_cons_zero, List.set_cons_succ, Za4, Za7]
     rfl
    refine Zbn (i := 1) (N := some 18) (v := ?_) (a' := ?_) #[true, true, false, false, false, false, false, false, false, false, false] rfl rfl (Za5 HT_.out (by kernel_rfl)) (fun _ _ _ h => h) (Or.inl ⟨by rfl, ?_⟩) ?_ ?_
    rotate_left
    ·intro w'
     go_simp
     with_reducible rfl
    rotate_left
    ·simp only [Act.put, List.setIfInBounds_toArray, List.set_cons_zero, List.set_cons_succ, Za4, Za7]
     rfl
    refine Zbn (i := 2) (N := some 19) (v := ?_) (a' := ?_) #[true, true, true, false, false, false, false, false, false, false, false] rfl rfl (Za5 HT_.out (by kernel_rfl)) (fun _ _ _ h => h) (Or.inl ⟨by rfl, ?_⟩) ?_ ?_
    rotate_left
    ·intro w'
     go_simp
     with_reducible rfl
    rotate_left
    ·simp only [Act.put, List.setIfInBounds_toArray, List.set_cons_zero, List.set_cons_succ, Za4, Za7]
     rfl
    refine Zbn (i := 4) (N := some 21) (v := ?_) (a' := ?_) #[true, true, true, false, true, false, false, false, false, false, false] rfl rfl (Za5 HT_.out (by kernel_rfl)) (fun _ _ _ h => h) (Or.inl ⟨by rfl, ?_⟩) ?_ ?_
    rotate_left
    ·intro w'
     go_simp
     with_reducible rfl
    rotate_left
    ·simp only [Act.put, List.setIfInBounds_toArray, List.set_cons_zero, List.set_cons_succ, Za4, Za7]
     rfl
    refine Zbn (i := 5) (N := some 22) (v := ?_) (a' := ?_) #[true, true, true, false, true, true, false, false, false, false, false] rfl rfl (Za5 HT_.out (by kernel_rfl)) (fun _ _ _ h => h) (Or.inl ⟨by rfl, ?_⟩) ?_ ?_
    rotate_left
    ·intro w'
     go_simp
     with_reducible rfl
    rotate_left
    ·simp only [Act.put, List.setIfInBounds_toArray, List.set_cons_zero, List.set_cons_succ, Za4, Za7]
     rfl
    refine Zbn (i := 6) (N := some 23) (v := ?_) (a' := ?_) #[true, true, true, false, true, true, true, false, false, false, false] rfl rfl (Za5 HT_.out (by kernel_rfl)) (fun _ _ _ h => h) (Or.inl ⟨by rfl, ?_⟩) ?_ ?_
    rotate_left
    ·intro w'
     go_simp
     with_reducible rfl
    rotate_left
    ·simp only [Act.put, List.setIfInBounds_toArray, List.set_cons_zero, List.set_cons_succ, Za4, Za7]
     rfl
    refine Zc3 (i := 3) (N := some 20) (v := ?_) (a' := ?_) #[true, true, true, true, true, true, true, false, false, false, false] rfl rfl (Zb1 HT_.out HW_.out (by kernel_rfl)) (fun _ _ _ h => h) (Or.inl ⟨by rfl, ?_⟩) hHeld ?_ ?_
    rotate_left
    ·rintro w' ⟨s0, s1⟩
     go_simp
     with_reducible rfl
    rotate_left
    ·simp only [Act.put, List.setIfInBounds_toArray, List.set_cons_zero, List.set_cons_succ, Za4, Za7]
     rfl
    refine Zc3 (i := 7) (N := some 24) (v := ?_) (a' := ?_) #[true, true, true, true, true, true, true, true, false, false, false] rfl rfl (Zb1 HT_.out HW_.out (by kernel_rfl)) (fun _ _ _ h => h) (Or.inl ⟨by rfl, ?_⟩) hHeld ?_ ?_
    rotate_left
    ·rintro w' ⟨s0, s1⟩
     go_simp
     with_reducible rfl
    rotate_left
    ·simp only [Act.put, List.setIfInBounds_toArray, List.set_cons_zero, List.set_cons_succ, Za4, Za7]
     rfl
    refine one_ (i := 8) (N := some 25) #[true, true, true, true, true, true, true, true, true, false, false] rfl rfl (Zc4 HT_.out (by kernel_rfl)) (by decide) (fun K hK => ?_)
    refine goes_ Try.func37 (by kernel_rfl) rfl #[.slice A566_0 (Zcb l0 x5_1).length c566_0, .slice A567_0 (Zcb l1 x5_1).length c567_0, .bool false] (by rfl) rfl rfl (by (try simp only [List.map_toArray, List.map_cons, List.map_nil]); first | done | rfl | (simp only [List.length_drop, List.length_take]; rfl)) ?_
    with_reducible refine (Zba.calls k1 _ _ (Zcb l0 x5_1) _ _ (Zcb l1 x5_1) false t568 _ ?side1 ?side2 ?side3 ?side4 A7.out).mono ?_
    (case side1 => repeat (first | exact (Kd.Zaw HR566_0.out HB.out) | (with_reducible refine Kd.C_alloc ?_ _) | (with_reducible refine Kd.Za0 ?_ _) | (with_reducible refine Kd.C_drew ?_)))
    (case side2 => exact HC566_0.out)
    (case side3 => repeat (first | exact (Kd.Zaw HR567_0.out HB.out) | (with_reducible refine Kd.C_alloc ?_ _) | (with_reducible refine Kd.Za0 ?_ _) | (with_reducible refine Kd.C_drew ?_)))
    (case side4 => exact HC567_0.out)
    rintro e w10 ⟨v569, rfl, ho0, hb⟩
    refine ⟨_, rfl, ?_⟩
    have n0_ := Za.mk (Kd.Zbz ho0 (Zam (by repeat (first | (with_reducible first | exact HB.out | apply Zac | apply Zaa | apply Zab) | exact HB.out))))
    have n1_ := Za.mk (Zan (by repeat (first | (with_reducible first | exact HB.out | apply Zac | apply Zaa | apply Zab) | exact HB.out)) hb)
    clear HB
    have HO570 := n0_
    have HB := n1_
    clear n0_ n1_
    (try clear hb)
    (try clear hb2)
    (try clear hk)
    (try clear hi)
    (try clear ho0)
    obtain ⟨Ao11, co11, eo11⟩ := Kd.Zbw HO570.out
    (first | subst eo11 | (injection eo11 with f1_ f2_ f3_; have f4_ := f1_.symm; have f5_ := f3_.symm; clear f1_ f2_ f3_; subst f4_; subst f5_))
    refine hK.out _ _ ⟨((HB.out.cell (World.block_lt_of_cell? w _ hw566_0)).trans hw566_0), ((HB.out.cell (World.block_lt_of_cell? w _ hw567_0)).trans hw567_0)⟩ (fun hHeld => ?_)
    clear hK K
    refine Zea (a' := ?_) ?_ ?_
    rotate_left
    ·show Act.put _ (some 25) _ = _
     simp only [Act.put, List.setIfInBounds_toArray, List.set_cons_zero, List.set_cons_succ, Za4, Za7]
     rfl
    refine Zbn (i := 9) (N := some 26) (v := ?_) (a' := ?_) #[true, true, true, true, true, true, true, true, true, true, false] rfl rfl (Za5 HT_.out (by kernel_rfl)) (fun _ _ _ h => h) (Or.inl ⟨by rfl, ?_⟩) ?_ ?_
    rotate_left
    ·intro w'
     go_simp
     with_reducible rfl
    rotate_left
    ·simp only [Act.put, List.setIfInBounds_toArray, List.set_cons_zero, List.set_cons_succ, Za4, Za7]
     rfl
    refine Zbn (i := 10) (N := some 27) (v := ?_) (a' := ?_) #[true, true, true, true, true, true, true, true, true, true, true] rfl rfl (Za5 HT_.out (by kernel_rfl)) (fun _ _ _ h => h) (Or.inl ⟨by rfl, ?_⟩) ?_ ?_
    rotate_left
    ·intro w'
     go_simp
     with_reducible rfl
    rotate_left
    ·simp only [Act.put, List.setIfInBounds_toArray, List.set_cons_zero, List.set_cons_succ, Za4, Za7]
     rfl
    refine Zew (Zc7 HT_.out (by kernel_rfl)) ?_
    try go_wp2
    go_ret
    exact ⟨by first | rfl | (simp [Zaq, Zar] <;> rfl) | (simp [*, Zaq, Zar] <;> rfl), by repeat (first | (with_reducible first | exact HB.out | apply Zac | apply Zaa | apply Zab) | exact HB.out)⟩
   rw [if_neg c8] at H
   have c8b0 : decide (0 < (t568.length : Int)) = false := decide_eq_false c8
   have c8b1 : decide (0 < t568.length) = false := decide_eq_false (by omega)
   clear c8
   have H' := Za.mk H
   clear H
   try go_wp2
   have n0_ := Za.mk (Zab HB.out)
   clear HB
   have HB := n0_
   clear n0_
   have p566 : 0 ≤ (x5_1 : Int) := of_decide_eq_true (by first | (with_reducible assumption) | assumption)
   have q566 : x5_1 < (l0.length : Int) := of_decide_eq_true (by first | (with_reducible assumption) | assumption)
   obtain ⟨ad566, A566_0, c566_0, e566, hx566_0, hl566_0, hi566_0⟩ := Zfn HR0.out x5_1 p566 q566
   have hw566_0 := hx566_0
   cases e566
   replace hx566_0 := (HB.out.cell (World.block_lt_of_cell? w _ hx566_0)).trans hx566_0
   have HR566_0 := Za.mk hi566_0
   have HC566_0 := Za.mk hl566_0
   clear hi566_0 hl566_0
   replace p566 := eq_true p566
   replace q566 := eq_true q566
   have p567 : 0 ≤ (x5_1 : Int) := of_decide_eq_true (by first | (with_reducible assumption) | assumption)
   have q567 : x5_1 < (l1.length : Int) := of_decide_eq_true (by first | (with_reducible assumption) | assumption)
   obtain ⟨ad567, A567_0, c567_0, e567, hx567_0, hl567_0, hi567_0⟩ := Zfn HR1.out x5_1 p567 q567
   have hw567_0 := hx567_0
   cases e567
   replace hx567_0 := (HB.out.cell (World.block_lt_of_cell? w _ hx567_0)).trans hx567_0
   have HR567_0 := Za.mk hi567_0
   have HC567_0 := Za.mk hl567_0
   clear hi567_0 hl567_0
   replace p567 := eq_true p567
   replace q567 := eq_true q567
   refine Zdl (n := 11) (S := fun w' => w'.cell? (ad566.add (x5_1).toNat) = some (.slice A566_0 (Zcb l0 x5_1).length c566_0) ∧ w'.cell? (ad567.add (x5_1).toNat) = some (.slice A567_0 (Zcb l1 x5_1).length c567_0)) (ds := []) #[false, false, false, false, false, false, false, false, false, false, false] (by kernel_rfl) rfl rfl ⟨((HB.out.cell (World.block_lt_of_cell? w _ hw566_0)).trans hw566_0), ((HB.out.cell (World.block_lt_of_cell? w _ hw567_0)).trans hw567_0)⟩ (fun hHeld => ?_); refine Zcl Zao.tab6 Zao.bits6 (fun HT_ HW_ => ?_)
   generalize wr.drew = w12 at HB HR566_0 HR567_0 hx566_0 hx567_0 hHeld ⊢
   refine Zbn (i := 0) (N := some 17) (v := ?_) (a' := ?_) #[true, false, false, false, false, false, false, false, false, false, false] rfl rfl (Za5 HT_.out (by kernel_rfl)) (fun _ _ _ h => h) (Or.inl ⟨by rfl, ?_⟩) ?_ ?_
   rotate_left
   ·intro w'
    go_simp
    with_reducible rfl
   rotate_left
   ·simp only [Act.put, List.setIfInBounds_toArray, List.set_cons_zero, List.set_cons_succ, Za4, Za7]
    rfl
   refine Zbn (i := 1) (N := some 18) (v := ?_) (a' := ?_) #[true, true, false, false, false, false, false, false, false, false, false] rfl rfl (Za5 HT_.out (by kernel_rfl)) (fun _ _ _ h => h) (Or.inl ⟨by rfl, ?_⟩) ?_ ?_
   rotate_left
   ·intro w'
    go_simp
    with_reducible rfl
   rotate_left
   ·simp only [Act.put, List.setIfInBounds_toArray, List.set_cons_zero, List.set_cons_succ, Za4, Za7]
    rfl
   refine Zbn (i := 2) (N := some 19) (v := ?_) (a' := ?_) #[true, true, true, false, false, false, false, false, false, false, false] rfl rfl (Za5 HT_.out (by kernel_rfl)) (fun _ _ _ h => h) (Or.inl ⟨by rfl, ?_⟩) ?_ ?_
   rotate_left
   ·intro w'
    go_simp
    with_reducible rfl
   rotate_left
   ·simp only [Act.put, List.setIfInBounds_toArray, List.set_cons_zero, List.set_cons_succ, Za4, Za7]
    rfl
   refine Zbn (i := 4) (N := some 21) (v := ?_) (a' := ?_) #[true, true, true, false, true, false, false, false, false, false, false] rfl rfl (Za5 HT_.out (by kernel_rfl)) (fun _ _ _ h => h) (Or.inl ⟨by rfl, ?_⟩) ?_ ?_
   rotate_left
   ·intro w'
    go_simp
    with_reducible rfl
   rotate_left
   ·simp only [Act.put, List.setIfInBounds_toArray, List.set_cons_zero, List.set_cons_succ, Za4, Za7]
    rfl
   refine Zbn (i := 5) (N := some 22) (v := ?_) (a' := ?_) #[true, true, true, false, true, true, false, false, false, false, false] rfl rfl (Za5 HT_.out (by kernel_rfl)) (fun _ _ _ h => h) (Or.inl ⟨by rfl, ?_⟩) ?_ ?_
   rotate_left
   ·intro w'
    go_simp
    with_reducible rfl
   rotate_left
   ·simp only [Act.put, List.setIfInBounds_toArray, List.set_cons_zero, List.set_cons_succ, Za4, Za7]
    rfl
   refine Zbn (i := 6) (N := some 23) (v := ?_) (a' := ?_) #[true, true, true, false, true, true, true, false, false, false, false] rfl rfl (Za5 HT_.out (by kernel_rfl)) (fun _ _ _ h => h) (Or.inl ⟨by rfl, ?_⟩) ?_ ?_
   rotate_left
   ·intro w'
    go_simp
    with_reducible rfl
   rotate_left
   ·simp only [Act.put, List.setIfInBounds_toArray, List.set_cons_zero, List.set_cons_succ, Za4, Za7]
    rfl
   refine Zc3 (i := 3) (N := some 20) (v := ?_) (a' := ?_) #[true, true, true, true, true, true, true, false, false, false, false] rfl rfl (Zb1 HT_.out HW_.out (by kernel_rfl)) (fun _ _ _ h => h) (Or.inl ⟨by rfl, ?_⟩) hHeld ?_ ?_
   rotate_left
   ·rintro w' ⟨s0, s1⟩
    go_simp
    with_reducible rfl
   rotate_left
   ·simp only [Act.put, List.setIfInBounds_toArray, List.set_cons_zero, List.set_cons_succ, Za4, Za7]
    rfl
   refine Zc3 (i := 7) (N := some 24) (v := ?_) (a' := ?_) #[true, true, true, true, true, true, true, true, false, false, false] rfl rfl (Zb1 HT_.out HW_.out (by kernel_rfl)) (fun _ _ _ h => h) (Or.inl ⟨by rfl, ?_⟩) hHeld ?_ ?_
   rotate_left
   ·rintro w' ⟨s0, s1⟩
    go_simp
    with_reducible rfl
   rotate_left
   ·simp only [Act.put, List.setIfInBounds_toArray, List.set_cons_zero, List.set_cons_succ, Za4, Za7]
    rfl
   refine one_ (i := 8) (N := some 25) #[true, true, true, true, true, true, true, true, true, false, false] rfl rfl (Zc4 HT_.out (by kernel_rfl)) (by decide) (fun K hK => ?_)
   refine goes_ Try.func37 (by kernel_rfl) rfl #[.slice A566_0 (Zcb l0 x5_1).length c566_0, .slice A567_0 (Zcb l1 x5_1).length c567_0, .bool false] (by rfl) rfl rfl (by (try simp only [List.map_toArray, List.map_cons, List.map_nil]); first | done | rfl | (simp only [List.length_drop, List.length_take]; rfl)) ?_
   with_reducible refine (Zba.calls k1 _ _ (Zcb l0 x5_1) _ _ (Zcb l1 x5_1) false t568 _ ?side1 ?side2 ?side3 ?side4 A7.out).mono ?_
   (case side1 => repeat (first | exact (Kd.Zaw HR566_0.out HB.out) | (with_reducible refine Kd.C_alloc ?_ _) | (with_reducible refine Kd.Za0 ?_ _) | (with_reducible refine Kd.C_drew ?_)))
   (case side2 => exact HC566_0.out)
   (case side3 => repeat (first | exact (Kd.Zaw HR567_0.out HB.out) | (with_reducible refine Kd.C_alloc ?_ _) | (with_reducible refine Kd.Za0 ?_ _) | (with_reducible refine Kd.C_drew ?_)))
   (case side4 => exact HC567_0.out)
   rintro e w13 ⟨v569, rfl, ho0, hb⟩
   refine ⟨_, rfl, ?_⟩
   have n0_ := Za.mk (Kd.Zbz ho0 (Zam (by repeat (first | (with_reducible first | exact HB.out | apply Zac | apply Zaa | apply Zab) | exact HB.out))))
   have n1_ := Za.mk (Zan (by repeat (first | (with_reducible first | exact HB.out | apply Zac | apply Zaa | apply Zab) | exact HB.out)) hb)
   clear HB
   have HO570 := n0_
   have HB := n1_
   clear n0_ n1_
   (try clear hb)
   (try clear hb2)
   (try clear hk)
   (try clear hi)
   (try clear ho0)
   obtain ⟨Ao14, co14, eo14⟩ := Kd.Zbw HO570.out
   (first | subst eo14 | (injection eo14 with f1_ f2_ f3_; have f4_ := f1_.symm; have f5_ := f3_.symm; clear f1_ f2_ f3_; subst f4_; subst f5_))
   refine hK.out _ _ ⟨((HB.out.cell (World.block_lt_of_cell? w _ hw566_0)).trans hw566_0), ((HB.out.cell (World.block_lt_of_cell? w _ hw567_0)).trans hw567_0)⟩ (fun hHeld => ?_)
   clear hK K
   refine Zea (a' := ?_) ?_ ?_
   rotate_left
   ·show Act.put _ (some 25) _ = _
    simp only [Act.put, List.setIfInBounds_toArray, List.set_cons_zero, List.set_cons_succ, Za4, Za7]
    rfl
   refine Zbn (i := 9) (N := some 26) (v := ?_) (a' := ?_) #[true, true, true, true, true, true, true, true, true, true, false] rfl rfl (Za5 HT_.out (by kernel_rfl)) (fun _ _ _ h => h) (Or.inl ⟨by rfl, ?_⟩) ?_ ?_
   rotate_left
   ·intro w'
    go_simp
    with_reducible rfl
   rotate_left
   ·simp only [Act.put, List.setIfInBounds_toArray, List.set_cons_zero, List.set_cons_succ, Za4, Za7]
    rfl
   refine Zbn (i := 10) (N := some 27) (v := ?_) (a' := ?_) #[true, true, true, true, true, true, true, true, true, true, true] rfl rfl (Za5 HT_.out (by kernel_rfl)) (fun _ _ _ h => h) (Or.inl ⟨by rfl, ?_⟩) ?_ ?_
   rotate_left
   ·intro w'
    go_simp
    with_reducible rfl
   rotate_left
   ·simp only [Act.put, List.setIfInBounds_toArray, List.set_cons_zero, List.set_cons_succ, Za4, Za7]
    rfl
   refine Zew (Zc7 HT_.out (by kernel_rfl)) ?_
   try go_wp2
   go_roundg k1
   case measure => have := HK1.out; omega
   case rel => exact ⟨(wrap64 (x5_1 + 1)), (by first | rfl | (simp; done) | (simp [*]; done)), H', ⟨by have := HK1.out; omega⟩, ⟨by repeat (first | (with_reducible first | exact HB.out | apply Zac | apply Zaa | apply Zab) | exact HB.out)⟩⟩
end Go.Proofs.Ytpbcigilipdedaa.P
/- The document's Within on good domains. -/
namespace Go.Proofs.Ytpbcigilipdedaa.P
open Go.RowKit Go.Proofs.YtpbcigilipdedaaW.PrintWords Go.Proofs.YtpbcigilipdedaaW.PrintLast Go.Proofs.YtpbcigilipdedaaW.PrintMore
set_option linter.unusedVariables false
set_option linter.unusedSimpArgs false
theorem within_l0 {a b : List (List Rg)} (hl : a.length = b.length) (h64 : a.length ≤ 64) (ha : ∀ x ∈ a, Gd 1048576 (-1048576) x) (hb : ∀ x ∈ b, Gd 1048576 (-1048576) x) (hin : ∀ (i : Nat) (h : i < a.length) (h' : i < b.length) v, Va a[i] v → Va b[i] v) :
    ∀ (m n : Nat), n + m = a.length → Ev (fun k => Zao.l0 k a b (n : Int)) true := by
  intro m
  induction m with
  | zero =>
    intro n h
    exact Ev.step (fun k => by rw [Zao.l0, if_neg (by omega)]) (Ev.pure _)
  | succ m ih =>
    intro n h
    have hn : n < a.length := by omega
    have hn' : n < b.length := by omega
    obtain ⟨r, hr, hg, hv⟩ := ref_Pick_ev false a[n] b[n] (ha _ (List.getElem_mem hn)) (hb _ (List.getElem_mem hn'))
    have e1 : Zcb a (n : Int) = a[n] := by unfold Zcb; rw [Int.toNat_natCast, List.getD_eq_getElem?_getD, List.getElem?_eq_getElem hn]; rfl
    have e2 : Zcb b (n : Int) = b[n] := by unfold Zcb; rw [Int.toNat_natCast, List.getD_eq_getElem?_getD, List.getElem?_eq_getElem hn']; rfl
    have hr0 : r = [] := by
      cases r with
      | nil => rfl
      | cons x l =>
        obtain ⟨h1, h2⟩ := (hv x.f0).1 ⟨x, List.mem_cons_self, Int.le_refl _, hg.2.1⟩
        have := hin n hn hn' _ h1
        simp [this] at h2
    subst hr0
    refine Ev.step (fun k => by rw [Zao.l0, if_pos (by omega), if_pos (by omega), if_pos (by omega), e1, e2]) (Ev.bind hr ?_)
    refine Ev.Zd (by show ¬ ((([] : List Rg).length : Int) > 0); simp) ?_
    rw [show (fun k => Zao.l0 k a b (wrap64 ((n : Int) + 1))) = (fun k => Zao.l0 k a b (((n + 1 : Nat)) : Int)) from by rw [w1 (show n < 4611686018427387904 by omega)]]
    exact ih (n + 1) (by omega)
theorem within_ev {a b : List (List Rg)} (hl : a.length = b.length) (h64 : a.length ≤ 64) (ha : ∀ x ∈ a, Gd 1048576 (-1048576) x) (hb : ∀ x ∈ b, Gd 1048576 (-1048576) x) (hin : ∀ (i : Nat) (h : i < a.length) (h' : i < b.length) v, Va a[i] v → Va b[i] v) :
    Ev (fun k => Zao.f k a b) true := by
  unfold Zao.f
  exact Ev.Zcf (by omega) (within_l0 hl h64 ha hb hin a.length 0 (by omega))
end Go.Proofs.Ytpbcigilipdedaa.P
/- Seven cells of one box written: what stays, what the box holds then. -/
namespace Go.Proofs.Ytpbcigilipdedaa.P
open Go.RowKit Go.Proofs.YtpbcigilipdedaaW.PrintWords Go.Proofs.YtpbcigilipdedaaW.PrintLast Go.Proofs.YtpbcigilipdedaaW.PrintMore
theorem bset7 {w W : World} {g : Nat} {u0 u1 u2 u3 u4 u5 u6 : Value} (h : Below W.heap.size W w) (hg : W.heap.size ≤ g) : Below W.heap.size W (((((((w.setCell ⟨g, 0, none⟩ u0).setCell ⟨g, 1, none⟩ u1).setCell ⟨g, 2, none⟩ u2).setCell ⟨g, 3, none⟩ u3).setCell ⟨g, 4, none⟩ u4).setCell ⟨g, 5, none⟩ u5).setCell ⟨g, 6, none⟩ u6) :=
  Zag (Zag (Zag (Zag (Zag (Zag (Zag h hg) hg) hg) hg) hg) hg) hg
theorem bfar7 {w : World} {g g' t : Nat} {cs : Array Value} {u0 u1 u2 u3 u4 u5 u6 : Value} (h : w.heap[g']? = some (.cells cs t (0, 0))) (hne : g' ≠ g) : (((((((w.setCell ⟨g, 0, none⟩ u0).setCell ⟨g, 1, none⟩ u1).setCell ⟨g, 2, none⟩ u2).setCell ⟨g, 3, none⟩ u3).setCell ⟨g, 4, none⟩ u4).setCell ⟨g, 5, none⟩ u5).setCell ⟨g, 6, none⟩ u6).heap[g']? = some (.cells cs t (0, 0)) :=
  Zbs (Zbs (Zbs (Zbs (Zbs (Zbs (Zbs h hne _) hne _) hne _) hne _) hne _) hne _) hne _
theorem bput7 {w : World} {g t : Nat} {z0 z1 z2 z3 z4 z5 z6 u0 u1 u2 u3 u4 u5 u6 : Value} (h : w.heap[g]? = some (.cells #[z0, z1, z2, z3, z4, z5, z6] t (0, 0))) : (((((((w.setCell ⟨g, 0, none⟩ u0).setCell ⟨g, 1, none⟩ u1).setCell ⟨g, 2, none⟩ u2).setCell ⟨g, 3, none⟩ u3).setCell ⟨g, 4, none⟩ u4).setCell ⟨g, 5, none⟩ u5).setCell ⟨g, 6, none⟩ u6).heap[g]? = some (.cells #[u0, u1, u2, u3, u4, u5, u6] t (0, 0)) := (Zbr (cs' := #[u0, u1, u2, u3, u4, u5, u6]) (Zbr (cs' := #[u0, u1, u2, u3, u4, u5, z6]) (Zbr (cs' := #[u0, u1, u2, u3, u4, z5, z6]) (Zbr (cs' := #[u0, u1, u2, u3, z4, z5, z6]) (Zbr (cs' := #[u0, u1, u2, z3, z4, z5, z6]) (Zbr (cs' := #[u0, u1, z2, z3, z4, z5, z6]) (Zbr (cs' := #[u0, z1, z2, z3, z4, z5, z6]) h 0 u0 rfl) 1 u1 rfl) 2 u2 rfl) 3 u3 rfl) 4 u4 rfl) 5 u5 rfl) 6 u6 rfl)
theorem size7 {w : World} {g : Nat} {u0 u1 u2 u3 u4 u5 u6 : Value} : (((((((w.setCell ⟨g, 0, none⟩ u0).setCell ⟨g, 1, none⟩ u1).setCell ⟨g, 2, none⟩ u2).setCell ⟨g, 3, none⟩ u3).setCell ⟨g, 4, none⟩ u4).setCell ⟨g, 5, none⟩ u5).setCell ⟨g, 6, none⟩ u6).heap.size = w.heap.size := by simp [World.setCell]
end Go.Proofs.Ytpbcigilipdedaa.P
/- TableOrders' loop: what holds of the table that is written (a box of seven cells, cell 5 a row that grows), told at one world. -/
namespace Go.Proofs.Ytpbcigilipdedaa.P
open Go.RowKit Go.Proofs.YtpbcigilipdedaaW.PrintWords Go.Proofs.YtpbcigilipdedaaW.PrintLast Go.Proofs.YtpbcigilipdedaaW.PrintMore
structure BackAt (w wz : World) (n g : Nat) (c0 c1 c2 c3 c4 c6 : Value) (w' : World) (u0 u : Value) (x : List (List Int)) : Prop where
  kp : Kept wz w' (fun b => b = g)
  hn : Kd.N (Kd.slice 3 (Kd.int .i64)) 23 w' w.heap.size (fun k => k < n ∨ wz.heap.size ≤ k) u x
  ub : ∀ k, u.ownBlock = some k → wz.heap.size ≤ k
  bk : w'.heap[g]? = some (.cells #[c0, c1, c2, c3, c4, u0, c6] 25 (0, 0))
  hb : Below w.heap.size w w'
section
variable {w wz : World} {n g : Nat} {c0 c1 c2 c3 c4 c6 u u0 v : Value} {x x' : List (List Int)} {W w1 : World}
theorem BackAt.drew (h : BackAt w wz n g c0 c1 c2 c3 c4 c6 W u0 u x) : BackAt w wz n g c0 c1 c2 c3 c4 c6 W.drew u0 u x := ⟨h.kp, Kd.Zgn h.hn, h.ub, h.bk, Zab h.hb⟩
theorem BackAt.drewN (h : BackAt w wz n g c0 c1 c2 c3 c4 c6 W u0 u x) (m : Nat) : BackAt w wz n g c0 c1 c2 c3 c4 c6 (W.drewN m) u0 u x := ⟨h.kp, Kd.N_drewN h.hn m, h.ub, h.bk, Zaa h.hb m⟩
theorem BackAt.grow (h : BackAt w wz n g c0 c1 c2 c3 c4 c6 W u0 u x) (hg2 : g < wz.heap.size) (ho : Kd.N (Kd.slice 3 (Kd.int .i64)) 23 w1 w.heap.size (fun k => k < n ∨ wz.heap.size ≤ k) v x') (hb : Below w.heap.size w w1) (hg : W.grownBy w1 u.ownBlock)
    (hat : v.ownBlock = u.ownBlock ∨ ∃ b, v.ownBlock = some b ∧ W.heap.size ≤ b) : BackAt w wz n g c0 c1 c2 c3 c4 c6 w1 u0 v x' := by
  refine ⟨Kept.of_grown hg h.kp (fun k hk => .inr (h.ub k hk)), ho, fun k hk => ?_, Zcp h.bk hg (fun he => absurd (h.ub g he.symm) (Nat.not_le.2 hg2)), hb⟩
  rcases hat with hat | ⟨b, hv, hle⟩
  · exact h.ub k (hat.symm.trans hk)
  have : b = k := Option.some.inj (hv.symm.trans hk)
  exact this ▸ Nat.le_trans h.kp.1 hle
theorem BackAt.put (h : BackAt w wz n g c0 c1 c2 c3 c4 c6 W u0 u x) (hg1 : n ≤ g) (hg2 : g < wz.heap.size) (hw : w.heap.size ≤ g) : BackAt w wz n g c0 c1 c2 c3 c4 c6 (W.setCell ⟨g, 5, none⟩ u) u u x :=
  ⟨h.kp.setCell (.inl rfl) _, Kd.Zdj (p := ⟨g, 5, none⟩) h.hn (fun k hk he => by subst he; rcases hk with hk | hk <;> exact absurd hk (by omega)) u, h.ub, Zbr h.bk 5 u rfl, h.hb.setCell hw _⟩
theorem BackAt.start (HB : Below w.heap.size w wz) (hb : Below wz.heap.size wz W) (ho : Kd.N (Kd.slice 3 (Kd.int .i64)) 23 W wz.heap.size (fun k => k < n ∨ wz.heap.size ≤ k) u x) (hbk : wz.heap[g]? = some (.cells #[c0, c1, c2, c3, c4, u0, c6] 25 (0, 0))) : BackAt w wz n g c0 c1 c2 c3 c4 c6 W u0 u x :=
  ⟨Kept.of_below hb _, Kd.Ze7 ho HB.size, Kd.N_base ho, Za6 hbk hb, Zan HB hb⟩
end
end Go.Proofs.Ytpbcigilipdedaa.P
namespace Go.Proofs.Ytpbcigilipdedaa.P
open Go.RowKit Go.Proofs.YtpbcigilipdedaaW.PrintWords Go.Proofs.YtpbcigilipdedaaW.PrintLast Go.Proofs.YtpbcigilipdedaaW.PrintMore
attribute [local go_sem] Zcg Zci Zcr Zcs Zb7 Zb8 Zch Zcj
set_option linter.unusedVariables false
set_option linter.unusedSimpArgs false
mutual
def Zad.l0 : Nat → List (List (S41)) → Int → Int → List Int → List Int → Int → Int → List (List Int) → Int → Int → List Int → List Int → Int → Int → List (List Int) → Int → Int → List Int → List Int → Int → Int → List (List Int) → Int → Option (Bool)
 | 0, _, _, _, _, _, _, _, _, _, _, _, _, _, _, _, _, _, _, _, _, _, _, _ => none
 | k + 1, x3, x8, x590000, x590001, x590002, x590003, x590004, x590005, x590006, x618000, x618001, x618002, x618003, x618004, x618005, x618006, x619000, x619001, x619002, x619003, x619004, x619005, x619006 => if x8 ≥ 0 then (if 0 ≤ x8 then (if x8 < (x590005.length : Int) then (if x618005.length < 5864062014805 then ((some (x618005 ++ [Zbt x590005 x8] : List (List Int))).bind fun y623 => (if y623.length < 5864062014805 then (Zad.l0 k x3 (wrap64 (x8 - 1)) x590000 x590001 x590002 x590003 x590004 x590005 x590006 x618000 x618001 x618002 x618003 x618004 (y623 ++ [Zbt x590005 x8]) x618006 x619000 x619001 x619002 x619003 x619004 x619005 x619006) else (none))) else (none)) else (none)) else (none)) else (if (x619005.length : Int) > 0 then (if 1 ≤ (x619005.length : Int) then (Zad.j1 k x3 x590000 x590001 x590002 x590003 x590004 x590005 x590006 x618000 x618001 x618002 x618003 x618004 x618005 x618006 x619000 x619001 x619002 x619003 x619004 (x619005.drop 1) x619006) else (none)) else (Zad.j1 k x3 x590000 x590001 x590002 x590003 x590004 x590005 x590006 x618000 x618001 x618002 x618003 x618004 x618005 x618006 x619000 x619001 x619002 x619003 x619004 x619005 x619006))
def Zad.j1 : Nat → List (List (S41)) → Int → List Int → List Int → Int → Int → List (List Int) → Int → Int → List Int → List Int → Int → Int → List (List Int) → Int → Int → List Int → List Int → Int → Int → List (List Int) → Int → Option (Bool)
 | 0, _, _, _, _, _, _, _, _, _, _, _, _, _, _, _, _, _, _, _, _, _, _ => none
 | k + 1, x3, x590000, x590001, x590002, x590003, x590004, x590005, x590006, x618000, x618001, x618002, x618003, x618004, x618005, x618006, x619000, x619001, x619002, x619003, x619004, x619005, x619006 => (Zau.f k x3 x590000 x590001 x590002 x590003 x590004 x590005 x590006).bind fun bt635 => ((Zau.f k x3 x618000 x618001 x618002 x618003 x618004 x618005 x618006).bind fun bt639 => ((Zau.f k x3 x619000 x619001 x619002 x619003 x619004 x619005 x619006).bind fun bt643 => (if (bt635.2 == bt639.2) = true then ((Za8.f k bt635.1 bt639.1).bind fun t647 => (if t647 = true then (if bt643.2 = true then (if bt635.2 = true then ((Zao.f k bt643.1 bt635.1).bind fun t648 => (if t648 = true then ((Zaz.f k).bind fun t649 => (some t649)) else (none))) else (none)) else ((Zaz.f k).bind fun t650 => (some t650))) else (none))) else (none))))
end
def Zad.f (k : Nat) (l0_0 : List (List Int)) (a0_1 : Int) (l0_2 : List Int) (l0_3 : List Int) (a0_4 : Int) (a0_5 : Int) (l0_6 : List (List Int)) (a0_7 : Int) (l0_8 : List Int) (l0_9 : List Int) : Option (Bool) := (Zap.f k l0_0 a0_1 l0_2 l0_3 a0_4 a0_5 l0_6 a0_7 l0_8 l0_9 2).bind fun bt572 => (if bt572.2.2.2.2.2.2.2.2 = true then ((Zbd.f k bt572.2.1 bt572.2.2.1 bt572.2.2.2.1 bt572.2.2.2.2.1 bt572.2.2.2.2.2.1 bt572.2.2.2.2.2.2.1 bt572.2.2.2.2.2.2.2.1).bind fun bt591 => ((Zbd.f k bt572.2.1 bt572.2.2.1 bt572.2.2.2.1 bt572.2.2.2.2.1 bt572.2.2.2.2.2.1 bt572.2.2.2.2.2.2.1 bt572.2.2.2.2.2.2.2.1).bind fun bt604 => (Zad.l0 k bt572.1 (wrap64 ((bt572.2.2.2.2.2.2.1.length : Int) - 1)) bt572.2.1 bt572.2.2.1 bt572.2.2.2.1 bt572.2.2.2.2.1 bt572.2.2.2.2.2.1 bt572.2.2.2.2.2.2.1 bt572.2.2.2.2.2.2.2.1 bt591.1 bt591.2.1 bt591.2.2.1 bt591.2.2.2.1 bt591.2.2.2.2.1 (([] : List (List Int))) bt591.2.2.2.2.2.2 bt604.1 bt604.2.1 bt604.2.2.1 bt604.2.2.2.1 bt604.2.2.2.2.1 bt604.2.2.2.2.2.1 bt604.2.2.2.2.2.2))) else ((Zaz.f k).bind fun t590 => (some t590)))
def Zad.T4 : Bool × List (List Nat × List Nat) := (true, [([], []), ([0], [0]), ([], []), ([2, 1], [2]), ([], []), ([], []), ([4, 1, 3, 0, 1, 4, 5], [1, 4]), ([5, 3, 6, 0, 1, 2, 3, 4, 5, 6], [3, 5])])
def Zad.B4 : List Nat := [0, 1, 0, 7, 0, 0, 63, 127]
theorem Zad.tab4 : rtab .any (opsOf Try.f5 4) = Zad.T4 := by kernel_rfl
theorem Zad.bits4 : waitsOk Zad.T4.2 Zad.B4 = true := by kernel_rfl
def Zad.T9 : Bool × List (List Nat × List Nat) := (true, [([], []), ([0], [0]), ([], []), ([2], [2]), ([], []), ([3, 4], [3, 4]), ([5], [5]), ([6], [6]), ([1, 7], [1, 7]), ([0, 1, 2, 3, 4, 5, 6, 7, 8], []), ([9, 8, 8, 0, 1, 2, 3, 4, 5, 6, 7, 8], [8, 9])])
def Zad.B9 : List Nat := [0, 1, 0, 4, 0, 28, 60, 124, 255, 511, 1023]
theorem Zad.tab9 : rtab .any (opsOf Try.f5 9) = Zad.T9 := by kernel_rfl
theorem Zad.bits9 : waitsOk Zad.T9.2 Zad.B9 = true := by kernel_rfl
def Zad.T10 : Bool × List (List Nat × List Nat) := (true, [([], []), ([0], [0]), ([], []), ([2], [2]), ([], []), ([3, 4], [3, 4]), ([5], [5]), ([6], [6]), ([1, 7], [1, 7]), ([0, 1, 2, 3, 4, 5, 6, 7, 8], []), ([9, 8, 8, 0, 1, 2, 3, 4, 5, 6, 7, 8], [8, 9])])
def Zad.B10 : List Nat := [0, 1, 0, 4, 0, 28, 60, 124, 255, 511, 1023]
theorem Zad.tab10 : rtab .any (opsOf Try.f5 10) = Zad.T10 := by kernel_rfl
theorem Zad.bits10 : waitsOk Zad.T10.2 Zad.B10 = true := by kernel_rfl
set_option maxHeartbeats 8000000 in
set_option maxRecDepth 100000 in
theorem Zad.calls (k : Nat) (A0_0 : Option Addr) (c0_0 : Nat) (l0_0 : List (List Int)) (a0_1 : Int) (A0_2 : Option Addr) (c0_2 : Nat) (l0_2 : List Int) (A0_3 : Option Addr) (c0_3 : Nat) (l0_3 : List Int) (a0_4 : Int) (a0_5 : Int) (A0_6 : Option Addr) (c0_6 : Nat) (l0_6 : List (List Int)) (a0_7 : Int) (A0_8 : Option Addr) (c0_8 : Nat) (l0_8 : List Int) (A0_9 : Option Addr) (c0_9 : Nat) (l0_9 : List Int) (r : Bool) (w : World) (hr0_0 : Kd.C (Kd.slice 3 (Kd.int .i64)) w A0_0 l0_0.length l0_0) (hc0_0 : l0_0.length ≤ c0_0) (hr0_2 : Kd.C (Kd.int .i64) w A0_2 l0_2.length l0_2) (hc0_2 : l0_2.length ≤ c0_2) (hr0_3 : Kd.C (Kd.int .i64) w A0_3 l0_3.length l0_3) (hc0_3 : l0_3.length ≤ c0_3) (hr0_6 : Kd.C (Kd.slice 3 (Kd.int .i64)) w A0_6 l0_6.length l0_6) (hc0_6 : l0_6.length ≤ c0_6) (hr0_8 : Kd.C (Kd.int .i64) w A0_8 l0_8.length l0_8) (hc0_8 : l0_8.length ≤ c0_8) (hr0_9 : Kd.C (Kd.int .i64) w A0_9 l0_9.length l0_9) (hc0_9 : l0_9.length ≤ c0_9) (h : Zad.f k l0_0 a0_1 l0_2 l0_3 a0_4 a0_5 l0_6 a0_7 l0_8 l0_9 = some r) :
  Calls Try.prog 5 #[.agg #[.slice A0_0 l0_0.length c0_0, .int .i64 a0_1, .slice A0_2 l0_2.length c0_2, .slice A0_3 l0_3.length c0_3, .int .i64 a0_4, .int .i64 a0_5, .slice A0_6 l0_6.length c0_6, .int .i64 a0_7, .slice A0_8 l0_8.length c0_8, .slice A0_9 l0_9.length c0_9]] w fun e w' => e = .returned (.bool r) ∧ Below w.heap.size w w' := by
 have hu27 := Try.underlying27
 have hu25 := Try.underlying25
 have HR0_0 := Za.mk hr0_0
 have HC0_0 := Za.mk hc0_0
 clear hr0_0 hc0_0
 have HR0_2 := Za.mk hr0_2
 have HC0_2 := Za.mk hc0_2
 clear hr0_2 hc0_2
 have HR0_3 := Za.mk hr0_3
 have HC0_3 := Za.mk hc0_3
 clear hr0_3 hc0_3
 have HR0_6 := Za.mk hr0_6
 have HC0_6 := Za.mk hc0_6
 clear hr0_6 hc0_6
 have HR0_8 := Za.mk hr0_8
 have HC0_8 := Za.mk hc0_8
 clear hr0_8 hc0_8
 have HR0_9 := Za.mk hr0_9
 have HC0_9 := Za.mk hc0_9
 clear hr0_9 hc0_9
 have HB := Za.mk (Below.refl w.heap.size w)
 have H : ((Zap.f k l0_0 a0_1 l0_2 l0_3 a0_4 a0_5 l0_6 a0_7 l0_8 l0_9 2).bind fun bt572 => (if bt572.2.2.2.2.2.2.2.2 = true then ((Zbd.f k bt572.2.1 bt572.2.2.1 bt572.2.2.2.1 bt572.2.2.2.2.1 bt572.2.2.2.2.2.1 bt572.2.2.2.2.2.2.1 bt572.2.2.2.2.2.2.2.1).bind fun bt591 => ((Zbd.f k bt572.2.1 bt572.2.2.1 bt572.2.2.2.1 bt572.2.2.2.2.1 bt572.2.2.2.2.2.1 bt572.2.2.2.2.2.2.1 bt572.2.2.2.2.2.2.2.1).bind fun bt604 => (Zad.l0 k bt572.1 (wrap64 ((bt572.2.2.2.2.2.2.1.length : Int) - 1)) bt572.2.1 bt572.2.2.1 bt572.2.2.2.1 bt572.2.2.2.2.1 bt572.2.2.2.2.2.1 bt572.2.2.2.2.2.2.1 bt572.2.2.2.2.2.2.2.1 bt591.1 bt591.2.1 bt591.2.2.1 bt591.2.2.2.1 bt591.2.2.2.2.1 (([] : List (List Int))) bt591.2.2.2.2.2.2 bt604.1 bt604.2.1 bt604.2.2.1 bt604.2.2.2.1 bt604.2.2.2.2.1 bt604.2.2.2.2.2.1 bt604.2.2.2.2.2.2))) else ((Zaz.f k).bind fun t590 => (some t590)))) = some r := h
 clear h
 replace H := Option.bind_eq_some_iff.mp H
 obtain ⟨⟨t572, t575, t576, t579, t582, t583, t584, t587, t588⟩, A20, H⟩ := H
 replace H : (if t588 = true then ((Zbd.f k t575 t576 t579 t582 t583 t584 t587).bind fun bt591 => ((Zbd.f k t575 t576 t579 t582 t583 t584 t587).bind fun bt604 => (Zad.l0 k t572 (wrap64 ((t584.length : Int) - 1)) t575 t576 t579 t582 t583 t584 t587 bt591.1 bt591.2.1 bt591.2.2.1 bt591.2.2.2.1 bt591.2.2.2.2.1 (([] : List (List Int))) bt591.2.2.2.2.2.2 bt604.1 bt604.2.1 bt604.2.2.1 bt604.2.2.2.1 bt604.2.2.2.2.1 bt604.2.2.2.2.2.1 bt604.2.2.2.2.2.2))) else ((Zaz.f k).bind fun t590 => (some t590))) = some r := H
 have A2 := Za.mk A20
 clear A20
 by_cases c3 : t588 = true
 rotate_left
 ·replace c3 := Bool.eq_false_iff.mpr c3
  subst c3
  have H1 : ((Zaz.f k).bind fun t590 => (some t590)) = some r := by rw [if_neg (show ¬ (false = true) by decide)] at H; exact H
  clear H
  have H := H1
  clear H1
  replace H := Option.bind_eq_some_iff.mp H
  obtain ⟨t590, A1270, H⟩ := H
  replace H : (some t590) = some r := H
  have A127 := Za.mk A1270
  clear A1270
  obtain rfl := Option.some.inj H
  go_enter Try.func5, Try.ntmps5
  go_wp2_with (first | ((with_reducible refine Zbv (N := 1) rfl ?_); refine Zb4 ?hg (N := 1) ?hd (cs := #[.slice A0_0 l0_0.length c0_0, .int .i64 a0_1, .slice A0_2 l0_2.length c0_2, .slice A0_3 l0_3.length c0_3, .int .i64 a0_4, .int .i64 a0_5, .slice A0_6 l0_6.length c0_6, .int .i64 a0_7, .slice A0_8 l0_8.length c0_8, .slice A0_9 l0_9.length c0_9]) (t := 27) ?hr ?_; (case hd => rfl); (case hg => rfl); (case hr => first | (go_simp; done) | (go_simp; rfl)); intro gb571 hg w128 hbox hb; have n0_ := Za.mk (Zan (by repeat (first | (with_reducible first | exact HB.out | apply Zac | apply Zaa | apply Zab) | exact HB.out)) hb); have n1_ := Za.mk (hbox); have n3_ := Za.mk ((by rw [hg]; exact (Zam (by repeat (first | (with_reducible first | exact HB.out | apply Zac | apply Zaa | apply Zab) | exact HB.out))) : w.heap.size ≤ gb571)); clear HB; have HB := n0_; have BK571 := n1_; have GE571 := n3_; clear n0_ n1_ n3_; clear hb hbox hg; obtain ⟨hcz129_0, hcz129_1, hcz129_2, hcz129_3, hcz129_4, hcz129_5, hcz129_6, hcz129_7, hcz129_8, hcz129_9, hfz129_0, hfz129_1, hfz129_2, hfz129_3, hfz129_4, hfz129_5, hfz129_6, hfz129_7, hfz129_8, hfz129_9⟩ := blks10 BK571.out) | ((with_reducible refine Za2 (f := 14) rfl ?_); refine Zb0 (some 17) rfl rfl Try.func14 (by kernel_rfl) rfl #[.agg #[.slice A0_0 l0_0.length c0_0, .int .i64 a0_1, .slice A0_2 l0_2.length c0_2, .slice A0_3 l0_3.length c0_3, .int .i64 a0_4, .int .i64 a0_5, .slice A0_6 l0_6.length c0_6, .int .i64 a0_7, .slice A0_8 l0_8.length c0_8, .slice A0_9 l0_9.length c0_9], .int .i64 2] rfl (by (try simp only [List.map_toArray, List.map_cons, List.map_nil]); first | done | rfl | (simp only [List.length_drop, List.length_take]; rfl)) ?_; (refine withB (m := w.heap.size) (w0 := w) (by repeat (first | (with_reducible first | exact HB.out | apply Zac | apply Zaa | apply Zab | refine Zag ?_ GE571.out) | exact HB.out)) ?_); intro hL_; (with_reducible refine (Zap.calls k _ _ l0_0 a0_1 _ _ l0_2 _ _ l0_3 a0_4 a0_5 _ _ l0_6 a0_7 _ _ l0_8 _ _ l0_9 2 t572 t575 t576 t579 t582 t583 t584 t587 false _ ?side1 ?side2 ?side3 ?side4 ?side5 ?side6 ?side7 ?side8 ?side9 ?side10 ?side11 ?side12 A2.out).mono ?_); (case side1 => repeat (first | exact (Kd.Zaw HR0_0.out HB.out) | (with_reducible refine Kd.C_alloc ?_ _) | (with_reducible refine Kd.Za0 ?_ _) | (with_reducible refine Kd.C_drew ?_))); (case side2 => exact HC0_0.out); (case side3 => repeat (first | exact (Kd.Zaw HR0_2.out HB.out) | (with_reducible refine Kd.C_alloc ?_ _) | (with_reducible refine Kd.Za0 ?_ _) | (with_reducible refine Kd.C_drew ?_))); (case side4 => exact HC0_2.out); (case side5 => repeat (first | exact (Kd.Zaw HR0_3.out HB.out) | (with_reducible refine Kd.C_alloc ?_ _) | (with_reducible refine Kd.Za0 ?_ _) | (with_reducible refine Kd.C_drew ?_))); (case side6 => exact HC0_3.out); (case side7 => repeat (first | exact (Kd.Zaw HR0_6.out HB.out) | (with_reducible refine Kd.C_alloc ?_ _) | (with_reducible refine Kd.Za0 ?_ _) | (with_reducible refine Kd.C_drew ?_))); (case side8 => exact HC0_6.out); (case side9 => repeat (first | exact (Kd.Zaw HR0_8.out HB.out) | (with_reducible refine Kd.C_alloc ?_ _) | (with_reducible refine Kd.Za0 ?_ _) | (with_reducible refine Kd.C_drew ?_))); (case side10 => exact HC0_8.out); (case side11 => repeat (first | exact (Kd.Zaw HR0_9.out HB.out) | (with_reducible refine Kd.C_alloc ?_ _) | (with_reducible refine Kd.Za0 ?_ _) | (with_reducible refine Kd.C_drew ?_))); (case side12 => exact HC0_9.out); rintro e w130 ⟨v573, v577, v580, v585, rfl, ho0, ho1, ho2, ho3, hb⟩; refine ⟨_, rfl, ?_⟩; have n1_ := Za.mk (Kd.Zbz ho1 (Zam hL_)); have n2_ := Za.mk (Kd.Zbz ho2 (Zam hL_)); have n3_ := Za.mk (Kd.Ze7 (Kd.Zdm (ok' := fun k_ => some k_ ≠ (v573 : Value).ownBlock ∧ some k_ ≠ (v577 : Value).ownBlock ∧ some k_ ≠ (v580 : Value).ownBlock ∧ k_ ≠ gb571) (Kd.S_N (Kd.Ze8 (Kd.Zet ho3 (Kd.Zc2 ho0) (by decide)))) (fun k_ hk_ => ⟨hk_.1.2, hk_.1.1.1, hk_.1.1.2, (Kd.freshB (g := gb571) (o := .cells #[.slice A0_0 l0_0.length c0_0, .int .i64 a0_1, .slice A0_2 l0_2.length c0_2, .slice A0_3 l0_3.length c0_3, .int .i64 a0_4, .int .i64 a0_5, .slice A0_6 l0_6.length c0_6, .int .i64 a0_7, .slice A0_8 l0_8.length c0_8, .slice A0_9 l0_9.length c0_9] 27 (0, 0)) (mvK BK571.out) k_ hk_.2.1)⟩)) (Zam hL_)); have n4_ := Za.mk (Za6 (g := gb571) (o := .cells #[.slice A0_0 l0_0.length c0_0, .int .i64 a0_1, .slice A0_2 l0_2.length c0_2, .slice A0_3 l0_3.length c0_3, .int .i64 a0_4, .int .i64 a0_5, .slice A0_6 l0_6.length c0_6, .int .i64 a0_7, .slice A0_8 l0_8.length c0_8, .slice A0_9 l0_9.length c0_9] 27 (0, 0)) (mvK BK571.out) hb); have n5_ := Za.mk (Zan hL_ hb); clear BK571; clear HB; have HO578 := n1_; have HO581 := n2_; have HO586 := n3_; have BK571 := n4_; have HB := n5_; clear n1_ n2_ n3_ n4_ n5_; (try clear hb); (try clear hb2); (try clear hk); (try clear hi); (try clear ho0); (try clear ho1); (try clear ho2); (try clear ho3)) | ((with_reducible refine Zbv (N := 4) rfl ?_); refine Zb4 ?hg (N := 4) ?hd (cs := #[.int .i64 0, .slice none 0 0, .slice none 0 0, .int .i64 0, .int .i64 0, .slice none 0 0, .int .i64 0]) (t := 25) ?hr ?_; (case hd => rfl); (case hg => rfl); (case hr => first | (go_simp; done) | (go_simp; rfl)); intro gb589 hg w131 hbox hb; have n1_ := Za.mk (Kd.Zb3 (mvR HO578.out) hb); have n2_ := Za.mk (Kd.Zb3 (mvR HO581.out) hb); have n3_ := Za.mk (Kd.Zc9 (Kd.N_elderB (mvN HO586.out) gb589 (Nat.le_of_eq hg.symm)) hb); have n5_ := Za.mk (Zan (by repeat (first | (with_reducible first | exact HB.out | apply Zac | apply Zaa | apply Zab | refine Zag ?_ GE571.out) | exact HB.out)) hb); have n6_ := Za.mk (hbox); have n8_ := Za.mk ((by rw [hg]; exact (Zam (by repeat (first | (with_reducible first | exact HB.out | apply Zac | apply Zaa | apply Zab | refine Zag ?_ GE571.out) | exact HB.out))) : w.heap.size ≤ gb589)); have n9_ := Za.mk ((by rw [hg]; exact Nat.ne_of_lt (Zcq (g := gb571) (o := .cells #[.slice A0_0 l0_0.length c0_0, .int .i64 a0_1, .slice A0_2 l0_2.length c0_2, .slice A0_3 l0_3.length c0_3, .int .i64 a0_4, .int .i64 a0_5, .slice A0_6 l0_6.length c0_6, .int .i64 a0_7, .slice A0_8 l0_8.length c0_8, .slice A0_9 l0_9.length c0_9] 27 (0, 0)) (mvK BK571.out)) : gb571 ≠ gb589)); have n10_ := Za.mk ((by rw [hg]; exact Nat.ne_of_gt (Zcq (g := gb571) (o := .cells #[.slice A0_0 l0_0.length c0_0, .int .i64 a0_1, .slice A0_2 l0_2.length c0_2, .slice A0_3 l0_3.length c0_3, .int .i64 a0_4, .int .i64 a0_5, .slice A0_6 l0_6.length c0_6, .int .i64 a0_7, .slice A0_8 l0_8.length c0_8, .slice A0_9 l0_9.length c0_9] 27 (0, 0)) (mvK BK571.out)) : gb589 ≠ gb571)); clear HO578; clear HO581; clear HO586; clear BK571; clear HB; have HO578 := n1_; have HO581 := n2_; have HO586 := n3_; have HB := n5_; have BK589 := n6_; have GE589 := n8_; have NB571_589 := n9_; have NB589_571 := n10_; clear n1_ n2_ n3_ n5_ n6_ n8_ n9_ n10_; clear hb hbox hg; have hnb132 := NB589_571.out; have hnc132 := NB571_589.out; obtain ⟨hcz133_0, hcz133_1, hcz133_2, hcz133_3, hcz133_4, hcz133_5, hcz133_6, hfz133_0, hfz133_1, hfz133_2, hfz133_3, hfz133_4, hfz133_5, hfz133_6⟩ := Zce BK589.out; obtain ⟨Ao134, co134, eo134⟩ := Kd.Zbw HO578.out; subst eo134; obtain ⟨Ao135, co135, eo135⟩ := Kd.Zbw HO581.out; subst eo135; obtain ⟨Ao136, co136, eo136⟩ := Kd.Zco HO586.out; subst eo136) | ((with_reducible refine Za2 (f := 15) rfl ?_); refine Zb0 (some 23) rfl rfl Try.func15 (by kernel_rfl) rfl #[] rfl (by (try simp only [List.map_toArray, List.map_cons, List.map_nil]); first | done | rfl | (simp only [List.length_drop, List.length_take]; rfl)) ?_; (with_reducible refine (Zaz.calls k  t590 _ A127.out).mono ?_); rintro e w137 ⟨rfl, hb⟩; refine ⟨_, rfl, ?_⟩; have n6_ := Za.mk (Zan (by repeat (first | (with_reducible first | exact HB.out | apply Zac | apply Zaa | apply Zab | refine Zag ?_ GE571.out | refine Zag ?_ GE589.out) | exact HB.out)) hb); clear HO578; clear HO581; clear HO586; clear BK589; clear HB; have HB := n6_; clear n6_; (try clear hb); (try clear hb2); (try clear hk); (try clear hi)))
  go_ret
  exact ⟨by first | rfl | (simp [Zaq, Zar] <;> rfl) | (simp [*, Zaq, Zar] <;> rfl), by repeat (first | (with_reducible first | exact HB.out | apply Zac | apply Zaa | apply Zab | refine Zag ?_ GE571.out | refine Zag ?_ GE589.out) | exact HB.out)⟩
 subst c3
 have H1 : ((Zbd.f k t575 t576 t579 t582 t583 t584 t587).bind fun bt591 => ((Zbd.f k t575 t576 t579 t582 t583 t584 t587).bind fun bt604 => (Zad.l0 k t572 (wrap64 ((t584.length : Int) - 1)) t575 t576 t579 t582 t583 t584 t587 bt591.1 bt591.2.1 bt591.2.2.1 bt591.2.2.2.1 bt591.2.2.2.2.1 (([] : List (List Int))) bt591.2.2.2.2.2.2 bt604.1 bt604.2.1 bt604.2.2.1 bt604.2.2.2.1 bt604.2.2.2.2.1 bt604.2.2.2.2.2.1 bt604.2.2.2.2.2.2))) = some r := by rw [if_pos rfl] at H; exact H
 clear H
 have H := H1
 clear H1
 replace H := Option.bind_eq_some_iff.mp H
 obtain ⟨⟨t591, t592, t595, t598, t599, t600, t603⟩, A40, H⟩ := H
 replace H : ((Zbd.f k t575 t576 t579 t582 t583 t584 t587).bind fun bt604 => (Zad.l0 k t572 (wrap64 ((t584.length : Int) - 1)) t575 t576 t579 t582 t583 t584 t587 t591 t592 t595 t598 t599 (([] : List (List Int))) t603 bt604.1 bt604.2.1 bt604.2.2.1 bt604.2.2.2.1 bt604.2.2.2.2.1 bt604.2.2.2.2.2.1 bt604.2.2.2.2.2.2)) = some r := H
 have A4 := Za.mk A40
 clear A40
 replace H := Option.bind_eq_some_iff.mp H
 obtain ⟨⟨t604, t605, t608, t611, t612, t613, t616⟩, A50, H⟩ := H
 replace H : (Zad.l0 k t572 (wrap64 ((t584.length : Int) - 1)) t575 t576 t579 t582 t583 t584 t587 t591 t592 t595 t598 t599 (([] : List (List Int))) t603 t604 t605 t608 t611 t612 t613 t616) = some r := H
 have A5 := Za.mk A50
 clear A50
 obtain ⟨y619, hy619⟩ : ∃ y_ : List (List Int), y_ = (([] : List (List Int))) := ⟨_, rfl⟩
 replace H : (Zad.l0 k t572 (wrap64 ((t584.length : Int) - 1)) t575 t576 t579 t582 t583 t584 t587 t591 t592 t595 t598 t599 y619 t603 t604 t605 t608 t611 t612 t613 t616) = some r := by first | (rw [hy619]; with_reducible exact H) | (have H2_ := (Option.bind_some _ _).symm.trans H; rw [hy619]; with_reducible exact H2_) | (have H2_ := (Option.bind_some _ _).symm.trans H; with_reducible exact H2_) | with_reducible exact H | (rw [hy619]; exact H) | exact H
 have Ny619 := Za.mk hy619
 clear hy619
 have H' := Za.mk H
 clear H
 go_enter Try.func5, Try.ntmps5
 try go_wp2_with (first | ((with_reducible refine Zbv (N := 1) rfl ?_); refine Zb4 ?hg (N := 1) ?hd (cs := #[.slice A0_0 l0_0.length c0_0, .int .i64 a0_1, .slice A0_2 l0_2.length c0_2, .slice A0_3 l0_3.length c0_3, .int .i64 a0_4, .int .i64 a0_5, .slice A0_6 l0_6.length c0_6, .int .i64 a0_7, .slice A0_8 l0_8.length c0_8, .slice A0_9 l0_9.length c0_9]) (t := 27) ?hr ?_; (case hd => rfl); (case hg => rfl); (case hr => first | (go_simp; done) | (go_simp; rfl)); intro gb571 hg w6 hbox hb; have n0_ := Za.mk (Zan (by repeat (first | (with_reducible first | exact HB.out | apply Zac | apply Zaa | apply Zab) | exact HB.out)) hb); have n1_ := Za.mk (hbox); have n3_ := Za.mk ((by rw [hg]; exact (Zam (by repeat (first | (with_reducible first | exact HB.out | apply Zac | apply Zaa | apply Zab) | exact HB.out))) : w.heap.size ≤ gb571)); clear HB; have HB := n0_; have BK571 := n1_; have GE571 := n3_; clear n0_ n1_ n3_; clear hb hbox hg; obtain ⟨hcz7_0, hcz7_1, hcz7_2, hcz7_3, hcz7_4, hcz7_5, hcz7_6, hcz7_7, hcz7_8, hcz7_9, hfz7_0, hfz7_1, hfz7_2, hfz7_3, hfz7_4, hfz7_5, hfz7_6, hfz7_7, hfz7_8, hfz7_9⟩ := blks10 BK571.out) | ((with_reducible refine Za2 (f := 14) rfl ?_); refine Zb0 (some 17) rfl rfl Try.func14 (by kernel_rfl) rfl #[.agg #[.slice A0_0 l0_0.length c0_0, .int .i64 a0_1, .slice A0_2 l0_2.length c0_2, .slice A0_3 l0_3.length c0_3, .int .i64 a0_4, .int .i64 a0_5, .slice A0_6 l0_6.length c0_6, .int .i64 a0_7, .slice A0_8 l0_8.length c0_8, .slice A0_9 l0_9.length c0_9], .int .i64 2] rfl (by (try simp only [List.map_toArray, List.map_cons, List.map_nil]); first | done | rfl | (simp only [List.length_drop, List.length_take]; rfl)) ?_; (refine withB (m := w.heap.size) (w0 := w) (by repeat (first | (with_reducible first | exact HB.out | apply Zac | apply Zaa | apply Zab | refine Zag ?_ GE571.out) | exact HB.out)) ?_); intro hL_; (with_reducible refine (Zap.calls k _ _ l0_0 a0_1 _ _ l0_2 _ _ l0_3 a0_4 a0_5 _ _ l0_6 a0_7 _ _ l0_8 _ _ l0_9 2 t572 t575 t576 t579 t582 t583 t584 t587 true _ ?side1 ?side2 ?side3 ?side4 ?side5 ?side6 ?side7 ?side8 ?side9 ?side10 ?side11 ?side12 A2.out).mono ?_); (case side1 => repeat (first | exact (Kd.Zaw HR0_0.out HB.out) | (with_reducible refine Kd.C_alloc ?_ _) | (with_reducible refine Kd.Za0 ?_ _) | (with_reducible refine Kd.C_drew ?_))); (case side2 => exact HC0_0.out); (case side3 => repeat (first | exact (Kd.Zaw HR0_2.out HB.out) | (with_reducible refine Kd.C_alloc ?_ _) | (with_reducible refine Kd.Za0 ?_ _) | (with_reducible refine Kd.C_drew ?_))); (case side4 => exact HC0_2.out); (case side5 => repeat (first | exact (Kd.Zaw HR0_3.out HB.out) | (with_reducible refine Kd.C_alloc ?_ _) | (with_reducible refine Kd.Za0 ?_ _) | (with_reducible refine Kd.C_drew ?_))); (case side6 => exact HC0_3.out); (case side7 => repeat (first | exact (Kd.Zaw HR0_6.out HB.out) | (with_reducible refine Kd.C_alloc ?_ _) | (with_reducible refine Kd.Za0 ?_ _) | (with_reducible refine Kd.C_drew ?_))); (case side8 => exact HC0_6.out); (case side9 => repeat (first | exact (Kd.Zaw HR0_8.out HB.out) | (with_reducible refine Kd.C_alloc ?_ _) | (with_reducible refine Kd.Za0 ?_ _) | (with_reducible refine Kd.C_drew ?_))); (case side10 => exact HC0_8.out); (case side11 => repeat (first | exact (Kd.Zaw HR0_9.out HB.out) | (with_reducible refine Kd.C_alloc ?_ _) | (with_reducible refine Kd.Za0 ?_ _) | (with_reducible refine Kd.C_drew ?_))); (case side12 => exact HC0_9.out); rintro e w8 ⟨v573, v577, v580, v585, rfl, ho0, ho1, ho2, ho3, hb⟩; refine ⟨_, rfl, ?_⟩; have n0_ := Za.mk (Kd.Ze7 (Kd.Zdm (ok' := fun k_ => some k_ ≠ (v577 : Value).ownBlock ∧ some k_ ≠ (v580 : Value).ownBlock ∧ some k_ ≠ (v585 : Value).ownBlock ∧ k_ ≠ gb571) (Kd.S_N (Kd.Ze8 (Kd.Zet (Kd.Zet (Kd.Zet ho0 (Kd.R_typed ho1) (by decide)) (Kd.R_typed ho2) (by decide)) (Kd.Zc2 ho3) (by decide)))) (fun k_ hk_ => ⟨hk_.1.1.1.2, hk_.1.1.2, hk_.1.2, (Kd.freshB (g := gb571) (o := .cells #[.slice A0_0 l0_0.length c0_0, .int .i64 a0_1, .slice A0_2 l0_2.length c0_2, .slice A0_3 l0_3.length c0_3, .int .i64 a0_4, .int .i64 a0_5, .slice A0_6 l0_6.length c0_6, .int .i64 a0_7, .slice A0_8 l0_8.length c0_8, .slice A0_9 l0_9.length c0_9] 27 (0, 0)) (mvK BK571.out) k_ hk_.2.1)⟩)) (Zam hL_)); have n1_ := Za.mk (Kd.Zbz ho1 (Zam hL_)); have n2_ := Za.mk (Kd.Zbz ho2 (Zam hL_)); have n3_ := Za.mk (Kd.Ze7 (Kd.Zdm (ok' := fun k_ => some k_ ≠ (v573 : Value).ownBlock ∧ some k_ ≠ (v577 : Value).ownBlock ∧ some k_ ≠ (v580 : Value).ownBlock ∧ k_ ≠ gb571) (Kd.S_N (Kd.Ze8 (Kd.Zet ho3 (Kd.Zc2 ho0) (by decide)))) (fun k_ hk_ => ⟨hk_.1.2, hk_.1.1.1, hk_.1.1.2, (Kd.freshB (g := gb571) (o := .cells #[.slice A0_0 l0_0.length c0_0, .int .i64 a0_1, .slice A0_2 l0_2.length c0_2, .slice A0_3 l0_3.length c0_3, .int .i64 a0_4, .int .i64 a0_5, .slice A0_6 l0_6.length c0_6, .int .i64 a0_7, .slice A0_8 l0_8.length c0_8, .slice A0_9 l0_9.length c0_9] 27 (0, 0)) (mvK BK571.out) k_ hk_.2.1)⟩)) (Zam hL_)); have n4_ := Za.mk (Za6 (g := gb571) (o := .cells #[.slice A0_0 l0_0.length c0_0, .int .i64 a0_1, .slice A0_2 l0_2.length c0_2, .slice A0_3 l0_3.length c0_3, .int .i64 a0_4, .int .i64 a0_5, .slice A0_6 l0_6.length c0_6, .int .i64 a0_7, .slice A0_8 l0_8.length c0_8, .slice A0_9 l0_9.length c0_9] 27 (0, 0)) (mvK BK571.out) hb); have n5_ := Za.mk (Zan hL_ hb); clear BK571; clear HB; have HO574 := n0_; have HO578 := n1_; have HO581 := n2_; have HO586 := n3_; have BK571 := n4_; have HB := n5_; clear n0_ n1_ n2_ n3_ n4_ n5_; (try clear hb); (try clear hb2); (try clear hk); (try clear hi); (try clear ho0); (try clear ho1); (try clear ho2); (try clear ho3)) | ((with_reducible refine Zbv (N := 4) rfl ?_); refine Zb4 ?hg (N := 4) ?hd (cs := #[.int .i64 0, .slice none 0 0, .slice none 0 0, .int .i64 0, .int .i64 0, .slice none 0 0, .int .i64 0]) (t := 25) ?hr ?_; (case hd => rfl); (case hg => rfl); (case hr => first | (go_simp; done) | (go_simp; rfl)); intro gb589 hg w9 hbox hb; have n0_ := Za.mk (Kd.Zc9 (Kd.N_elderB (mvN HO574.out) gb589 (Nat.le_of_eq hg.symm)) hb); have n1_ := Za.mk (Kd.Zb3 (mvR HO578.out) hb); have n2_ := Za.mk (Kd.Zb3 (mvR HO581.out) hb); have n3_ := Za.mk (Kd.Zc9 (Kd.N_elderB (mvN HO586.out) gb589 (Nat.le_of_eq hg.symm)) hb); have n4_ := Za.mk (Za6 (g := gb571) (o := .cells #[.slice A0_0 l0_0.length c0_0, .int .i64 a0_1, .slice A0_2 l0_2.length c0_2, .slice A0_3 l0_3.length c0_3, .int .i64 a0_4, .int .i64 a0_5, .slice A0_6 l0_6.length c0_6, .int .i64 a0_7, .slice A0_8 l0_8.length c0_8, .slice A0_9 l0_9.length c0_9] 27 (0, 0)) (mvK BK571.out) hb); have n5_ := Za.mk (Zan (by repeat (first | (with_reducible first | exact HB.out | apply Zac | apply Zaa | apply Zab | refine Zag ?_ GE571.out) | exact HB.out)) hb); have n6_ := Za.mk (hbox); have n8_ := Za.mk ((by rw [hg]; exact (Zam (by repeat (first | (with_reducible first | exact HB.out | apply Zac | apply Zaa | apply Zab | refine Zag ?_ GE571.out) | exact HB.out))) : w.heap.size ≤ gb589)); have n9_ := Za.mk ((by rw [hg]; exact Nat.ne_of_lt (Zcq (g := gb571) (o := .cells #[.slice A0_0 l0_0.length c0_0, .int .i64 a0_1, .slice A0_2 l0_2.length c0_2, .slice A0_3 l0_3.length c0_3, .int .i64 a0_4, .int .i64 a0_5, .slice A0_6 l0_6.length c0_6, .int .i64 a0_7, .slice A0_8 l0_8.length c0_8, .slice A0_9 l0_9.length c0_9] 27 (0, 0)) (mvK BK571.out)) : gb571 ≠ gb589)); have n10_ := Za.mk ((by rw [hg]; exact Nat.ne_of_gt (Zcq (g := gb571) (o := .cells #[.slice A0_0 l0_0.length c0_0, .int .i64 a0_1, .slice A0_2 l0_2.length c0_2, .slice A0_3 l0_3.length c0_3, .int .i64 a0_4, .int .i64 a0_5, .slice A0_6 l0_6.length c0_6, .int .i64 a0_7, .slice A0_8 l0_8.length c0_8, .slice A0_9 l0_9.length c0_9] 27 (0, 0)) (mvK BK571.out)) : gb589 ≠ gb571)); clear HO574; clear HO578; clear HO581; clear HO586; clear BK571; clear HB; have HO574 := n0_; have HO578 := n1_; have HO581 := n2_; have HO586 := n3_; have BK571 := n4_; have HB := n5_; have BK589 := n6_; have GE589 := n8_; have NB571_589 := n9_; have NB589_571 := n10_; clear n0_ n1_ n2_ n3_ n4_ n5_ n6_ n8_ n9_ n10_; clear hb hbox hg; have hnb10 := NB589_571.out; have hnc10 := NB571_589.out; obtain ⟨hcz11_0, hcz11_1, hcz11_2, hcz11_3, hcz11_4, hcz11_5, hcz11_6, hfz11_0, hfz11_1, hfz11_2, hfz11_3, hfz11_4, hfz11_5, hfz11_6⟩ := Zce BK589.out; obtain ⟨Ao12, co12, eo12⟩ := Kd.Zbw HO578.out; subst eo12; obtain ⟨Ao13, co13, eo13⟩ := Kd.Zbw HO581.out; subst eo13; obtain ⟨Ao14, co14, eo14⟩ := Kd.Zco HO586.out; subst eo14))
 have n0_ : Za (Kd.N (Kd.slice 41 k41) 39 (((((((w9.setCell ⟨gb589, 0, none⟩ (.int .i64 t575)).setCell ⟨gb589, 1, none⟩ (.slice Ao12 t576.length co12)).setCell ⟨gb589, 2, none⟩ (.slice Ao13 t579.length co13)).setCell ⟨gb589, 3, none⟩ (.int .i64 t582)).setCell ⟨gb589, 4, none⟩ (.int .i64 t583)).setCell ⟨gb589, 5, none⟩ (.slice Ao14 t584.length co14)).setCell ⟨gb589, 6, none⟩ (.int .i64 t587)) w.heap.size (fun k_ => some k_ ≠ (.slice Ao12 t576.length co12 : Value).ownBlock ∧ some k_ ≠ (.slice Ao13 t579.length co13 : Value).ownBlock ∧ some k_ ≠ (.slice Ao14 t584.length co14 : Value).ownBlock ∧ k_ ≠ gb571 ∧ k_ ≠ gb589) v573 t572) := ⟨by (with_reducible repeat (first | apply Kd.N_alloc | apply Kd.N_drewN | apply Kd.Zgn)); exact Kd.Zdm (Kd.Zdj (p := ⟨gb589, 6, none⟩) (Kd.Zdj (p := ⟨gb589, 5, none⟩) (Kd.Zdj (p := ⟨gb589, 4, none⟩) (Kd.Zdj (p := ⟨gb589, 3, none⟩) (Kd.Zdj (p := ⟨gb589, 2, none⟩) (Kd.Zdj (p := ⟨gb589, 1, none⟩) (Kd.Zdj (p := ⟨gb589, 0, none⟩) (Kd.Zdm HO574.out (fun k_ hk => (⟨hk, hk.2⟩ : _ ∧ k_ ≠ gb589))) (fun _ hk => hk.2) (.int .i64 t575)) (fun _ hk => hk.2) (.slice Ao12 t576.length co12)) (fun _ hk => hk.2) (.slice Ao13 t579.length co13)) (fun _ hk => hk.2) (.int .i64 t582)) (fun _ hk => hk.2) (.int .i64 t583)) (fun _ hk => hk.2) (.slice Ao14 t584.length co14)) (fun _ hk => hk.2) (.int .i64 t587)) (fun _ hk => ⟨hk.1.1.1, ⟨hk.1.1.2.1, ⟨hk.1.1.2.2.1, ⟨hk.1.1.2.2.2, hk.1.2⟩⟩⟩⟩)⟩
 have n1_ : Za (Kd.R (Kd.int .i64) 3 (((((((w9.setCell ⟨gb589, 0, none⟩ (.int .i64 t575)).setCell ⟨gb589, 1, none⟩ (.slice Ao12 t576.length co12)).setCell ⟨gb589, 2, none⟩ (.slice Ao13 t579.length co13)).setCell ⟨gb589, 3, none⟩ (.int .i64 t582)).setCell ⟨gb589, 4, none⟩ (.int .i64 t583)).setCell ⟨gb589, 5, none⟩ (.slice Ao14 t584.length co14)).setCell ⟨gb589, 6, none⟩ (.int .i64 t587)) w.heap.size (fun k_ => some k_ ≠ (.slice Ao13 t579.length co13 : Value).ownBlock) (.slice Ao12 t576.length co12) t576) := ⟨by (with_reducible repeat (first | apply Kd.R_alloc | apply Kd.Zbh | apply Kd.Zbl)); exact Kd.Zbm (Kd.Zbx (p := ⟨gb589, 6, none⟩) (Kd.Zbx (p := ⟨gb589, 5, none⟩) (Kd.Zbx (p := ⟨gb589, 4, none⟩) (Kd.Zbx (p := ⟨gb589, 3, none⟩) (Kd.Zbx (p := ⟨gb589, 2, none⟩) (Kd.Zbx (p := ⟨gb589, 1, none⟩) (Kd.Zbx (p := ⟨gb589, 0, none⟩) (Kd.Zc HO578.out BK589.out (by decide)) (fun _ hk => hk.2) (.int .i64 t575)) (fun _ hk => hk.2) (.slice Ao12 t576.length co12)) (fun _ hk => hk.2) (.slice Ao13 t579.length co13)) (fun _ hk => hk.2) (.int .i64 t582)) (fun _ hk => hk.2) (.int .i64 t583)) (fun _ hk => hk.2) (.slice Ao14 t584.length co14)) (fun _ hk => hk.2) (.int .i64 t587)) (fun _ hk => hk.1)⟩
 have n2_ : Za (Kd.R (Kd.int .i64) 3 (((((((w9.setCell ⟨gb589, 0, none⟩ (.int .i64 t575)).setCell ⟨gb589, 1, none⟩ (.slice Ao12 t576.length co12)).setCell ⟨gb589, 2, none⟩ (.slice Ao13 t579.length co13)).setCell ⟨gb589, 3, none⟩ (.int .i64 t582)).setCell ⟨gb589, 4, none⟩ (.int .i64 t583)).setCell ⟨gb589, 5, none⟩ (.slice Ao14 t584.length co14)).setCell ⟨gb589, 6, none⟩ (.int .i64 t587)) w.heap.size (fun k_ => some k_ ≠ (.slice Ao12 t576.length co12 : Value).ownBlock) (.slice Ao13 t579.length co13) t579) := ⟨by (with_reducible repeat (first | apply Kd.R_alloc | apply Kd.Zbh | apply Kd.Zbl)); exact Kd.Zbm (Kd.Zbx (p := ⟨gb589, 6, none⟩) (Kd.Zbx (p := ⟨gb589, 5, none⟩) (Kd.Zbx (p := ⟨gb589, 4, none⟩) (Kd.Zbx (p := ⟨gb589, 3, none⟩) (Kd.Zbx (p := ⟨gb589, 2, none⟩) (Kd.Zbx (p := ⟨gb589, 1, none⟩) (Kd.Zbx (p := ⟨gb589, 0, none⟩) (Kd.Zc HO581.out BK589.out (by decide)) (fun _ hk => hk.2) (.int .i64 t575)) (fun _ hk => hk.2) (.slice Ao12 t576.length co12)) (fun _ hk => hk.2) (.slice Ao13 t579.length co13)) (fun _ hk => hk.2) (.int .i64 t582)) (fun _ hk => hk.2) (.int .i64 t583)) (fun _ hk => hk.2) (.slice Ao14 t584.length co14)) (fun _ hk => hk.2) (.int .i64 t587)) (fun _ hk => hk.1)⟩
 have n3_ : Za (Kd.N (Kd.slice 3 (Kd.int .i64)) 23 (((((((w9.setCell ⟨gb589, 0, none⟩ (.int .i64 t575)).setCell ⟨gb589, 1, none⟩ (.slice Ao12 t576.length co12)).setCell ⟨gb589, 2, none⟩ (.slice Ao13 t579.length co13)).setCell ⟨gb589, 3, none⟩ (.int .i64 t582)).setCell ⟨gb589, 4, none⟩ (.int .i64 t583)).setCell ⟨gb589, 5, none⟩ (.slice Ao14 t584.length co14)).setCell ⟨gb589, 6, none⟩ (.int .i64 t587)) w.heap.size (fun k_ => some k_ ≠ (v573 : Value).ownBlock ∧ some k_ ≠ (.slice Ao12 t576.length co12 : Value).ownBlock ∧ some k_ ≠ (.slice Ao13 t579.length co13 : Value).ownBlock ∧ k_ ≠ gb571 ∧ k_ ≠ gb589) (.slice Ao14 t584.length co14) t584) := ⟨by (with_reducible repeat (first | apply Kd.N_alloc | apply Kd.N_drewN | apply Kd.Zgn)); exact Kd.Zdm (Kd.Zdj (p := ⟨gb589, 6, none⟩) (Kd.Zdj (p := ⟨gb589, 5, none⟩) (Kd.Zdj (p := ⟨gb589, 4, none⟩) (Kd.Zdj (p := ⟨gb589, 3, none⟩) (Kd.Zdj (p := ⟨gb589, 2, none⟩) (Kd.Zdj (p := ⟨gb589, 1, none⟩) (Kd.Zdj (p := ⟨gb589, 0, none⟩) (Kd.Zdm HO586.out (fun k_ hk => (⟨hk, hk.2⟩ : _ ∧ k_ ≠ gb589))) (fun _ hk => hk.2) (.int .i64 t575)) (fun _ hk => hk.2) (.slice Ao12 t576.length co12)) (fun _ hk => hk.2) (.slice Ao13 t579.length co13)) (fun _ hk => hk.2) (.int .i64 t582)) (fun _ hk => hk.2) (.int .i64 t583)) (fun _ hk => hk.2) (.slice Ao14 t584.length co14)) (fun _ hk => hk.2) (.int .i64 t587)) (fun _ hk => ⟨hk.1.1.1, ⟨hk.1.1.2.1, ⟨hk.1.1.2.2.1, ⟨hk.1.1.2.2.2, hk.1.2⟩⟩⟩⟩)⟩
 have n4_ : Za ((((((((w9.setCell ⟨gb589, 0, none⟩ (.int .i64 t575)).setCell ⟨gb589, 1, none⟩ (.slice Ao12 t576.length co12)).setCell ⟨gb589, 2, none⟩ (.slice Ao13 t579.length co13)).setCell ⟨gb589, 3, none⟩ (.int .i64 t582)).setCell ⟨gb589, 4, none⟩ (.int .i64 t583)).setCell ⟨gb589, 5, none⟩ (.slice Ao14 t584.length co14)).setCell ⟨gb589, 6, none⟩ (.int .i64 t587)).heap[gb571]? = some (.cells #[.slice A0_0 l0_0.length c0_0, .int .i64 a0_1, .slice A0_2 l0_2.length c0_2, .slice A0_3 l0_3.length c0_3, .int .i64 a0_4, .int .i64 a0_5, .slice A0_6 l0_6.length c0_6, .int .i64 a0_7, .slice A0_8 l0_8.length c0_8, .slice A0_9 l0_9.length c0_9] 27 (0, 0))) := ⟨by (with_reducible repeat (first | refine Zah ?_ _ | refine Zaj ?_ | refine Zaf ?_ _)); refine Zbs ?_ NB571_589.out _; (with_reducible repeat (first | refine Zah ?_ _ | refine Zaj ?_ | refine Zaf ?_ _)); refine Zbs ?_ NB571_589.out _; (with_reducible repeat (first | refine Zah ?_ _ | refine Zaj ?_ | refine Zaf ?_ _)); refine Zbs ?_ NB571_589.out _; (with_reducible repeat (first | refine Zah ?_ _ | refine Zaj ?_ | refine Zaf ?_ _)); refine Zbs ?_ NB571_589.out _; (with_reducible repeat (first | refine Zah ?_ _ | refine Zaj ?_ | refine Zaf ?_ _)); refine Zbs ?_ NB571_589.out _; (with_reducible repeat (first | refine Zah ?_ _ | refine Zaj ?_ | refine Zaf ?_ _)); refine Zbs ?_ NB571_589.out _; (with_reducible repeat (first | refine Zah ?_ _ | refine Zaj ?_ | refine Zaf ?_ _)); refine Zbs ?_ NB571_589.out _; (with_reducible repeat (first | refine Zah ?_ _ | refine Zaj ?_ | refine Zaf ?_ _)); exact BK571.out⟩
 have n5_ : Za ((((((((w9.setCell ⟨gb589, 0, none⟩ (.int .i64 t575)).setCell ⟨gb589, 1, none⟩ (.slice Ao12 t576.length co12)).setCell ⟨gb589, 2, none⟩ (.slice Ao13 t579.length co13)).setCell ⟨gb589, 3, none⟩ (.int .i64 t582)).setCell ⟨gb589, 4, none⟩ (.int .i64 t583)).setCell ⟨gb589, 5, none⟩ (.slice Ao14 t584.length co14)).setCell ⟨gb589, 6, none⟩ (.int .i64 t587)).heap[gb589]? = some (.cells #[.int .i64 t575, .slice Ao12 t576.length co12, .slice Ao13 t579.length co13, .int .i64 t582, .int .i64 t583, .slice Ao14 t584.length co14, .int .i64 t587] 25 (0, 0))) := ⟨by (with_reducible repeat (first | refine Zah ?_ _ | refine Zaj ?_ | refine Zaf ?_ _)); refine Zbr (cs := #[.int .i64 t575, .slice Ao12 t576.length co12, .slice Ao13 t579.length co13, .int .i64 t582, .int .i64 t583, .slice Ao14 t584.length co14, .int .i64 0]) ?_ 6 _ rfl; (with_reducible repeat (first | refine Zah ?_ _ | refine Zaj ?_ | refine Zaf ?_ _)); refine Zbr (cs := #[.int .i64 t575, .slice Ao12 t576.length co12, .slice Ao13 t579.length co13, .int .i64 t582, .int .i64 t583, .slice none 0 0, .int .i64 0]) ?_ 5 _ rfl; (with_reducible repeat (first | refine Zah ?_ _ | refine Zaj ?_ | refine Zaf ?_ _)); refine Zbr (cs := #[.int .i64 t575, .slice Ao12 t576.length co12, .slice Ao13 t579.length co13, .int .i64 t582, .int .i64 0, .slice none 0 0, .int .i64 0]) ?_ 4 _ rfl; (with_reducible repeat (first | refine Zah ?_ _ | refine Zaj ?_ | refine Zaf ?_ _)); refine Zbr (cs := #[.int .i64 t575, .slice Ao12 t576.length co12, .slice Ao13 t579.length co13, .int .i64 0, .int .i64 0, .slice none 0 0, .int .i64 0]) ?_ 3 _ rfl; (with_reducible repeat (first | refine Zah ?_ _ | refine Zaj ?_ | refine Zaf ?_ _)); refine Zbr (cs := #[.int .i64 t575, .slice Ao12 t576.length co12, .slice none 0 0, .int .i64 0, .int .i64 0, .slice none 0 0, .int .i64 0]) ?_ 2 _ rfl; (with_reducible repeat (first | refine Zah ?_ _ | refine Zaj ?_ | refine Zaf ?_ _)); refine Zbr (cs := #[.int .i64 t575, .slice none 0 0, .slice none 0 0, .int .i64 0, .int .i64 0, .slice none 0 0, .int .i64 0]) ?_ 1 _ rfl; (with_reducible repeat (first | refine Zah ?_ _ | refine Zaj ?_ | refine Zaf ?_ _)); refine Zbr (cs := #[.int .i64 0, .slice none 0 0, .slice none 0 0, .int .i64 0, .int .i64 0, .slice none 0 0, .int .i64 0]) ?_ 0 _ rfl; (with_reducible repeat (first | refine Zah ?_ _ | refine Zaj ?_ | refine Zaf ?_ _)); exact BK589.out⟩
 have n6_ : Za (Below w.heap.size w (((((((w9.setCell ⟨gb589, 0, none⟩ (.int .i64 t575)).setCell ⟨gb589, 1, none⟩ (.slice Ao12 t576.length co12)).setCell ⟨gb589, 2, none⟩ (.slice Ao13 t579.length co13)).setCell ⟨gb589, 3, none⟩ (.int .i64 t582)).setCell ⟨gb589, 4, none⟩ (.int .i64 t583)).setCell ⟨gb589, 5, none⟩ (.slice Ao14 t584.length co14)).setCell ⟨gb589, 6, none⟩ (.int .i64 t587))) := ⟨by repeat (first | (with_reducible first | exact HB.out | apply Zac | apply Zaa | apply Zab | refine Zag ?_ GE571.out | refine Zag ?_ GE589.out) | exact HB.out)⟩
 (try clear HO574)
 (try clear HO578)
 (try clear HO581)
 (try clear HO586)
 (try clear BK571)
 (try clear BK589)
 (try clear HB)
 generalize (((((((w9.setCell ⟨gb589, 0, none⟩ (.int .i64 t575)).setCell ⟨gb589, 1, none⟩ (.slice Ao12 t576.length co12)).setCell ⟨gb589, 2, none⟩ (.slice Ao13 t579.length co13)).setCell ⟨gb589, 3, none⟩ (.int .i64 t582)).setCell ⟨gb589, 4, none⟩ (.int .i64 t583)).setCell ⟨gb589, 5, none⟩ (.slice Ao14 t584.length co14)).setCell ⟨gb589, 6, none⟩ (.int .i64 t587)) = w15 at n0_ n1_ n2_ n3_ n4_ n5_ n6_ ⊢
 have HO574 := n0_
 have HO578 := n1_
 have HO581 := n2_
 have HO586 := n3_
 have BK571 := n4_
 have BK589 := n5_
 have HB := n6_
 clear n0_ n1_ n2_ n3_ n4_ n5_ n6_
 have n0_ := Za.mk (Kd.Zgn HO574.out)
 have n1_ := Za.mk (Kd.Zbl HO578.out)
 have n2_ := Za.mk (Kd.Zbl HO581.out)
 have n3_ := Za.mk (Kd.Zgn HO586.out)
 have n4_ := Za.mk (Zaj BK571.out)
 have n5_ := Za.mk (Zaj BK589.out)
 have n6_ := Za.mk (Zab HB.out)
 clear HO574
 clear HO578
 clear HO581
 clear HO586
 clear BK571
 clear BK589
 clear HB
 have HO574 := n0_
 have HO578 := n1_
 have HO581 := n2_
 have HO586 := n3_
 have BK571 := n4_
 have BK589 := n5_
 have HB := n6_
 clear n0_ n1_ n2_ n3_ n4_ n5_ n6_
 refine Zdl (n := 8) (S := fun w' => True) (ds := []) #[false, false, false, false, false, false, false, false] (by kernel_rfl) rfl rfl trivial (fun hHeld => ?_)
 refine Zcl Zad.tab4 Zad.bits4 (fun HT_ HW_ => ?_)
 generalize w15.drew = w16 at HO574 HO578 HO581 HO586 BK571 BK589 HB hHeld ⊢
 have BKL := Za.mk (Zcq BK589.out)
 have BKC := BK589
 have HBR := Za.mk (Below.refl w16.heap.size w16)
 refine inv_at [0, 1, 2, 3, 4, 5, 6, 7] (fun a0_ b a w' => ∃ (v1 : Value) (v2 : Value) (v5 : Value) (u1 : Value) (u2 : Value) (u5 : Value) (g6 : Nat) (g7 : Nat) (a1 : Nat) (b1 : Nat) (a3 : Nat) (b3 : Nat) (m1_ : Value) (m3_ : Value) (m4_ : Value) (m5_ : Value), a = putSel a0_ b [(0, 24, .agg #[.int .i64 t575, .slice Ao12 t576.length co12, .slice Ao13 t579.length co13, .int .i64 t582, .int .i64 t583, .slice Ao14 t584.length co14, .int .i64 t587]), (1, 25, m1_), (2, 26, .agg #[.int .i64 t575, .slice Ao12 t576.length co12, .slice Ao13 t579.length co13, .int .i64 t582, .int .i64 t583, .slice Ao14 t584.length co14, .int .i64 t587]), (3, 27, m3_), (4, 6, m4_), (5, 7, m5_)] ∧ (Below w16.heap.size w16 w') ∧ (w'.heap[gb589]? = some (.cells #[.int .i64 t575, .slice Ao12 t576.length co12, .slice Ao13 t579.length co13, .int .i64 t582, .int .i64 t583, .slice Ao14 t584.length co14, .int .i64 t587] 25 (0, 0))) ∧ (b 1 = true → Kd.R (Kd.int .i64) 3 w' w.heap.size (fun k_ => (a1 ≤ k_ ∧ k_ < b1) ∧ some k_ ≠ (v2 : Value).ownBlock) v1 t592) ∧ (b 1 = true → Kd.R (Kd.int .i64) 3 w' w.heap.size (fun k_ => (a1 ≤ k_ ∧ k_ < b1) ∧ some k_ ≠ (v1 : Value).ownBlock) v2 t595) ∧ (b 1 = true → Kd.N (Kd.slice 3 (Kd.int .i64)) 23 w' w.heap.size (fun k_ => (a1 ≤ k_ ∧ k_ < b1) ∧ some k_ ≠ (v1 : Value).ownBlock ∧ some k_ ≠ (v2 : Value).ownBlock) v5 t600) ∧ (b 1 = true → w16.heap.size ≤ a1 ∧ a1 ≤ b1 ∧ b1 ≤ w'.heap.size) ∧ (b 3 = true → Kd.R (Kd.int .i64) 3 w' w.heap.size (fun k_ => (a3 ≤ k_ ∧ k_ < b3) ∧ some k_ ≠ (u2 : Value).ownBlock) u1 t605) ∧ (b 3 = true → Kd.R (Kd.int .i64) 3 w' w.heap.size (fun k_ => (a3 ≤ k_ ∧ k_ < b3) ∧ some k_ ≠ (u1 : Value).ownBlock) u2 t608) ∧ (b 3 = true → Kd.N (Kd.slice 3 (Kd.int .i64)) 23 w' w.heap.size (fun k_ => (a3 ≤ k_ ∧ k_ < b3) ∧ some k_ ≠ (u1 : Value).ownBlock ∧ some k_ ≠ (u2 : Value).ownBlock) u5 t613) ∧ (b 3 = true → w16.heap.size ≤ a3 ∧ a3 ≤ b3 ∧ b3 ≤ w'.heap.size) ∧ (b 1 = true → b 3 = true → b1 ≤ a3) ∧ (b 4 = true → b 6 = false → w'.heap[g6]? = some (.cells #[.int .i64 0, .slice none 0 0, .slice none 0 0, .int .i64 0, .int .i64 0, .slice none 0 0, .int .i64 0] 25 (0, 0))) ∧ (b 6 = true → w'.heap[g6]? = some (.cells #[.int .i64 t591, v1, v2, .int .i64 t598, .int .i64 t599, v5, .int .i64 t603] 25 (0, 0))) ∧ (b 4 = true → w16.heap.size ≤ g6 ∧ g6 < w'.heap.size) ∧ (b 5 = true → b 7 = false → w'.heap[g7]? = some (.cells #[.int .i64 0, .slice none 0 0, .slice none 0 0, .int .i64 0, .int .i64 0, .slice none 0 0, .int .i64 0] 25 (0, 0))) ∧ (b 7 = true → w'.heap[g7]? = some (.cells #[.int .i64 t604, u1, u2, .int .i64 t611, .int .i64 t612, u5, .int .i64 t616] 25 (0, 0))) ∧ (b 5 = true → w16.heap.size ≤ g7 ∧ g7 < w'.heap.size) ∧ (b 1 = true → b 4 = true → g6 < a1 ∨ b1 ≤ g6) ∧ (b 1 = true → b 5 = true → g7 < a1 ∨ b1 ≤ g7) ∧ (b 3 = true → b 4 = true → g6 < a3 ∨ b3 ≤ g6) ∧ (b 3 = true → b 5 = true → g7 < a3 ∨ b3 ≤ g7) ∧ (b 4 = true → b 5 = true → g6 ≠ g7) ∧ (b 1 = true → (m1_ : Value) = .agg #[.int .i64 t591, v1, v2, .int .i64 t598, .int .i64 t599, v5, .int .i64 t603]) ∧ (b 3 = true → (m3_ : Value) = .agg #[.int .i64 t604, u1, u2, .int .i64 t611, .int .i64 t612, u5, .int .i64 t616]) ∧ (b 4 = true → (m4_ : Value) = .pointer (some ⟨g6, 0, none⟩)) ∧ (b 5 = true → (m5_ : Value) = .pointer (some ⟨g7, 0, none⟩))) HT_.out HW_.out (by kernel_rfl) (by kernel_rfl) ?_ ?_ ?_
 · exact ⟨.bool false, .bool false, .bool false, .bool false, .bool false, .bool false, 0, 0, 0, 0, 0, 0, .bool false, .bool false, .bool false, .bool false, by simp only [putSel, Bool.false_eq_true, if_false], HBR.out, BKC.out, fun h_ => absurd h_ (by decide), fun h_ => absurd h_ (by decide), fun h_ => absurd h_ (by decide), fun h_ => absurd h_ (by decide), fun h_ => absurd h_ (by decide), fun h_ => absurd h_ (by decide), fun h_ => absurd h_ (by decide), fun h_ => absurd h_ (by decide), fun h_ => absurd h_ (by decide), fun h_ => absurd h_ (by decide), fun h_ => absurd h_ (by decide), fun h_ => absurd h_ (by decide), fun h_ => absurd h_ (by decide), fun h_ => absurd h_ (by decide), fun h_ => absurd h_ (by decide), fun h_ => absurd h_ (by decide), fun h_ => absurd h_ (by decide), fun h_ => absurd h_ (by decide), fun h_ => absurd h_ (by decide), fun h_ => absurd h_ (by decide), fun h_ => absurd h_ (by decide), fun h_ => absurd h_ (by decide), fun h_ => absurd h_ (by decide), fun h_ => absurd h_ (by decide)⟩
 · skip
   clear BKC HBR
   refine Zc6 ?_ ?_
   · rintro b a w' ⟨v1, v2, v5, u1, u2, u5, g6, g7, a1, b1, a3, b3, m1_, m3_, m4_, m5_, ha, Q_HBR, Q_BKC, Q_R1a, Q_R1b, Q_R1c, Q_I1, Q_R3a, Q_R3b, Q_R3c, Q_I3, Q_J13, Q_B6, Q_B6f, Q_G6, Q_B7, Q_B7f, Q_G7, Q_D61, Q_D71, Q_D63, Q_D73, Q_D67, Q_X1_, Q_X3_, Q_X4_, Q_X5_⟩ hb_ hon hoff
     refine ⟨_, rfl, fun K hK => ?_⟩
     have e4 : a.tmps[4]? = some (.pointer (some ⟨gb589, 0, none⟩)) := by rw [ha]; exact (Zdx rfl).trans rfl
     replace ha := Za.mk ha
     have HBR := Za.mk Q_HBR
     have BKC := Za.mk Q_BKC
     have hs0_ : w'.cell? ⟨gb589, 0, none⟩ = some (.int .i64 t575) := (Zae BKC.out 0).trans rfl
     have hs1_ : w'.cell? ⟨gb589, 1, none⟩ = some (.slice Ao12 t576.length co12) := (Zae BKC.out 1).trans rfl
     have hs2_ : w'.cell? ⟨gb589, 2, none⟩ = some (.slice Ao13 t579.length co13) := (Zae BKC.out 2).trans rfl
     have hs3_ : w'.cell? ⟨gb589, 3, none⟩ = some (.int .i64 t582) := (Zae BKC.out 3).trans rfl
     have hs4_ : w'.cell? ⟨gb589, 4, none⟩ = some (.int .i64 t583) := (Zae BKC.out 4).trans rfl
     have hs5_ : w'.cell? ⟨gb589, 5, none⟩ = some (.slice Ao14 t584.length co14) := (Zae BKC.out 5).trans rfl
     have hs6_ : w'.cell? ⟨gb589, 6, none⟩ = some (.int .i64 t587) := (Zae BKC.out 6).trans rfl
     refine Zgg (w1 := w') (v := .agg #[.int .i64 t575, .slice Ao12 t576.length co12, .slice Ao13 t579.length co13, .int .i64 t582, .int .i64 t583, .slice Ao14 t584.length co14, .int .i64 t587]) (by rfl) rfl ?_ ?_
     · go_simp
       (try simp only [Za4])
       try rfl
     refine hK.out _ _ ⟨v1, v2, v5, u1, u2, u5, g6, g7, a1, b1, a3, b3, m1_, m3_, m4_, m5_, (by rw [ha.out]; exact Zdi 0 hb_ rfl rfl rfl), Q_HBR, Q_BKC, fun h0_ => absurd ((hoff 1 (by kernel_rfl)).symm.trans h0_) (by decide), fun h0_ => absurd ((hoff 1 (by kernel_rfl)).symm.trans h0_) (by decide), fun h0_ => absurd ((hoff 1 (by kernel_rfl)).symm.trans h0_) (by decide), fun h0_ => absurd ((hoff 1 (by kernel_rfl)).symm.trans h0_) (by decide), fun h0_ => absurd ((hoff 3 (by kernel_rfl)).symm.trans h0_) (by decide), fun h0_ => absurd ((hoff 3 (by kernel_rfl)).symm.trans h0_) (by decide), fun h0_ => absurd ((hoff 3 (by kernel_rfl)).symm.trans h0_) (by decide), fun h0_ => absurd ((hoff 3 (by kernel_rfl)).symm.trans h0_) (by decide), fun h0_ _ => absurd ((hoff 1 (by kernel_rfl)).symm.trans h0_) (by decide), Q_B6, fun h0_ => absurd ((hoff 6 (by kernel_rfl)).symm.trans h0_) (by decide), Q_G6, Q_B7, fun h0_ => absurd ((hoff 7 (by kernel_rfl)).symm.trans h0_) (by decide), Q_G7, fun h0_ _ => absurd ((hoff 1 (by kernel_rfl)).symm.trans h0_) (by decide), fun h0_ _ => absurd ((hoff 1 (by kernel_rfl)).symm.trans h0_) (by decide), fun h0_ _ => absurd ((hoff 3 (by kernel_rfl)).symm.trans h0_) (by decide), fun h0_ _ => absurd ((hoff 3 (by kernel_rfl)).symm.trans h0_) (by decide), Q_D67, fun h0_ => absurd ((hoff 1 (by kernel_rfl)).symm.trans h0_) (by decide), fun h0_ => absurd ((hoff 3 (by kernel_rfl)).symm.trans h0_) (by decide), Q_X4_, Q_X5_⟩
   refine Zc6 ?_ ?_
   · rintro b a w' ⟨v1, v2, v5, u1, u2, u5, g6, g7, a1, b1, a3, b3, m1_, m3_, m4_, m5_, ha, Q_HBR, Q_BKC, Q_R1a, Q_R1b, Q_R1c, Q_I1, Q_R3a, Q_R3b, Q_R3c, Q_I3, Q_J13, Q_B6, Q_B6f, Q_G6, Q_B7, Q_B7f, Q_G7, Q_D61, Q_D71, Q_D63, Q_D73, Q_D67, Q_X1_, Q_X3_, Q_X4_, Q_X5_⟩ hb_ hon hoff
     refine ⟨_, rfl, fun K hK => ?_⟩
     have e24 : a.tmps[24]? = some (.agg #[.int .i64 t575, .slice Ao12 t576.length co12, .slice Ao13 t579.length co13, .int .i64 t582, .int .i64 t583, .slice Ao14 t584.length co14, .int .i64 t587]) := by rw [ha]; exact Zdk (e := (0, 24, .agg #[.int .i64 t575, .slice Ao12 t576.length co12, .slice Ao13 t579.length co13, .int .i64 t582, .int .i64 t583, .slice Ao14 t584.length co14, .int .i64 t587])) 0 rfl rfl (hon 0 (by kernel_rfl)) rfl
     replace ha := Za.mk ha
     have HBR := Za.mk Q_HBR
     have BKC := Za.mk Q_BKC
     refine goes_ Try.func26 (by kernel_rfl) rfl #[.agg #[.int .i64 t575, .slice Ao12 t576.length co12, .slice Ao13 t579.length co13, .int .i64 t582, .int .i64 t583, .slice Ao14 t584.length co14, .int .i64 t587]] (by rfl) rfl rfl (by first | (simp only [List.map_toArray, List.map_cons, List.map_nil, Act.eval, Array.getD_eq_getD_getElem?, Option.getD_some, e24]; done) | (simp only [List.map_toArray, List.map_cons, List.map_nil, Act.eval, Array.getD_eq_getD_getElem?, Option.getD_some, e24]; rfl)) ?_
     with_reducible refine (Zbd.calls k t575 _ _ t576 _ _ t579 t582 t583 _ _ t584 t587 t591 t592 t595 t598 t599 t600 t603 _ ?side1 ?side2 ?side3 ?side4 ?side5 ?side6 A4.out).mono ?_
     (case side1 => exact Kd.Zaw (Kd.Za3 HO578.out).2.2 HBR.out)
     (case side2 => exact (Kd.Za3 HO578.out).2.1)
     (case side3 => exact Kd.Zaw (Kd.Za3 HO581.out).2.2 HBR.out)
     (case side4 => exact (Kd.Za3 HO581.out).2.1)
     (case side5 => exact Kd.Zaw (Kd.Zb5 HO586.out).2.2 HBR.out)
     (case side6 => exact (Kd.Zb5 HO586.out).2.1)
     rintro e wn ⟨v1, v2, v5, rfl, ho0, ho1, ho2, hb⟩
     refine ⟨_, rfl, ?_⟩
     have hsz : w'.heap.size ≤ wn.heap.size := hb.size
     have hz : w.heap.size ≤ w'.heap.size := Nat.le_trans HB.out.size HBR.out.size
     have hz0 : w16.heap.size ≤ w'.heap.size := HBR.out.size
     refine hK.out _ _ ⟨v1, v2, v5, u1, u2, u5, g6, g7, w'.heap.size, wn.heap.size, a3, b3, (.agg #[.int .i64 t591, v1, v2, .int .i64 t598, .int .i64 t599, v5, .int .i64 t603]), m3_, m4_, m5_, (by rw [ha.out]; exact Zdi 1 hb_ rfl rfl rfl), Zan HBR.out hb, Za6 BKC.out hb, fun _ => Kd.Zbz (Kd.Zbm (Kd.Zcw ho0) (fun k_ hk => ⟨⟨hk.2.1, hk.2.2.1⟩, hk.1⟩)) hz, fun _ => Kd.Zbz (Kd.Zbm (Kd.Zcw ho1) (fun k_ hk => ⟨⟨hk.2.1, hk.2.2.1⟩, hk.1⟩)) hz, fun _ => Kd.Ze7 (Kd.Zdm (Kd.S_N (Kd.Ze8 ho2)) (fun k_ hk => ⟨⟨hk.2.1, hk.2.2.1⟩, hk.1.1, hk.1.2⟩)) hz, fun _ => ⟨hz0, hsz, Nat.le_refl _⟩, fun h0_ => absurd ((hoff 3 (by kernel_rfl)).symm.trans h0_) (by decide), fun h0_ => absurd ((hoff 3 (by kernel_rfl)).symm.trans h0_) (by decide), fun h0_ => absurd ((hoff 3 (by kernel_rfl)).symm.trans h0_) (by decide), fun h0_ => absurd ((hoff 3 (by kernel_rfl)).symm.trans h0_) (by decide), fun _ h1_ => absurd ((hoff 3 (by kernel_rfl)).symm.trans h1_) (by decide), fun h0_ h1_ => Za6 (Q_B6 h0_ h1_) hb, fun h0_ => absurd ((hoff 6 (by kernel_rfl)).symm.trans h0_) (by decide), fun h0_ => ⟨(Q_G6 h0_).1, Nat.lt_of_lt_of_le (Q_G6 h0_).2 hsz⟩, fun h0_ h1_ => Za6 (Q_B7 h0_ h1_) hb, fun h0_ => absurd ((hoff 7 (by kernel_rfl)).symm.trans h0_) (by decide), fun h0_ => ⟨(Q_G7 h0_).1, Nat.lt_of_lt_of_le (Q_G7 h0_).2 hsz⟩, fun _ h0_ => Or.inl (Q_G6 h0_).2, fun _ h0_ => Or.inl (Q_G7 h0_).2, fun h0_ _ => absurd ((hoff 3 (by kernel_rfl)).symm.trans h0_) (by decide), fun h0_ _ => absurd ((hoff 3 (by kernel_rfl)).symm.trans h0_) (by decide), Q_D67, fun _ => rfl, fun h0_ => absurd ((hoff 3 (by kernel_rfl)).symm.trans h0_) (by decide), Q_X4_, Q_X5_⟩
   refine Zc6 ?_ ?_
   · rintro b a w' ⟨v1, v2, v5, u1, u2, u5, g6, g7, a1, b1, a3, b3, m1_, m3_, m4_, m5_, ha, Q_HBR, Q_BKC, Q_R1a, Q_R1b, Q_R1c, Q_I1, Q_R3a, Q_R3b, Q_R3c, Q_I3, Q_J13, Q_B6, Q_B6f, Q_G6, Q_B7, Q_B7f, Q_G7, Q_D61, Q_D71, Q_D63, Q_D73, Q_D67, Q_X1_, Q_X3_, Q_X4_, Q_X5_⟩ hb_ hon hoff
     refine ⟨_, rfl, fun K hK => ?_⟩
     have e4 : a.tmps[4]? = some (.pointer (some ⟨gb589, 0, none⟩)) := by rw [ha]; exact (Zdx rfl).trans rfl
     replace ha := Za.mk ha
     have HBR := Za.mk Q_HBR
     have BKC := Za.mk Q_BKC
     have hs0_ : w'.cell? ⟨gb589, 0, none⟩ = some (.int .i64 t575) := (Zae BKC.out 0).trans rfl
     have hs1_ : w'.cell? ⟨gb589, 1, none⟩ = some (.slice Ao12 t576.length co12) := (Zae BKC.out 1).trans rfl
     have hs2_ : w'.cell? ⟨gb589, 2, none⟩ = some (.slice Ao13 t579.length co13) := (Zae BKC.out 2).trans rfl
     have hs3_ : w'.cell? ⟨gb589, 3, none⟩ = some (.int .i64 t582) := (Zae BKC.out 3).trans rfl
     have hs4_ : w'.cell? ⟨gb589, 4, none⟩ = some (.int .i64 t583) := (Zae BKC.out 4).trans rfl
     have hs5_ : w'.cell? ⟨gb589, 5, none⟩ = some (.slice Ao14 t584.length co14) := (Zae BKC.out 5).trans rfl
     have hs6_ : w'.cell? ⟨gb589, 6, none⟩ = some (.int .i64 t587) := (Zae BKC.out 6).trans rfl
     refine Zgg (w1 := w') (v := .agg #[.int .i64 t575, .slice Ao12 t576.length co12, .slice Ao13 t579.length co13, .int .i64 t582, .int .i64 t583, .slice Ao14 t584.length co14, .int .i64 t587]) (by rfl) rfl ?_ ?_
     · go_simp
       (try simp only [Za4])
       try rfl
     refine hK.out _ _ ⟨v1, v2, v5, u1, u2, u5, g6, g7, a1, b1, a3, b3, m1_, m3_, m4_, m5_, (by rw [ha.out]; exact Zdi 2 hb_ rfl rfl rfl), Q_HBR, Q_BKC, Q_R1a, Q_R1b, Q_R1c, Q_I1, fun h0_ => absurd ((hoff 3 (by kernel_rfl)).symm.trans h0_) (by decide), fun h0_ => absurd ((hoff 3 (by kernel_rfl)).symm.trans h0_) (by decide), fun h0_ => absurd ((hoff 3 (by kernel_rfl)).symm.trans h0_) (by decide), fun h0_ => absurd ((hoff 3 (by kernel_rfl)).symm.trans h0_) (by decide), fun _ h1_ => absurd ((hoff 3 (by kernel_rfl)).symm.trans h1_) (by decide), Q_B6, fun h0_ => absurd ((hoff 6 (by kernel_rfl)).symm.trans h0_) (by decide), Q_G6, Q_B7, fun h0_ => absurd ((hoff 7 (by kernel_rfl)).symm.trans h0_) (by decide), Q_G7, Q_D61, Q_D71, fun h0_ _ => absurd ((hoff 3 (by kernel_rfl)).symm.trans h0_) (by decide), fun h0_ _ => absurd ((hoff 3 (by kernel_rfl)).symm.trans h0_) (by decide), Q_D67, Q_X1_, fun h0_ => absurd ((hoff 3 (by kernel_rfl)).symm.trans h0_) (by decide), Q_X4_, Q_X5_⟩
   refine Zc6 ?_ ?_
   · rintro b a w' ⟨v1, v2, v5, u1, u2, u5, g6, g7, a1, b1, a3, b3, m1_, m3_, m4_, m5_, ha, Q_HBR, Q_BKC, Q_R1a, Q_R1b, Q_R1c, Q_I1, Q_R3a, Q_R3b, Q_R3c, Q_I3, Q_J13, Q_B6, Q_B6f, Q_G6, Q_B7, Q_B7f, Q_G7, Q_D61, Q_D71, Q_D63, Q_D73, Q_D67, Q_X1_, Q_X3_, Q_X4_, Q_X5_⟩ hb_ hon hoff
     refine ⟨_, rfl, fun K hK => ?_⟩
     have e26 : a.tmps[26]? = some (.agg #[.int .i64 t575, .slice Ao12 t576.length co12, .slice Ao13 t579.length co13, .int .i64 t582, .int .i64 t583, .slice Ao14 t584.length co14, .int .i64 t587]) := by rw [ha]; exact Zdk (e := (2, 26, .agg #[.int .i64 t575, .slice Ao12 t576.length co12, .slice Ao13 t579.length co13, .int .i64 t582, .int .i64 t583, .slice Ao14 t584.length co14, .int .i64 t587])) 2 rfl rfl (hon 2 (by kernel_rfl)) rfl
     replace ha := Za.mk ha
     have HBR := Za.mk Q_HBR
     have BKC := Za.mk Q_BKC
     have R1a := Za.mk (Q_R1a (hon 1 (by kernel_rfl)))
     have R1b := Za.mk (Q_R1b (hon 1 (by kernel_rfl)))
     have R1c := Za.mk (Q_R1c (hon 1 (by kernel_rfl)))
     have I1 := Za.mk (Q_I1 (hon 1 (by kernel_rfl)))
     refine goes_ Try.func26 (by kernel_rfl) rfl #[.agg #[.int .i64 t575, .slice Ao12 t576.length co12, .slice Ao13 t579.length co13, .int .i64 t582, .int .i64 t583, .slice Ao14 t584.length co14, .int .i64 t587]] (by rfl) rfl rfl (by first | (simp only [List.map_toArray, List.map_cons, List.map_nil, Act.eval, Array.getD_eq_getD_getElem?, Option.getD_some, e26]; done) | (simp only [List.map_toArray, List.map_cons, List.map_nil, Act.eval, Array.getD_eq_getD_getElem?, Option.getD_some, e26]; rfl)) ?_
     with_reducible refine (Zbd.calls k t575 _ _ t576 _ _ t579 t582 t583 _ _ t584 t587 t604 t605 t608 t611 t612 t613 t616 _ ?side1 ?side2 ?side3 ?side4 ?side5 ?side6 A5.out).mono ?_
     (case side1 => exact Kd.Zaw (Kd.Za3 HO578.out).2.2 HBR.out)
     (case side2 => exact (Kd.Za3 HO578.out).2.1)
     (case side3 => exact Kd.Zaw (Kd.Za3 HO581.out).2.2 HBR.out)
     (case side4 => exact (Kd.Za3 HO581.out).2.1)
     (case side5 => exact Kd.Zaw (Kd.Zb5 HO586.out).2.2 HBR.out)
     (case side6 => exact (Kd.Zb5 HO586.out).2.1)
     rintro e wn ⟨u1, u2, u5, rfl, ho0, ho1, ho2, hb⟩
     refine ⟨_, rfl, ?_⟩
     have hsz : w'.heap.size ≤ wn.heap.size := hb.size
     have hz : w.heap.size ≤ w'.heap.size := Nat.le_trans HB.out.size HBR.out.size
     have hz0 : w16.heap.size ≤ w'.heap.size := HBR.out.size
     refine hK.out _ _ ⟨v1, v2, v5, u1, u2, u5, g6, g7, a1, b1, w'.heap.size, wn.heap.size, m1_, (.agg #[.int .i64 t604, u1, u2, .int .i64 t611, .int .i64 t612, u5, .int .i64 t616]), m4_, m5_, (by rw [ha.out]; exact Zdi 3 hb_ rfl rfl rfl), Zan HBR.out hb, Za6 BKC.out hb, fun _ => Kd.Zb3 R1a.out hb, fun _ => Kd.Zb3 R1b.out hb, fun _ => Kd.Zc9 R1c.out hb, fun _ => ⟨I1.out.1, I1.out.2.1, Nat.le_trans I1.out.2.2 hsz⟩, fun _ => Kd.Zbz (Kd.Zbm (Kd.Zcw ho0) (fun k_ hk => ⟨⟨hk.2.1, hk.2.2.1⟩, hk.1⟩)) hz, fun _ => Kd.Zbz (Kd.Zbm (Kd.Zcw ho1) (fun k_ hk => ⟨⟨hk.2.1, hk.2.2.1⟩, hk.1⟩)) hz, fun _ => Kd.Ze7 (Kd.Zdm (Kd.S_N (Kd.Ze8 ho2)) (fun k_ hk => ⟨⟨hk.2.1, hk.2.2.1⟩, hk.1.1, hk.1.2⟩)) hz, fun _ => ⟨hz0, hsz, Nat.le_refl _⟩, fun _ _ => I1.out.2.2, fun h0_ h1_ => Za6 (Q_B6 h0_ h1_) hb, fun h0_ => absurd ((hoff 6 (by kernel_rfl)).symm.trans h0_) (by decide), fun h0_ => ⟨(Q_G6 h0_).1, Nat.lt_of_lt_of_le (Q_G6 h0_).2 hsz⟩, fun h0_ h1_ => Za6 (Q_B7 h0_ h1_) hb, fun h0_ => absurd ((hoff 7 (by kernel_rfl)).symm.trans h0_) (by decide), fun h0_ => ⟨(Q_G7 h0_).1, Nat.lt_of_lt_of_le (Q_G7 h0_).2 hsz⟩, Q_D61, Q_D71, fun _ h0_ => Or.inl (Q_G6 h0_).2, fun _ h0_ => Or.inl (Q_G7 h0_).2, Q_D67, Q_X1_, fun _ => rfl, Q_X4_, Q_X5_⟩
   refine Zc6 ?_ ?_
   · rintro b a w' ⟨v1, v2, v5, u1, u2, u5, g6, g7, a1, b1, a3, b3, m1_, m3_, m4_, m5_, ha, Q_HBR, Q_BKC, Q_R1a, Q_R1b, Q_R1c, Q_I1, Q_R3a, Q_R3b, Q_R3c, Q_I3, Q_J13, Q_B6, Q_B6f, Q_G6, Q_B7, Q_B7f, Q_G7, Q_D61, Q_D71, Q_D63, Q_D73, Q_D67, Q_X1_, Q_X3_, Q_X4_, Q_X5_⟩ hb_ hon hoff
     refine ⟨_, rfl, fun K hK => ?_⟩
     replace ha := Za.mk ha
     have HBR := Za.mk Q_HBR
     have BKC := Za.mk Q_BKC
     refine box_step ?hg (N := 6) ?hd (cs := #[.int .i64 0, .slice none 0 0, .slice none 0 0, .int .i64 0, .int .i64 0, .slice none 0 0, .int .i64 0]) (t := 25) ?hr ?_; (case hd => rfl); (case hg => rfl); (case hr => first | (go_simp; done) | (go_simp; rfl))
     intro g6 hg wn hbox hb
     have hsz : w'.heap.size ≤ wn.heap.size := hb.size
     have hz0 : w16.heap.size ≤ w'.heap.size := HBR.out.size
     have hlt := Zcq hbox
     refine hK.out _ _ ⟨v1, v2, v5, u1, u2, u5, g6, g7, a1, b1, a3, b3, m1_, m3_, (.pointer (some ⟨g6, 0, none⟩)), m5_, (by rw [ha.out]; exact Zdi 4 hb_ rfl rfl rfl), Zan HBR.out hb, Za6 BKC.out hb, fun h0_ => Kd.Zb3 (Q_R1a h0_) hb, fun h0_ => Kd.Zb3 (Q_R1b h0_) hb, fun h0_ => Kd.Zc9 (Q_R1c h0_) hb, fun h0_ => ⟨(Q_I1 h0_).1, (Q_I1 h0_).2.1, Nat.le_trans (Q_I1 h0_).2.2 hsz⟩, fun h0_ => Kd.Zb3 (Q_R3a h0_) hb, fun h0_ => Kd.Zb3 (Q_R3b h0_) hb, fun h0_ => Kd.Zc9 (Q_R3c h0_) hb, fun h0_ => ⟨(Q_I3 h0_).1, (Q_I3 h0_).2.1, Nat.le_trans (Q_I3 h0_).2.2 hsz⟩, Q_J13, fun _ _ => hbox, fun h0_ => absurd ((hoff 6 (by kernel_rfl)).symm.trans h0_) (by decide), fun _ => ⟨by rw [hg]; exact hz0, hlt⟩, fun h0_ h1_ => Za6 (Q_B7 h0_ h1_) hb, fun h0_ => absurd ((hoff 7 (by kernel_rfl)).symm.trans h0_) (by decide), fun h0_ => ⟨(Q_G7 h0_).1, Nat.lt_of_lt_of_le (Q_G7 h0_).2 hsz⟩, fun h0_ _ => Or.inr (by rw [hg]; exact (Q_I1 h0_).2.2), Q_D71, fun h0_ _ => Or.inr (by rw [hg]; exact (Q_I3 h0_).2.2), Q_D73, fun _ h0_ => Ne.symm (Nat.ne_of_lt (by rw [hg]; exact (Q_G7 h0_).2)), Q_X1_, Q_X3_, fun _ => rfl, Q_X5_⟩
   refine Zc6 ?_ ?_
   · rintro b a w' ⟨v1, v2, v5, u1, u2, u5, g6, g7, a1, b1, a3, b3, m1_, m3_, m4_, m5_, ha, Q_HBR, Q_BKC, Q_R1a, Q_R1b, Q_R1c, Q_I1, Q_R3a, Q_R3b, Q_R3c, Q_I3, Q_J13, Q_B6, Q_B6f, Q_G6, Q_B7, Q_B7f, Q_G7, Q_D61, Q_D71, Q_D63, Q_D73, Q_D67, Q_X1_, Q_X3_, Q_X4_, Q_X5_⟩ hb_ hon hoff
     refine ⟨_, rfl, fun K hK => ?_⟩
     replace ha := Za.mk ha
     have HBR := Za.mk Q_HBR
     have BKC := Za.mk Q_BKC
     refine box_step ?hg (N := 7) ?hd (cs := #[.int .i64 0, .slice none 0 0, .slice none 0 0, .int .i64 0, .int .i64 0, .slice none 0 0, .int .i64 0]) (t := 25) ?hr ?_; (case hd => rfl); (case hg => rfl); (case hr => first | (go_simp; done) | (go_simp; rfl))
     intro g7 hg wn hbox hb
     have hsz : w'.heap.size ≤ wn.heap.size := hb.size
     have hz0 : w16.heap.size ≤ w'.heap.size := HBR.out.size
     have hlt := Zcq hbox
     refine hK.out _ _ ⟨v1, v2, v5, u1, u2, u5, g6, g7, a1, b1, a3, b3, m1_, m3_, m4_, (.pointer (some ⟨g7, 0, none⟩)), (by rw [ha.out]; exact Zdi 5 hb_ rfl rfl rfl), Zan HBR.out hb, Za6 BKC.out hb, fun h0_ => Kd.Zb3 (Q_R1a h0_) hb, fun h0_ => Kd.Zb3 (Q_R1b h0_) hb, fun h0_ => Kd.Zc9 (Q_R1c h0_) hb, fun h0_ => ⟨(Q_I1 h0_).1, (Q_I1 h0_).2.1, Nat.le_trans (Q_I1 h0_).2.2 hsz⟩, fun h0_ => Kd.Zb3 (Q_R3a h0_) hb, fun h0_ => Kd.Zb3 (Q_R3b h0_) hb, fun h0_ => Kd.Zc9 (Q_R3c h0_) hb, fun h0_ => ⟨(Q_I3 h0_).1, (Q_I3 h0_).2.1, Nat.le_trans (Q_I3 h0_).2.2 hsz⟩, Q_J13, fun h0_ h1_ => Za6 (Q_B6 h0_ h1_) hb, fun h0_ => absurd ((hoff 6 (by kernel_rfl)).symm.trans h0_) (by decide), fun h0_ => ⟨(Q_G6 h0_).1, Nat.lt_of_lt_of_le (Q_G6 h0_).2 hsz⟩, fun _ _ => hbox, fun h0_ => absurd ((hoff 7 (by kernel_rfl)).symm.trans h0_) (by decide), fun _ => ⟨by rw [hg]; exact hz0, hlt⟩, Q_D61, fun h0_ _ => Or.inr (by rw [hg]; exact (Q_I1 h0_).2.2), Q_D63, fun h0_ _ => Or.inr (by rw [hg]; exact (Q_I3 h0_).2.2), fun h0_ _ => Nat.ne_of_lt (by rw [hg]; exact (Q_G6 h0_).2), Q_X1_, Q_X3_, Q_X4_, fun _ => rfl⟩
   refine Zc6 ?_ ?_
   · rintro b a w' ⟨v1, v2, v5, u1, u2, u5, g6, g7, a1, b1, a3, b3, m1_, m3_, m4_, m5_, ha, Q_HBR, Q_BKC, Q_R1a, Q_R1b, Q_R1c, Q_I1, Q_R3a, Q_R3b, Q_R3c, Q_I3, Q_J13, Q_B6, Q_B6f, Q_G6, Q_B7, Q_B7f, Q_G7, Q_D61, Q_D71, Q_D63, Q_D73, Q_D67, Q_X1_, Q_X3_, Q_X4_, Q_X5_⟩ hb_ hon hoff
     refine ⟨_, rfl, fun K hK => ?_⟩
     have e6 : a.tmps[6]? = some (m4_) := by rw [ha]; exact Zdk (e := (4, 6, m4_)) 4 rfl rfl (hon 4 (by kernel_rfl)) rfl
     rw [Q_X4_ (hon 4 (by kernel_rfl))] at e6
     have e25 : a.tmps[25]? = some (m1_) := by rw [ha]; exact Zdk (e := (1, 25, m1_)) 1 rfl rfl (hon 1 (by kernel_rfl)) rfl
     rw [Q_X1_ (hon 1 (by kernel_rfl))] at e25
     replace ha := Za.mk ha
     have HBR := Za.mk Q_HBR
     have BKC := Za.mk Q_BKC
     have R1a := Za.mk (Q_R1a (hon 1 (by kernel_rfl)))
     have R1b := Za.mk (Q_R1b (hon 1 (by kernel_rfl)))
     have R1c := Za.mk (Q_R1c (hon 1 (by kernel_rfl)))
     have I1 := Za.mk (Q_I1 (hon 1 (by kernel_rfl)))
     have R3a := Za.mk (Q_R3a (hon 3 (by kernel_rfl)))
     have R3b := Za.mk (Q_R3b (hon 3 (by kernel_rfl)))
     have R3c := Za.mk (Q_R3c (hon 3 (by kernel_rfl)))
     have I3 := Za.mk (Q_I3 (hon 3 (by kernel_rfl)))
     have J13 := Za.mk (Q_J13 (hon 1 (by kernel_rfl)) (hon 3 (by kernel_rfl)))
     have B6 := Za.mk (Q_B6 (hon 4 (by kernel_rfl)) hb_)
     have G6 := Za.mk (Q_G6 (hon 4 (by kernel_rfl)))
     have B7 := Za.mk (Q_B7 (hon 5 (by kernel_rfl)) (hoff 7 (by kernel_rfl)))
     have G7 := Za.mk (Q_G7 (hon 5 (by kernel_rfl)))
     have D61 := Za.mk (Q_D61 (hon 1 (by kernel_rfl)) (hon 4 (by kernel_rfl)))
     have D71 := Za.mk (Q_D71 (hon 1 (by kernel_rfl)) (hon 5 (by kernel_rfl)))
     have D63 := Za.mk (Q_D63 (hon 3 (by kernel_rfl)) (hon 4 (by kernel_rfl)))
     have D73 := Za.mk (Q_D73 (hon 3 (by kernel_rfl)) (hon 5 (by kernel_rfl)))
     have D67 := Za.mk (Q_D67 (hon 4 (by kernel_rfl)) (hon 5 (by kernel_rfl)))
     have hs0_ : w'.cell? ⟨g6, 0, none⟩ = some (.int .i64 0) := (Zae B6.out 0).trans rfl
     have hs1_ : w'.cell? ⟨g6, 1, none⟩ = some (.slice none 0 0) := (Zae B6.out 1).trans rfl
     have hs2_ : w'.cell? ⟨g6, 2, none⟩ = some (.slice none 0 0) := (Zae B6.out 2).trans rfl
     have hs3_ : w'.cell? ⟨g6, 3, none⟩ = some (.int .i64 0) := (Zae B6.out 3).trans rfl
     have hs4_ : w'.cell? ⟨g6, 4, none⟩ = some (.int .i64 0) := (Zae B6.out 4).trans rfl
     have hs5_ : w'.cell? ⟨g6, 5, none⟩ = some (.slice none 0 0) := (Zae B6.out 5).trans rfl
     have hs6_ : w'.cell? ⟨g6, 6, none⟩ = some (.int .i64 0) := (Zae B6.out 6).trans rfl
     have hf0_ := Zax B6.out 0
     have hf1_ := Zax B6.out 1
     have hf2_ := Zax B6.out 2
     have hf3_ := Zax B6.out 3
     have hf4_ := Zax B6.out 4
     have hf5_ := Zax B6.out 5
     have hf6_ := Zax B6.out 6
     obtain ⟨A1_, c1_, e1_⟩ := Kd.Zbw R1a.out
     obtain ⟨A2_, c2_, e2_⟩ := Kd.Zbw R1b.out
     obtain ⟨A5_, c5_, e5_⟩ := Kd.Zco R1c.out
     refine skip_ (w1 := (((((((w'.setCell ⟨g6, 0, none⟩ (.int .i64 t591)).setCell ⟨g6, 1, none⟩ (v1)).setCell ⟨g6, 2, none⟩ (v2)).setCell ⟨g6, 3, none⟩ (.int .i64 t598)).setCell ⟨g6, 4, none⟩ (.int .i64 t599)).setCell ⟨g6, 5, none⟩ (v5)).setCell ⟨g6, 6, none⟩ (.int .i64 t603))) (by rfl) rfl ?_ ?_
     · go_simp
       try rfl
     refine hK.out _ _ ⟨v1, v2, v5, u1, u2, u5, g6, g7, a1, b1, a3, b3, m1_, m3_, m4_, m5_, (by rw [ha.out]; exact Zgb (v := undef) rfl), bset7 HBR.out G6.out.1, bfar7 BKC.out (Nat.ne_of_lt (Nat.lt_of_lt_of_le (Zcq BK589.out) G6.out.1)), fun _ => farR7 R1a.out (fun k_ hk => by have h1_ := hk.1; have h2_ := D61.out; omega), fun _ => farR7 R1b.out (fun k_ hk => by have h1_ := hk.1; have h2_ := D61.out; omega), fun _ => farN7 R1c.out (fun k_ hk => by have h1_ := hk.1; have h2_ := D61.out; omega), fun _ => ⟨I1.out.1, I1.out.2.1, Nat.le_trans I1.out.2.2 (Nat.le_of_eq size7.symm)⟩, fun _ => farR7 R3a.out (fun k_ hk => by have h1_ := hk.1; have h2_ := D63.out; omega), fun _ => farR7 R3b.out (fun k_ hk => by have h1_ := hk.1; have h2_ := D63.out; omega), fun _ => farN7 R3c.out (fun k_ hk => by have h1_ := hk.1; have h2_ := D63.out; omega), fun _ => ⟨I3.out.1, I3.out.2.1, Nat.le_trans I3.out.2.2 (Nat.le_of_eq size7.symm)⟩, Q_J13, fun _ h1_ => absurd ((Zfd b 6).symm.trans h1_) (by decide), fun _ => bput7 B6.out, fun _ => ⟨G6.out.1, Nat.lt_of_lt_of_eq G6.out.2 size7.symm⟩, fun _ _ => bfar7 B7.out (Ne.symm D67.out), fun h0_ => absurd ((hoff 7 (by kernel_rfl)).symm.trans h0_) (by decide), fun _ => ⟨G7.out.1, Nat.lt_of_lt_of_eq G7.out.2 size7.symm⟩, Q_D61, Q_D71, Q_D63, Q_D73, Q_D67, Q_X1_, Q_X3_, Q_X4_, Q_X5_⟩
   refine Zc6 ?_ ?_
   · rintro b a w' ⟨v1, v2, v5, u1, u2, u5, g6, g7, a1, b1, a3, b3, m1_, m3_, m4_, m5_, ha, Q_HBR, Q_BKC, Q_R1a, Q_R1b, Q_R1c, Q_I1, Q_R3a, Q_R3b, Q_R3c, Q_I3, Q_J13, Q_B6, Q_B6f, Q_G6, Q_B7, Q_B7f, Q_G7, Q_D61, Q_D71, Q_D63, Q_D73, Q_D67, Q_X1_, Q_X3_, Q_X4_, Q_X5_⟩ hb_ hon hoff
     refine ⟨_, rfl, fun K hK => ?_⟩
     have e7 : a.tmps[7]? = some (m5_) := by rw [ha]; exact Zdk (e := (5, 7, m5_)) 5 rfl rfl (hon 5 (by kernel_rfl)) rfl
     rw [Q_X5_ (hon 5 (by kernel_rfl))] at e7
     have e27 : a.tmps[27]? = some (m3_) := by rw [ha]; exact Zdk (e := (3, 27, m3_)) 3 rfl rfl (hon 3 (by kernel_rfl)) rfl
     rw [Q_X3_ (hon 3 (by kernel_rfl))] at e27
     replace ha := Za.mk ha
     have HBR := Za.mk Q_HBR
     have BKC := Za.mk Q_BKC
     have R1a := Za.mk (Q_R1a (hon 1 (by kernel_rfl)))
     have R1b := Za.mk (Q_R1b (hon 1 (by kernel_rfl)))
     have R1c := Za.mk (Q_R1c (hon 1 (by kernel_rfl)))
     have I1 := Za.mk (Q_I1 (hon 1 (by kernel_rfl)))
     have R3a := Za.mk (Q_R3a (hon 3 (by kernel_rfl)))
     have R3b := Za.mk (Q_R3b (hon 3 (by kernel_rfl)))
     have R3c := Za.mk (Q_R3c (hon 3 (by kernel_rfl)))
     have I3 := Za.mk (Q_I3 (hon 3 (by kernel_rfl)))
     have J13 := Za.mk (Q_J13 (hon 1 (by kernel_rfl)) (hon 3 (by kernel_rfl)))
     have B6f := Za.mk (Q_B6f (hon 6 (by kernel_rfl)))
     have G6 := Za.mk (Q_G6 (hon 4 (by kernel_rfl)))
     have B7 := Za.mk (Q_B7 (hon 5 (by kernel_rfl)) hb_)
     have G7 := Za.mk (Q_G7 (hon 5 (by kernel_rfl)))
     have D61 := Za.mk (Q_D61 (hon 1 (by kernel_rfl)) (hon 4 (by kernel_rfl)))
     have D71 := Za.mk (Q_D71 (hon 1 (by kernel_rfl)) (hon 5 (by kernel_rfl)))
     have D63 := Za.mk (Q_D63 (hon 3 (by kernel_rfl)) (hon 4 (by kernel_rfl)))
     have D73 := Za.mk (Q_D73 (hon 3 (by kernel_rfl)) (hon 5 (by kernel_rfl)))
     have D67 := Za.mk (Q_D67 (hon 4 (by kernel_rfl)) (hon 5 (by kernel_rfl)))
     have hs0_ : w'.cell? ⟨g7, 0, none⟩ = some (.int .i64 0) := (Zae B7.out 0).trans rfl
     have hs1_ : w'.cell? ⟨g7, 1, none⟩ = some (.slice none 0 0) := (Zae B7.out 1).trans rfl
     have hs2_ : w'.cell? ⟨g7, 2, none⟩ = some (.slice none 0 0) := (Zae B7.out 2).trans rfl
     have hs3_ : w'.cell? ⟨g7, 3, none⟩ = some (.int .i64 0) := (Zae B7.out 3).trans rfl
     have hs4_ : w'.cell? ⟨g7, 4, none⟩ = some (.int .i64 0) := (Zae B7.out 4).trans rfl
     have hs5_ : w'.cell? ⟨g7, 5, none⟩ = some (.slice none 0 0) := (Zae B7.out 5).trans rfl
     have hs6_ : w'.cell? ⟨g7, 6, none⟩ = some (.int .i64 0) := (Zae B7.out 6).trans rfl
     have hf0_ := Zax B7.out 0
     have hf1_ := Zax B7.out 1
     have hf2_ := Zax B7.out 2
     have hf3_ := Zax B7.out 3
     have hf4_ := Zax B7.out 4
     have hf5_ := Zax B7.out 5
     have hf6_ := Zax B7.out 6
     obtain ⟨A1_, c1_, e1_⟩ := Kd.Zbw R3a.out
     obtain ⟨A2_, c2_, e2_⟩ := Kd.Zbw R3b.out
     obtain ⟨A5_, c5_, e5_⟩ := Kd.Zco R3c.out
     refine skip_ (w1 := (((((((w'.setCell ⟨g7, 0, none⟩ (.int .i64 t604)).setCell ⟨g7, 1, none⟩ (u1)).setCell ⟨g7, 2, none⟩ (u2)).setCell ⟨g7, 3, none⟩ (.int .i64 t611)).setCell ⟨g7, 4, none⟩ (.int .i64 t612)).setCell ⟨g7, 5, none⟩ (u5)).setCell ⟨g7, 6, none⟩ (.int .i64 t616))) (by rfl) rfl ?_ ?_
     · go_simp
       try rfl
     refine hK.out _ _ ⟨v1, v2, v5, u1, u2, u5, g6, g7, a1, b1, a3, b3, m1_, m3_, m4_, m5_, (by rw [ha.out]; exact Zgb (v := undef) rfl), bset7 HBR.out G7.out.1, bfar7 BKC.out (Nat.ne_of_lt (Nat.lt_of_lt_of_le (Zcq BK589.out) G7.out.1)), fun _ => farR7 R1a.out (fun k_ hk => by have h1_ := hk.1; have h2_ := D71.out; omega), fun _ => farR7 R1b.out (fun k_ hk => by have h1_ := hk.1; have h2_ := D71.out; omega), fun _ => farN7 R1c.out (fun k_ hk => by have h1_ := hk.1; have h2_ := D71.out; omega), fun _ => ⟨I1.out.1, I1.out.2.1, Nat.le_trans I1.out.2.2 (Nat.le_of_eq size7.symm)⟩, fun _ => farR7 R3a.out (fun k_ hk => by have h1_ := hk.1; have h2_ := D73.out; omega), fun _ => farR7 R3b.out (fun k_ hk => by have h1_ := hk.1; have h2_ := D73.out; omega), fun _ => farN7 R3c.out (fun k_ hk => by have h1_ := hk.1; have h2_ := D73.out; omega), fun _ => ⟨I3.out.1, I3.out.2.1, Nat.le_trans I3.out.2.2 (Nat.le_of_eq size7.symm)⟩, Q_J13, fun _ h1_ => absurd ((hon 6 (by kernel_rfl)).symm.trans h1_) (by decide), fun _ => bfar7 B6f.out D67.out, fun _ => ⟨G6.out.1, Nat.lt_of_lt_of_eq G6.out.2 size7.symm⟩, fun _ h1_ => absurd ((Zfd b 7).symm.trans h1_) (by decide), fun _ => bput7 B7.out, fun _ => ⟨G7.out.1, Nat.lt_of_lt_of_eq G7.out.2 size7.symm⟩, Q_D61, Q_D71, Q_D63, Q_D73, Q_D67, Q_X1_, Q_X3_, Q_X4_, Q_X5_⟩
   exact steps_nil
 rintro b a w' hall ⟨v1, v2, v5, u1, u2, u5, g6, g7, a1, b1, a3, b3, m1_, m3_, m4_, m5_, ha, Q_HBR, Q_BKC, Q_R1a, Q_R1b, Q_R1c, Q_I1, Q_R3a, Q_R3b, Q_R3c, Q_I3, Q_J13, Q_B6, Q_B6f, Q_G6, Q_B7, Q_B7f, Q_G7, Q_D61, Q_D71, Q_D63, Q_D73, Q_D67, Q_X1_, Q_X3_, Q_X4_, Q_X5_⟩
 clear BKC HBR
 have hb0_ := hall 0 (by kernel_rfl)
 have hb1_ := hall 1 (by kernel_rfl)
 have hb2_ := hall 2 (by kernel_rfl)
 have hb3_ := hall 3 (by kernel_rfl)
 have hb4_ := hall 4 (by kernel_rfl)
 have hb5_ := hall 5 (by kernel_rfl)
 have hb6_ := hall 6 (by kernel_rfl)
 have hb7_ := hall 7 (by kernel_rfl)
 subst ha
 obtain rfl := Q_X1_ hb1_
 obtain rfl := Q_X3_ hb3_
 obtain rfl := Q_X4_ hb4_
 obtain rfl := Q_X5_ hb5_
 simp only [putSel, hb0_, hb1_, hb2_, hb3_, hb4_, hb5_, hb6_, hb7_, if_true, Act.put, List.setIfInBounds_toArray, List.set_cons_zero, List.set_cons_succ]
 have HBR := Za.mk Q_HBR
 clear Q_HBR
 have BKC := Za.mk Q_BKC
 clear Q_BKC
 have R1a := Za.mk (Q_R1a hb1_)
 clear Q_R1a
 have R1b := Za.mk (Q_R1b hb1_)
 clear Q_R1b
 have R1c := Za.mk (Q_R1c hb1_)
 clear Q_R1c
 have I1 := Za.mk (Q_I1 hb1_)
 clear Q_I1
 have R3a := Za.mk (Q_R3a hb3_)
 clear Q_R3a
 have R3b := Za.mk (Q_R3b hb3_)
 clear Q_R3b
 have R3c := Za.mk (Q_R3c hb3_)
 clear Q_R3c
 have I3 := Za.mk (Q_I3 hb3_)
 clear Q_I3
 have J13 := Za.mk (Q_J13 hb1_ hb3_)
 clear Q_J13
 clear Q_B6
 have B6f := Za.mk (Q_B6f hb6_)
 clear Q_B6f
 have G6 := Za.mk (Q_G6 hb4_)
 clear Q_G6
 clear Q_B7
 have B7f := Za.mk (Q_B7f hb7_)
 clear Q_B7f
 have G7 := Za.mk (Q_G7 hb5_)
 clear Q_G7
 have D61 := Za.mk (Q_D61 hb1_ hb4_)
 clear Q_D61
 have D71 := Za.mk (Q_D71 hb1_ hb5_)
 clear Q_D71
 have D63 := Za.mk (Q_D63 hb3_ hb4_)
 clear Q_D63
 have D73 := Za.mk (Q_D73 hb3_ hb5_)
 clear Q_D73
 have D67 := Za.mk (Q_D67 hb4_ hb5_)
 clear Q_D67
 clear hall hb0_ hb1_ hb2_ hb3_ hb4_ hb5_ hb6_ hb7_
 obtain ⟨wz, rfl⟩ : ∃ x : World, x = w' := ⟨_, rfl⟩
 obtain ⟨Ao23, co23, e_⟩ := Kd.Zbw R1a.out
 subst e_
 obtain ⟨Ao25, co25, e_⟩ := Kd.Zbw R1b.out
 subst e_
 obtain ⟨Ao29, co29, e_⟩ := Kd.Zco R1c.out
 subst e_
 obtain ⟨Ao33, co33, e_⟩ := Kd.Zbw R3a.out
 subst e_
 obtain ⟨Ao35, co35, e_⟩ := Kd.Zbw R3b.out
 subst e_
 obtain ⟨Ao39, co39, e_⟩ := Kd.Zco R3c.out
 subst e_
 have F0 := Za.mk (Kd.Zdm (Kd.Zc9 (Kd.N_bound HO574.out) HBR.out) (fun _ h => h.2) : Kd.N (Kd.slice 41 k41) 39 wz w.heap.size (fun k_ => k_ < w16.heap.size) v573 t572)
 have F1 := Za.mk (Kd.Zbm (Kd.Zb3 (Kd.Zcw HO578.out) HBR.out) (fun _ h => h.2.2.1) : Kd.R (Kd.int .i64) 3 wz w.heap.size (fun k_ => k_ < w16.heap.size) (.slice Ao12 t576.length co12) t576)
 have F2 := Za.mk (Kd.Zbm (Kd.Zb3 (Kd.Zcw HO581.out) HBR.out) (fun _ h => h.2.2.1) : Kd.R (Kd.int .i64) 3 wz w.heap.size (fun k_ => k_ < w16.heap.size) (.slice Ao13 t579.length co13) t579)
 have F5 := Za.mk (Kd.Zdm (Kd.Zc9 (Kd.N_bound HO586.out) HBR.out) (fun _ h => h.2) : Kd.N (Kd.slice 3 (Kd.int .i64)) 23 wz w.heap.size (fun k_ => k_ < w16.heap.size) (.slice Ao14 t584.length co14) t584)
 have hb_ := Za.mk (Zan HB.out HBR.out)
 have HZ := Za.mk HBR.out.size
 have HW := Za.mk (HB.out.size : w.heap.size ≤ w16.heap.size)
 clear HO574 HO578 HO581 HO586 BK571 BK589 HB HBR
 have HB := hb_
 clear hb_ I1 I3 J13 hHeld
 have GE6 := Za.mk (Nat.le_trans HW.out G6.out.1)
 have GE7 := Za.mk (Nat.le_trans HW.out G7.out.1)
 have NC6 := Za.mk (fun he => by have h1_ := BKL.out; have h2_ := G6.out.1; rw [he] at h1_; omega : gb589 ≠ g6)
 have NC7 := Za.mk (fun he => by have h1_ := BKL.out; have h2_ := G7.out.1; rw [he] at h1_; omega : gb589 ≠ g7)
 try go_wp2_with (first | ((with_reducible refine Zbv (N := 28) rfl ?_); refine Kd.N_lit (Kd.slice 3 (Kd.int .i64)) _ 23 ?hg (N' := 28) ?hd (xs := ([] : List (List Int))) (inner := []) (ok := (fun k_ => k_ < w16.heap.size ∨ wz.heap.size ≤ k_)) (okp := (fun k_ => k_ < w16.heap.size ∨ wz.heap.size ≤ k_)) ?hr ?hp (fun _ hk => hk) (Or.inr (Nat.le_refl _)) (Below.refl _ _) (Nat.le_refl _) (by simp) ?_; (case hd => rfl); (case hg => rfl); (case hr => first | (go_simp; done) | (go_simp; rfl)); (case hp => exact (Reps.none _ _)); intro v620 w42 ho43 hb hg_ hnew_; clear hg_ hnew_; (first | rw [← Ny619.out] at ho43 | (simp only [Int.reduceToNat] at ho43; rw [← Ny619.out] at ho43)); obtain ⟨Ao44, co44, eo44⟩ := Kd.Zco ho43; subst eo44; have HS := Za.mk (BackAt.start HB.out hb ho43 B6f.out : BackAt w wz w16.heap.size g6 (.int .i64 t591) (.slice Ao23 t592.length co23) (.slice Ao25 t595.length co25) (.int .i64 t598) (.int .i64 t599) (.int .i64 t603) w42 (.slice Ao29 t600.length co29) (.slice Ao44 y619.length co44) y619); clear ho43; have BK589 := Za6 BKC.out hb; clear hb; have hnb46 := Ne.symm NC6.out; have hnc46 := NC6.out; have hcz48_0 : w42.cell? ⟨g6, 0, none⟩ = some (.int .i64 t591) := (Zae HS.out.bk 0).trans rfl; have hfz48_0 := Zax HS.out.bk 0; have hcz48_1 : w42.cell? ⟨g6, 1, none⟩ = some (.slice Ao23 t592.length co23) := (Zae HS.out.bk 1).trans rfl; have hfz48_1 := Zax HS.out.bk 1; have hcz48_2 : w42.cell? ⟨g6, 2, none⟩ = some (.slice Ao25 t595.length co25) := (Zae HS.out.bk 2).trans rfl; have hfz48_2 := Zax HS.out.bk 2; have hcz48_3 : w42.cell? ⟨g6, 3, none⟩ = some (.int .i64 t598) := (Zae HS.out.bk 3).trans rfl; have hfz48_3 := Zax HS.out.bk 3; have hcz48_4 : w42.cell? ⟨g6, 4, none⟩ = some (.int .i64 t599) := (Zae HS.out.bk 4).trans rfl; have hfz48_4 := Zax HS.out.bk 4; have hcz48_5 : w42.cell? ⟨g6, 5, none⟩ = some (.slice Ao29 t600.length co29) := (Zae HS.out.bk 5).trans rfl; have hfz48_5 := Zax HS.out.bk 5; have hcz48_6 : w42.cell? ⟨g6, 6, none⟩ = some (.int .i64 t603) := (Zae HS.out.bk 6).trans rfl; have hfz48_6 := Zax HS.out.bk 6; have hcz50_0 : w42.cell? ⟨gb589, 0, none⟩ = some (.int .i64 t575) := (Zae BK589 0).trans rfl; have hcz50_1 : w42.cell? ⟨gb589, 1, none⟩ = some (.slice Ao12 t576.length co12) := (Zae BK589 1).trans rfl; have hcz50_2 : w42.cell? ⟨gb589, 2, none⟩ = some (.slice Ao13 t579.length co13) := (Zae BK589 2).trans rfl; have hcz50_3 : w42.cell? ⟨gb589, 3, none⟩ = some (.int .i64 t582) := (Zae BK589 3).trans rfl; have hcz50_4 : w42.cell? ⟨gb589, 4, none⟩ = some (.int .i64 t583) := (Zae BK589 4).trans rfl; have hcz50_5 : w42.cell? ⟨gb589, 5, none⟩ = some (.slice Ao14 t584.length co14) := (Zae BK589 5).trans rfl; have hcz50_6 : w42.cell? ⟨gb589, 6, none⟩ = some (.int .i64 t587) := (Zae BK589 6).trans rfl))
 go_loopg [8] k (fun kq v8 w' => ∃ (x8_1 : Int) (x618005_1 : List (List Int)) (u618005 : Value), v8 = .int .i64 x8_1 ∧ Za (Zad.l0 kq t572 x8_1 t575 t576 t579 t582 t583 t584 t587 t591 t592 t595 t598 t599 x618005_1 t603 t604 t605 t608 t611 t612 t613 t616 = some r) ∧ Za (kq ≤ k) ∧ Za (BackAt w wz w16.heap.size g6 (.int .i64 t591) (.slice Ao23 t592.length co23) (.slice Ao25 t595.length co25) (.int .i64 t598) (.int .i64 t599) (.int .i64 t603) w' u618005 u618005 x618005_1))
 case atStart => exact ⟨(wrap64 ((t584.length : Int) - 1)), (y619), (.slice Ao44 y619.length co44), (by first | rfl | (simp; done) | (simp [*]; done)), H', ⟨Nat.le_refl _⟩, ⟨by (with_reducible repeat (first | apply BackAt.drewN | apply BackAt.drew)); exact BackAt.put HS.out G6.out.1 G6.out.2 GE6.out⟩⟩
 case round =>
  clear H' HS BK589 hnb46 hnc46
  try clear hcz48_0
  try clear hcz48_1
  try clear hcz48_2
  try clear hcz48_3
  try clear hcz48_4
  try clear hcz48_5
  try clear hcz48_6
  try clear hfz48_0
  try clear hfz48_1
  try clear hfz48_2
  try clear hfz48_3
  try clear hfz48_4
  try clear hfz48_5
  try clear hfz48_6
  try clear hcz50_0
  try clear hcz50_1
  try clear hcz50_2
  try clear hcz50_3
  try clear hcz50_4
  try clear hcz50_5
  try clear hcz50_6
  obtain ⟨x8_1, x618005_1, u618005, rfl, HA, HK1, BA⟩ := hrel
  cases gk with
  | zero => exact absurd HA.out (by simp [Zad.l0])
  | succ k1 =>
   have H := HA.out
   clear HA
   simp only [Zad.l0] at H
   by_cases c51 : x8_1 ≥ 0
   ·rw [if_pos c51] at H
    have c51b0 : decide (0 ≤ x8_1) = true := decide_eq_true c51
    clear c51
    by_cases c52 : 0 ≤ x8_1
    rotate_left
    ·rw [if_neg c52] at H
     exact absurd H (by simp)
    rw [if_pos c52] at H
    have c52b0 : decide (0 ≤ x8_1) = true := decide_eq_true c52
    clear c52
    by_cases c53 : x8_1 < (t584.length : Int)
    rotate_left
    ·rw [if_neg c53] at H
     exact absurd H (by simp)
    rw [if_pos c53] at H
    have c53b0 : decide (x8_1 < (t584.length : Int)) = true := decide_eq_true c53
    clear c53
    by_cases c54 : x618005_1.length < 5864062014805
    rotate_left
    ·rw [if_neg c54] at H
     exact absurd H (by simp)
    rw [if_pos c54] at H
    have LMc54 := Za.mk c54
    clear c54
    obtain ⟨y623, hy623⟩ : ∃ y_ : List (List Int), y_ = (x618005_1 ++ [Zbt t584 x8_1]) := ⟨_, rfl⟩
    replace H : (if y623.length < 5864062014805 then (Zad.l0 k1 t572 (wrap64 (x8_1 - 1)) t575 t576 t579 t582 t583 t584 t587 t591 t592 t595 t598 t599 (y623 ++ [Zbt t584 x8_1]) t603 t604 t605 t608 t611 t612 t613 t616) else (none)) = some r := by first | (rw [hy623]; with_reducible exact H) | (have H2_ := (Option.bind_some _ _).symm.trans H; rw [hy623]; with_reducible exact H2_) | (have H2_ := (Option.bind_some _ _).symm.trans H; with_reducible exact H2_) | with_reducible exact H | (rw [hy623]; exact H) | exact H
    have Ny623 := Za.mk hy623
    clear hy623
    by_cases c55 : y623.length < 5864062014805
    rotate_left
    ·rw [if_neg c55] at H
     exact absurd H (by simp)
    rw [if_pos c55] at H
    have LMc55 := Za.mk c55
    clear c55
    obtain ⟨y627, hy627⟩ : ∃ y_ : List (List Int), y_ = (y623 ++ [Zbt t584 x8_1]) := ⟨_, rfl⟩
    replace H : (Zad.l0 k1 t572 (wrap64 (x8_1 - 1)) t575 t576 t579 t582 t583 t584 t587 t591 t592 t595 t598 t599 y627 t603 t604 t605 t608 t611 t612 t613 t616) = some r := by first | (rw [hy627]; with_reducible exact H) | (have H2_ := (Option.bind_some _ _).symm.trans H; rw [hy627]; with_reducible exact H2_) | (have H2_ := (Option.bind_some _ _).symm.trans H; with_reducible exact H2_) | with_reducible exact H | (rw [hy627]; exact H) | exact H
    have Ny627 := Za.mk hy627
    clear hy627
    have H' := Za.mk H
    clear H
    try go_wp2
    have BA1 := Za.mk BA.out.drew
    clear BA
    have BA := BA1
    clear BA1
    have F5r := Za.mk (Kd.Zfw F5.out BA.out.kp (fun k_ hk he => by subst he; exact absurd hk (Nat.not_lt.2 G6.out.1)))
    have BK589 := Za.mk (Zeu BKC.out BA.out.kp NC6.out)
    have BK617 := Za.mk BA.out.bk
    have p622 : 0 ≤ (x8_1 : Int) := of_decide_eq_true (by first | (with_reducible assumption) | assumption)
    have q622 : x8_1 < (t584.length : Int) := of_decide_eq_true (by first | (with_reducible assumption) | assumption)
    obtain ⟨ad622, A622_0, c622_0, e622, hx622_0, hl622_0, hi622_0⟩ := Zd2 (Kd.Zb5 F5r.out).2.2 x8_1 p622 q622
    cases e622
    obtain ⟨ce622, hce622, hMe622, hcc622⟩ := Kd.N_get F5r.out [] x8_1 p622 (by first | exact q622 | exact of_decide_eq_true (by first | (with_reducible assumption) | assumption) | (have e_ := (Kd.Zb5 F5r.out).1; omega))
    obtain ⟨ua622_0, uc622_0, rfl, ul622_0, ge622_0⟩ := Kd.Zer hMe622
    have hv622_0 := hcc622 0 _ rfl
    rw [Nat.add_zero, show ((Kd.slice 3 (Kd.int .i64))).sz = 1 from rfl, Nat.mul_one] at hv622_0
    replace hv622_0 := Option.some.inj (hv622_0.symm.trans hx622_0)
    injection hv622_0 with hva_ hvn_ hvc_
    rw [hva_] at ge622_0
    rw [hvc_] at ul622_0
    have HL622_0 := Za.mk (show Kd.V (Kd.int .i64) 3 _ w.heap.size _ _ (Zbt t584 x8_1) from Kd.V_mk ul622_0 ge622_0)
    clear hva_ hvn_ hvc_ ge622_0 ul622_0
    clear hcc622 hce622
    have HR622_0 := Za.mk hi622_0
    have HC622_0 := Za.mk hl622_0
    clear hi622_0 hl622_0
    replace p622 := eq_true p622
    replace q622 := eq_true q622
    refine Zdl (n := 11) (S := fun w' => w'.cell? ⟨g6, 0, none⟩ = some (.int .i64 t591) ∧ w'.cell? ⟨g6, 1, none⟩ = some (.slice Ao23 t592.length co23) ∧ w'.cell? ⟨g6, 2, none⟩ = some (.slice Ao25 t595.length co25) ∧ w'.cell? ⟨g6, 3, none⟩ = some (.int .i64 t598) ∧ w'.cell? ⟨g6, 4, none⟩ = some (.int .i64 t599) ∧ w'.cell? ⟨g6, 5, none⟩ = some (u618005) ∧ w'.cell? ⟨g6, 6, none⟩ = some (.int .i64 t603) ∧ w'.cell? ⟨gb589, 0, none⟩ = some (.int .i64 t575) ∧ w'.cell? ⟨gb589, 1, none⟩ = some (.slice Ao12 t576.length co12) ∧ w'.cell? ⟨gb589, 2, none⟩ = some (.slice Ao13 t579.length co13) ∧ w'.cell? ⟨gb589, 3, none⟩ = some (.int .i64 t582) ∧ w'.cell? ⟨gb589, 4, none⟩ = some (.int .i64 t583) ∧ w'.cell? ⟨gb589, 5, none⟩ = some (.slice (some ad622) t584.length co14) ∧ w'.cell? ⟨gb589, 6, none⟩ = some (.int .i64 t587) ∧ w'.cell? (ad622.add (x8_1).toNat) = some (.slice A622_0 (Zbt t584 x8_1).length c622_0)) (ds := [8, 10]) #[false, false, false, false, false, false, false, false, false, false, false] (by kernel_rfl) rfl rfl ⟨(Zae BK617.out 0).trans rfl, (Zae BK617.out 1).trans rfl, (Zae BK617.out 2).trans rfl, (Zae BK617.out 3).trans rfl, (Zae BK617.out 4).trans rfl, (Zae BK617.out 5).trans rfl, (Zae BK617.out 6).trans rfl, (Zae BK589.out 0).trans rfl, (Zae BK589.out 1).trans rfl, (Zae BK589.out 2).trans rfl, (Zae BK589.out 3).trans rfl, (Zae BK589.out 4).trans rfl, (Zae BK589.out 5).trans rfl, (Zae BK589.out 6).trans rfl, hx622_0⟩ (fun hHeld => ?_); refine Zcl Zad.tab9 Zad.bits9 (fun HT_ HW_ => ?_)
    generalize wr.drew = w56 at BA F5r BK589 BK617 HL622_0 HR622_0 hx622_0 hHeld ⊢
    refine Zbn (i := 0) (N := some 38) (v := ?_) (a' := ?_) #[true, false, false, false, false, false, false, false, false, false, false] rfl rfl (Za5 HT_.out (by kernel_rfl)) (fun _ _ _ h => h) (Or.inl ⟨by rfl, ?_⟩) ?_ ?_
    rotate_left
    ·intro w'
     go_simp
     with_reducible rfl
    rotate_left
    ·simp only [Act.put, List.setIfInBounds_toArray, List.set_cons_zero, List.set_cons_succ, Za4, Za7]
     rfl
    refine Zbn (i := 2) (N := some 40) (v := ?_) (a' := ?_) #[true, false, true, false, false, false, false, false, false, false, false] rfl rfl (Za5 HT_.out (by kernel_rfl)) (fun _ _ _ h => h) (Or.inl ⟨by rfl, ?_⟩) ?_ ?_
    rotate_left
    ·intro w'
     go_simp
     with_reducible rfl
    rotate_left
    ·simp only [Act.put, List.setIfInBounds_toArray, List.set_cons_zero, List.set_cons_succ, Za4, Za7]
     rfl
    refine Zbn (i := 4) (N := some 42) (v := ?_) (a' := ?_) #[true, false, true, false, true, false, false, false, false, false, false] rfl rfl (Za5 HT_.out (by kernel_rfl)) (fun _ _ _ h => h) (Or.inl ⟨by rfl, ?_⟩) ?_ ?_
    rotate_left
    ·intro w'
     go_simp
     with_reducible rfl
    rotate_left
    ·simp only [Act.put, List.setIfInBounds_toArray, List.set_cons_zero, List.set_cons_succ, Za4, Za7]
     rfl
    refine Zc3 (i := 1) (N := some 39) (v := ?_) (a' := ?_) #[true, true, true, false, true, false, false, false, false, false, false] rfl rfl (Zb1 HT_.out HW_.out (by kernel_rfl)) (fun _ _ _ h => h) (Or.inl ⟨by rfl, ?_⟩) hHeld ?_ ?_
    rotate_left
    ·rintro w' ⟨s0, s1, s2, s3, s4, s5, s6, s7, s8, s9, s10, s11, s12, s13, s14⟩
     go_simp
     with_reducible rfl
    rotate_left
    ·simp only [Act.put, List.setIfInBounds_toArray, List.set_cons_zero, List.set_cons_succ, Za4, Za7]
     rfl
    refine Zc3 (i := 3) (N := some 41) (v := ?_) (a' := ?_) #[true, true, true, true, true, false, false, false, false, false, false] rfl rfl (Zb1 HT_.out HW_.out (by kernel_rfl)) (fun _ _ _ h => h) (Or.inl ⟨by rfl, ?_⟩) hHeld ?_ ?_
    rotate_left
    ·rintro w' ⟨s0, s1, s2, s3, s4, s5, s6, s7, s8, s9, s10, s11, s12, s13, s14⟩
     go_simp
     with_reducible rfl
    rotate_left
    ·simp only [Act.put, List.setIfInBounds_toArray, List.set_cons_zero, List.set_cons_succ, Za4, Za7]
     rfl
    refine Zbn (i := 5) (N := some 43) (v := ?_) (a' := ?_) #[true, true, true, true, true, true, false, false, false, false, false] rfl rfl (Za5 HT_.out (by kernel_rfl)) (fun _ _ _ h => h) (Or.inl ⟨by rfl, ?_⟩) ?_ ?_
    rotate_left
    ·intro w'
     go_simp
     with_reducible rfl
    rotate_left
    ·simp only [Act.put, List.setIfInBounds_toArray, List.set_cons_zero, List.set_cons_succ, Za4, Za7]
     rfl
    refine Zc3 (i := 6) (N := some 44) (v := ?_) (a' := ?_) #[true, true, true, true, true, true, true, false, false, false, false] rfl rfl (Zb1 HT_.out HW_.out (by kernel_rfl)) (fun _ _ _ h => h) (Or.inl ⟨by rfl, ?_⟩) hHeld ?_ ?_
    rotate_left
    ·rintro w' ⟨s0, s1, s2, s3, s4, s5, s6, s7, s8, s9, s10, s11, s12, s13, s14⟩
     go_simp
     with_reducible rfl
    rotate_left
    ·simp only [Act.put, List.setIfInBounds_toArray, List.set_cons_zero, List.set_cons_succ, Za4, Za7]
     rfl
    refine one_ (i := 7) (N := some 45) #[true, true, true, true, true, true, true, true, false, false, false] rfl rfl (Zc4 HT_.out (by kernel_rfl)) (by decide) (fun K hK => ?_)
    refine Zgg (w1 := ?_) (v := ?_) (by rfl) rfl ?_ ?_
    rotate_left 2
    ·go_simp
     constructor
     ·rfl
     rfl
    refine hK.out _ _ ⟨(Zae (Zaf BK617.out _) 0).trans rfl, (Zae (Zaf BK617.out _) 1).trans rfl, (Zae (Zaf BK617.out _) 2).trans rfl, (Zae (Zaf BK617.out _) 3).trans rfl, (Zae (Zaf BK617.out _) 4).trans rfl, (Zae (Zaf BK617.out _) 5).trans rfl, (Zae (Zaf BK617.out _) 6).trans rfl, (Zae (Zaf BK589.out _) 0).trans rfl, (Zae (Zaf BK589.out _) 1).trans rfl, (Zae (Zaf BK589.out _) 2).trans rfl, (Zae (Zaf BK589.out _) 3).trans rfl, (Zae (Zaf BK589.out _) 4).trans rfl, (Zae (Zaf BK589.out _) 5).trans rfl, (Zae (Zaf BK589.out _) 6).trans rfl, (World.cell?_alloc_lt _ _ _ (World.block_lt_of_cell? _ _ (hHeld.2.2.2.2.2.2.2.2.2.2.2.2.2.2))).trans (hHeld.2.2.2.2.2.2.2.2.2.2.2.2.2.2)⟩ (fun hHeld => ?_)
    clear hK K
    refine Zea (a' := ?_) ?_ ?_
    rotate_left
    ·show Act.put _ (some 45) _ = _
     simp only [Act.put, List.setIfInBounds_toArray, List.set_cons_zero, List.set_cons_succ, Za4, Za7]
     rfl
    refine last_ (i := 8) (N := some 46) #[true, true, true, true, true, true, true, true, true, false, false] rfl rfl (Zc4 HT_.out (by kernel_rfl)) (by decide) (fun K hK => ?_)
    refine Kd.Zes (Kd.slice 3 (Kd.int .i64)) (w0 := w) w.heap.size (by rfl) (.tmp 39) (.tmp 45) 22 23 (.slice none 0 0) 24 rfl Try.underlying22 Zex rfl (by decide) (by omega) (u618005) x618005_1 (Zbt t584 x8_1) [.slice A622_0 (Zbt t584 x8_1).length c622_0] (fun k_ => k_ < w16.heap.size ∨ wz.heap.size ≤ k_) (fun k_ => k_ < w16.heap.size) rfl rfl ?aP (fun k_ hk => ⟨Or.inl hk, fun he => absurd (BA.out.ub k_ he.symm) (Nat.not_le.2 (Nat.lt_of_lt_of_le hk HZ.out))⟩) (fun k_ hk => Or.inr (Nat.le_trans BA.out.kp.1 hk)) (mvN BA.out.hn) (mvB BA.out.hb) (Zam (mvB BA.out.hb)) (by have := LMc54.out; omega) ?_
    (case aP => exact (Kd.Zfu (Kd.V_reads' (Kd.Zfy (ok' := (fun k_ => k_ < w16.heap.size)) HL622_0.out (fun k_ hk => hk.1))).2.1 (Kd.V_F (Kd.Zfy (ok' := (fun k_ => k_ < w16.heap.size)) HL622_0.out (fun k_ hk => hk.1)))))
    intro v624 w57 ho hb hg hat
    rw [← Ny623.out] at ho
    have BA1 := Za.mk (BA.out.grow G6.out.2 ho hb hg hat)
    clear BA ho hb hg hat F5r BK589 BK617 HL622_0
    have BA := BA1
    clear BA1
    obtain ⟨Ao58, co58, eo58⟩ := Kd.Zco BA.out.hn
    subst eo58
    refine hK.out _ _ ?_
    clear hK K
    refine Zea (a' := ?_) ?_ ?_
    rotate_left
    ·show Act.put _ (some 46) _ = _
     simp only [Act.put, List.setIfInBounds_toArray, List.set_cons_zero, List.set_cons_succ, Za4, Za7]
     rfl
    refine Zbn (i := 9) (N := some 47) (v := ?_) (a' := ?_) #[true, true, true, true, true, true, true, true, true, true, false] rfl rfl (Za5 HT_.out (by kernel_rfl)) (fun _ _ _ h => h) (Or.inl ⟨by rfl, ?_⟩) ?_ ?_
    rotate_left
    ·intro w'
     go_simp
     with_reducible rfl
    rotate_left
    ·simp only [Act.put, List.setIfInBounds_toArray, List.set_cons_zero, List.set_cons_succ, Za4, Za7]
     rfl
    refine last_ (i := 10) (N := none) #[true, true, true, true, true, true, true, true, true, true, true] rfl rfl (Zc4 HT_.out (by kernel_rfl)) (by decide) (fun K hK => ?_)
    have hs59 : w57.cell? ⟨g6, 5, none⟩ = some (u618005) := (Zae BA.out.bk 5).trans rfl
    have hfs59 := Zax BA.out.bk 5
    refine skip_ (w1 := ?_) (by rfl) rfl ?_ ?_
    rotate_left
    ·go_simp
     rfl
    refine hK.out _ _ ?_
    clear hK K
    refine Zew (Zc7 HT_.out (by kernel_rfl)) ?_
    try go_wp2
    clear hs59 hfs59
    have BA1 := Za.mk (BA.out.put G6.out.1 G6.out.2 GE6.out).drew
    clear BA
    have BA := BA1
    clear BA1
    generalize (w57.setCell ⟨g6, 5, none⟩ (.slice Ao58 y623.length co58)) = w60 at BA ⊢
    have F5r := Za.mk (Kd.Zfw F5.out BA.out.kp (fun k_ hk he => by subst he; exact absurd hk (Nat.not_lt.2 G6.out.1)))
    have BK589 := Za.mk (Zeu BKC.out BA.out.kp NC6.out)
    have BK617 := Za.mk BA.out.bk
    have p626 : 0 ≤ (x8_1 : Int) := of_decide_eq_true (by first | (with_reducible assumption) | assumption)
    have q626 : x8_1 < (t584.length : Int) := of_decide_eq_true (by first | (with_reducible assumption) | assumption)
    obtain ⟨ad626, A626_0, c626_0, e626, hx626_0, hl626_0, hi626_0⟩ := Zd2 (Kd.Zb5 F5r.out).2.2 x8_1 p626 q626
    obtain rfl : ad622 = ad626 := (by injection e626)
    obtain ⟨ce626, hce626, hMe626, hcc626⟩ := Kd.N_get F5r.out [] x8_1 p626 (by first | exact q626 | exact of_decide_eq_true (by first | (with_reducible assumption) | assumption) | (have e_ := (Kd.Zb5 F5r.out).1; omega))
    obtain ⟨ua626_0, uc626_0, rfl, ul626_0, ge626_0⟩ := Kd.Zer hMe626
    have hv626_0 := hcc626 0 _ rfl
    rw [Nat.add_zero, show ((Kd.slice 3 (Kd.int .i64))).sz = 1 from rfl, Nat.mul_one] at hv626_0
    replace hv626_0 := Option.some.inj (hv626_0.symm.trans hx626_0)
    injection hv626_0 with hva_ hvn_ hvc_
    rw [hva_] at ge626_0
    rw [hvc_] at ul626_0
    have HL626_0 := Za.mk (show Kd.V (Kd.int .i64) 3 _ w.heap.size _ _ (Zbt t584 x8_1) from Kd.V_mk ul626_0 ge626_0)
    clear hva_ hvn_ hvc_ ge626_0 ul626_0
    clear hcc626 hce626
    have HR626_0 := Za.mk hi626_0
    have HC626_0 := Za.mk hl626_0
    clear hi626_0 hl626_0
    replace p626 := eq_true p626
    replace q626 := eq_true q626
    refine Zdl (n := 11) (S := fun w' => w'.cell? ⟨g6, 0, none⟩ = some (.int .i64 t591) ∧ w'.cell? ⟨g6, 1, none⟩ = some (.slice Ao23 t592.length co23) ∧ w'.cell? ⟨g6, 2, none⟩ = some (.slice Ao25 t595.length co25) ∧ w'.cell? ⟨g6, 3, none⟩ = some (.int .i64 t598) ∧ w'.cell? ⟨g6, 4, none⟩ = some (.int .i64 t599) ∧ w'.cell? ⟨g6, 5, none⟩ = some (.slice Ao58 y623.length co58) ∧ w'.cell? ⟨g6, 6, none⟩ = some (.int .i64 t603) ∧ w'.cell? ⟨gb589, 0, none⟩ = some (.int .i64 t575) ∧ w'.cell? ⟨gb589, 1, none⟩ = some (.slice Ao12 t576.length co12) ∧ w'.cell? ⟨gb589, 2, none⟩ = some (.slice Ao13 t579.length co13) ∧ w'.cell? ⟨gb589, 3, none⟩ = some (.int .i64 t582) ∧ w'.cell? ⟨gb589, 4, none⟩ = some (.int .i64 t583) ∧ w'.cell? ⟨gb589, 5, none⟩ = some (.slice (some ad622) t584.length co14) ∧ w'.cell? ⟨gb589, 6, none⟩ = some (.int .i64 t587) ∧ w'.cell? (ad622.add (x8_1).toNat) = some (.slice A626_0 (Zbt t584 x8_1).length c626_0)) (ds := [8, 10]) #[false, false, false, false, false, false, false, false, false, false, false] (by kernel_rfl) rfl rfl ⟨(Zae BK617.out 0).trans rfl, (Zae BK617.out 1).trans rfl, (Zae BK617.out 2).trans rfl, (Zae BK617.out 3).trans rfl, (Zae BK617.out 4).trans rfl, (Zae BK617.out 5).trans rfl, (Zae BK617.out 6).trans rfl, (Zae BK589.out 0).trans rfl, (Zae BK589.out 1).trans rfl, (Zae BK589.out 2).trans rfl, (Zae BK589.out 3).trans rfl, (Zae BK589.out 4).trans rfl, (Zae BK589.out 5).trans rfl, (Zae BK589.out 6).trans rfl, hx626_0⟩ (fun hHeld => ?_); refine Zcl Zad.tab10 Zad.bits10 (fun HT_ HW_ => ?_)
    generalize w60.drew = w61 at BA F5r BK589 BK617 HL626_0 HR626_0 hx626_0 hHeld ⊢
    refine Zbn (i := 0) (N := some 48) (v := ?_) (a' := ?_) #[true, false, false, false, false, false, false, false, false, false, false] rfl rfl (Za5 HT_.out (by kernel_rfl)) (fun _ _ _ h => h) (Or.inl ⟨by rfl, ?_⟩) ?_ ?_
    rotate_left
    ·intro w'
     go_simp
     with_reducible rfl
    rotate_left
    ·simp only [Act.put, List.setIfInBounds_toArray, List.set_cons_zero, List.set_cons_succ, Za4, Za7]
     rfl
    refine Zbn (i := 2) (N := some 50) (v := ?_) (a' := ?_) #[true, false, true, false, false, false, false, false, false, false, false] rfl rfl (Za5 HT_.out (by kernel_rfl)) (fun _ _ _ h => h) (Or.inl ⟨by rfl, ?_⟩) ?_ ?_
    rotate_left
    ·intro w'
     go_simp
     with_reducible rfl
    rotate_left
    ·simp only [Act.put, List.setIfInBounds_toArray, List.set_cons_zero, List.set_cons_succ, Za4, Za7]
     rfl
    refine Zbn (i := 4) (N := some 52) (v := ?_) (a' := ?_) #[true, false, true, false, true, false, false, false, false, false, false] rfl rfl (Za5 HT_.out (by kernel_rfl)) (fun _ _ _ h => h) (Or.inl ⟨by rfl, ?_⟩) ?_ ?_
    rotate_left
    ·intro w'
     go_simp
     with_reducible rfl
    rotate_left
    ·simp only [Act.put, List.setIfInBounds_toArray, List.set_cons_zero, List.set_cons_succ, Za4, Za7]
     rfl
    refine Zc3 (i := 1) (N := some 49) (v := ?_) (a' := ?_) #[true, true, true, false, true, false, false, false, false, false, false] rfl rfl (Zb1 HT_.out HW_.out (by kernel_rfl)) (fun _ _ _ h => h) (Or.inl ⟨by rfl, ?_⟩) hHeld ?_ ?_
    rotate_left
    ·rintro w' ⟨s0, s1, s2, s3, s4, s5, s6, s7, s8, s9, s10, s11, s12, s13, s14⟩
     go_simp
     with_reducible rfl
    rotate_left
    ·simp only [Act.put, List.setIfInBounds_toArray, List.set_cons_zero, List.set_cons_succ, Za4, Za7]
     rfl
    refine Zc3 (i := 3) (N := some 51) (v := ?_) (a' := ?_) #[true, true, true, true, true, false, false, false, false, false, false] rfl rfl (Zb1 HT_.out HW_.out (by kernel_rfl)) (fun _ _ _ h => h) (Or.inl ⟨by rfl, ?_⟩) hHeld ?_ ?_
    rotate_left
    ·rintro w' ⟨s0, s1, s2, s3, s4, s5, s6, s7, s8, s9, s10, s11, s12, s13, s14⟩
     go_simp
     with_reducible rfl
    rotate_left
    ·simp only [Act.put, List.setIfInBounds_toArray, List.set_cons_zero, List.set_cons_succ, Za4, Za7]
     rfl
    refine Zbn (i := 5) (N := some 53) (v := ?_) (a' := ?_) #[true, true, true, true, true, true, false, false, false, false, false] rfl rfl (Za5 HT_.out (by kernel_rfl)) (fun _ _ _ h => h) (Or.inl ⟨by rfl, ?_⟩) ?_ ?_
    rotate_left
    ·intro w'
     go_simp
     with_reducible rfl
    rotate_left
    ·simp only [Act.put, List.setIfInBounds_toArray, List.set_cons_zero, List.set_cons_succ, Za4, Za7]
     rfl
    refine Zc3 (i := 6) (N := some 54) (v := ?_) (a' := ?_) #[true, true, true, true, true, true, true, false, false, false, false] rfl rfl (Zb1 HT_.out HW_.out (by kernel_rfl)) (fun _ _ _ h => h) (Or.inl ⟨by rfl, ?_⟩) hHeld ?_ ?_
    rotate_left
    ·rintro w' ⟨s0, s1, s2, s3, s4, s5, s6, s7, s8, s9, s10, s11, s12, s13, s14⟩
     go_simp
     with_reducible rfl
    rotate_left
    ·simp only [Act.put, List.setIfInBounds_toArray, List.set_cons_zero, List.set_cons_succ, Za4, Za7]
     rfl
    refine one_ (i := 7) (N := some 55) #[true, true, true, true, true, true, true, true, false, false, false] rfl rfl (Zc4 HT_.out (by kernel_rfl)) (by decide) (fun K hK => ?_)
    refine Zgg (w1 := ?_) (v := ?_) (by rfl) rfl ?_ ?_
    rotate_left 2
    ·go_simp
     constructor
     ·rfl
     rfl
    refine hK.out _ _ ⟨(Zae (Zaf BK617.out _) 0).trans rfl, (Zae (Zaf BK617.out _) 1).trans rfl, (Zae (Zaf BK617.out _) 2).trans rfl, (Zae (Zaf BK617.out _) 3).trans rfl, (Zae (Zaf BK617.out _) 4).trans rfl, (Zae (Zaf BK617.out _) 5).trans rfl, (Zae (Zaf BK617.out _) 6).trans rfl, (Zae (Zaf BK589.out _) 0).trans rfl, (Zae (Zaf BK589.out _) 1).trans rfl, (Zae (Zaf BK589.out _) 2).trans rfl, (Zae (Zaf BK589.out _) 3).trans rfl, (Zae (Zaf BK589.out _) 4).trans rfl, (Zae (Zaf BK589.out _) 5).trans rfl, (Zae (Zaf BK589.out _) 6).trans rfl, (World.cell?_alloc_lt _ _ _ (World.block_lt_of_cell? _ _ (hHeld.2.2.2.2.2.2.2.2.2.2.2.2.2.2))).trans (hHeld.2.2.2.2.2.2.2.2.2.2.2.2.2.2)⟩ (fun hHeld => ?_)
    clear hK K
    refine Zea (a' := ?_) ?_ ?_
    rotate_left
    ·show Act.put _ (some 55) _ = _
     simp only [Act.put, List.setIfInBounds_toArray, List.set_cons_zero, List.set_cons_succ, Za4, Za7]
     rfl
    refine last_ (i := 8) (N := some 56) #[true, true, true, true, true, true, true, true, true, false, false] rfl rfl (Zc4 HT_.out (by kernel_rfl)) (by decide) (fun K hK => ?_)
    refine Kd.Zes (Kd.slice 3 (Kd.int .i64)) (w0 := w) w.heap.size (by rfl) (.tmp 49) (.tmp 55) 22 23 (.slice none 0 0) 24 rfl Try.underlying22 Zex rfl (by decide) (by omega) (.slice Ao58 y623.length co58) y623 (Zbt t584 x8_1) [.slice A626_0 (Zbt t584 x8_1).length c626_0] (fun k_ => k_ < w16.heap.size ∨ wz.heap.size ≤ k_) (fun k_ => k_ < w16.heap.size) rfl rfl ?aP (fun k_ hk => ⟨Or.inl hk, fun he => absurd (BA.out.ub k_ he.symm) (Nat.not_le.2 (Nat.lt_of_lt_of_le hk HZ.out))⟩) (fun k_ hk => Or.inr (Nat.le_trans BA.out.kp.1 hk)) (mvN BA.out.hn) (mvB BA.out.hb) (Zam (mvB BA.out.hb)) (by have := LMc55.out; omega) ?_
    (case aP => exact (Kd.Zfu (Kd.V_reads' (Kd.Zfy (ok' := (fun k_ => k_ < w16.heap.size)) HL626_0.out (fun k_ hk => hk.1))).2.1 (Kd.V_F (Kd.Zfy (ok' := (fun k_ => k_ < w16.heap.size)) HL626_0.out (fun k_ hk => hk.1)))))
    intro v628 w62 ho hb hg hat
    rw [← Ny627.out] at ho
    have BA1 := Za.mk (BA.out.grow G6.out.2 ho hb hg hat)
    clear BA ho hb hg hat F5r BK589 BK617 HL626_0
    have BA := BA1
    clear BA1
    obtain ⟨Ao63, co63, eo63⟩ := Kd.Zco BA.out.hn
    subst eo63
    refine hK.out _ _ ?_
    clear hK K
    refine Zea (a' := ?_) ?_ ?_
    rotate_left
    ·show Act.put _ (some 56) _ = _
     simp only [Act.put, List.setIfInBounds_toArray, List.set_cons_zero, List.set_cons_succ, Za4, Za7]
     rfl
    refine Zbn (i := 9) (N := some 57) (v := ?_) (a' := ?_) #[true, true, true, true, true, true, true, true, true, true, false] rfl rfl (Za5 HT_.out (by kernel_rfl)) (fun _ _ _ h => h) (Or.inl ⟨by rfl, ?_⟩) ?_ ?_
    rotate_left
    ·intro w'
     go_simp
     with_reducible rfl
    rotate_left
    ·simp only [Act.put, List.setIfInBounds_toArray, List.set_cons_zero, List.set_cons_succ, Za4, Za7]
     rfl
    refine last_ (i := 10) (N := none) #[true, true, true, true, true, true, true, true, true, true, true] rfl rfl (Zc4 HT_.out (by kernel_rfl)) (by decide) (fun K hK => ?_)
    have hs64 : w62.cell? ⟨g6, 5, none⟩ = some (.slice Ao58 y623.length co58) := (Zae BA.out.bk 5).trans rfl
    have hfs64 := Zax BA.out.bk 5
    refine skip_ (w1 := ?_) (by rfl) rfl ?_ ?_
    rotate_left
    ·go_simp
     rfl
    refine hK.out _ _ ?_
    clear hK K
    refine Zew (Zc7 HT_.out (by kernel_rfl)) ?_
    try go_wp2
    go_roundg k1
    case measure => have := HK1.out; omega
    case rel => exact ⟨(wrap64 (x8_1 - 1)), (y627), (.slice Ao63 y627.length co63), (by first | rfl | (simp; done) | (simp [*]; done)), H', ⟨by have := HK1.out; omega⟩, ⟨by (with_reducible repeat (first | apply BackAt.drewN | apply BackAt.drew)); exact BackAt.put BA.out G6.out.1 G6.out.2 GE6.out⟩⟩
   rw [if_neg c51] at H
   have c51b0 : decide (0 ≤ x8_1) = false := decide_eq_false c51
   clear c51
   have HC65 := Za.mk H
   clear H
   have BL := Za.mk (Zeu B7f.out BA.out.kp (Ne.symm D67.out))
   have R3r := Za.mk (Kd.Zfw R3c.out BA.out.kp (fun k_ hk he => by have h1_ := hk.1; have h2_ := D63.out; subst he; omega))
   have hcz69_0 : wr.cell? ⟨g7, 0, none⟩ = some (.int .i64 t604) := (Zae BL.out 0).trans rfl
   have hfz69_0 := Zax BL.out 0
   have hcz69_1 : wr.cell? ⟨g7, 1, none⟩ = some (.slice Ao33 t605.length co33) := (Zae BL.out 1).trans rfl
   have hfz69_1 := Zax BL.out 1
   have hcz69_2 : wr.cell? ⟨g7, 2, none⟩ = some (.slice Ao35 t608.length co35) := (Zae BL.out 2).trans rfl
   have hfz69_2 := Zax BL.out 2
   have hcz69_3 : wr.cell? ⟨g7, 3, none⟩ = some (.int .i64 t611) := (Zae BL.out 3).trans rfl
   have hfz69_3 := Zax BL.out 3
   have hcz69_4 : wr.cell? ⟨g7, 4, none⟩ = some (.int .i64 t612) := (Zae BL.out 4).trans rfl
   have hfz69_4 := Zax BL.out 4
   have hcz69_5 : wr.cell? ⟨g7, 5, none⟩ = some (.slice Ao39 t613.length co39) := (Zae BL.out 5).trans rfl
   have hfz69_5 := Zax BL.out 5
   have hcz69_6 : wr.cell? ⟨g7, 6, none⟩ = some (.int .i64 t616) := (Zae BL.out 6).trans rfl
   have hfz69_6 := Zax BL.out 6
   go_upto_if 61 with (fail)
   go_cut [] (fun wc => ∃ (kq : Nat) (x619005_64 : List (List Int)) (A7 : Option Addr) (c7 : Nat), Za (Zad.j1 kq t572 t575 t576 t579 t582 t583 t584 t587 t591 t592 t595 t598 t599 x618005_1 t603 t604 t605 t608 t611 t612 x619005_64 t616 = some r) ∧ Za (kq ≤ k1) ∧ Za (Kept wz wc (fun b => b = g6 ∨ b = g7)) ∧ Za (Kd.N (Kd.slice 3 (Kd.int .i64)) 23 wc w.heap.size (fun k_ => k_ < w16.heap.size ∨ wz.heap.size ≤ k_) u618005 x618005_1) ∧ Za (wc.heap[g6]? = some (.cells #[.int .i64 t591, .slice Ao23 t592.length co23, .slice Ao25 t595.length co25, .int .i64 t598, .int .i64 t599, u618005, .int .i64 t603] 25 (0, 0))) ∧ Za (Kd.C (Kd.slice 3 (Kd.int .i64)) wc A7 x619005_64.length x619005_64 ∧ x619005_64.length ≤ c7) ∧ Za (wc.heap[g7]? = some (.cells #[.int .i64 t604, .slice Ao33 t605.length co33, .slice Ao35 t608.length co35, .int .i64 t611, .int .i64 t612, .slice A7 x619005_64.length c7, .int .i64 t616] 25 (0, 0))) ∧ Za (Below w.heap.size w wc))
   case first =>
    have H := HC65.out
    clear HC65
    by_cases c70 : (t613.length : Int) > 0
    rotate_left
    ·rw [if_neg c70] at H
     have c70b0 : decide (0 < (t613.length : Int)) = false := decide_eq_false c70
     have c70b1 : decide (0 < t613.length) = false := decide_eq_false (by omega)
     have c70n := of_decide_eq_false c70b1
     clear c70
     (first | rw [c70b0] | (simp only [Za4, Za7]; rw [c70b0]) | skip)
     have H' := Za.mk H
     clear H
     go_wp2
     go_meet
     case rel => exact ⟨_, (t613), Ao39, co39, H', ⟨by have := HK1.out; first | omega | exact Nat.le_refl _⟩, ⟨Kept.mono BA.out.kp (fun _ h => .inl h)⟩, ⟨BA.out.hn⟩, ⟨BA.out.bk⟩, ⟨(Kd.Zb5 R3r.out).2.2, (Kd.Zb5 R3r.out).2.1⟩, ⟨BL.out⟩, ⟨BA.out.hb⟩⟩
    rw [if_pos c70] at H
    have c70b0 : decide (0 < (t613.length : Int)) = true := decide_eq_true c70
    have c70b1 : decide (0 < t613.length) = true := decide_eq_true (by omega)
    have c70n := of_decide_eq_true c70b1
    clear c70
    (first | rw [c70b0] | (simp only [Za4, Za7]; rw [c70b0]) | skip)
    by_cases c71 : 1 ≤ (t613.length : Int)
    rotate_left
    ·rw [if_neg c71] at H
     exact absurd H (by simp)
    rw [if_pos c71] at H
    have c71b0 := eq_true c71
    have c71b1 : decide (1 ≤ (t613.length : Int)) = true := decide_eq_true c71
    clear c71
    obtain ⟨y630, hy630⟩ : ∃ y_ : List (List Int), y_ = (t613.drop 1) := ⟨_, rfl⟩
    replace H : (Zad.j1 k1 t572 t575 t576 t579 t582 t583 t584 t587 t591 t592 t595 t598 t599 x618005_1 t603 t604 t605 t608 t611 t612 y630 t616) = some r := by first | (rw [hy630]; with_reducible exact H) | (have H2_ := (Option.bind_some _ _).symm.trans H; rw [hy630]; with_reducible exact H2_) | (have H2_ := (Option.bind_some _ _).symm.trans H; with_reducible exact H2_) | with_reducible exact H | (rw [hy630]; exact H) | exact H
    have Ny630 := Za.mk hy630
    clear hy630
    have H' := Za.mk H
    clear H
    have q76 : (1 : Int) ≤ ((t613.length : Int) : Int) := of_decide_eq_true (by first | (with_reducible assumption) | assumption)
    obtain ⟨i076, hi076, _, hsz76, _⟩ := info_parts Zex
    have hroom76 : t613.length ≤ co39 := (Kd.Zb5 R3r.out).2.1
    have hC76 : Kd.F (Kd.slice 3 (Kd.int .i64)) _ _ Ao39 t613.length t613 := (Kd.V_at (base := w.heap.size) (Kd.N_V R3r.out)).2.2
    have hcut76 := cut_from (P := Try.prog) 22 23 .i64 Try.underlying22 hi076 1 hsz76 Ao39 t613.length co39 1 (by omega) q76
    have hr76 := Kd.F_cut (m := (1 : Int).toNat) (c := co39) hC76 (by omega) hroom76
    obtain ⟨A76, hA76⟩ : ∃ A1, A1 = (if co39 = (1 : Int).toNat then Ao39 else (Ao39 : Option Addr).map (·.add ((1 : Int).toNat * 1))) := ⟨_, rfl⟩
    obtain ⟨c76, hc76⟩ : ∃ c1, c1 = co39 - (1 : Int).toNat := ⟨_, rfl⟩
    have hy76 : y630.length = t613.length - (1 : Int).toNat := (by rw [Ny630.out, List.length_drop] <;> omega)
    rw [show (t613).drop (1 : Int).toNat = y630 from Ny630.out.symm] at hr76
    replace hr76 : Kd.F (Kd.slice 3 (Kd.int .i64)) _ _ A76 y630.length y630 := (by rw [hA76]; exact hr76)
    rw [← hy76, ← hA76, ← hc76] at hcut76
    have HO634 := Za.mk (show Kd.V (Kd.slice 3 (Kd.int .i64)) 23 _ w.heap.size _ (.slice A76 y630.length c76) y630 from Kd.V_mk (by rw [hy76, hc76]; exact Nat.sub_le_sub_right hroom76 _) hr76)
    have HC634 := Za.mk (show y630.length ≤ c76 from by rw [hy76, hc76]; exact Nat.sub_le_sub_right hroom76 _)
    clear hr76 hC76 hroom76 hi076 hsz76 hc76
    have KY76 := Za.mk hy76
    have KA76 := Za.mk hA76
    clear hy76 hA76
    replace q76 := eq_true q76
    go_wp2
    go_meet
    case rel => exact ⟨_, (y630), A76, c76, H', ⟨by have := HK1.out; first | omega | exact Nat.le_refl _⟩, ⟨Kept.setCell (Kept.mono BA.out.kp (fun _ h => .inl h)) (.inl (.inr rfl)) _⟩, ⟨by (with_reducible repeat (first | apply Kd.N_drewN | apply Kd.Zgn)); exact Kd.Zdj (p := ⟨g7, 5, none⟩) BA.out.hn (fun k_ hk he => by have h1_ := G7.out; have h2_ := HZ.out; subst he; rcases hk with hk | hk <;> omega) _⟩, ⟨(Zbs BA.out.bk D67.out _ : _)⟩, ⟨(Kd.V_reads' (farV1 (g := g7) (i0 := 5) (Kd.Zfy HO634.out (fun k_ hk => hk)) (fun k_ hk he => by have h1_ := hk; have h2_ := D73.out; subst he; omega))).2.2, HC634.out⟩, ⟨(Zbr BL.out 5 _ rfl : _)⟩, ⟨Zag BA.out.hb GE7.out⟩⟩
   case rest =>
    clear HC65 BL R3r BA
    try clear hcz69_0
    try clear hcz69_1
    try clear hcz69_2
    try clear hcz69_3
    try clear hcz69_4
    try clear hcz69_5
    try clear hcz69_6
    try clear hfz69_0
    try clear hfz69_1
    try clear hfz69_2
    try clear hfz69_3
    try clear hfz69_4
    try clear hfz69_5
    try clear hfz69_6
    try clear c51b0
    obtain ⟨kq, x619005_64, A7, c7, HA, HJ64, KP, BU, BK617, CL, BK618, HB⟩ := hcut
    cases kq with
    | zero => exact absurd HA.out (by simp [Zad.j1])
    | succ kj64 =>
     have H := HA.out
     clear HA
     simp only [Zad.j1] at H
     replace H := Option.bind_eq_some_iff.mp H
     obtain ⟨⟨t635, t638⟩, A770, H⟩ := H
     replace H : ((Zau.f kj64 t572 t591 t592 t595 t598 t599 x618005_1 t603).bind fun bt639 => ((Zau.f kj64 t572 t604 t605 t608 t611 t612 x619005_64 t616).bind fun bt643 => (if (t638 == bt639.2) = true then ((Za8.f kj64 t635 bt639.1).bind fun t647 => (if t647 = true then (if bt643.2 = true then (if t638 = true then ((Zao.f kj64 bt643.1 t635).bind fun t648 => (if t648 = true then ((Zaz.f kj64).bind fun t649 => (some t649)) else (none))) else (none)) else ((Zaz.f kj64).bind fun t650 => (some t650))) else (none))) else (none)))) = some r := H
     have A77 := Za.mk A770
     clear A770
     replace H := Option.bind_eq_some_iff.mp H
     obtain ⟨⟨t639, t642⟩, A780, H⟩ := H
     replace H : ((Zau.f kj64 t572 t604 t605 t608 t611 t612 x619005_64 t616).bind fun bt643 => (if (t638 == t642) = true then ((Za8.f kj64 t635 t639).bind fun t647 => (if t647 = true then (if bt643.2 = true then (if t638 = true then ((Zao.f kj64 bt643.1 t635).bind fun t648 => (if t648 = true then ((Zaz.f kj64).bind fun t649 => (some t649)) else (none))) else (none)) else ((Zaz.f kj64).bind fun t650 => (some t650))) else (none))) else (none))) = some r := H
     have A78 := Za.mk A780
     clear A780
     replace H := Option.bind_eq_some_iff.mp H
     obtain ⟨⟨t643, t646⟩, A790, H⟩ := H
     replace H : (if (t638 == t642) = true then ((Za8.f kj64 t635 t639).bind fun t647 => (if t647 = true then (if t646 = true then (if t638 = true then ((Zao.f kj64 t643 t635).bind fun t648 => (if t648 = true then ((Zaz.f kj64).bind fun t649 => (some t649)) else (none))) else (none)) else ((Zaz.f kj64).bind fun t650 => (some t650))) else (none))) else (none)) = some r := H
     have A79 := Za.mk A790
     clear A790
     by_cases c80 : (t638 == t642) = true
     rotate_left
     ·rw [if_neg c80] at H
      exact absurd H (by simp)
     rw [if_pos c80] at H
     have c80b0 : (t638 == t642) = true := c80
     (try (have c80b1 : decide (t638 = t642) = true := by simpa using c80))
     (try (have c80b2 : (t638 == t642) = true := by simpa using c80))
     clear c80
     replace H := Option.bind_eq_some_iff.mp H
     obtain ⟨t647, A810, H⟩ := H
     replace H : (if t647 = true then (if t646 = true then (if t638 = true then ((Zao.f kj64 t643 t635).bind fun t648 => (if t648 = true then ((Zaz.f kj64).bind fun t649 => (some t649)) else (none))) else (none)) else ((Zaz.f kj64).bind fun t650 => (some t650))) else (none)) = some r := H
     have A81 := Za.mk A810
     clear A810
     by_cases c82 : t647 = true
     rotate_left
     ·replace c82 := Bool.eq_false_iff.mpr c82
      subst c82
      have H1 : (none) = some r := by rw [if_neg (show ¬ (false = true) by decide)] at H; exact H
      clear H
      have H := H1
      clear H1
      exact absurd H (by simp)
     subst c82
     have H1 : (if t646 = true then (if t638 = true then ((Zao.f kj64 t643 t635).bind fun t648 => (if t648 = true then ((Zaz.f kj64).bind fun t649 => (some t649)) else (none))) else (none)) else ((Zaz.f kj64).bind fun t650 => (some t650))) = some r := by rw [if_pos rfl] at H; exact H
     clear H
     have H := H1
     clear H1
     by_cases c83 : t646 = true
     rotate_left
     ·replace c83 := Bool.eq_false_iff.mpr c83
      subst c83
      have H1 : ((Zaz.f kj64).bind fun t650 => (some t650)) = some r := by rw [if_neg (show ¬ (false = true) by decide)] at H; exact H
      clear H
      have H := H1
      clear H1
      replace H := Option.bind_eq_some_iff.mp H
      obtain ⟨t650, A1080, H⟩ := H
      replace H : (some t650) = some r := H
      have A108 := Za.mk A1080
      clear A1080
      obtain rfl := Option.some.inj H
      obtain ⟨Ao92, co92, eo92⟩ := Kd.Zco F0.out
      subst eo92
      have C0 := Za.mk (Kd.Zb5 (Kd.Zfw F0.out KP.out (fun k_ hk he => by have h1_ := hk; have h2_ := G6.out.1; have h3_ := G7.out.1; rcases he with he | he <;> (subst he; omega))))
      have C1 := Za.mk (Kd.Za3 (Kd.Zd1 F1.out KP.out (fun k_ hk he => by have h1_ := hk; have h2_ := G6.out.1; have h3_ := G7.out.1; rcases he with he | he <;> (subst he; omega))))
      have C2 := Za.mk (Kd.Za3 (Kd.Zd1 F2.out KP.out (fun k_ hk he => by have h1_ := hk; have h2_ := G6.out.1; have h3_ := G7.out.1; rcases he with he | he <;> (subst he; omega))))
      have C5 := Za.mk (Kd.Zb5 (Kd.Zfw F5.out KP.out (fun k_ hk he => by have h1_ := hk; have h2_ := G6.out.1; have h3_ := G7.out.1; rcases he with he | he <;> (subst he; omega))))
      have C61 := Za.mk (Kd.Za3 (Kd.Zd1 R1a.out KP.out (fun k_ hk he => by have h1_ := hk.1; have h2_ := D61.out; have h3_ := D71.out; rcases he with he | he <;> (subst he; omega))))
      have C62 := Za.mk (Kd.Za3 (Kd.Zd1 R1b.out KP.out (fun k_ hk he => by have h1_ := hk.1; have h2_ := D61.out; have h3_ := D71.out; rcases he with he | he <;> (subst he; omega))))
      have C71 := Za.mk (Kd.Za3 (Kd.Zd1 R3a.out KP.out (fun k_ hk he => by have h1_ := hk.1; have h2_ := D63.out; have h3_ := D73.out; rcases he with he | he <;> (subst he; omega))))
      have C72 := Za.mk (Kd.Za3 (Kd.Zd1 R3b.out KP.out (fun k_ hk he => by have h1_ := hk.1; have h2_ := D63.out; have h3_ := D73.out; rcases he with he | he <;> (subst he; omega))))
      obtain ⟨Ao97, co97, eo97⟩ := Kd.Zco BU.out
      subst eo97
      have C65 := Za.mk (Kd.Zb5 BU.out)
      have BK589 := Za.mk (Zeu BKC.out KP.out (fun he => he.elim NC6.out NC7.out))
      clear F0 F1 F2 F5 R1a R1b R1c R3a R3b R3c BU BKC B6f B7f KP
      have BW := Za.mk (Below.refl wc.heap.size wc)
      have hcz91_0 : wc.cell? ⟨gb589, 0, none⟩ = some (.int .i64 t575) := (Zae BK589.out 0).trans rfl
      have hcz91_1 : wc.cell? ⟨gb589, 1, none⟩ = some (.slice Ao12 t576.length co12) := (Zae BK589.out 1).trans rfl
      have hcz91_2 : wc.cell? ⟨gb589, 2, none⟩ = some (.slice Ao13 t579.length co13) := (Zae BK589.out 2).trans rfl
      have hcz91_3 : wc.cell? ⟨gb589, 3, none⟩ = some (.int .i64 t582) := (Zae BK589.out 3).trans rfl
      have hcz91_4 : wc.cell? ⟨gb589, 4, none⟩ = some (.int .i64 t583) := (Zae BK589.out 4).trans rfl
      have hcz91_5 : wc.cell? ⟨gb589, 5, none⟩ = some (.slice Ao14 t584.length co14) := (Zae BK589.out 5).trans rfl
      have hcz91_6 : wc.cell? ⟨gb589, 6, none⟩ = some (.int .i64 t587) := (Zae BK589.out 6).trans rfl
      go_wp2_with (first | ((with_reducible refine Za2 (f := 18) rfl ?_); refine Zb0 (some 69) rfl rfl Try.func18 (by kernel_rfl) rfl #[.slice Ao92 t572.length co92, .agg #[.int .i64 t575, .slice Ao12 t576.length co12, .slice Ao13 t579.length co13, .int .i64 t582, .int .i64 t583, .slice Ao14 t584.length co14, .int .i64 t587]] rfl (by (try simp only [List.map_toArray, List.map_cons, List.map_nil]); first | done | rfl | (simp only [List.length_drop, List.length_take]; rfl)) ?_; (with_reducible refine (Zau.calls kj64 _ _ t572 t575 _ _ t576 _ _ t579 t582 t583 _ _ t584 t587 t635 t638 _ ?side1 ?side2 ?side3 ?side4 ?side5 ?side6 ?side7 ?side8 A77.out).mono ?_); (case side1 => exact Kd.Zaw C0.out.2.2 (mvB BW.out)); (case side2 => exact C0.out.2.1); (case side3 => exact Kd.Zaw C1.out.2.2 (mvB BW.out)); (case side4 => exact C1.out.2.1); (case side5 => exact Kd.Zaw C2.out.2.2 (mvB BW.out)); (case side6 => exact C2.out.2.1); (case side7 => exact Kd.Zaw C5.out.2.2 (mvB BW.out)); (case side8 => exact C5.out.2.1); rintro e w93 ⟨v636, rfl, ho0, hb⟩; refine ⟨_, rfl, ?_⟩; have BW1 := Za.mk (Zan (mvB BW.out) hb); clear BW; have BW := BW1; clear BW1; replace ho0 := Kd.S_N ho0; obtain ⟨Av636, cv636, ev636⟩ := Kd.Zco ho0; subst ev636; have P1 := Za.mk (Kd.Zb5 ho0); have HWP1 := Za.mk (Below.refl w93.heap.size w93); have BG6 := Za.mk (Za6 BK617.out BW.out); have hcz96_0 : w93.cell? ⟨g6, 0, none⟩ = some (.int .i64 t591) := (Zae BG6.out 0).trans rfl; have hcz96_1 : w93.cell? ⟨g6, 1, none⟩ = some (.slice Ao23 t592.length co23) := (Zae BG6.out 1).trans rfl; have hcz96_2 : w93.cell? ⟨g6, 2, none⟩ = some (.slice Ao25 t595.length co25) := (Zae BG6.out 2).trans rfl; have hcz96_3 : w93.cell? ⟨g6, 3, none⟩ = some (.int .i64 t598) := (Zae BG6.out 3).trans rfl; have hcz96_4 : w93.cell? ⟨g6, 4, none⟩ = some (.int .i64 t599) := (Zae BG6.out 4).trans rfl; have hcz96_5 : w93.cell? ⟨g6, 5, none⟩ = some (.slice Ao97 x618005_1.length co97) := (Zae BG6.out 5).trans rfl; have hcz96_6 : w93.cell? ⟨g6, 6, none⟩ = some (.int .i64 t603) := (Zae BG6.out 6).trans rfl; clear ho0 hb) | ((with_reducible refine Za2 (f := 18) rfl ?_); refine Zb0 (some 75) rfl rfl Try.func18 (by kernel_rfl) rfl #[.slice Ao92 t572.length co92, .agg #[.int .i64 t591, .slice Ao23 t592.length co23, .slice Ao25 t595.length co25, .int .i64 t598, .int .i64 t599, .slice Ao97 x618005_1.length co97, .int .i64 t603]] rfl (by (try simp only [List.map_toArray, List.map_cons, List.map_nil]); first | done | rfl | (simp only [List.length_drop, List.length_take]; rfl)) ?_; (with_reducible refine (Zau.calls kj64 _ _ t572 t591 _ _ t592 _ _ t595 t598 t599 _ _ x618005_1 t603 t639 t642 _ ?side1 ?side2 ?side3 ?side4 ?side5 ?side6 ?side7 ?side8 A78.out).mono ?_); (case side1 => exact Kd.Zaw C0.out.2.2 (mvB BW.out)); (case side2 => exact C0.out.2.1); (case side3 => exact Kd.Zaw C61.out.2.2 (mvB BW.out)); (case side4 => exact C61.out.2.1); (case side5 => exact Kd.Zaw C62.out.2.2 (mvB BW.out)); (case side6 => exact C62.out.2.1); (case side7 => exact Kd.Zaw C65.out.2.2 (mvB BW.out)); (case side8 => exact C65.out.2.1); rintro e w98 ⟨v640, rfl, ho0, hb⟩; refine ⟨_, rfl, ?_⟩; have BW1 := Za.mk (Zan (mvB BW.out) hb); clear BW; have BW := BW1; clear BW1; replace ho0 := Kd.S_N ho0; obtain ⟨Av640, cv640, ev640⟩ := Kd.Zco ho0; subst ev640; have P2 := Za.mk (Kd.Zb5 ho0); have HWP2 := Za.mk (Below.refl w98.heap.size w98); have HW1_ := Za.mk (Zan (mvB HWP1.out) hb); clear HWP1; have HWP1 := HW1_; clear HW1_; have BG7 := Za.mk (Za6 BK618.out BW.out); have hcz100_0 : w98.cell? ⟨g7, 0, none⟩ = some (.int .i64 t604) := (Zae BG7.out 0).trans rfl; have hcz100_1 : w98.cell? ⟨g7, 1, none⟩ = some (.slice Ao33 t605.length co33) := (Zae BG7.out 1).trans rfl; have hcz100_2 : w98.cell? ⟨g7, 2, none⟩ = some (.slice Ao35 t608.length co35) := (Zae BG7.out 2).trans rfl; have hcz100_3 : w98.cell? ⟨g7, 3, none⟩ = some (.int .i64 t611) := (Zae BG7.out 3).trans rfl; have hcz100_4 : w98.cell? ⟨g7, 4, none⟩ = some (.int .i64 t612) := (Zae BG7.out 4).trans rfl; have hcz100_5 : w98.cell? ⟨g7, 5, none⟩ = some (.slice A7 x619005_64.length c7) := (Zae BG7.out 5).trans rfl; have hcz100_6 : w98.cell? ⟨g7, 6, none⟩ = some (.int .i64 t616) := (Zae BG7.out 6).trans rfl; clear ho0 hb) | ((with_reducible refine Za2 (f := 18) rfl ?_); refine Zb0 (some 81) rfl rfl Try.func18 (by kernel_rfl) rfl #[.slice Ao92 t572.length co92, .agg #[.int .i64 t604, .slice Ao33 t605.length co33, .slice Ao35 t608.length co35, .int .i64 t611, .int .i64 t612, .slice A7 x619005_64.length c7, .int .i64 t616]] rfl (by (try simp only [List.map_toArray, List.map_cons, List.map_nil]); first | done | rfl | (simp only [List.length_drop, List.length_take]; rfl)) ?_; (with_reducible refine (Zau.calls kj64 _ _ t572 t604 _ _ t605 _ _ t608 t611 t612 _ _ x619005_64 t616 t643 false _ ?side1 ?side2 ?side3 ?side4 ?side5 ?side6 ?side7 ?side8 A79.out).mono ?_); (case side1 => exact Kd.Zaw C0.out.2.2 (mvB BW.out)); (case side2 => exact C0.out.2.1); (case side3 => exact Kd.Zaw C71.out.2.2 (mvB BW.out)); (case side4 => exact C71.out.2.1); (case side5 => exact Kd.Zaw C72.out.2.2 (mvB BW.out)); (case side6 => exact C72.out.2.1); (case side7 => exact Kd.Zaw CL.out.1 (mvB BW.out)); (case side8 => exact CL.out.2); rintro e w102 ⟨v644, rfl, ho0, hb⟩; refine ⟨_, rfl, ?_⟩; have BW1 := Za.mk (Zan (mvB BW.out) hb); clear BW; have BW := BW1; clear BW1; replace ho0 := Kd.S_N ho0; obtain ⟨Av644, cv644, ev644⟩ := Kd.Zco ho0; subst ev644; have P3 := Za.mk (Kd.Zb5 ho0); have HWP3 := Za.mk (Below.refl w102.heap.size w102); have HW1_ := Za.mk (Zan (mvB HWP1.out) hb); clear HWP1; have HWP1 := HW1_; clear HW1_; have HW1_ := Za.mk (Zan (mvB HWP2.out) hb); clear HWP2; have HWP2 := HW1_; clear HW1_; clear ho0 hb) | (go_at_call 21; (with_reducible refine (Za8.calls kj64 _ _ t635 _ _ t639 true _ ?side1 ?side2 ?side3 ?side4 A81.out).mono ?_); (case side1 => exact Kd.Zaw P1.out.2.2 (mvB HWP1.out)); (case side2 => exact P1.out.2.1); (case side3 => exact Kd.Zaw P2.out.2.2 (mvB HWP2.out)); (case side4 => exact P2.out.2.1); rintro e w' ⟨rfl, ⟨nd, rfl⟩⟩) | (go_at_call 15; (with_reducible refine (Zaz.calls kj64 t650 _ A108.out).mono ?_); rintro e w107 ⟨rfl, hb⟩; have BW1 := Za.mk (Zan (mvB BW.out) hb); clear BW hb; have BW := BW1; clear BW1))
      go_ret
      exact ⟨by first | rfl | (simp [Zaq, Zar] <;> rfl) | (simp [*, Zaq, Zar] <;> rfl), Zan HB.out (mvB BW.out)⟩
     subst c83
     have H1 : (if t638 = true then ((Zao.f kj64 t643 t635).bind fun t648 => (if t648 = true then ((Zaz.f kj64).bind fun t649 => (some t649)) else (none))) else (none)) = some r := by rw [if_pos rfl] at H; exact H
     clear H
     have H := H1
     clear H1
     by_cases c84 : t638 = true
     rotate_left
     ·replace c84 := Bool.eq_false_iff.mpr c84
      subst c84
      have H1 : (none) = some r := by rw [if_neg (show ¬ (false = true) by decide)] at H; exact H
      clear H
      have H := H1
      clear H1
      exact absurd H (by simp)
     subst c84
     have H1 : ((Zao.f kj64 t643 t635).bind fun t648 => (if t648 = true then ((Zaz.f kj64).bind fun t649 => (some t649)) else (none))) = some r := by rw [if_pos rfl] at H; exact H
     clear H
     have H := H1
     clear H1
     replace H := Option.bind_eq_some_iff.mp H
     obtain ⟨t648, A850, H⟩ := H
     replace H : (if t648 = true then ((Zaz.f kj64).bind fun t649 => (some t649)) else (none)) = some r := H
     have A85 := Za.mk A850
     clear A850
     by_cases c86 : t648 = true
     rotate_left
     ·replace c86 := Bool.eq_false_iff.mpr c86
      subst c86
      have H1 : (none) = some r := by rw [if_neg (show ¬ (false = true) by decide)] at H; exact H
      clear H
      have H := H1
      clear H1
      exact absurd H (by simp)
     subst c86
     have H1 : ((Zaz.f kj64).bind fun t649 => (some t649)) = some r := by rw [if_pos rfl] at H; exact H
     clear H
     have H := H1
     clear H1
     replace H := Option.bind_eq_some_iff.mp H
     obtain ⟨t649, A870, H⟩ := H
     replace H : (some t649) = some r := H
     have A87 := Za.mk A870
     clear A870
     obtain rfl := Option.some.inj H
     obtain ⟨Ao92, co92, eo92⟩ := Kd.Zco F0.out
     subst eo92
     have C0 := Za.mk (Kd.Zb5 (Kd.Zfw F0.out KP.out (fun k_ hk he => by have h1_ := hk; have h2_ := G6.out.1; have h3_ := G7.out.1; rcases he with he | he <;> (subst he; omega))))
     have C1 := Za.mk (Kd.Za3 (Kd.Zd1 F1.out KP.out (fun k_ hk he => by have h1_ := hk; have h2_ := G6.out.1; have h3_ := G7.out.1; rcases he with he | he <;> (subst he; omega))))
     have C2 := Za.mk (Kd.Za3 (Kd.Zd1 F2.out KP.out (fun k_ hk he => by have h1_ := hk; have h2_ := G6.out.1; have h3_ := G7.out.1; rcases he with he | he <;> (subst he; omega))))
     have C5 := Za.mk (Kd.Zb5 (Kd.Zfw F5.out KP.out (fun k_ hk he => by have h1_ := hk; have h2_ := G6.out.1; have h3_ := G7.out.1; rcases he with he | he <;> (subst he; omega))))
     have C61 := Za.mk (Kd.Za3 (Kd.Zd1 R1a.out KP.out (fun k_ hk he => by have h1_ := hk.1; have h2_ := D61.out; have h3_ := D71.out; rcases he with he | he <;> (subst he; omega))))
     have C62 := Za.mk (Kd.Za3 (Kd.Zd1 R1b.out KP.out (fun k_ hk he => by have h1_ := hk.1; have h2_ := D61.out; have h3_ := D71.out; rcases he with he | he <;> (subst he; omega))))
     have C71 := Za.mk (Kd.Za3 (Kd.Zd1 R3a.out KP.out (fun k_ hk he => by have h1_ := hk.1; have h2_ := D63.out; have h3_ := D73.out; rcases he with he | he <;> (subst he; omega))))
     have C72 := Za.mk (Kd.Za3 (Kd.Zd1 R3b.out KP.out (fun k_ hk he => by have h1_ := hk.1; have h2_ := D63.out; have h3_ := D73.out; rcases he with he | he <;> (subst he; omega))))
     obtain ⟨Ao97, co97, eo97⟩ := Kd.Zco BU.out
     subst eo97
     have C65 := Za.mk (Kd.Zb5 BU.out)
     have BK589 := Za.mk (Zeu BKC.out KP.out (fun he => he.elim NC6.out NC7.out))
     clear F0 F1 F2 F5 R1a R1b R1c R3a R3b R3c BU BKC B6f B7f KP
     have BW := Za.mk (Below.refl wc.heap.size wc)
     have hcz91_0 : wc.cell? ⟨gb589, 0, none⟩ = some (.int .i64 t575) := (Zae BK589.out 0).trans rfl
     have hcz91_1 : wc.cell? ⟨gb589, 1, none⟩ = some (.slice Ao12 t576.length co12) := (Zae BK589.out 1).trans rfl
     have hcz91_2 : wc.cell? ⟨gb589, 2, none⟩ = some (.slice Ao13 t579.length co13) := (Zae BK589.out 2).trans rfl
     have hcz91_3 : wc.cell? ⟨gb589, 3, none⟩ = some (.int .i64 t582) := (Zae BK589.out 3).trans rfl
     have hcz91_4 : wc.cell? ⟨gb589, 4, none⟩ = some (.int .i64 t583) := (Zae BK589.out 4).trans rfl
     have hcz91_5 : wc.cell? ⟨gb589, 5, none⟩ = some (.slice Ao14 t584.length co14) := (Zae BK589.out 5).trans rfl
     have hcz91_6 : wc.cell? ⟨gb589, 6, none⟩ = some (.int .i64 t587) := (Zae BK589.out 6).trans rfl
     go_wp2_with (first | ((with_reducible refine Za2 (f := 18) rfl ?_); refine Zb0 (some 69) rfl rfl Try.func18 (by kernel_rfl) rfl #[.slice Ao92 t572.length co92, .agg #[.int .i64 t575, .slice Ao12 t576.length co12, .slice Ao13 t579.length co13, .int .i64 t582, .int .i64 t583, .slice Ao14 t584.length co14, .int .i64 t587]] rfl (by (try simp only [List.map_toArray, List.map_cons, List.map_nil]); first | done | rfl | (simp only [List.length_drop, List.length_take]; rfl)) ?_; (with_reducible refine (Zau.calls kj64 _ _ t572 t575 _ _ t576 _ _ t579 t582 t583 _ _ t584 t587 t635 true _ ?side1 ?side2 ?side3 ?side4 ?side5 ?side6 ?side7 ?side8 A77.out).mono ?_); (case side1 => exact Kd.Zaw C0.out.2.2 (mvB BW.out)); (case side2 => exact C0.out.2.1); (case side3 => exact Kd.Zaw C1.out.2.2 (mvB BW.out)); (case side4 => exact C1.out.2.1); (case side5 => exact Kd.Zaw C2.out.2.2 (mvB BW.out)); (case side6 => exact C2.out.2.1); (case side7 => exact Kd.Zaw C5.out.2.2 (mvB BW.out)); (case side8 => exact C5.out.2.1); rintro e w93 ⟨v636, rfl, ho0, hb⟩; refine ⟨_, rfl, ?_⟩; have BW1 := Za.mk (Zan (mvB BW.out) hb); clear BW; have BW := BW1; clear BW1; replace ho0 := Kd.S_N ho0; obtain ⟨Av636, cv636, ev636⟩ := Kd.Zco ho0; subst ev636; have P1 := Za.mk (Kd.Zb5 ho0); have HWP1 := Za.mk (Below.refl w93.heap.size w93); have BG6 := Za.mk (Za6 BK617.out BW.out); have hcz96_0 : w93.cell? ⟨g6, 0, none⟩ = some (.int .i64 t591) := (Zae BG6.out 0).trans rfl; have hcz96_1 : w93.cell? ⟨g6, 1, none⟩ = some (.slice Ao23 t592.length co23) := (Zae BG6.out 1).trans rfl; have hcz96_2 : w93.cell? ⟨g6, 2, none⟩ = some (.slice Ao25 t595.length co25) := (Zae BG6.out 2).trans rfl; have hcz96_3 : w93.cell? ⟨g6, 3, none⟩ = some (.int .i64 t598) := (Zae BG6.out 3).trans rfl; have hcz96_4 : w93.cell? ⟨g6, 4, none⟩ = some (.int .i64 t599) := (Zae BG6.out 4).trans rfl; have hcz96_5 : w93.cell? ⟨g6, 5, none⟩ = some (.slice Ao97 x618005_1.length co97) := (Zae BG6.out 5).trans rfl; have hcz96_6 : w93.cell? ⟨g6, 6, none⟩ = some (.int .i64 t603) := (Zae BG6.out 6).trans rfl; clear ho0 hb) | ((with_reducible refine Za2 (f := 18) rfl ?_); refine Zb0 (some 75) rfl rfl Try.func18 (by kernel_rfl) rfl #[.slice Ao92 t572.length co92, .agg #[.int .i64 t591, .slice Ao23 t592.length co23, .slice Ao25 t595.length co25, .int .i64 t598, .int .i64 t599, .slice Ao97 x618005_1.length co97, .int .i64 t603]] rfl (by (try simp only [List.map_toArray, List.map_cons, List.map_nil]); first | done | rfl | (simp only [List.length_drop, List.length_take]; rfl)) ?_; (with_reducible refine (Zau.calls kj64 _ _ t572 t591 _ _ t592 _ _ t595 t598 t599 _ _ x618005_1 t603 t639 t642 _ ?side1 ?side2 ?side3 ?side4 ?side5 ?side6 ?side7 ?side8 A78.out).mono ?_); (case side1 => exact Kd.Zaw C0.out.2.2 (mvB BW.out)); (case side2 => exact C0.out.2.1); (case side3 => exact Kd.Zaw C61.out.2.2 (mvB BW.out)); (case side4 => exact C61.out.2.1); (case side5 => exact Kd.Zaw C62.out.2.2 (mvB BW.out)); (case side6 => exact C62.out.2.1); (case side7 => exact Kd.Zaw C65.out.2.2 (mvB BW.out)); (case side8 => exact C65.out.2.1); rintro e w98 ⟨v640, rfl, ho0, hb⟩; refine ⟨_, rfl, ?_⟩; have BW1 := Za.mk (Zan (mvB BW.out) hb); clear BW; have BW := BW1; clear BW1; replace ho0 := Kd.S_N ho0; obtain ⟨Av640, cv640, ev640⟩ := Kd.Zco ho0; subst ev640; have P2 := Za.mk (Kd.Zb5 ho0); have HWP2 := Za.mk (Below.refl w98.heap.size w98); have HW1_ := Za.mk (Zan (mvB HWP1.out) hb); clear HWP1; have HWP1 := HW1_; clear HW1_; have BG7 := Za.mk (Za6 BK618.out BW.out); have hcz100_0 : w98.cell? ⟨g7, 0, none⟩ = some (.int .i64 t604) := (Zae BG7.out 0).trans rfl; have hcz100_1 : w98.cell? ⟨g7, 1, none⟩ = some (.slice Ao33 t605.length co33) := (Zae BG7.out 1).trans rfl; have hcz100_2 : w98.cell? ⟨g7, 2, none⟩ = some (.slice Ao35 t608.length co35) := (Zae BG7.out 2).trans rfl; have hcz100_3 : w98.cell? ⟨g7, 3, none⟩ = some (.int .i64 t611) := (Zae BG7.out 3).trans rfl; have hcz100_4 : w98.cell? ⟨g7, 4, none⟩ = some (.int .i64 t612) := (Zae BG7.out 4).trans rfl; have hcz100_5 : w98.cell? ⟨g7, 5, none⟩ = some (.slice A7 x619005_64.length c7) := (Zae BG7.out 5).trans rfl; have hcz100_6 : w98.cell? ⟨g7, 6, none⟩ = some (.int .i64 t616) := (Zae BG7.out 6).trans rfl; clear ho0 hb) | ((with_reducible refine Za2 (f := 18) rfl ?_); refine Zb0 (some 81) rfl rfl Try.func18 (by kernel_rfl) rfl #[.slice Ao92 t572.length co92, .agg #[.int .i64 t604, .slice Ao33 t605.length co33, .slice Ao35 t608.length co35, .int .i64 t611, .int .i64 t612, .slice A7 x619005_64.length c7, .int .i64 t616]] rfl (by (try simp only [List.map_toArray, List.map_cons, List.map_nil]); first | done | rfl | (simp only [List.length_drop, List.length_take]; rfl)) ?_; (with_reducible refine (Zau.calls kj64 _ _ t572 t604 _ _ t605 _ _ t608 t611 t612 _ _ x619005_64 t616 t643 true _ ?side1 ?side2 ?side3 ?side4 ?side5 ?side6 ?side7 ?side8 A79.out).mono ?_); (case side1 => exact Kd.Zaw C0.out.2.2 (mvB BW.out)); (case side2 => exact C0.out.2.1); (case side3 => exact Kd.Zaw C71.out.2.2 (mvB BW.out)); (case side4 => exact C71.out.2.1); (case side5 => exact Kd.Zaw C72.out.2.2 (mvB BW.out)); (case side6 => exact C72.out.2.1); (case side7 => exact Kd.Zaw CL.out.1 (mvB BW.out)); (case side8 => exact CL.out.2); rintro e w102 ⟨v644, rfl, ho0, hb⟩; refine ⟨_, rfl, ?_⟩; have BW1 := Za.mk (Zan (mvB BW.out) hb); clear BW; have BW := BW1; clear BW1; replace ho0 := Kd.S_N ho0; obtain ⟨Av644, cv644, ev644⟩ := Kd.Zco ho0; subst ev644; have P3 := Za.mk (Kd.Zb5 ho0); have HWP3 := Za.mk (Below.refl w102.heap.size w102); have HW1_ := Za.mk (Zan (mvB HWP1.out) hb); clear HWP1; have HWP1 := HW1_; clear HW1_; have HW1_ := Za.mk (Zan (mvB HWP2.out) hb); clear HWP2; have HWP2 := HW1_; clear HW1_; clear ho0 hb) | (go_at_call 21; (with_reducible refine (Za8.calls kj64 _ _ t635 _ _ t639 true _ ?side1 ?side2 ?side3 ?side4 A81.out).mono ?_); (case side1 => exact Kd.Zaw P1.out.2.2 (mvB HWP1.out)); (case side2 => exact P1.out.2.1); (case side3 => exact Kd.Zaw P2.out.2.2 (mvB HWP2.out)); (case side4 => exact P2.out.2.1); rintro e w' ⟨rfl, ⟨nd, rfl⟩⟩) | (go_at_call 27; (with_reducible refine (Zao.calls kj64 _ _ t643 _ _ t635 true _ ?side1 ?side2 ?side3 ?side4 A85.out).mono ?_); (case side1 => exact Kd.Zaw P3.out.2.2 (mvB HWP3.out)); (case side2 => exact P3.out.2.1); (case side3 => exact Kd.Zaw P1.out.2.2 (mvB HWP1.out)); (case side4 => exact P1.out.2.1); rintro e w106 ⟨rfl, hb⟩; have BW1 := Za.mk (Zan (mvB BW.out) hb); clear BW hb; have BW := BW1; clear BW1) | (go_at_call 15; (with_reducible refine (Zaz.calls kj64 t649 _ A87.out).mono ?_); rintro e w107 ⟨rfl, hb⟩; have BW1 := Za.mk (Zan (mvB BW.out) hb); clear BW hb; have BW := BW1; clear BW1))
     go_ret
     exact ⟨by first | rfl | (simp [Zaq, Zar] <;> rfl) | (simp [*, Zaq, Zar] <;> rfl), Zan HB.out (mvB BW.out)⟩
end Go.Proofs.Ytpbcigilipdedaa.P
/- TableOrders: rows the other way round, and twice, leave the same; a row less lets no more stay. -/
namespace Go.Proofs.Ytpbcigilipdedaa.P
open Go.RowKit Go.Proofs.YtpbcigilipdedaaW.PrintWords Go.Proofs.YtpbcigilipdedaaW.PrintLast Go.Proofs.YtpbcigilipdedaaW.PrintMore
set_option linter.unusedVariables false
set_option linter.unusedSimpArgs false
theorem Zf : Ev (fun k => (Zaz.f k).bind fun t => some t) true := Ev.bind (Ev.pure true) (Ev.pure true)
theorem own_ev (kd : Int) (vars coefs : List Int) (op rhs : Int) (rows : List (List Int)) (b : Int) (hv : vars.length < 17592186044000) (hc : coefs.length < 17592186044000) (hr : rows.length < 5000000000000) (hin : ∀ x ∈ rows, x.length < 17592186044000) :
    Ev (fun k => Zbd.f k kd vars coefs op rhs rows b) (kd, vars, coefs, op, rhs, rows, b) := by
  unfold Zbd.f
  refine Ev.bind (Ev.pure _) (Ev.Zcf (by simp; omega) (Ev.bind (Ev.pure _) (Ev.Zcf (by simp; omega) ?_)))
  exact Ev.bind (ref_Copy rows (by omega) (fun x hx => by have := hin x hx; omega)) (by simpa using Ev.pure _)
structure Left (d l : List (List Rg)) : Prop where
  len : l.length = d.length
  good : ∀ x ∈ l, Gd 1048576 (-1048576) x
theorem left_of {d l : List (List Rg)} {vars : List Int} {keep : List (List Int)} (hd : Doms d) (hm : ∀ v ∈ vars, 0 ≤ v ∧ v < (d.length : Int)) (h1 : l.length = d.length) (h2 : ∀ i (h : i < vars.length), ColIs keep i (dv l vars[i])) (h3 : ∀ j, 0 ≤ j → j ∉ vars → dv l j = dv d j) : Left d l := by
  refine ⟨h1, fun x hx => ?_⟩
  obtain ⟨j, hj, rfl⟩ := List.mem_iff_getElem.1 hx
  have hjd : j < d.length := by omega
  have edv : dv l (j : Int) = l[j] := by unfold dv; rw [Int.toNat_natCast, List.getD_eq_getElem?_getD, List.getElem?_eq_getElem hj]; rfl
  rw [← edv]
  by_cases hj2 : (j : Int) ∈ vars
  · obtain ⟨i, hi, e⟩ := List.mem_iff_getElem.1 hj2
    rw [← e]
    exact (h2 i hi).1
  rw [h3 _ (by omega) hj2]
  have : dv d (j : Int) = d[j] := by unfold dv; rw [Int.toNat_natCast, List.getD_eq_getElem?_getD, List.getElem?_eq_getElem hjd]; rfl
  rw [this]
  exact (hd.2 _ (List.getElem_mem hjd)).1
section
variable {d : List (List Rg)} {vars : List Int} (hd : Doms d) (hm : ∀ v ∈ vars, 0 ≤ v ∧ v < (d.length : Int)) (hnd : vars.Nodup)
include hd hm hnd
theorem same_left {rows rows2 : List (List Int)} (kd : Int) (coefs : List Int) (op rhs b : Int) (hrl : rows.length ≤ 4096) (hrow : ∀ r ∈ rows, r.length = vars.length ∧ ∀ x ∈ r, isVal x = true) (hrl2 : rows2.length ≤ 4096) (hmem : ∀ r, r ∈ rows2 ↔ r ∈ rows) :
    ∃ res : List (List Rg) × Bool, Ev (fun k => Zau.f k d kd vars coefs op rhs rows b) res ∧ Ev (fun k => Zau.f k d kd vars coefs op rhs rows2 b) res ∧ (res.2 = false → res.1 = []) ∧ (res.2 = true → Left d res.1) := by
  have hmem2 : ∀ r, r ∈ rows2.filter (rowIn d vars) ↔ r ∈ rows.filter (rowIn d vars) := fun r => by rw [List.mem_filter, List.mem_filter, hmem]
  have hemp : rows2.filter (rowIn d vars) = [] ↔ rows.filter (rowIn d vars) = [] := by
    rw [List.eq_nil_iff_forall_not_mem, List.eq_nil_iff_forall_not_mem]
    exact ⟨fun h r hr => h r ((hmem2 r).2 hr), fun h r hr => h r ((hmem2 r).1 hr)⟩
  have hP1 := Ze3 d hd vars hm hnd kd coefs op rhs rows b hrl hrow
  have hP2 := Ze3 d hd vars hm hnd kd coefs op rhs rows2 b hrl2 (fun r hr => hrow r ((hmem r).1 hr))
  rcases hP1 with ⟨he, h1⟩ | ⟨hne, ⟨hk0, h1⟩ | ⟨hk0, l, h1, hl1, hl2, hl3⟩⟩
  · rcases hP2 with ⟨_, h2⟩ | ⟨hne, _⟩
    · exact ⟨_, h1, h2, fun _ => rfl, fun h => by cases h⟩
    obtain ⟨x, hx, hx0⟩ := he
    exact absurd hx0 (hne x hx)
  · rcases hP2 with ⟨he, h2⟩ | ⟨_, ⟨_, h2⟩ | ⟨hk1, _⟩⟩
    · obtain ⟨x, hx, hx0⟩ := he
      exact absurd hx0 (hne x hx)
    · exact ⟨_, h1, h2, fun _ => rfl, fun h => by cases h⟩
    exact absurd (hemp.2 hk0) hk1
  rcases hP2 with ⟨he, h2⟩ | ⟨_, ⟨hk1, _⟩ | ⟨_, m, h2, hm1, hm2, hm3⟩⟩
  · obtain ⟨x, hx, hx0⟩ := he
    exact absurd hx0 (hne x hx)
  · exact absurd (hemp.1 hk1) hk0
  have hdv : ∀ j : Int, 0 ≤ j → j < (l.length : Int) → dv l j = dv m j := by
    intro j h0 h9
    by_cases hj : j ∈ vars
    rotate_left
    · rw [hl3 j h0 hj, hm3 j h0 hj]
    obtain ⟨i, hi, rfl⟩ := List.mem_iff_getElem.1 hj
    exact DomIs.eq (hl2 i hi) (hm2 i hi) (fun v => ⟨fun ⟨r, hr, e⟩ => ⟨r, (hmem2 r).2 hr, e⟩, fun ⟨r, hr, e⟩ => ⟨r, (hmem2 r).1 hr, e⟩⟩)
  have e : l = m := dv_ext (by omega) hdv
  subst e
  exact ⟨_, h1, h2, (fun h => by cases h), fun _ => left_of hd hm hl1 hl2 hl3⟩
theorem less_left {rows rows2 : List (List Int)} (kd : Int) (coefs : List Int) (op rhs b : Int) (hrl : rows.length ≤ 4096) (hrow : ∀ r ∈ rows, r.length = vars.length ∧ ∀ x ∈ r, isVal x = true) (hrl2 : rows2.length ≤ 4096) (hsub : ∀ r, r ∈ rows2 → r ∈ rows) {res : List (List Rg) × Bool} (hres : Ev (fun k => Zau.f k d kd vars coefs op rhs rows b) res) :
    ∃ res2 : List (List Rg) × Bool, Ev (fun k => Zau.f k d kd vars coefs op rhs rows2 b) res2 ∧ (res2.2 = true → res.2 = true ∧ Ev (fun k => Zao.f k res2.1 res.1) true) := by
  have hP1 := Ze3 d hd vars hm hnd kd coefs op rhs rows b hrl hrow
  have hP2 := Ze3 d hd vars hm hnd kd coefs op rhs rows2 b hrl2 (fun r hr => hrow r (hsub r hr))
  rcases hP2 with ⟨he, h2⟩ | ⟨hne, ⟨hk0, h2⟩ | ⟨hk0, m, h2, hm1, hm2, hm3⟩⟩
  · exact ⟨_, h2, fun h => by cases h⟩
  · exact ⟨_, h2, fun h => by cases h⟩
  refine ⟨_, h2, fun _ => ?_⟩
  have hmem2 : ∀ r, r ∈ rows2.filter (rowIn d vars) → r ∈ rows.filter (rowIn d vars) := fun r hr => by
    rw [List.mem_filter] at hr ⊢
    exact ⟨hsub r hr.1, hr.2⟩
  rcases hP1 with ⟨he, h1⟩ | ⟨_, ⟨hk1, h1⟩ | ⟨_, l, h1, hl1, hl2, hl3⟩⟩
  · obtain ⟨x, hx, hx0⟩ := he
    exact absurd hx0 (hne x hx)
  · obtain ⟨r, hr⟩ := List.exists_mem_of_ne_nil _ hk0
    have := hmem2 r hr
    rw [hk1] at this
    cases this
  obtain rfl := Ev.unique hres h1
  have hL := left_of hd hm hl1 hl2 hl3
  have hM := left_of hd hm hm1 hm2 hm3
  have h64 := hd.1
  refine ⟨rfl, within_ev (by show m.length = l.length; omega) (by show m.length ≤ 64; omega) hM.good hL.good (fun i h h' v hv => ?_)⟩
  replace h : i < m.length := h
  replace h' : i < l.length := h'
  have e1 : dv m (i : Int) = m[i] := by unfold dv; rw [Int.toNat_natCast, List.getD_eq_getElem?_getD, List.getElem?_eq_getElem h]; rfl
  have e2 : dv l (i : Int) = l[i] := by unfold dv; rw [Int.toNat_natCast, List.getD_eq_getElem?_getD, List.getElem?_eq_getElem h']; rfl
  show Va l[i] v
  replace hv : Va m[i] v := hv
  rw [← e1] at hv
  rw [← e2]
  by_cases hj : (i : Int) ∈ vars
  rotate_left
  · rw [hm3 _ (by omega) hj] at hv
    rw [hl3 _ (by omega) hj]
    exact hv
  obtain ⟨q, hq, e⟩ := List.mem_iff_getElem.1 hj
  rw [← e] at hv ⊢
  obtain ⟨r, hr, er⟩ := ((hm2 q hq).2 v).1 hv
  exact ((hl2 q hq).2 v).2 ⟨r, hmem2 r hr, er⟩
end
def backs (rows : List (List Int)) : List (List Int) := rows.reverse.flatMap fun r => [r, r]
theorem mem_backs (rows : List (List Int)) (r : List Int) : r ∈ backs rows ↔ r ∈ rows := by unfold backs; simp
theorem Zff (rows : List (List Int)) : (backs rows).length = 2 * rows.length := by
  unfold backs
  induction rows with
  | nil => rfl
  | cons a l ih => rw [List.reverse_cons, List.flatMap_append, List.length_append, ih]; simp; omega
theorem orders_l0 {d : List (List Rg)} {vars : List Int} (kd : Int) (coefs : List Int) (op rhs b : Int) (rows : List (List Int)) (hr : rows.length ≤ 4096)
    (next : Ev (fun k => Zad.j1 k d kd vars coefs op rhs rows b kd vars coefs op rhs (backs rows) b kd vars coefs op rhs (rows.drop 1) b) true) :
    ∀ (n : Nat), n ≤ rows.length → Ev (fun k => Zad.l0 k d ((n : Int) - 1) kd vars coefs op rhs rows b kd vars coefs op rhs (backs (rows.drop n)) b kd vars coefs op rhs rows b) true := by
  intro n
  induction n with
  | zero =>
    intro _
    rw [List.drop_zero]
    by_cases h0 : 0 < rows.length
    · exact Ev.step (fun k => by rw [Zad.l0, if_neg (by omega), if_pos (by omega), if_pos (by omega)]) next
    have e : rows.drop 1 = rows := by cases rows with | nil => rfl | cons _ _ => simp at h0
    rw [e] at next
    exact Ev.step (fun k => by rw [Zad.l0, if_neg (by omega), if_neg (by omega)]) next
  | succ n ih =>
    intro hn
    have hlt : n < rows.length := by omega
    have hbl : (backs (rows.drop (n + 1))).length ≤ 8192 := by rw [Zff, List.length_drop]; omega
    have e : backs (rows.drop n) = (backs (rows.drop (n + 1)) ++ [rows[n]]) ++ [rows[n]] := by
      unfold backs
      rw [List.drop_eq_getElem_cons hlt, List.reverse_cons, List.flatMap_append]
      simp
    have er : Zbt rows ((n : Int)) = rows[n] := Zdr rows n hlt
    have h := ih (by omega)
    rw [e] at h
    have ew : wrap64 ((n : Int) - 1) = (n : Int) - 1 := by
      unfold wrap64
      omega
    refine Ev.step (fun k => by rw [Zad.l0, show (((n + 1 : Nat) : Int) - 1) = (n : Int) from by omega, if_pos (by omega), if_pos (by omega), if_pos (by omega), if_pos (by omega), er]) ?_
    refine Ev.bind (Ev.pure _) (Ev.Zcf (by simp; omega) ?_)
    rw [ew]
    exact h
set_option maxHeartbeats 2000000 in
theorem Zf8 (A0 : Option Addr) (c0 : Nat) (x0 : List (List Int)) (x1 : Int) (A2 : Option Addr) (c2 : Nat) (x2 : List Int) (A3 : Option Addr) (c3 : Nat) (x3 : List Int) (x4 x5 : Int) (A6 : Option Addr) (c6 : Nat) (x6 : List (List Int)) (x7 : Int) (A8 : Option Addr) (c8 : Nat) (x8 : List Int) (A9 : Option Addr) (c9 : Nat) (x9 : List Int) (W : World)
    (hC0 : (Kd.slice 3 (Kd.int .i64)).C W A0 x0.length x0) (hc0 : x0.length ≤ c0) (ok0 : x0.length * 24 ≤ 140737488351232 ∧ ∀ x ∈ x0, x.length * 8 ≤ 140737488351232 ∧ ∀ y ∈ x, (Lit.int .i64 y).wf = true) (ok1 : (Lit.int .i64 x1).wf = true)
    (hC2 : (Kd.int .i64).C W A2 x2.length x2) (hc2 : x2.length ≤ c2) (ok2 : x2.length * 8 ≤ 140737488351232 ∧ ∀ y ∈ x2, (Lit.int .i64 y).wf = true)
    (hC3 : (Kd.int .i64).C W A3 x3.length x3) (hc3 : x3.length ≤ c3) (ok3 : x3.length * 8 ≤ 140737488351232 ∧ ∀ y ∈ x3, (Lit.int .i64 y).wf = true) (ok4 : (Lit.int .i64 x4).wf = true) (ok5 : (Lit.int .i64 x5).wf = true)
    (hC6 : (Kd.slice 3 (Kd.int .i64)).C W A6 x6.length x6) (hc6 : x6.length ≤ c6) (ok6 : x6.length * 24 ≤ 140737488351232 ∧ ∀ x ∈ x6, x.length * 8 ≤ 140737488351232 ∧ ∀ y ∈ x, (Lit.int .i64 y).wf = true) (ok7 : (Lit.int .i64 x7).wf = true)
    (hC8 : (Kd.int .i64).C W A8 x8.length x8) (hc8 : x8.length ≤ c8) (ok8 : x8.length * 8 ≤ 140737488351232 ∧ ∀ y ∈ x8, (Lit.int .i64 y).wf = true)
    (hC9 : (Kd.int .i64).C W A9 x9.length x9) (hc9 : x9.length ≤ c9) (ok9 : x9.length * 8 ≤ 140737488351232 ∧ ∀ y ∈ x9, (Lit.int .i64 y).wf = true) :
    Calls Try.prog 5 #[.agg #[.slice A0 x0.length c0, .int .i64 x1, .slice A2 x2.length c2, .slice A3 x3.length c3, .int .i64 x4, .int .i64 x5, .slice A6 x6.length c6, .int .i64 x7, .slice A8 x8.length c8, .slice A9 x9.length c9]] W fun e W' => e = .returned (.bool true) ∧ Below W.heap.size W W' := by
  have hb : ∀ x ∈ x6, x.length * 8 ≤ 140737488351232 := fun x hx => (ok6.2 x hx).1
  obtain ⟨ok, hL, hok⟩ := laid_ev x0 x1 x2 x3 x4 x5 x6 x7 x8 x9 2 (.inl rfl) ok2.1 ok3.1 ok6.1 hb
  have hE : Ev (fun k => Zad.f k x0 x1 x2 x3 x4 x5 x6 x7 x8 x9) true := by
    unfold Zad.f
    refine Ev.bind hL ?_
    cases ok with
    | false => exact Ev.Zd Bool.false_ne_true Zf
    | true =>
      have hT := (hok rfl).tab
      have hd := domsC_doms x0
      have hvl := Zga hT.nodup hT.mem
      have hr20 : (x6.take 20).length ≤ 20 := by rw [List.length_take]; omega
      have hrow := hT.row
      have hcf := hT.coefs
      subst hcf
      generalize x6.take 20 = rows at hT hr20 hrow ⊢
      generalize domsC x0 = d at hd hvl hT ⊢
      have h64 := hd.1
      refine Ev.Zcf rfl ?_
      have hOwn := own_ev 2 x2 [] x4 x5 rows x7 (by omega) (by simp) (by omega) (fun x hx => by have := (hrow x hx).1; omega)
      refine Ev.bind hOwn (Ev.bind hOwn ?_)
      obtain ⟨res, h1, h2, hf, ht⟩ := same_left hd hT.mem hT.nodup (rows2 := backs rows) 2 [] x4 x5 x7 (show rows.length ≤ 4096 by omega) hrow (by rw [Zff]; omega) (mem_backs rows)
      obtain ⟨res2, h3, hw⟩ := less_left hd hT.mem hT.nodup (rows2 := rows.drop 1) 2 [] x4 x5 x7 (show rows.length ≤ 4096 by omega) hrow (by rw [List.length_drop]; omega) (fun r hr => List.mem_of_mem_drop hr) h1
      have hsame : Ev (fun k => Za8.f k res.1 res.1) true := by
        cases hr : res.2 with
        | false => rw [hf hr]; exact Zgw [] (by simp) (fun x hx => by cases hx)
        | true =>
          have hl := ht hr
          refine Zgw res.1 (by have := hl.len; omega) (fun x hx => ?_)
          have hg := hl.good x hx
          have q1 := Zcu hg
          have q2 := Zdc hg
          omega
      have key := orders_l0 2 [] x4 x5 x7 rows (by omega) (d := d) (vars := x2) (by
        refine Ev.step (fun k => by rw [Zad.j1]) (Ev.bind h1 (Ev.bind h2 (Ev.bind h3 (Ev.Zcf (show (res.2 == res.2) = true from beq_self_eq_true _) (Ev.bind hsame (Ev.Zcf rfl ?_))))))
        cases hr2 : res2.2 with
        | false => exact Ev.Zd Bool.false_ne_true Zf
        | true =>
          obtain ⟨hr, hwin⟩ := hw hr2
          exact Ev.Zcf rfl (Ev.Zcf hr (Ev.bind hwin (Ev.Zcf rfl Zf)))) rows.length (Nat.le_refl _)
      rw [List.drop_length] at key
      have ew : wrap64 ((rows.length : Int) - 1) = (rows.length : Int) - 1 := by
        unfold wrap64
        omega
      rw [ew]
      exact key
  obtain ⟨k, hk⟩ := hE.out
  exact Zad.calls k A0 c0 x0 x1 A2 c2 x2 A3 c3 x3 x4 x5 A6 c6 x6 x7 A8 c8 x8 A9 c9 x9 true W hC0 hc0 hC2 hc2 hC3 hc3 hC6 hc6 hC8 hc8 hC9 hc9 hk
end Go.Proofs.Ytpbcigilipdedaa.P
/- What a datum of a statement's arguments holds: a number, a text, a row, a struct, whatever is nested: its cells read as a value of the kind; and how long its rows are at most (by the weight of the whole). -/
namespace Go.Proofs.Ytpbcigilipdedaa.P
open Go.RowKit Go.ChangeShapes Go.WideShapes Go.Proofs.YtpbcigilipdedaaW.PrintWords
set_option linter.unusedVariables false
structure OpensZ {α : Type} (P : Program) (d : Kd α) (ok : α → Prop) (t : TypeId) : Prop where
  out : ∀ {H : Type} (enc : TypeId × Value → H) (w : World) (base : Nat) (sp : Nat → Bool) (held : Bool) (fuel : Nat) (cs : List Value) (x : DataW H × List MemPlace),
    DataW.trod enc P w base sp held fuel t cs = some x → (∀ n ∈ x.1.weights P t, n ≤ reachBytes) → ∃ v : α, d.K w v cs ∧ ok v
theorem OpensZ.int {P : Program} {t : TypeId} {k : IntKind} (ht : P.underlying t = some (.int k)) : OpensZ P (Kd.int k) (fun n => (Lit.int k n).wf = true) t := by
  refine ⟨?_⟩
  intro H enc w base sp held fuel cs x h hz
  obtain ⟨n, rfl, rfl, hw⟩ := DataW.trod_int ht h
  exact ⟨n, rfl, hw⟩
theorem OpensZ.bool {P : Program} {t : TypeId} (ht : P.underlying t = some .bool) : OpensZ P Kd.bool (fun _ => True) t := by
  refine ⟨?_⟩
  intro H enc w base sp held fuel cs x h hz
  obtain ⟨b, rfl, rfl⟩ := DataW.trod_bool ht h
  exact ⟨b, rfl, trivial⟩
theorem OpensZ.string {P : Program} {t : TypeId} (ht : P.underlying t = some .string) : OpensZ P Kd.string (fun s => s.size ≤ maxLen) t := by
  refine ⟨?_⟩
  intro H enc w base sp held fuel cs x h hz
  obtain ⟨s, rfl, rfl, hs⟩ := DataW.trod_string ht h
  exact ⟨s, rfl, hs⟩
theorem OpensZ.iso {α β : Type} {P : Program} {d : Kd α} {ok : α → Prop} {t : TypeId} (h : OpensZ P d ok t) (f : β → α) (g : α → β) (hfg : ∀ a, f (g a) = a) : OpensZ P (Kd.iso d f) (fun b => ok (f b)) t := by
  refine ⟨?_⟩
  intro H enc w base sp held fuel cs x hx hz
  obtain ⟨v, hK, hok⟩ := h.out enc w base sp held fuel cs x hx hz
  exact ⟨g v, by show d.K w (f (g v)) cs; rw [hfg]; exact hK, by show ok (f (g v)); rw [hfg]; exact hok⟩
theorem Ze4 {H : Type} {P : Program} {t e : TypeId} (ht : P.underlying t = some (.slice e)) {el sp : List (DataW H)} : (DataW.slice el sp : DataW H).weights P t = (el.length + sp.length) * P.bytesOf e :: (DataW.weightsAll P e el ++ DataW.weightsAll P e sp) := by simp [DataW.weights, ht]
theorem weights_agg {H : Type} {P : Program} {t : TypeId} {fs : Array Field} (ht : P.underlying t = some (.struct fs)) {ps : List (DataW H)} : (DataW.agg ps : DataW H).weights P t = DataW.weightsEach P (fs.toList.map (·.type)) ps := by simp [DataW.weights, ht]
theorem Zel {H : Type} {P : Program} {e : TypeId} {d : DataW H} : ∀ {l : List (DataW H)}, d ∈ l → ∀ {n : Nat}, n ∈ d.weights P e → n ∈ DataW.weightsAll P e l
  | x :: l, hd, n, hn => by
    simp only [DataW.weightsAll, List.mem_append]
    rcases List.mem_cons.1 hd with rfl | hd
    · exact .inl hn
    exact .inr (Zel hd hn)
theorem choose_list {α : Type} {n : Nat} {R : Nat → α → Prop} (h : ∀ i, i < n → ∃ a, R i a) : ∃ l : List α, l.length = n ∧ ∀ i (hi : i < l.length), R i l[i] := by
  induction n with
  | zero => exact ⟨[], rfl, fun i hi => absurd hi (by simp)⟩
  | succ n ih =>
    obtain ⟨l, hl, hR⟩ := ih (fun i hi => h i (by omega))
    obtain ⟨a, ha⟩ := h n (by omega)
    refine ⟨l ++ [a], by simp [hl], fun i hi => ?_⟩
    rcases Nat.lt_or_ge i l.length with hlt | hge
    · rw [List.getElem_append_left hlt]
      exact hR i hlt
    have : i = l.length := by simp at hi; omega
    subst this
    rw [List.getElem_append_right (by omega)]
    simpa [hl] using ha
theorem addr_add (a : Addr) (i j : Nat) : (a.add i).add j = a.add (i + j) := by
  by_cases h : i = 0
  · subst h; simp [Addr.add]
  by_cases h2 : j = 0
  · subst h2; simp [Addr.add]
  simp [Addr.add, h, h2, Nat.add_assoc]
theorem OpensZ.row {α : Type} {P : Program} {d : Kd α} {ok : α → Prop} {t e : TypeId} {B : Nat} (ht : P.underlying t = some (.slice e)) (hc : P.cellsOf e = d.sz) (hB : P.bytesOf e = B) (h : OpensZ P d ok e) :
    OpensZ P (Kd.slice e d) (fun l => l.length * B ≤ 140737488351232 ∧ ∀ x ∈ l, ok x) t := by
  refine ⟨?_⟩
  intro H enc w base sp held fuel cs x hx hz
  rcases Go.Deep.open_slice ht hx with ⟨rfl, rfl⟩ | ⟨a, len, cap, m, n, D, Pl, rfl, hb, hl, hm, hmm, rfl, he⟩
  · exact ⟨[], ⟨none, 0, rfl, Nat.le_refl _, rfl, by simp, fun h => absurd h (by simp)⟩, by simp, fun x hx => by simp at hx⟩
  have hlm : len ≤ m := by rw [hmm]; split <;> omega
  have each : ∀ i, i < len → ∃ v : α, ok v ∧ ∃ c, c.length = d.sz ∧ d.K w v c ∧ ∀ j u, c[j]? = some u → w.cell? (a.add (i * d.sz + j)) = some u := fun i hi => by
    obtain ⟨cs', h1, h2⟩ := he i (by omega)
    obtain ⟨v, hK, hok⟩ := h.out enc w base sp held n cs' _ h2 (fun q hq => hz q (by
      rw [Ze4 ht]
      refine List.mem_cons_of_mem _ (List.mem_append_left _ (Zel (d := D i) (List.mem_map.2 ⟨i, List.mem_range.2 hi, rfl⟩) hq))))
    obtain ⟨_, hlen, hcell⟩ := World.cells?_some h1
    rw [hc] at hlen hcell
    refine ⟨v, hok, cs', hlen, hK, fun j u hu => ?_⟩
    have hj : j < d.sz := by rw [← hlen]; exact (List.getElem?_eq_some_iff.1 hu).1
    have := hcell j hj
    rw [hu] at this
    rw [← this, addr_add]
  obtain ⟨l, hll, hR⟩ := choose_list each
  have hmax : cap ≤ 9223372036854775807 := by unfold maxLen at hm; exact hm
  refine ⟨l, ⟨some a, cap, by rw [hll], by omega, rfl, by omega, fun _ => ⟨a, rfl, fun j p hp => ?_⟩⟩, ?_, fun x hx => ?_⟩
  · obtain ⟨hj, rfl⟩ := List.getElem?_eq_some_iff.1 hp
    obtain ⟨_, c, h1, h2, h3⟩ := hR j hj
    exact ⟨c, h1, h2, h3⟩
  · have h3 := hz ((len + (m - len)) * P.bytesOf e) (by rw [Ze4 ht]; simp)
    rw [hB] at h3
    rw [hll]
    exact Nat.le_trans (Nat.mul_le_mul_right _ (by omega)) h3
  obtain ⟨i, hi, rfl⟩ := List.mem_iff_getElem.1 hx
  exact (hR i hi).1
structure OpensZF {α : Type} (P : Program) (d : Kd α) (ok : α → Prop) (fs : List Field) (off : Nat) : Prop where
  out : ∀ {H : Type} (enc : TypeId × Value → H) (w : World) (base : Nat) (sp : Nat → Bool) (held : Bool) (fuel : Nat) (cs : List Value), cs.length = off + d.sz →
    (∀ f ∈ fs, ∃ x, DataW.trod enc P w base sp held fuel f.type ((cs.drop f.offset).take (P.cellsOf f.type)) = some x ∧ ∀ n ∈ x.1.weights P f.type, n ≤ reachBytes) → ∃ v : α, d.K w v (cs.drop off) ∧ ok v
theorem OpensZF.last {α : Type} {P : Program} {d : Kd α} {ok : α → Prop} {f : Field} {off : Nat} (ho : f.offset = off) (hc : P.cellsOf f.type = d.sz) (h : OpensZ P d ok f.type) : OpensZF P d ok [f] off := by
  refine ⟨?_⟩
  intro H enc w base sp held fuel cs hl hf
  obtain ⟨x, hx, hz⟩ := hf f (by simp)
  rw [ho, hc, List.take_of_length_le (by simp; omega)] at hx
  exact h.out enc w base sp held fuel _ x hx hz
theorem OpensZF.cons {α β : Type} {P : Program} {d : Kd α} {ok : α → Prop} {d' : Kd β} {ok' : β → Prop} {f : Field} {fs : List Field} {off : Nat} (ho : f.offset = off) (hc : P.cellsOf f.type = d.sz) (h : OpensZ P d ok f.type) (h' : OpensZF P d' ok' fs (off + d.sz)) :
    OpensZF P (Kd.pair d d') (fun z => ok z.1 ∧ ok' z.2) (f :: fs) off := by
  refine ⟨?_⟩
  intro H enc w base sp held fuel cs hl hf
  have hl' : cs.length = off + (d.sz + d'.sz) := hl
  obtain ⟨x, hx, hz⟩ := hf f (by simp)
  obtain ⟨v, hK, hok⟩ := h.out enc w base sp held fuel _ x hx hz
  obtain ⟨v', hK', hok'⟩ := h'.out enc w base sp held fuel cs (by omega) (fun g hg => hf g (List.mem_cons_of_mem _ hg))
  rw [ho, hc] at hK
  refine ⟨(v, v'), ⟨(cs.drop off).take d.sz, cs.drop (off + d.sz), ?_, hK, hK'⟩, hok, hok'⟩
  rw [← List.drop_drop, List.take_append_drop]
theorem OpensZ.struct {α : Type} {P : Program} {d : Kd α} {ok : α → Prop} {t : TypeId} {fs : List Field} (ht : P.underlying t = some (.struct fs.toArray)) (hc : P.cellsOf t = d.sz) (h : OpensZF P d ok fs 0) : OpensZ P d ok t := by
  refine ⟨?_⟩
  intro H enc w base sp held fuel cs x hx hz
  obtain ⟨xs, n, rfl, rfl, hl, hxl, hf⟩ := DataW.trod_struct ht hx
  have := h.out enc w base sp held n cs (by omega) (fun f hf' => by
    obtain ⟨i, hi, rfl⟩ := List.mem_iff_getElem.1 hf'
    have := hf i fs[i] (by simp [hi])
    have hix : i < xs.length := by simp at hxl; omega
    rw [List.getElem?_eq_getElem hix] at this
    refine ⟨xs[i], by simpa using this, fun q hq => hz q ?_⟩
    rw [weights_agg ht]
    exact DataW.weights_mem_each (j := i) (t := fs[i].type) (d := xs[i].1) (by simp [hi]) (by simp [hix]) q hq)
  simpa using this
theorem OpensZ.arg {α H : Type} {P : Program} {d : Kd α} {ok : List α → Prop} {e t : TypeId} (h : OpensZ P (Kd.slice e d) ok t) {enc : TypeId × Value → H} {w : World} {base : Nat} {sp : Nat → Bool} {held : Bool} {A : Option Addr} {len cap : Nat} {dt : DataW H} {ps : List MemPlace}
    (hT : DataW.Trod enc P w base sp held t (.slice A len cap) dt ps) (hz : ∀ n ∈ dt.weights P t, n ≤ reachBytes) : ∃ l : List α, l.length = len ∧ l.length ≤ cap ∧ d.C w A l.length l ∧ ok l := by
  obtain ⟨fuel, hf⟩ := hT
  obtain ⟨l, ⟨A', c, hcs, hl, hC⟩, hok⟩ := h.out enc w base sp held fuel _ _ hf hz
  simp [Value.cells] at hcs
  obtain ⟨rfl, rfl, rfl⟩ := hcs
  exact ⟨l, rfl, hl, hC, hok⟩
theorem each_weights {H : Type} {P : Program} {ts : List TypeId} {ds : List (DataW H)} (h : (DataW.weightsEach P ts ds).all (· ≤ reachBytes) = true) {j : Nat} {t : TypeId} {d : DataW H} (ht : ts[j]? = some t) (hd : ds[j]? = some d) : ∀ n ∈ d.weights P t, n ≤ reachBytes := fun n hn => by
  have := List.all_eq_true.1 h n (DataW.weights_mem_each ht hd n hn)
  simpa using this
end Go.Proofs.Ytpbcigilipdedaa.P
namespace Go.Proofs.Ytpbcigilipdedaa.tableOrders
open Go.ChangeShapes Go.WideShapes Go.ChangeAt Go.RowKit
open Go.ChangeMaps (open_string shut_string)
open Go.Proofs.Ytpbcigilipdedaa.P
open Go.Proofs.YtpbcigilipdedaaW.PrintWords
set_option linter.unusedVariables false
theorem own : ownKnob Try.prog.godebug = none := by kernel_rfl
theorem laidOut : laidOutB Try.prog = true := by kernel_rfl
theorem o_int : OpensZ Try.prog (Kd.int .i64) (fun n => (Lit.int .i64 n).wf = true) 3 := OpensZ.int Try.underlying3
theorem o_Lint : OpensZ Try.prog (Kd.slice 3 (Kd.int .i64)) (fun l => (List.length l * 8 ≤ 140737488351232 ∧ ∀ y1_ ∈ l, (Lit.int .i64 y1_).wf = true)) 23 := OpensZ.row Try.underlying23 (by kernel_rfl) (by kernel_rfl) o_int
theorem o_LLint : OpensZ Try.prog (Kd.slice 23 (Kd.slice 3 (Kd.int .i64))) (fun l => (List.length l * 24 ≤ 140737488351232 ∧ ∀ y1_ ∈ l, (List.length y1_ * 8 ≤ 140737488351232 ∧ ∀ y2_ ∈ y1_, (Lit.int .i64 y2_).wf = true))) 22 := OpensZ.row Try.underlying22 (by kernel_rfl) (by kernel_rfl) o_Lint
set_option maxHeartbeats 2000000 in
theorem p_api_Con : OpensZ Try.prog (Kd.pair (Kd.int .i64) (Kd.pair (Kd.slice 3 (Kd.int .i64)) (Kd.pair (Kd.slice 3 (Kd.int .i64)) (Kd.pair (Kd.int .i64) (Kd.pair (Kd.int .i64) (Kd.pair (Kd.slice 23 (Kd.slice 3 (Kd.int .i64))) (Kd.int .i64))))))) (fun z => ((Lit.int .i64 (z).1).wf = true ∧ ((List.length ((z).2).1 * 8 ≤ 140737488351232 ∧ ∀ y1_ ∈ ((z).2).1, (Lit.int .i64 y1_).wf = true) ∧ ((List.length (((z).2).2).1 * 8 ≤ 140737488351232 ∧ ∀ y1_ ∈ (((z).2).2).1, (Lit.int .i64 y1_).wf = true) ∧ ((Lit.int .i64 ((((z).2).2).2).1).wf = true ∧ ((Lit.int .i64 (((((z).2).2).2).2).1).wf = true ∧ ((List.length ((((((z).2).2).2).2).2).1 * 24 ≤ 140737488351232 ∧ ∀ y1_ ∈ ((((((z).2).2).2).2).2).1, (List.length y1_ * 8 ≤ 140737488351232 ∧ ∀ y2_ ∈ y1_, (Lit.int .i64 y2_).wf = true)) ∧ (Lit.int .i64 ((((((z).2).2).2).2).2).2).wf = true))))))) 25 := by
 refine OpensZ.struct (d := (Kd.pair (Kd.int .i64) (Kd.pair (Kd.slice 3 (Kd.int .i64)) (Kd.pair (Kd.slice 3 (Kd.int .i64)) (Kd.pair (Kd.int .i64) (Kd.pair (Kd.int .i64) (Kd.pair (Kd.slice 23 (Kd.slice 3 (Kd.int .i64))) (Kd.int .i64)))))))) Try.underlying25 (by kernel_rfl) ?_
 refine OpensZF.cons (d := (Kd.int .i64)) (ok := fun v_ : Int => (Lit.int .i64 v_).wf = true) (ok' := fun z_ : ((List Int) × (List Int) × Int × Int × (List (List Int)) × Int) => ((List.length (z_).1 * 8 ≤ 140737488351232 ∧ ∀ y1_ ∈ (z_).1, (Lit.int .i64 y1_).wf = true) ∧ ((List.length ((z_).2).1 * 8 ≤ 140737488351232 ∧ ∀ y1_ ∈ ((z_).2).1, (Lit.int .i64 y1_).wf = true) ∧ ((Lit.int .i64 (((z_).2).2).1).wf = true ∧ ((Lit.int .i64 ((((z_).2).2).2).1).wf = true ∧ ((List.length (((((z_).2).2).2).2).1 * 24 ≤ 140737488351232 ∧ ∀ y1_ ∈ (((((z_).2).2).2).2).1, (List.length y1_ * 8 ≤ 140737488351232 ∧ ∀ y2_ ∈ y1_, (Lit.int .i64 y2_).wf = true)) ∧ (Lit.int .i64 (((((z_).2).2).2).2).2).wf = true)))))) (by kernel_rfl) (by kernel_rfl) o_int ?_
 refine OpensZF.cons (d := (Kd.slice 3 (Kd.int .i64))) (ok := fun v_ : (List Int) => (List.length v_ * 8 ≤ 140737488351232 ∧ ∀ y1_ ∈ v_, (Lit.int .i64 y1_).wf = true)) (ok' := fun z_ : ((List Int) × Int × Int × (List (List Int)) × Int) => ((List.length (z_).1 * 8 ≤ 140737488351232 ∧ ∀ y1_ ∈ (z_).1, (Lit.int .i64 y1_).wf = true) ∧ ((Lit.int .i64 ((z_).2).1).wf = true ∧ ((Lit.int .i64 (((z_).2).2).1).wf = true ∧ ((List.length ((((z_).2).2).2).1 * 24 ≤ 140737488351232 ∧ ∀ y1_ ∈ ((((z_).2).2).2).1, (List.length y1_ * 8 ≤ 140737488351232 ∧ ∀ y2_ ∈ y1_, (Lit.int .i64 y2_).wf = true)) ∧ (Lit.int .i64 ((((z_).2).2).2).2).wf = true))))) (by kernel_rfl) (by kernel_rfl) o_Lint ?_
 refine OpensZF.cons (d := (Kd.slice 3 (Kd.int .i64))) (ok := fun v_ : (List Int) => (List.length v_ * 8 ≤ 140737488351232 ∧ ∀ y1_ ∈ v_, (Lit.int .i64 y1_).wf = true)) (ok' := fun z_ : (Int × Int × (List (List Int)) × Int) => ((Lit.int .i64 (z_).1).wf = true ∧ ((Lit.int .i64 ((z_).2).1).wf = true ∧ ((List.length (((z_).2).2).1 * 24 ≤ 140737488351232 ∧ ∀ y1_ ∈ (((z_).2).2).1, (List.length y1_ * 8 ≤ 140737488351232 ∧ ∀ y2_ ∈ y1_, (Lit.int .i64 y2_).wf = true)) ∧ (Lit.int .i64 (((z_).2).2).2).wf = true)))) (by kernel_rfl) (by kernel_rfl) o_Lint ?_
 refine OpensZF.cons (d := (Kd.int .i64)) (ok := fun v_ : Int => (Lit.int .i64 v_).wf = true) (ok' := fun z_ : (Int × (List (List Int)) × Int) => ((Lit.int .i64 (z_).1).wf = true ∧ ((List.length ((z_).2).1 * 24 ≤ 140737488351232 ∧ ∀ y1_ ∈ ((z_).2).1, (List.length y1_ * 8 ≤ 140737488351232 ∧ ∀ y2_ ∈ y1_, (Lit.int .i64 y2_).wf = true)) ∧ (Lit.int .i64 ((z_).2).2).wf = true))) (by kernel_rfl) (by kernel_rfl) o_int ?_
 refine OpensZF.cons (d := (Kd.int .i64)) (ok := fun v_ : Int => (Lit.int .i64 v_).wf = true) (ok' := fun z_ : ((List (List Int)) × Int) => ((List.length (z_).1 * 24 ≤ 140737488351232 ∧ ∀ y1_ ∈ (z_).1, (List.length y1_ * 8 ≤ 140737488351232 ∧ ∀ y2_ ∈ y1_, (Lit.int .i64 y2_).wf = true)) ∧ (Lit.int .i64 (z_).2).wf = true)) (by kernel_rfl) (by kernel_rfl) o_int ?_
 refine OpensZF.cons (d := (Kd.slice 23 (Kd.slice 3 (Kd.int .i64)))) (ok := fun v_ : (List (List Int)) => (List.length v_ * 24 ≤ 140737488351232 ∧ ∀ y1_ ∈ v_, (List.length y1_ * 8 ≤ 140737488351232 ∧ ∀ y2_ ∈ y1_, (Lit.int .i64 y2_).wf = true))) (ok' := fun z_ : (Int) => (Lit.int .i64 z_).wf = true) (by kernel_rfl) (by kernel_rfl) o_LLint ?_
 exact OpensZF.last (d := (Kd.int .i64)) (ok := fun v_ : Int => (Lit.int .i64 v_).wf = true) (by kernel_rfl) (by kernel_rfl) o_int
set_option maxHeartbeats 2000000 in
theorem Zei : OpensZ Try.prog (Kd.pair (Kd.slice 23 (Kd.slice 3 (Kd.int .i64))) (Kd.pair (Kd.pair (Kd.int .i64) (Kd.pair (Kd.slice 3 (Kd.int .i64)) (Kd.pair (Kd.slice 3 (Kd.int .i64)) (Kd.pair (Kd.int .i64) (Kd.pair (Kd.int .i64) (Kd.pair (Kd.slice 23 (Kd.slice 3 (Kd.int .i64))) (Kd.int .i64))))))) (Kd.pair (Kd.slice 3 (Kd.int .i64)) (Kd.slice 3 (Kd.int .i64))))) (fun z => ((List.length (z).1 * 24 ≤ 140737488351232 ∧ ∀ y1_ ∈ (z).1, (List.length y1_ * 8 ≤ 140737488351232 ∧ ∀ y2_ ∈ y1_, (Lit.int .i64 y2_).wf = true)) ∧ (((Lit.int .i64 (((z).2).1).1).wf = true ∧ ((List.length ((((z).2).1).2).1 * 8 ≤ 140737488351232 ∧ ∀ y1_ ∈ ((((z).2).1).2).1, (Lit.int .i64 y1_).wf = true) ∧ ((List.length (((((z).2).1).2).2).1 * 8 ≤ 140737488351232 ∧ ∀ y1_ ∈ (((((z).2).1).2).2).1, (Lit.int .i64 y1_).wf = true) ∧ ((Lit.int .i64 ((((((z).2).1).2).2).2).1).wf = true ∧ ((Lit.int .i64 (((((((z).2).1).2).2).2).2).1).wf = true ∧ ((List.length ((((((((z).2).1).2).2).2).2).2).1 * 24 ≤ 140737488351232 ∧ ∀ y1_ ∈ ((((((((z).2).1).2).2).2).2).2).1, (List.length y1_ * 8 ≤ 140737488351232 ∧ ∀ y2_ ∈ y1_, (Lit.int .i64 y2_).wf = true)) ∧ (Lit.int .i64 ((((((((z).2).1).2).2).2).2).2).2).wf = true)))))) ∧ ((List.length (((z).2).2).1 * 8 ≤ 140737488351232 ∧ ∀ y1_ ∈ (((z).2).2).1, (Lit.int .i64 y1_).wf = true) ∧ (List.length (((z).2).2).2 * 8 ≤ 140737488351232 ∧ ∀ y1_ ∈ (((z).2).2).2, (Lit.int .i64 y1_).wf = true))))) 27 := by
 refine OpensZ.struct (d := (Kd.pair (Kd.slice 23 (Kd.slice 3 (Kd.int .i64))) (Kd.pair (Kd.pair (Kd.int .i64) (Kd.pair (Kd.slice 3 (Kd.int .i64)) (Kd.pair (Kd.slice 3 (Kd.int .i64)) (Kd.pair (Kd.int .i64) (Kd.pair (Kd.int .i64) (Kd.pair (Kd.slice 23 (Kd.slice 3 (Kd.int .i64))) (Kd.int .i64))))))) (Kd.pair (Kd.slice 3 (Kd.int .i64)) (Kd.slice 3 (Kd.int .i64)))))) Try.underlying27 (by kernel_rfl) ?_
 refine OpensZF.cons (d := (Kd.slice 23 (Kd.slice 3 (Kd.int .i64)))) (ok := fun v_ : (List (List Int)) => (List.length v_ * 24 ≤ 140737488351232 ∧ ∀ y1_ ∈ v_, (List.length y1_ * 8 ≤ 140737488351232 ∧ ∀ y2_ ∈ y1_, (Lit.int .i64 y2_).wf = true))) (ok' := fun z_ : ((Int × (List Int) × (List Int) × Int × Int × (List (List Int)) × Int) × (List Int) × (List Int)) => (((Lit.int .i64 ((z_).1).1).wf = true ∧ ((List.length (((z_).1).2).1 * 8 ≤ 140737488351232 ∧ ∀ y1_ ∈ (((z_).1).2).1, (Lit.int .i64 y1_).wf = true) ∧ ((List.length ((((z_).1).2).2).1 * 8 ≤ 140737488351232 ∧ ∀ y1_ ∈ ((((z_).1).2).2).1, (Lit.int .i64 y1_).wf = true) ∧ ((Lit.int .i64 (((((z_).1).2).2).2).1).wf = true ∧ ((Lit.int .i64 ((((((z_).1).2).2).2).2).1).wf = true ∧ ((List.length (((((((z_).1).2).2).2).2).2).1 * 24 ≤ 140737488351232 ∧ ∀ y1_ ∈ (((((((z_).1).2).2).2).2).2).1, (List.length y1_ * 8 ≤ 140737488351232 ∧ ∀ y2_ ∈ y1_, (Lit.int .i64 y2_).wf = true)) ∧ (Lit.int .i64 (((((((z_).1).2).2).2).2).2).2).wf = true)))))) ∧ ((List.length ((z_).2).1 * 8 ≤ 140737488351232 ∧ ∀ y1_ ∈ ((z_).2).1, (Lit.int .i64 y1_).wf = true) ∧ (List.length ((z_).2).2 * 8 ≤ 140737488351232 ∧ ∀ y1_ ∈ ((z_).2).2, (Lit.int .i64 y1_).wf = true)))) (by kernel_rfl) (by kernel_rfl) o_LLint ?_
 refine OpensZF.cons (d := (Kd.pair (Kd.int .i64) (Kd.pair (Kd.slice 3 (Kd.int .i64)) (Kd.pair (Kd.slice 3 (Kd.int .i64)) (Kd.pair (Kd.int .i64) (Kd.pair (Kd.int .i64) (Kd.pair (Kd.slice 23 (Kd.slice 3 (Kd.int .i64))) (Kd.int .i64)))))))) (ok := fun v_ : (Int × (List Int) × (List Int) × Int × Int × (List (List Int)) × Int) => ((Lit.int .i64 (v_).1).wf = true ∧ ((List.length ((v_).2).1 * 8 ≤ 140737488351232 ∧ ∀ y1_ ∈ ((v_).2).1, (Lit.int .i64 y1_).wf = true) ∧ ((List.length (((v_).2).2).1 * 8 ≤ 140737488351232 ∧ ∀ y1_ ∈ (((v_).2).2).1, (Lit.int .i64 y1_).wf = true) ∧ ((Lit.int .i64 ((((v_).2).2).2).1).wf = true ∧ ((Lit.int .i64 (((((v_).2).2).2).2).1).wf = true ∧ ((List.length ((((((v_).2).2).2).2).2).1 * 24 ≤ 140737488351232 ∧ ∀ y1_ ∈ ((((((v_).2).2).2).2).2).1, (List.length y1_ * 8 ≤ 140737488351232 ∧ ∀ y2_ ∈ y1_, (Lit.int .i64 y2_).wf = true)) ∧ (Lit.int .i64 ((((((v_).2).2).2).2).2).2).wf = true))))))) (ok' := fun z_ : ((List Int) × (List Int)) => ((List.length (z_).1 * 8 ≤ 140737488351232 ∧ ∀ y1_ ∈ (z_).1, (Lit.int .i64 y1_).wf = true) ∧ (List.length (z_).2 * 8 ≤ 140737488351232 ∧ ∀ y1_ ∈ (z_).2, (Lit.int .i64 y1_).wf = true))) (by kernel_rfl) (by kernel_rfl) p_api_Con ?_
 refine OpensZF.cons (d := (Kd.slice 3 (Kd.int .i64))) (ok := fun v_ : (List Int) => (List.length v_ * 8 ≤ 140737488351232 ∧ ∀ y1_ ∈ v_, (Lit.int .i64 y1_).wf = true)) (ok' := fun z_ : ((List Int)) => (List.length z_ * 8 ≤ 140737488351232 ∧ ∀ y1_ ∈ z_, (Lit.int .i64 y1_).wf = true)) (by kernel_rfl) (by kernel_rfl) o_Lint ?_
 exact OpensZF.last (d := (Kd.slice 3 (Kd.int .i64))) (ok := fun v_ : (List Int) => (List.length v_ * 8 ≤ 140737488351232 ∧ ∀ y1_ ∈ v_, (Lit.int .i64 y1_).wf = true)) (by kernel_rfl) (by kernel_rfl) o_Lint
set_option maxRecDepth 100000 in
theorem lifted (os : Os) (started : os.Started) (H : Type) (enc : TypeId × Value → H) :
  ReturnsInHanded {} Try.checked os 5 .any (Rows.tableOrdersSpec.pre6 enc Try.prog Try.f5 Rows.tableOrdersRow.domain false) (Rows.tableOrdersSpec.post enc Try.prog Try.f5 false true false false) := by
 refine returnsInHanded_of_change_sized (C := Try.checked) own started (by kernel_rfl) Try.func5
  (ChangeSpec.witness6 (enc := enc) (C := Try.checked) false ⟨#[], #[.agg #[.slice none 0 0, .int .i64 0, .slice none 0 0, .slice none 0 0, .int .i64 0, .int .i64 0, .slice none 0 0, .int .i64 0, .slice none 0 0, .slice none 0 0]], []⟩ 8 (by kernel_rfl) (by kernel_rfl) (by kernel_rfl) (by kernel_rfl)) ?_
 intro W base args ds gs before hval0 hW hcnd hsz0 _
 have hsz : (DataW.weightsEach Try.prog (Try.f5.params.toList ++ Rows.tableOrdersSpec.plain.varTypes Try.prog) (ds ++ gs)).all (· ≤ reachBytes) = true := hsz0
 have hval : ∀ (j : Nat) t v, Try.f5.params[j]? = some t → args[j]? = some v → Value.okWide Try.prog W .any base t v := hval0
 have hW' := hW
 obtain ⟨p, q, hA0, hV, rfl, hfz, hnd⟩ := hW
 have hA : DataW.TrodAll enc Try.prog W 0 (fun _ => true) true Try.f5.params.toList args.toList ds p := hA0
 rw [Try.params5] at hA hval hsz
 obtain ⟨v0, vs0, d0, ds0, p0, q0, hargs, rfl, rfl, h0, r0⟩ := trodAll_cons hA
 obtain ⟨rfl, rfl, rfl⟩ := trodAll_nil r0
 obtain rfl : args = #[v0] := by cases args; simp_all
 obtain ⟨rfl, rfl⟩ := trodVars_none hV
 have k0 := h0
 have lt0 : ∀ x ∈ p0, x.block < W.heap.size := by obtain ⟨m, hm⟩ := k0; exact DataW.trod_lt m _ _ _ hm
 obtain ⟨cs0, rfl, _⟩ := okWide_struct Try.underlying27 (hval 0 27 v0 rfl rfl)
 obtain ⟨fu0, hf0⟩ := h0
 obtain ⟨⟨x0, ⟨⟨x1, ⟨x2, ⟨x3, ⟨x4, ⟨x5, ⟨x6, x7⟩⟩⟩⟩⟩⟩, ⟨x8, x9⟩⟩⟩, hK0, ⟨ok0, ⟨⟨ok1, ⟨ok2, ⟨ok3, ⟨ok4, ⟨ok5, ⟨ok6, ok7⟩⟩⟩⟩⟩⟩, ⟨ok8, ok9⟩⟩⟩⟩ := Zei.out _ _ _ _ _ _ _ _ hf0 (each_weights hsz (j := 0) (t := 27) rfl rfl)
 obtain ⟨_, _, e, ⟨A0, c0, rfl, hc0, hC0⟩, ⟨_, _, rfl, ⟨_, _, rfl, rfl, ⟨_, _, rfl, ⟨A2, c2, rfl, hc2, hC2⟩, ⟨_, _, rfl, ⟨A3, c3, rfl, hc3, hC3⟩, ⟨_, _, rfl, rfl, ⟨_, _, rfl, rfl, ⟨_, _, rfl, ⟨A6, c6, rfl, hc6, hC6⟩, rfl⟩⟩⟩⟩⟩⟩, ⟨_, _, rfl, ⟨A8, c8, rfl, hc8, hC8⟩, ⟨A9, c9, rfl, hc9, hC9⟩⟩⟩⟩ := hK0
 obtain rfl : cs0 = #[.slice A0 x0.length c0, .int .i64 x1, .slice A2 x2.length c2, .slice A3 x3.length c3, .int .i64 x4, .int .i64 x5, .slice A6 x6.length c6, .int .i64 x7, .slice A8 x8.length c8, .slice A9 x9.length c9] := by
  apply Array.ext'
  simpa [Value.cells] using e
 clear hA0 hval0 hsz0 hsz
 refine (P.Zf8 A0 c0 x0 x1 A2 c2 x2 A3 c3 x3 x4 x5 A6 c6 x6 x7 A8 c8 x8 A9 c9 x9 W hC0 hc0 ok0 ok1 hC2 hc2 ok2 hC3 hc3 ok3 ok4 ok5 hC6 hc6 ok6 ok7 hC8 hc8 ok8 hC9 hc9 ok9).mono fun e W' ⟨he, bel⟩ => ?_
 subst he
 exact ⟨_, rfl, _, _, _, [], _, [], hW', trodAll_mk1 (shut_bool Try.underlying4 _), (trodAll_cons_mk (Below.trod laidOut (by kernel_rfl) (of_decide_eq_true (by kernel_rfl)) k0 bel lt0) trodAll_mk0), rfl, bel.frame _, fun h => by cases h⟩
theorem over : Rows.tableOrdersRow.holds Try.pinned (OpenSpec.ofChange Rows.tableOrdersSpec) :=
 OpenClaim.holds_of_wide 5 Try.f5 rfl rfl rfl rfl rfl rfl rfl ⟨rfl, rfl, rfl, rfl, rfl⟩ rfl rfl rfl rfl rfl (by kernel_rfl) Try.func5 (by kernel_rfl)
  (of_decide_eq_true (by kernel_rfl)) (by unfold Func.isWrapper; first | (rw [if_pos (by decide +kernel)]; kernel_rfl) | (rw [if_neg (by decide +kernel)]; exact ⟨rfl, rfl⟩))
  (fun os started H enc _ => lifted os started H enc)
theorem proved : Rows.TableOrdersSaid := over
end Go.Proofs.Ytpbcigilipdedaa.tableOrders
namespace Go.Proofs.Ytpbcigilipdedaa
theorem tableOrders_holds : Rows.TableOrdersSaid := tableOrders.proved
end Go.Proofs.Ytpbcigilipdedaa
