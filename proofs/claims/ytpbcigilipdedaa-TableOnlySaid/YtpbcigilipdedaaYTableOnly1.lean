/- Proved: the statement TableOnly. Conditions: none but those of the statement. -/
import Derived.Test.YtpbcigilipdedaaZ4
import Derived.Test.YtpbcigilipdedaaZ2
import Derived.Test.YtpbcigilipdedaaZ1
import Derived.Test.YtpbcigilipdedaaZ3
import Derived.Test.YtpbcigilipdedaaU1
import Derived.Deep.Slices
import Derived.ChangeArms
import Derived.DataReads
import Derived.SizedLaws

/- What a laid table's constraint gives. -/
namespace Go.Proofs.Ytpbcigilipdedaa.P
open Go.RowKit Go.Proofs.YtpbcigilipdedaaW.PrintWords Go.Proofs.YtpbcigilipdedaaW.PrintLast Go.Proofs.YtpbcigilipdedaaW.PrintMore
set_option linter.unusedVariables false
set_option linter.unusedSimpArgs false

/-! ### What a laid constraint gives -/
theorem isVal_of_all {r : List Int} (h : r.all isVal = true) : ∀ x ∈ r, isVal x = true := fun x hx => List.all_eq_true.1 h x hx
structure TabOK (n : Nat) (vars coefs : List Int) (op rhs : Int) (rows : List (List Int)) (b : Int) : Prop where
  mem : ∀ v ∈ vars, 0 ≤ v ∧ v < (n : Int)
  nodup : vars.Nodup
  some : vars ≠ []
  coefs : coefs = []
  op : op = 0
  rhs : rhs = 0
  b : b = 0
  row : ∀ r ∈ rows, r.length = vars.length ∧ ∀ x ∈ r, isVal x = true
theorem ConOK.tab {n : Nat} {vars coefs : List Int} {op rhs : Int} {rows : List (List Int)} {b : Int} (h : ConOK 2 n vars coefs op rhs rows b) : TabOK n vars coefs op rhs rows b := by
  have hB := h.right
  unfold rightB plainB manyB rowsOK at hB
  simp only [Bool.and_eq_true, decide_eq_true_iff, if_pos, List.all_eq_true] at hB
  obtain ⟨⟨⟨⟨⟨h1, h2⟩, h3⟩, h4⟩, h5, h6⟩, h7, h8⟩ := hB
  exact ⟨h.mem, h6, h5, h4, h1, h2, h3, fun r hr => ⟨(h7 r hr).1, (h7 r hr).2⟩⟩
theorem Zft {l : List Int} {n : Nat} (h : l.Nodup) (hm : ∀ v ∈ l, 0 ≤ v ∧ v < (n : Int)) : l.length ≤ n := by
  have h1 := ss_length (Zfe l) (a := 0) (b := (n : Int) - 1) (fun x hx => by have := hm x ((Zdo x l).1 hx); omega)
  have h2 : (sd l).length = l.length := by
    have : ∀ l : List Int, l.Nodup → (sd l).length = l.length := by
      intro l
      induction l with
      | nil => intro _; rfl
      | cons x l ih =>
        intro h
        obtain ⟨hx, hl⟩ := List.nodup_cons.1 h
        have hins : ∀ (m : List Int), x ∉ m → (insU x m).length = m.length + 1 := by
          intro m
          induction m with
          | nil => intro _; rfl
          | cons y m ihm =>
            intro hxm
            rw [List.mem_cons, not_or] at hxm
            unfold insU
            split
            · rfl
            rw [if_neg hxm.1, List.length_cons, ihm hxm.2]; rfl
        rw [sd, hins _ (fun e => hx ((Zdo x l).1 e)), ih hl]
        rfl
    exact this l h
  omega
end Go.Proofs.Ytpbcigilipdedaa.P
/- table.Prune on good domains: what is left of them. -/
namespace Go.Proofs.Ytpbcigilipdedaa.P
open Go.RowKit Go.Proofs.YtpbcigilipdedaaW.PrintWords Go.Proofs.YtpbcigilipdedaaW.PrintLast Go.Proofs.YtpbcigilipdedaaW.PrintMore
set_option linter.unusedVariables false
set_option linter.unusedSimpArgs false
set_option linter.unusedSectionVars false

/-- r is a domain, and its values are just those of which q is true. -/
def DomIs (r : List Rg) (q : Int → Prop) : Prop := Gd 1048576 (-1048576) r ∧ ∀ v, Va r v ↔ q v
theorem DomIs.eq {r s : List Rg} {q q' : Int → Prop} (h : DomIs r q) (k : DomIs s q') (e : ∀ v, q v ↔ q' v) : r = s := Gd.ext h.1 k.1 (fun v => (h.2 v).trans ((e v).trans (k.2 v).symm))
theorem rdRt (d : List (List Rg)) (v : Int) : Zcn d v = dv d v := rfl
theorem dvt_same {d : List (List Rg)} {i : Int} {x : List Rg} (h0 : 0 ≤ i) (h1 : i < (d.length : Int)) : dv (d.set i.toNat x) i = x := by
  unfold dv
  rw [List.getD_eq_getElem?_getD, List.getElem?_set, if_pos rfl, if_pos (by omega)]
  rfl
theorem dvt_other {d : List (List Rg)} {i j : Int} {x : List Rg} (h0 : 0 ≤ i) (h1 : 0 ≤ j) (h : i ≠ j) : dv (d.set i.toNat x) j = dv d j := by
  unfold dv
  rw [List.getD_eq_getElem?_getD, List.getElem?_set, if_neg (by omega), List.getD_eq_getElem?_getD]
theorem dv_ext {l m : List (List Rg)} (e : l.length = m.length) (h : ∀ j : Int, 0 ≤ j → j < (l.length : Int) → dv l j = dv m j) : l = m := by
  refine List.ext_getElem e (fun i h1 h2 => ?_)
  have := h (i : Int) (by omega) (by omega)
  unfold dv at this
  simpa [List.getD_eq_getElem?_getD, List.getElem?_eq_getElem h1, List.getElem?_eq_getElem h2] using this

theorem nd_inj {l : List Int} (h : l.Nodup) {i j : Nat} (hi : i < l.length) (hj : j < l.length) (e : l[i] = l[j]) : i = j := by
  rcases Nat.lt_trichotomy i j with q | q | q
  · exact absurd e (List.pairwise_iff_getElem.1 h i j hi hj q)
  · exact q
  exact absurd e.symm (List.pairwise_iff_getElem.1 h j i hj hi q)

/-! ### Same: two lists of domains that are one -/
theorem same3_l0 (l : List (List Rg)) (hl : l.length < 4611686018427387904) (hin : ∀ x ∈ l, x.length < 4611686018427387904) : ∀ (m n : Nat), n + m = l.length → Ev (fun k => Zaw.l0 k l l (n : Int)) true := by
  intro m
  induction m with
  | zero =>
    intro n h
    exact Ev.step (G := fun _ => some true) (fun k => by rw [Zaw.l0, if_neg (by omega)]) (Ev.pure _)
  | succ m ih =>
    intro n h
    have hn : n < l.length := by omega
    refine Ev.step (fun k => by rw [Zaw.l0, if_pos (by omega), if_pos (by omega), if_pos (by omega), Zfu l n hn]) (Ev.bind (ref_Same_self l[n] (hin _ (List.getElem_mem hn))) (Ev.Zcl rfl ?_))
    simp only [w1 (show n < 4611686018427387904 by omega)]
    exact ih (n + 1) (by omega)
theorem same3_self (l : List (List Rg)) (hl : l.length < 4611686018427387904) (hin : ∀ x ∈ l, x.length < 4611686018427387904) : Ev (fun k => Zaw.f k l l) true :=
  Ev.Zcl rfl (same3_l0 l hl hin l.length 0 (by omega))

/-! ### The columns -/
section
variable {vars : List Int} {keep : List (List Int)} (hk : ∀ r ∈ keep, r.length = vars.length) (hv : ∀ r ∈ keep, ∀ x ∈ r, isVal x = true) (hkl : keep.length ≤ 4096) (hvl : vars.length ≤ 4096)
include hk hv hkl hvl
/-- What a column leaves. -/
def ColIs (keep : List (List Int)) (i : Nat) (o : List Rg) : Prop := DomIs o (fun x => ∃ r ∈ keep, r.getD i 0 = x)
theorem column_l2 (i : Nat) (hi : i < vars.length) (out : List (List Rg)) (x37 : List Int) (x38 v : Int) (res : List (List Rg) × Bool) (h0 : 0 ≤ v) (h1 : v < (out.length : Int))
    (next : ∀ o, ColIs keep i o → Ev (fun k => Zau.l1 k (out.set v.toNat o) keep x37 x38 ((i + 1 : Nat) : Int)) res) :
    ∀ (m n : Nat), n + m = keep.length → Ev (fun k => Zau.l2 k out keep (i : Int) v ((keep.take n).map fun r => r.getD i 0) x37 x38 (i : Int) keep (keep.length : Int) (n : Int)) res := by
  intro m
  induction m with
  | zero =>
    intro n h
    rw [List.take_of_length_le (by omega)]
    have hval : ∀ x ∈ keep.map (fun r => r.getD i 0), isVal x = true := fun x hx => by
      obtain ⟨r, hr, rfl⟩ := List.mem_map.1 hx
      have hl := hk r hr
      refine hv r hr _ ?_
      rw [List.getD_eq_getElem?_getD, List.getElem?_eq_getElem (by omega)]
      exact List.getElem_mem _
    have hO := Of_ev (keep.map fun r => r.getD i 0) (by rw [List.length_map]; exact hkl)
    rw [Zga hval] at hO
    have hg := Zdi (V := 1048576) (b := -1048576) (Zfe (keep.map fun r => r.getD i 0)) (fun x hx => (Zea x).1 (hval x ((Zdo x _).1 hx)))
    refine Ev.step (fun k => by rw [Zau.l2, if_neg (by omega)]) (Ev.bind hO (Ev.Zcl h0 (Ev.Zcl h1 ?_)))
    simp only [w1 (show i < 4611686018427387904 by omega)]
    refine next _ ⟨hg.1, fun x => (hg.2 x).trans ?_⟩
    rw [Zdo, List.mem_map]
  | succ m ih =>
    intro n h
    have hn : n < keep.length := by omega
    have hl := hk _ (List.getElem_mem hn)
    have e : Go.Proofs.YtpbcigilipdedaaW.PrintWords.rd (Zbz keep (n : Int)) (i : Int) = keep[n].getD i 0 := by
      rw [Zdq keep n hn, Zck _ i (by omega), List.getD_eq_getElem?_getD, List.getElem?_eq_getElem (by omega)]
      rfl
    have hs := ih (n + 1) (by omega)
    rw [List.take_succ_eq_append_getElem hn, List.map_append] at hs
    simp only [List.map_cons, List.map_nil] at hs
    refine Ev.step (fun k => by rw [Zau.l2, if_pos (by omega), if_pos (by omega), if_pos (by omega), if_pos (by omega), if_pos (by rw [Zdq keep n hn]; omega), if_pos (by rw [List.length_map, List.length_take]; omega), e, w1 (show n < 4611686018427387904 by omega)]) hs
theorem columns_l1 (d : List (List Rg)) (hm : ∀ v ∈ vars, 0 ≤ v ∧ v < (d.length : Int)) (hnd : vars.Nodup) :
    ∀ (m n : Nat) (out : List (List Rg)), n + m = vars.length → out.length = d.length → (∀ i (h : i < vars.length), i < n → ColIs keep i (dv out vars[i])) → (∀ j, 0 ≤ j → j ∉ vars.take n → dv out j = dv d j) →
    ∃ l, Ev (fun k => Zau.l1 k out keep vars (vars.length : Int) (n : Int)) (l, true) ∧ l.length = d.length ∧ (∀ i (h : i < vars.length), ColIs keep i (dv l vars[i])) ∧ (∀ j, 0 ≤ j → j ∉ vars → dv l j = dv d j) := by
  intro m
  induction m with
  | zero =>
    intro n out h hl h1 h2
    rw [List.take_of_length_le (by omega)] at h2
    exact ⟨out, Ev.step (G := fun _ => some (out, true)) (fun k => by rw [Zau.l1, if_neg (by omega)]) (Ev.pure _), hl, fun i hi => h1 i hi (by omega), h2⟩
  | succ m ih =>
    intro n out h hl h1 h2
    have hn : n < vars.length := by omega
    obtain ⟨v0, v1⟩ := hm _ (List.getElem_mem hn)
    -- the column's domain hangs on the rows alone
    have hcol : ∃ o, ColIs keep n o := by
      have hval : ∀ x ∈ keep.map (fun r => r.getD n 0), isVal x = true := fun x hx => by
        obtain ⟨r, hr, rfl⟩ := List.mem_map.1 hx
        have hl := hk r hr
        refine hv r hr _ ?_
        rw [List.getD_eq_getElem?_getD, List.getElem?_eq_getElem (by omega)]
        exact List.getElem_mem _
      have hg := Zdi (V := 1048576) (b := -1048576) (Zfe (keep.map fun r => r.getD n 0)) (fun x hx => (Zea x).1 (hval x ((Zdo x _).1 hx)))
      exact ⟨_, hg.1, fun x => (hg.2 x).trans (by rw [Zdo, List.mem_map])⟩
    obtain ⟨o, ho⟩ := hcol
    obtain ⟨l, hE, hL⟩ := ih (n + 1) (out.set vars[n].toNat o) (by omega) (by rw [List.length_set]; exact hl)
      (fun i hi hin => by
        by_cases e : i = n
        · subst e
          rw [dvt_same v0 (by omega)]
          exact ho
        rw [dvt_other v0 (hm _ (List.getElem_mem hi)).1 (fun e2 => e (nd_inj hnd hn hi e2).symm)]
        exact h1 i hi (by omega))
      (fun j hj hjn => by
        rw [List.take_succ_eq_append_getElem hn, List.mem_append, List.mem_singleton, not_or] at hjn
        rw [dvt_other v0 hj (fun e => hjn.2 e.symm)]
        exact h2 j hj hjn.1)
    refine ⟨l, ?_, hL⟩
    refine Ev.step (fun k => by rw [Zau.l1, if_pos (by omega), if_pos (by omega), if_pos (by omega), Zck vars n hn]) ?_
    have := column_l2 hk hv hkl hvl n hn out vars (vars.length : Int) vars[n] (l, true) v0 (by omega) (fun o' ho' => by
      obtain rfl := DomIs.eq ho' ho (fun _ => Iff.rfl)
      exact hE) keep.length 0 (by omega)
    simpa using this
end

/-! ### Prune -/
theorem Zfz (d : List (List Rg)) (hd : Doms d) (vars : List Int) (hm : ∀ v ∈ vars, 0 ≤ v ∧ v < (d.length : Int)) (hnd : vars.Nodup) (kd : Int) (coefs : List Int) (op rhs : Int) (rows : List (List Int)) (b : Int)
    (hrl : rows.length ≤ 4096) (hrow : ∀ r ∈ rows, r.length = vars.length ∧ ∀ x ∈ r, isVal x = true) :
    ((∃ x ∈ d, x = []) ∧ Ev (fun k => Zau.f k d kd vars coefs op rhs rows b) ([], false)) ∨
    ((∀ x ∈ d, x ≠ []) ∧ ((rows.filter (rowIn d vars) = [] ∧ Ev (fun k => Zau.f k d kd vars coefs op rhs rows b) ([], false)) ∨
      (rows.filter (rowIn d vars) ≠ [] ∧ ∃ l, Ev (fun k => Zau.f k d kd vars coefs op rhs rows b) (l, true) ∧ l.length = d.length ∧ (∀ i (h : i < vars.length), ColIs (rows.filter (rowIn d vars)) i (dv l vars[i])) ∧ (∀ j, 0 ≤ j → j ∉ vars → dv l j = dv d j)))) := by
  have h64 := hd.1
  have hvl := Zft hnd hm
  have hkeep : (rows.filter (rowIn d vars)).length ≤ rows.length := List.length_filter_le _ _
  have hlen : ∀ x ∈ d, x.length ≤ 4096 := fun x hx => Nat.le_trans (Zc0 (hd.2 x hx).1) (hd.2 x hx).2
  have hR := Rows_ev d kd vars coefs op rhs rows b hm (by omega) (by omega) (fun x hx => ⟨(hrow x hx).1, by have := (hrow x hx).1; omega⟩)
  -- the copying
  have loop : ∀ (res : List (List Rg) × Bool), ((∀ x ∈ d, x ≠ []) → Ev (fun k => if ((rows.filter (rowIn d vars)).length : Int) = 0 then some (([] : List (List Rg)), false) else Zau.l1 k d (rows.filter (rowIn d vars)) vars (vars.length : Int) 0) res) → ((∃ x ∈ d, x = []) → res = ([], false)) →
      ∀ (m n : Nat), n + m = d.length → (∀ x ∈ d.take n, x ≠ []) → Ev (fun k => Zau.l0 k d (d.take n) d (d.length : Int) (n : Int) kd vars coefs op rhs rows b) res := by
    intro res hend hemp m
    induction m with
    | zero =>
      intro n h ht
      rw [List.take_of_length_le (by omega)] at ht ⊢
      exact Ev.step (fun k => by rw [Zau.l0, if_neg (by omega)]) (Ev.bind hR (hend ht))
    | succ m ih =>
      intro n h ht
      have hn : n < d.length := by omega
      refine Ev.step (fun k => by rw [Zau.l0, if_pos (by omega), if_pos (by omega), if_pos (by omega), Zfu d n hn]) ?_
      by_cases hz : d[n] = []
      · rw [hemp ⟨_, List.getElem_mem hn, hz⟩]
        exact Ev.Zcl (by rw [hz]; rfl) (Ev.pure _)
      have hpos : 0 < d[n].length := List.length_pos_iff.2 hz
      have hl9 := hlen _ (List.getElem_mem hn)
      refine Ev.Zc7 (by omega) (Ev.bind (Ev.const (show cloneR.f d[n] = some d[n] by rw [cloneR.f, if_pos (by omega)])) (Ev.Zcl (by rw [List.length_take]; omega) ?_))
      have := ih (n + 1) (by omega) (fun x hx => by
        rw [List.take_succ_eq_append_getElem hn, List.mem_append, List.mem_singleton] at hx
        exact hx.elim (ht x) (fun e => e ▸ hz))
      rw [List.take_succ_eq_append_getElem hn] at this
      simp only [w1 (show n < 4611686018427387904 by omega)]
      exact this
  have start : ∀ res, Ev (fun k => Zau.l0 k d (d.take 0) d (d.length : Int) ((0 : Nat) : Int) kd vars coefs op rhs rows b) res → Ev (fun k => Zau.f k d kd vars coefs op rhs rows b) res := fun res h => by
    unfold Zau.f
    exact h
  by_cases he : ∃ x ∈ d, x = []
  · exact .inl ⟨he, start _ (loop _ (fun h => by obtain ⟨x, hx, hx0⟩ := he; exact absurd hx0 (h x hx)) (fun _ => rfl) d.length 0 (by omega) (by simp))⟩
  have hne : ∀ x ∈ d, x ≠ [] := fun x hx e => he ⟨x, hx, e⟩
  refine .inr ⟨hne, ?_⟩
  by_cases hk0 : rows.filter (rowIn d vars) = []
  · refine .inl ⟨hk0, start _ (loop _ (fun _ => ?_) (fun h => absurd h he) d.length 0 (by omega) (by simp))⟩
    exact Ev.Zcl (by rw [hk0]; rfl) (Ev.pure _)
  have hpos : 0 < (rows.filter (rowIn d vars)).length := List.length_pos_iff.2 hk0
  have hmem : ∀ r ∈ rows.filter (rowIn d vars), r ∈ rows := fun r hr => (List.mem_filter.1 hr).1
  obtain ⟨l, hE, hL⟩ := columns_l1 (keep := rows.filter (rowIn d vars)) (fun r hr => (hrow r (hmem r hr)).1) (fun r hr => (hrow r (hmem r hr)).2) (by omega) (by omega) d hm hnd vars.length 0 d (by omega) rfl (fun i _ h => absurd h (Nat.not_lt_zero _)) (fun j _ _ => rfl)
  refine .inr ⟨hk0, l, start _ (loop _ (fun _ => ?_) (fun h => absurd h he) d.length 0 (by omega) (by simp)), hL⟩
  exact Ev.Zc7 (by omega) hE
end Go.Proofs.Ytpbcigilipdedaa.P
namespace Go.Proofs.Ytpbcigilipdedaa.P
open Go.RowKit Go.Proofs.YtpbcigilipdedaaW.PrintWords Go.Proofs.YtpbcigilipdedaaW.PrintLast Go.Proofs.YtpbcigilipdedaaW.PrintMore
attribute [local go_sem] Zcv Zcx Zdc Zdd Zcp Zcq Zcw Zcy
set_option linter.unusedVariables false
set_option linter.unusedSimpArgs false
/-! ### Zad: function 6 -/
mutual
def Zad.l0 : Nat → List (List (S41)) → List (List Int) → Int → Int → List Int → List Int → Int → Int → List (List Int) → Int → Option (Bool)
 | 0, _, _, _, _, _, _, _, _, _, _ => none
 | k + 1, x3, x6, x7, x642000, x642001, x642002, x642003, x642004, x642005, x642006 => if x7 < (x6.length : Int) then (if 0 ≤ x7 then (if ((Zbz x6 x7).length : Int) = (x642001.length : Int) then (Zad.l0 k x3 x6 (wrap64 (x7 + 1)) x642000 x642001 x642002 x642003 x642004 x642005 x642006) else (none)) else (none)) else ((Zau.f k x3 x642000 x642001 x642002 x642003 x642004 x642005 x642006).bind fun bt647 => ((Zbc.f k x642000 x642001 x642002 x642003 x642004 x642005 x642006).bind fun bt651 => ((Zau.f k x3 bt651.1 bt651.2.1 bt651.2.2.1 bt651.2.2.2.1 bt651.2.2.2.2.1 x6 bt651.2.2.2.2.2.2).bind fun bt665 => (if (bt647.2 != bt665.2) = true then (Zad.j1 k x3 x6 bt647.2 true x642000 x642001 x642002 x642003 x642004 x642005 x642006 bt651.1 bt651.2.1 bt651.2.2.1 bt651.2.2.2.1 bt651.2.2.2.2.1 x6 bt651.2.2.2.2.2.2) else ((Zaw.f k bt647.1 bt665.1).bind fun t669 => (Zad.j1 k x3 x6 bt647.2 (!t669) x642000 x642001 x642002 x642003 x642004 x642005 x642006 bt651.1 bt651.2.1 bt651.2.2.1 bt651.2.2.2.1 bt651.2.2.2.2.1 x6 bt651.2.2.2.2.2.2))))))
def Zad.j1 : Nat → List (List (S41)) → List (List Int) → Bool → Bool → Int → List Int → List Int → Int → Int → List (List Int) → Int → Int → List Int → List Int → Int → Int → List (List Int) → Int → Option (Bool)
 | 0, _, _, _, _, _, _, _, _, _, _, _, _, _, _, _, _, _, _ => none
 | k + 1, x3, x6, x9, x67, x642000, x642001, x642002, x642003, x642004, x642005, x642006, x665000, x665001, x665002, x665003, x665004, x665005, x665006 => if x67 = true then (none) else (if (x6.length : Int) = 0 then (Zad.j2 k x3 x6 x9 true x642000 x642001 x642002 x642003 x642004 x642005 x642006 x665000 x665001 x665002 x665003 x665004 x665005 x665006) else (Zad.j2 k x3 x6 x9 (!x9) x642000 x642001 x642002 x642003 x642004 x642005 x642006 x665000 x665001 x665002 x665003 x665004 x665005 x665006))
def Zad.j2 : Nat → List (List (S41)) → List (List Int) → Bool → Bool → Int → List Int → List Int → Int → Int → List (List Int) → Int → Int → List Int → List Int → Int → Int → List (List Int) → Int → Option (Bool)
 | 0, _, _, _, _, _, _, _, _, _, _, _, _, _, _, _, _, _, _ => none
 | k + 1, x3, x6, x9, x74, x642000, x642001, x642002, x642003, x642004, x642005, x642006, x665000, x665001, x665002, x665003, x665004, x665005, x665006 => if x74 = true then (if x9 = true then (none) else ((Zb.f k).bind fun t670 => (some t670))) else (if 1 ≤ (x6.length : Int) then ((Zau.f k x3 x665000 x665001 x665002 x665003 x665004 (x6.take 1) x665006).bind fun bt675 => (Zad.l1 k x3 x6 bt675.1 bt675.2 0 x642000 x642001 x642002 x642003 x642004 x642005 x642006)) else (none))
def Zad.l1 : Nat → List (List (S41)) → List (List Int) → List (List (S41)) → Bool → Int → Int → List Int → List Int → Int → Int → List (List Int) → Int → Option (Bool)
 | 0, _, _, _, _, _, _, _, _, _, _, _, _ => none
 | k + 1, x3, x6, x13, x14, x15, x642000, x642001, x642002, x642003, x642004, x642005, x642006 => if x15 < (x642001.length : Int) then (Zad.j4 k x3 x6 x13 x14 x15 x14 x642000 x642001 x642002 x642003 x642004 x642005 x642006) else (Zad.j4 k x3 x6 x13 x14 x15 false x642000 x642001 x642002 x642003 x642004 x642005 x642006)
def Zad.j4 : Nat → List (List (S41)) → List (List Int) → List (List (S41)) → Bool → Int → Bool → Int → List Int → List Int → Int → Int → List (List Int) → Int → Option (Bool)
 | 0, _, _, _, _, _, _, _, _, _, _, _, _, _ => none
 | k + 1, x3, x6, x13, x14, x15, x96, x642000, x642001, x642002, x642003, x642004, x642005, x642006 => if x96 = true then (if (x13.length : Int) = (x3.length : Int) then (if 0 ≤ x15 then (if x15 < (x642001.length : Int) then (if 0 ≤ (rd x642001 x15) then (if (rd x642001 x15) < (x13.length : Int) then ((Zak.f k (Zcn x13 (rd x642001 x15))).bind fun t682 => (if 0 < (x6.length : Int) then (if x15 ≤ (wrap64 (x15 + 1)) then (if (wrap64 (x15 + 1)) ≤ ((Zbz x6 0).length : Int) then ((Zam.f k t682 (((Zbz x6 0).take ((wrap64 (x15 + 1)) : Int).toNat).drop (x15 : Int).toNat)).bind fun t690 => (if t690 = true then (Zad.l1 k x3 x6 x13 x14 (wrap64 (x15 + 1)) x642000 x642001 x642002 x642003 x642004 x642005 x642006) else (none))) else (none)) else (none)) else (none))) else (none)) else (none)) else (none)) else (none)) else (none)) else (if x14 = true then ((Zb.f k).bind fun t679 => (some t679)) else (none))
end
def Zad.f (k : Nat) (l0_0 : List (List Int)) (a0_1 : Int) (l0_2 : List Int) (l0_3 : List Int) (a0_4 : Int) (a0_5 : Int) (l0_6 : List (List Int)) (a0_7 : Int) (l0_8 : List Int) (l0_9 : List Int) : Option (Bool) := (Zan.f k l0_0 a0_1 l0_2 l0_3 a0_4 a0_5 l0_6 a0_7 l0_8 l0_9 2).bind fun bt624 => (if bt624.2.2.2.2.2.2.2.2 = true then ((Za3.f k bt624.1 bt624.2.1 bt624.2.2.1 bt624.2.2.2.1 bt624.2.2.2.2.1 bt624.2.2.2.2.2.1 bt624.2.2.2.2.2.2.1 bt624.2.2.2.2.2.2.2.1).bind fun t643 => (Zad.l0 k bt624.1 t643 0 bt624.2.1 bt624.2.2.1 bt624.2.2.2.1 bt624.2.2.2.2.1 bt624.2.2.2.2.2.1 bt624.2.2.2.2.2.2.1 bt624.2.2.2.2.2.2.2.1)) else ((Zb.f k).bind fun t642 => (some t642)))
theorem Zad.Zb1 : ∀ k, (∀ y0 y1 y2 y3 y4 y5 y6 y7 y8 y9, LeO (Zad.l0 k y0 y1 y2 y3 y4 y5 y6 y7 y8 y9) (Zad.l0 (k + 1) y0 y1 y2 y3 y4 y5 y6 y7 y8 y9)) ∧ (∀ y0 y1 y2 y3 y4 y5 y6 y7 y8 y9 y10 y11 y12 y13 y14 y15 y16 y17, LeO (Zad.j1 k y0 y1 y2 y3 y4 y5 y6 y7 y8 y9 y10 y11 y12 y13 y14 y15 y16 y17) (Zad.j1 (k + 1) y0 y1 y2 y3 y4 y5 y6 y7 y8 y9 y10 y11 y12 y13 y14 y15 y16 y17)) ∧ (∀ y0 y1 y2 y3 y4 y5 y6 y7 y8 y9 y10 y11 y12 y13 y14 y15 y16 y17, LeO (Zad.j2 k y0 y1 y2 y3 y4 y5 y6 y7 y8 y9 y10 y11 y12 y13 y14 y15 y16 y17) (Zad.j2 (k + 1) y0 y1 y2 y3 y4 y5 y6 y7 y8 y9 y10 y11 y12 y13 y14 y15 y16 y17)) ∧ (∀ y0 y1 y2 y3 y4 y5 y6 y7 y8 y9 y10 y11, LeO (Zad.l1 k y0 y1 y2 y3 y4 y5 y6 y7 y8 y9 y10 y11) (Zad.l1 (k + 1) y0 y1 y2 y3 y4 y5 y6 y7 y8 y9 y10 y11)) ∧ (∀ y0 y1 y2 y3 y4 y5 y6 y7 y8 y9 y10 y11 y12, LeO (Zad.j4 k y0 y1 y2 y3 y4 y5 y6 y7 y8 y9 y10 y11 y12) (Zad.j4 (k + 1) y0 y1 y2 y3 y4 y5 y6 y7 y8 y9 y10 y11 y12))
 | 0 => ⟨fun _ _ _ _ _ _ _ _ _ _ r h => by simp [Zad.l0] at h, fun _ _ _ _ _ _ _ _ _ _ _ _ _ _ _ _ _ _ r h => by simp [Zad.j1] at h, fun _ _ _ _ _ _ _ _ _ _ _ _ _ _ _ _ _ _ r h => by simp [Zad.j2] at h, fun _ _ _ _ _ _ _ _ _ _ _ _ r h => by simp [Zad.l1] at h, fun _ _ _ _ _ _ _ _ _ _ _ _ _ r h => by simp [Zad.j4] at h⟩
 | k + 1 => by
  obtain ⟨ih0, ih1, ih2, ih3, ih4⟩ := Zad.Zb1 k
  refine ⟨?_, ?_, ?_, ?_, ?_⟩
  ·intro y0 y1 y2 y3 y4 y5 y6 y7 y8 y9
   unfold Zad.l0
   repeat' first
   | (with_reducible exact ih0 _ _ _ _ _ _ _ _ _ _)
   | (with_reducible exact ih1 _ _ _ _ _ _ _ _ _ _ _ _ _ _ _ _ _ _)
   | (with_reducible exact ih2 _ _ _ _ _ _ _ _ _ _ _ _ _ _ _ _ _ _)
   | (with_reducible exact ih3 _ _ _ _ _ _ _ _ _ _ _ _)
   | (with_reducible exact ih4 _ _ _ _ _ _ _ _ _ _ _ _ _)
   | (with_reducible exact Zan.mono _ _ _ _ _ _ _ _ _ _ _ _)
   | (with_reducible exact Zb.mono _)
   | (with_reducible exact Zam.mono _ _ _)
   | (with_reducible exact Zak.mono _ _)
   | (with_reducible exact Zaw.mono _ _ _)
   | (with_reducible exact Zbc.mono _ _ _ _ _ _ _ _)
   | (with_reducible exact Zau.mono _ _ _ _ _ _ _ _ _)
   | (with_reducible exact Za3.mono _ _ _ _ _ _ _ _ _)
   | (with_reducible exact LeO.refl _)
   | (with_reducible exact LeO.none _)
   | (with_reducible refine LeO.ite ?_ ?_)
   | (with_reducible refine LeO.bind ?_ (fun _ => ?_))
   | exact ih0 _ _ _ _ _ _ _ _ _ _
   | exact ih1 _ _ _ _ _ _ _ _ _ _ _ _ _ _ _ _ _ _
   | exact ih2 _ _ _ _ _ _ _ _ _ _ _ _ _ _ _ _ _ _
   | exact ih3 _ _ _ _ _ _ _ _ _ _ _ _
   | exact ih4 _ _ _ _ _ _ _ _ _ _ _ _ _
   | exact Zan.mono _ _ _ _ _ _ _ _ _ _ _ _
   | exact Zb.mono _
   | exact Zam.mono _ _ _
   | exact Zak.mono _ _
   | exact Zaw.mono _ _ _
   | exact Zbc.mono _ _ _ _ _ _ _ _
   | exact Zau.mono _ _ _ _ _ _ _ _ _
   | exact Za3.mono _ _ _ _ _ _ _ _ _
   | exact LeO.none _
   | refine LeO.ite ?_ ?_
   | refine LeO.bind ?_ (fun _ => ?_)
  ·intro y0 y1 y2 y3 y4 y5 y6 y7 y8 y9 y10 y11 y12 y13 y14 y15 y16 y17
   unfold Zad.j1
   repeat' first
   | (with_reducible exact ih0 _ _ _ _ _ _ _ _ _ _)
   | (with_reducible exact ih1 _ _ _ _ _ _ _ _ _ _ _ _ _ _ _ _ _ _)
   | (with_reducible exact ih2 _ _ _ _ _ _ _ _ _ _ _ _ _ _ _ _ _ _)
   | (with_reducible exact ih3 _ _ _ _ _ _ _ _ _ _ _ _)
   | (with_reducible exact ih4 _ _ _ _ _ _ _ _ _ _ _ _ _)
   | (with_reducible exact Zan.mono _ _ _ _ _ _ _ _ _ _ _ _)
   | (with_reducible exact Zb.mono _)
   | (with_reducible exact Zam.mono _ _ _)
   | (with_reducible exact Zak.mono _ _)
   | (with_reducible exact Zaw.mono _ _ _)
   | (with_reducible exact Zbc.mono _ _ _ _ _ _ _ _)
   | (with_reducible exact Zau.mono _ _ _ _ _ _ _ _ _)
   | (with_reducible exact Za3.mono _ _ _ _ _ _ _ _ _)
   | (with_reducible exact LeO.refl _)
   | (with_reducible exact LeO.none _)
   | (with_reducible refine LeO.ite ?_ ?_)
   | (with_reducible refine LeO.bind ?_ (fun _ => ?_))
   | exact ih0 _ _ _ _ _ _ _ _ _ _
   | exact ih1 _ _ _ _ _ _ _ _ _ _ _ _ _ _ _ _ _ _
   | exact ih2 _ _ _ _ _ _ _ _ _ _ _ _ _ _ _ _ _ _
   | exact ih3 _ _ _ _ _ _ _ _ _ _ _ _
   | exact ih4 _ _ _ _ _ _ _ _ _ _ _ _ _
   | exact Zan.mono _ _ _ _ _ _ _ _ _ _ _ _
   | exact Zb.mono _
   | exact Zam.mono _ _ _
   | exact Zak.mono _ _
   | exact Zaw.mono _ _ _
   | exact Zbc.mono _ _ _ _ _ _ _ _
   | exact Zau.mono _ _ _ _ _ _ _ _ _
   | exact Za3.mono _ _ _ _ _ _ _ _ _
   | exact LeO.none _
   | refine LeO.ite ?_ ?_
   | refine LeO.bind ?_ (fun _ => ?_)
  ·intro y0 y1 y2 y3 y4 y5 y6 y7 y8 y9 y10 y11 y12 y13 y14 y15 y16 y17
   unfold Zad.j2
   repeat' first
   | (with_reducible exact ih0 _ _ _ _ _ _ _ _ _ _)
   | (with_reducible exact ih1 _ _ _ _ _ _ _ _ _ _ _ _ _ _ _ _ _ _)
   | (with_reducible exact ih2 _ _ _ _ _ _ _ _ _ _ _ _ _ _ _ _ _ _)
   | (with_reducible exact ih3 _ _ _ _ _ _ _ _ _ _ _ _)
   | (with_reducible exact ih4 _ _ _ _ _ _ _ _ _ _ _ _ _)
   | (with_reducible exact Zan.mono _ _ _ _ _ _ _ _ _ _ _ _)
   | (with_reducible exact Zb.mono _)
   | (with_reducible exact Zam.mono _ _ _)
   | (with_reducible exact Zak.mono _ _)
   | (with_reducible exact Zaw.mono _ _ _)
   | (with_reducible exact Zbc.mono _ _ _ _ _ _ _ _)
   | (with_reducible exact Zau.mono _ _ _ _ _ _ _ _ _)
   | (with_reducible exact Za3.mono _ _ _ _ _ _ _ _ _)
   | (with_reducible exact LeO.refl _)
   | (with_reducible exact LeO.none _)
   | (with_reducible refine LeO.ite ?_ ?_)
   | (with_reducible refine LeO.bind ?_ (fun _ => ?_))
   | exact ih0 _ _ _ _ _ _ _ _ _ _
   | exact ih1 _ _ _ _ _ _ _ _ _ _ _ _ _ _ _ _ _ _
   | exact ih2 _ _ _ _ _ _ _ _ _ _ _ _ _ _ _ _ _ _
   | exact ih3 _ _ _ _ _ _ _ _ _ _ _ _
   | exact ih4 _ _ _ _ _ _ _ _ _ _ _ _ _
   | exact Zan.mono _ _ _ _ _ _ _ _ _ _ _ _
   | exact Zb.mono _
   | exact Zam.mono _ _ _
   | exact Zak.mono _ _
   | exact Zaw.mono _ _ _
   | exact Zbc.mono _ _ _ _ _ _ _ _
   | exact Zau.mono _ _ _ _ _ _ _ _ _
   | exact Za3.mono _ _ _ _ _ _ _ _ _
   | exact LeO.none _
   | refine LeO.ite ?_ ?_
   | refine LeO.bind ?_ (fun _ => ?_)
  ·intro y0 y1 y2 y3 y4 y5 y6 y7 y8 y9 y10 y11
   unfold Zad.l1
   repeat' first
   | (with_reducible exact ih0 _ _ _ _ _ _ _ _ _ _)
   | (with_reducible exact ih1 _ _ _ _ _ _ _ _ _ _ _ _ _ _ _ _ _ _)
   | (with_reducible exact ih2 _ _ _ _ _ _ _ _ _ _ _ _ _ _ _ _ _ _)
   | (with_reducible exact ih3 _ _ _ _ _ _ _ _ _ _ _ _)
   | (with_reducible exact ih4 _ _ _ _ _ _ _ _ _ _ _ _ _)
   | (with_reducible exact Zan.mono _ _ _ _ _ _ _ _ _ _ _ _)
   | (with_reducible exact Zb.mono _)
   | (with_reducible exact Zam.mono _ _ _)
   | (with_reducible exact Zak.mono _ _)
   | (with_reducible exact Zaw.mono _ _ _)
   | (with_reducible exact Zbc.mono _ _ _ _ _ _ _ _)
   | (with_reducible exact Zau.mono _ _ _ _ _ _ _ _ _)
   | (with_reducible exact Za3.mono _ _ _ _ _ _ _ _ _)
   | (with_reducible exact LeO.refl _)
   | (with_reducible exact LeO.none _)
   | (with_reducible refine LeO.ite ?_ ?_)
   | (with_reducible refine LeO.bind ?_ (fun _ => ?_))
   | exact ih0 _ _ _ _ _ _ _ _ _ _
   | exact ih1 _ _ _ _ _ _ _ _ _ _ _ _ _ _ _ _ _ _
   | exact ih2 _ _ _ _ _ _ _ _ _ _ _ _ _ _ _ _ _ _
   | exact ih3 _ _ _ _ _ _ _ _ _ _ _ _
   | exact ih4 _ _ _ _ _ _ _ _ _ _ _ _ _
   | exact Zan.mono _ _ _ _ _ _ _ _ _ _ _ _
   | exact Zb.mono _
   | exact Zam.mono _ _ _
   | exact Zak.mono _ _
   | exact Zaw.mono _ _ _
   | exact Zbc.mono _ _ _ _ _ _ _ _
   | exact Zau.mono _ _ _ _ _ _ _ _ _
   | exact Za3.mono _ _ _ _ _ _ _ _ _
   | exact LeO.none _
   | refine LeO.ite ?_ ?_
   | refine LeO.bind ?_ (fun _ => ?_)
  intro y0 y1 y2 y3 y4 y5 y6 y7 y8 y9 y10 y11 y12
  unfold Zad.j4
  repeat' first
  | (with_reducible exact ih0 _ _ _ _ _ _ _ _ _ _)
  | (with_reducible exact ih1 _ _ _ _ _ _ _ _ _ _ _ _ _ _ _ _ _ _)
  | (with_reducible exact ih2 _ _ _ _ _ _ _ _ _ _ _ _ _ _ _ _ _ _)
  | (with_reducible exact ih3 _ _ _ _ _ _ _ _ _ _ _ _)
  | (with_reducible exact ih4 _ _ _ _ _ _ _ _ _ _ _ _ _)
  | (with_reducible exact Zan.mono _ _ _ _ _ _ _ _ _ _ _ _)
  | (with_reducible exact Zb.mono _)
  | (with_reducible exact Zam.mono _ _ _)
  | (with_reducible exact Zak.mono _ _)
  | (with_reducible exact Zaw.mono _ _ _)
  | (with_reducible exact Zbc.mono _ _ _ _ _ _ _ _)
  | (with_reducible exact Zau.mono _ _ _ _ _ _ _ _ _)
  | (with_reducible exact Za3.mono _ _ _ _ _ _ _ _ _)
  | (with_reducible exact LeO.refl _)
  | (with_reducible exact LeO.none _)
  | (with_reducible refine LeO.ite ?_ ?_)
  | (with_reducible refine LeO.bind ?_ (fun _ => ?_))
  | exact ih0 _ _ _ _ _ _ _ _ _ _
  | exact ih1 _ _ _ _ _ _ _ _ _ _ _ _ _ _ _ _ _ _
  | exact ih2 _ _ _ _ _ _ _ _ _ _ _ _ _ _ _ _ _ _
  | exact ih3 _ _ _ _ _ _ _ _ _ _ _ _
  | exact ih4 _ _ _ _ _ _ _ _ _ _ _ _ _
  | exact Zan.mono _ _ _ _ _ _ _ _ _ _ _ _
  | exact Zb.mono _
  | exact Zam.mono _ _ _
  | exact Zak.mono _ _
  | exact Zaw.mono _ _ _
  | exact Zbc.mono _ _ _ _ _ _ _ _
  | exact Zau.mono _ _ _ _ _ _ _ _ _
  | exact Za3.mono _ _ _ _ _ _ _ _ _
  | exact LeO.none _
  | refine LeO.ite ?_ ?_
  | refine LeO.bind ?_ (fun _ => ?_)
theorem Zad.mono : ∀ a0 a1 a2 a3 a4 a5 a6 a7 a8 a9 k, LeO (Zad.f k a0 a1 a2 a3 a4 a5 a6 a7 a8 a9) (Zad.f (k + 1) a0 a1 a2 a3 a4 a5 a6 a7 a8 a9) := by
 intro a0 a1 a2 a3 a4 a5 a6 a7 a8 a9 k
 obtain ⟨ih0, ih1, ih2, ih3, ih4⟩ := Zad.Zb1 k
 unfold Zad.f
 repeat' first
   | (with_reducible exact ih0 _ _ _ _ _ _ _ _ _ _)
   | (with_reducible exact ih1 _ _ _ _ _ _ _ _ _ _ _ _ _ _ _ _ _ _)
   | (with_reducible exact ih2 _ _ _ _ _ _ _ _ _ _ _ _ _ _ _ _ _ _)
   | (with_reducible exact ih3 _ _ _ _ _ _ _ _ _ _ _ _)
   | (with_reducible exact ih4 _ _ _ _ _ _ _ _ _ _ _ _ _)
   | (with_reducible exact Zan.mono _ _ _ _ _ _ _ _ _ _ _ _)
   | (with_reducible exact Zb.mono _)
   | (with_reducible exact Zam.mono _ _ _)
   | (with_reducible exact Zak.mono _ _)
   | (with_reducible exact Zaw.mono _ _ _)
   | (with_reducible exact Zbc.mono _ _ _ _ _ _ _ _)
   | (with_reducible exact Zau.mono _ _ _ _ _ _ _ _ _)
   | (with_reducible exact Za3.mono _ _ _ _ _ _ _ _ _)
   | (with_reducible exact LeO.refl _)
   | (with_reducible exact LeO.none _)
   | (with_reducible refine LeO.ite ?_ ?_)
   | (with_reducible refine LeO.bind ?_ (fun _ => ?_))
   | exact ih0 _ _ _ _ _ _ _ _ _ _
   | exact ih1 _ _ _ _ _ _ _ _ _ _ _ _ _ _ _ _ _ _
   | exact ih2 _ _ _ _ _ _ _ _ _ _ _ _ _ _ _ _ _ _
   | exact ih3 _ _ _ _ _ _ _ _ _ _ _ _
   | exact ih4 _ _ _ _ _ _ _ _ _ _ _ _ _
   | exact Zan.mono _ _ _ _ _ _ _ _ _ _ _ _
   | exact Zb.mono _
   | exact Zam.mono _ _ _
   | exact Zak.mono _ _
   | exact Zaw.mono _ _ _
   | exact Zbc.mono _ _ _ _ _ _ _ _
   | exact Zau.mono _ _ _ _ _ _ _ _ _
   | exact Za3.mono _ _ _ _ _ _ _ _ _
   | exact LeO.none _
   | refine LeO.ite ?_ ?_
   | refine LeO.bind ?_ (fun _ => ?_)
def Zad.T8 : Bool × List (List Nat × List Nat) := (true, [([], []), ([], []), ([0, 1], [0, 1]), ([2], [2]), ([3], [3]), ([], []), ([5], [5]), ([6], [6]), ([4, 7], [4, 7])])
def Zad.B8 : List Nat := [0, 0, 3, 7, 15, 0, 32, 96, 255]
theorem Zad.tab8 : rtab .any (opsOf Try.f6 8) = Zad.T8 := by kernel_rfl
theorem Zad.bits8 : waitsOk Zad.T8.2 Zad.B8 = true := by kernel_rfl
def Zad.T23 : Bool × List (List Nat × List Nat) := (true, [([], []), ([0], [0]), ([], []), ([2], [2]), ([1, 3], [1, 3]), ([4], [4]), ([5], [5]), ([5], [5]), ([7, 5], [5, 7]), ([5], [5]), ([8, 9, 5], [5, 8, 9]), ([10, 5], [5, 10]), ([6, 11, 5], [5, 6, 11]), ([12, 5], [5, 12]), ([13, 5, 5], [5, 13]), ([5], [5]), ([15, 5], [5, 15]), ([16, 5], [5, 16]), ([5], [5]), ([5], [5]), ([19, 5], [5, 19]), ([17, 18, 20, 5], [5, 17, 18, 20]), ([14, 21, 14, 5], [5, 14, 21]), ([22, 5], [5, 22]), ([5, 23], [5, 23])])
def Zad.B23 : List Nat := [0, 1, 0, 4, 15, 31, 63, 63, 191, 63, 959, 1983, 4095, 8191, 16383, 63, 32831, 98367, 63, 63, 524351, 2064447, 4194303, 8388607, 16777215]
theorem Zad.tab23 : rtab .any (opsOf Try.f6 23) = Zad.T23 := by kernel_rfl
theorem Zad.bits23 : waitsOk Zad.T23.2 Zad.B23 = true := by kernel_rfl
set_option maxHeartbeats 8000000 in
set_option maxRecDepth 100000 in
theorem Zad.calls (k : Nat) (A0_0 : Option Addr) (c0_0 : Nat) (l0_0 : List (List Int)) (a0_1 : Int) (A0_2 : Option Addr) (c0_2 : Nat) (l0_2 : List Int) (A0_3 : Option Addr) (c0_3 : Nat) (l0_3 : List Int) (a0_4 : Int) (a0_5 : Int) (A0_6 : Option Addr) (c0_6 : Nat) (l0_6 : List (List Int)) (a0_7 : Int) (A0_8 : Option Addr) (c0_8 : Nat) (l0_8 : List Int) (A0_9 : Option Addr) (c0_9 : Nat) (l0_9 : List Int) (r : Bool) (w : World) (hr0_0 : Kd.C (Kd.slice 3 (Kd.int .i64)) w A0_0 l0_0.length l0_0) (hc0_0 : l0_0.length ≤ c0_0) (hr0_2 : Kd.C (Kd.int .i64) w A0_2 l0_2.length l0_2) (hc0_2 : l0_2.length ≤ c0_2) (hr0_3 : Kd.C (Kd.int .i64) w A0_3 l0_3.length l0_3) (hc0_3 : l0_3.length ≤ c0_3) (hr0_6 : Kd.C (Kd.slice 3 (Kd.int .i64)) w A0_6 l0_6.length l0_6) (hc0_6 : l0_6.length ≤ c0_6) (hr0_8 : Kd.C (Kd.int .i64) w A0_8 l0_8.length l0_8) (hc0_8 : l0_8.length ≤ c0_8) (hr0_9 : Kd.C (Kd.int .i64) w A0_9 l0_9.length l0_9) (hc0_9 : l0_9.length ≤ c0_9) (h : Zad.f k l0_0 a0_1 l0_2 l0_3 a0_4 a0_5 l0_6 a0_7 l0_8 l0_9 = some r) :
  Calls Try.prog 6 #[.agg #[.slice A0_0 l0_0.length c0_0, .int .i64 a0_1, .slice A0_2 l0_2.length c0_2, .slice A0_3 l0_3.length c0_3, .int .i64 a0_4, .int .i64 a0_5, .slice A0_6 l0_6.length c0_6, .int .i64 a0_7, .slice A0_8 l0_8.length c0_8, .slice A0_9 l0_9.length c0_9]] w fun e w' => e = .returned (.bool r) ∧ Below w.heap.size w w' := by
 have hu27 := Try.underlying27
 have hu25 := Try.underlying25
 have HR0_0 := Zaa.mk hr0_0
 have HC0_0 := Zaa.mk hc0_0
 clear hr0_0 hc0_0
 have HR0_2 := Zaa.mk hr0_2
 have HC0_2 := Zaa.mk hc0_2
 clear hr0_2 hc0_2
 have HR0_3 := Zaa.mk hr0_3
 have HC0_3 := Zaa.mk hc0_3
 clear hr0_3 hc0_3
 have HR0_6 := Zaa.mk hr0_6
 have HC0_6 := Zaa.mk hc0_6
 clear hr0_6 hc0_6
 have HR0_8 := Zaa.mk hr0_8
 have HC0_8 := Zaa.mk hc0_8
 clear hr0_8 hc0_8
 have HR0_9 := Zaa.mk hr0_9
 have HC0_9 := Zaa.mk hc0_9
 clear hr0_9 hc0_9
 have HB := Zaa.mk (Below.refl w.heap.size w)
 have H : ((Zan.f k l0_0 a0_1 l0_2 l0_3 a0_4 a0_5 l0_6 a0_7 l0_8 l0_9 2).bind fun bt624 => (if bt624.2.2.2.2.2.2.2.2 = true then ((Za3.f k bt624.1 bt624.2.1 bt624.2.2.1 bt624.2.2.2.1 bt624.2.2.2.2.1 bt624.2.2.2.2.2.1 bt624.2.2.2.2.2.2.1 bt624.2.2.2.2.2.2.2.1).bind fun t643 => (Zad.l0 k bt624.1 t643 0 bt624.2.1 bt624.2.2.1 bt624.2.2.2.1 bt624.2.2.2.2.1 bt624.2.2.2.2.2.1 bt624.2.2.2.2.2.2.1 bt624.2.2.2.2.2.2.2.1)) else ((Zb.f k).bind fun t642 => (some t642)))) = some r := h
 clear h
 replace H := Option.bind_eq_some_iff.mp H
 obtain ⟨⟨t624, t627, t628, t631, t634, t635, t636, t639, t640⟩, A20, H⟩ := H
 replace H : (if t640 = true then ((Za3.f k t624 t627 t628 t631 t634 t635 t636 t639).bind fun t643 => (Zad.l0 k t624 t643 0 t627 t628 t631 t634 t635 t636 t639)) else ((Zb.f k).bind fun t642 => (some t642))) = some r := H
 have A2 := Zaa.mk A20
 clear A20
 by_cases c3 : t640 = true
 rotate_left
 ·replace c3 := Bool.eq_false_iff.mpr c3
  subst c3
  have H1 : ((Zb.f k).bind fun t642 => (some t642)) = some r := by rw [if_neg (show ¬ (false = true) by decide)] at H; exact H
  clear H
  have H := H1
  clear H1
  replace H := Option.bind_eq_some_iff.mp H
  obtain ⟨t642, A860, H⟩ := H
  replace H : (some t642) = some r := H
  have A86 := Zaa.mk A860
  clear A860
  obtain rfl := Option.some.inj H
  go_enter Try.func6, Try.ntmps6
  go_wp2_with (first | ((with_reducible refine Zb2 (N := 1) rfl ?_); refine Zcd ?hg (N := 1) ?hd (cs := #[.slice A0_0 l0_0.length c0_0, .int .i64 a0_1, .slice A0_2 l0_2.length c0_2, .slice A0_3 l0_3.length c0_3, .int .i64 a0_4, .int .i64 a0_5, .slice A0_6 l0_6.length c0_6, .int .i64 a0_7, .slice A0_8 l0_8.length c0_8, .slice A0_9 l0_9.length c0_9]) (t := 27) ?hr ?_; (case hd => rfl); (case hg => rfl); (case hr => first | (go_simp; done) | (go_simp; rfl)); intro gb623 hg w87 hbox hb; have n0_ := Zaa.mk (Zay (by repeat (first | (with_reducible first | exact HB.out | apply Zac | apply Za | apply Zab) | exact HB.out)) hb); have n1_ := Zaa.mk (hbox); have n2_ := Zaa.mk ((by rw [hg]; exact (Zal (by repeat (first | (with_reducible first | exact HB.out | apply Zac | apply Za | apply Zab) | exact HB.out))) : w.heap.size ≤ gb623)); have n3_ := Zaa.mk ((by rw [hg]; exact (Zal (by repeat (first | (with_reducible first | exact HB.out | apply Zac | apply Za | apply Zab) | exact HB.out))) : w.heap.size ≤ gb623)); clear HB; have HB := n0_; have BK623 := n1_; have GW623 := n2_; have GE623 := n3_; clear n0_ n1_ n2_ n3_; clear hb hbox hg; obtain ⟨hcz88_0, hcz88_1, hcz88_2, hcz88_3, hcz88_4, hcz88_5, hcz88_6, hcz88_7, hcz88_8, hcz88_9, hfz88_0, hfz88_1, hfz88_2, hfz88_3, hfz88_4, hfz88_5, hfz88_6, hfz88_7, hfz88_8, hfz88_9⟩ := blks10 BK623.out) | ((with_reducible refine Zbn (f := 14) rfl ?_); refine Zcf (some 18) rfl rfl Try.func14 (by kernel_rfl) rfl #[.agg #[.slice A0_0 l0_0.length c0_0, .int .i64 a0_1, .slice A0_2 l0_2.length c0_2, .slice A0_3 l0_3.length c0_3, .int .i64 a0_4, .int .i64 a0_5, .slice A0_6 l0_6.length c0_6, .int .i64 a0_7, .slice A0_8 l0_8.length c0_8, .slice A0_9 l0_9.length c0_9], .int .i64 2] rfl (by (try simp only [List.map_toArray, List.map_cons, List.map_nil]); first | done | rfl | (simp only [List.length_drop, List.length_take]; rfl)) ?_; (with_reducible refine (Zan.calls k _ _ l0_0 a0_1 _ _ l0_2 _ _ l0_3 a0_4 a0_5 _ _ l0_6 a0_7 _ _ l0_8 _ _ l0_9 2 t624 t627 t628 t631 t634 t635 t636 t639 false _ ?side1 ?side2 ?side3 ?side4 ?side5 ?side6 ?side7 ?side8 ?side9 ?side10 ?side11 ?side12 A2.out).mono ?_); (case side1 => repeat (first | exact (Kd.Zbj HR0_0.out HB.out) | (with_reducible refine Kd.C_alloc ?_ _) | (with_reducible refine Kd.Za0 ?_ _) | (with_reducible refine Kd.C_drew ?_))); (case side2 => exact HC0_0.out); (case side3 => repeat (first | exact (Kd.Zbj HR0_2.out HB.out) | (with_reducible refine Kd.C_alloc ?_ _) | (with_reducible refine Kd.Za0 ?_ _) | (with_reducible refine Kd.C_drew ?_))); (case side4 => exact HC0_2.out); (case side5 => repeat (first | exact (Kd.Zbj HR0_3.out HB.out) | (with_reducible refine Kd.C_alloc ?_ _) | (with_reducible refine Kd.Za0 ?_ _) | (with_reducible refine Kd.C_drew ?_))); (case side6 => exact HC0_3.out); (case side7 => repeat (first | exact (Kd.Zbj HR0_6.out HB.out) | (with_reducible refine Kd.C_alloc ?_ _) | (with_reducible refine Kd.Za0 ?_ _) | (with_reducible refine Kd.C_drew ?_))); (case side8 => exact HC0_6.out); (case side9 => repeat (first | exact (Kd.Zbj HR0_8.out HB.out) | (with_reducible refine Kd.C_alloc ?_ _) | (with_reducible refine Kd.Za0 ?_ _) | (with_reducible refine Kd.C_drew ?_))); (case side10 => exact HC0_8.out); (case side11 => repeat (first | exact (Kd.Zbj HR0_9.out HB.out) | (with_reducible refine Kd.C_alloc ?_ _) | (with_reducible refine Kd.Za0 ?_ _) | (with_reducible refine Kd.C_drew ?_))); (case side12 => exact HC0_9.out); rintro e w89 ⟨v625, v629, v632, v637, rfl, ho0, ho1, ho2, ho3, hb⟩; refine ⟨_, rfl, ?_⟩; have n0_ := Zaa.mk (Kd.Zc2 ho0 (Zal (by repeat (first | (with_reducible first | exact HB.out | apply Zac | apply Za | apply Zab | refine Zaf ?_ GE623.out) | exact HB.out)))); have n1_ := Zaa.mk (Kd.Zb9 ho1 (Zal (by repeat (first | (with_reducible first | exact HB.out | apply Zac | apply Za | apply Zab | refine Zaf ?_ GE623.out) | exact HB.out)))); have n2_ := Zaa.mk (Kd.Zb9 ho2 (Zal (by repeat (first | (with_reducible first | exact HB.out | apply Zac | apply Za | apply Zab | refine Zaf ?_ GE623.out) | exact HB.out)))); have n3_ := Zaa.mk (Kd.Zc2 ho3 (Zal (by repeat (first | (with_reducible first | exact HB.out | apply Zac | apply Za | apply Zab | refine Zaf ?_ GE623.out) | exact HB.out)))); have n4_ := Zaa.mk (Zbb (g := gb623) (o := .cells #[.slice A0_0 l0_0.length c0_0, .int .i64 a0_1, .slice A0_2 l0_2.length c0_2, .slice A0_3 l0_3.length c0_3, .int .i64 a0_4, .int .i64 a0_5, .slice A0_6 l0_6.length c0_6, .int .i64 a0_7, .slice A0_8 l0_8.length c0_8, .slice A0_9 l0_9.length c0_9] 27 (0, 0)) (mvK BK623.out) hb); have n5_ := Zaa.mk (Zay (by repeat (first | (with_reducible first | exact HB.out | apply Zac | apply Za | apply Zab | refine Zaf ?_ GE623.out) | exact HB.out)) hb); clear BK623; clear HB; have HO626 := n0_; have HO630 := n1_; have HO633 := n2_; have HO638 := n3_; have BK623 := n4_; have HB := n5_; clear n0_ n1_ n2_ n3_ n4_ n5_; (try clear hb); (try clear hb2); (try clear hk); (try clear hi); (try clear ho0); (try clear ho1); (try clear ho2); (try clear ho3)) | ((with_reducible refine Zb2 (N := 4) rfl ?_); refine Zcd ?hg (N := 4) ?hd (cs := #[.int .i64 0, .slice none 0 0, .slice none 0 0, .int .i64 0, .int .i64 0, .slice none 0 0, .int .i64 0]) (t := 25) ?hr ?_; (case hd => rfl); (case hg => rfl); (case hr => first | (go_simp; done) | (go_simp; rfl)); intro gb641 hg w90 hbox hb; have n0_ := Zaa.mk (Kd.Zb8 (mvS HO626.out) hb); have n1_ := Zaa.mk (Kd.Zb3 (mvR HO630.out) hb); have n2_ := Zaa.mk (Kd.Zb3 (mvR HO633.out) hb); have n3_ := Zaa.mk (Kd.Zb8 (mvS HO638.out) hb); have n4_ := Zaa.mk (Zbb (g := gb623) (o := .cells #[.slice A0_0 l0_0.length c0_0, .int .i64 a0_1, .slice A0_2 l0_2.length c0_2, .slice A0_3 l0_3.length c0_3, .int .i64 a0_4, .int .i64 a0_5, .slice A0_6 l0_6.length c0_6, .int .i64 a0_7, .slice A0_8 l0_8.length c0_8, .slice A0_9 l0_9.length c0_9] 27 (0, 0)) (mvK BK623.out) hb); have n5_ := Zaa.mk (Zay (by repeat (first | (with_reducible first | exact HB.out | apply Zac | apply Za | apply Zab | refine Zaf ?_ GE623.out) | exact HB.out)) hb); have n6_ := Zaa.mk (hbox); have n7_ := Zaa.mk ((by rw [hg]; exact (Zal (by repeat (first | (with_reducible first | exact HB.out | apply Zac | apply Za | apply Zab | refine Zaf ?_ GE623.out) | exact HB.out))) : w.heap.size ≤ gb641)); have n8_ := Zaa.mk ((by rw [hg]; exact (Zal (by repeat (first | (with_reducible first | exact HB.out | apply Zac | apply Za | apply Zab | refine Zaf ?_ GE623.out) | exact HB.out))) : w.heap.size ≤ gb641)); have n9_ := Zaa.mk ((by rw [hg]; exact Nat.ne_of_lt (Zc1 (g := gb623) (o := .cells #[.slice A0_0 l0_0.length c0_0, .int .i64 a0_1, .slice A0_2 l0_2.length c0_2, .slice A0_3 l0_3.length c0_3, .int .i64 a0_4, .int .i64 a0_5, .slice A0_6 l0_6.length c0_6, .int .i64 a0_7, .slice A0_8 l0_8.length c0_8, .slice A0_9 l0_9.length c0_9] 27 (0, 0)) (mvK BK623.out)) : gb623 ≠ gb641)); have n10_ := Zaa.mk ((by rw [hg]; exact Nat.ne_of_gt (Zc1 (g := gb623) (o := .cells #[.slice A0_0 l0_0.length c0_0, .int .i64 a0_1, .slice A0_2 l0_2.length c0_2, .slice A0_3 l0_3.length c0_3, .int .i64 a0_4, .int .i64 a0_5, .slice A0_6 l0_6.length c0_6, .int .i64 a0_7, .slice A0_8 l0_8.length c0_8, .slice A0_9 l0_9.length c0_9] 27 (0, 0)) (mvK BK623.out)) : gb641 ≠ gb623)); clear HO626; clear HO630; clear HO633; clear HO638; clear BK623; clear HB; have HO626 := n0_; have HO630 := n1_; have HO633 := n2_; have HO638 := n3_; have BK623 := n4_; have HB := n5_; have BK641 := n6_; have GW641 := n7_; have GE641 := n8_; have NB623_641 := n9_; have NB641_623 := n10_; clear n0_ n1_ n2_ n3_ n4_ n5_ n6_ n7_ n8_ n9_ n10_; clear hb hbox hg; have hnb91 := NB641_623.out; have hnc91 := NB623_641.out; obtain ⟨hcz92_0, hcz92_1, hcz92_2, hcz92_3, hcz92_4, hcz92_5, hcz92_6, hfz92_0, hfz92_1, hfz92_2, hfz92_3, hfz92_4, hfz92_5, hfz92_6⟩ := Zch BK641.out; obtain ⟨Ao93, co93, eo93⟩ := Kd.Zcb HO630.out; subst eo93; obtain ⟨Ao94, co94, eo94⟩ := Kd.Zcb HO633.out; subst eo94; obtain ⟨Ao95, co95, eo95⟩ := Kd.Zc6 HO638.out; subst eo95) | ((with_reducible refine Zbn (f := 15) rfl ?_); refine Zcf (some 24) rfl rfl Try.func15 (by kernel_rfl) rfl #[] rfl (by (try simp only [List.map_toArray, List.map_cons, List.map_nil]); first | done | rfl | (simp only [List.length_drop, List.length_take]; rfl)) ?_; (with_reducible refine (Zb.calls k  t642 _ A86.out).mono ?_); rintro e w96 ⟨rfl, hb⟩; refine ⟨_, rfl, ?_⟩; have n0_ := Zaa.mk (Kd.Zb8 (by (with_reducible repeat (first | apply Kd.S_alloc | apply Kd.Zbe | apply Kd.Zbk)); exact (Kd.Zb4 (Kd.Zbm (p := ⟨gb641, 6, none⟩) (Kd.Zbm (p := ⟨gb641, 5, none⟩) (Kd.Zbm (p := ⟨gb641, 4, none⟩) (Kd.Zbm (p := ⟨gb641, 3, none⟩) (Kd.Zbm (p := ⟨gb641, 2, none⟩) (Kd.Zbm (p := ⟨gb641, 1, none⟩) (Kd.Zbm (p := ⟨gb641, 0, none⟩) (Kd.Zcc HO626.out BK641.out (by decide)) (fun _ hk => hk.2) (.int .i64 t627)) (fun _ hk => hk.2) (.slice Ao93 t628.length co93)) (fun _ hk => hk.2) (.slice Ao94 t631.length co94)) (fun _ hk => hk.2) (.int .i64 t634)) (fun _ hk => hk.2) (.int .i64 t635)) (fun _ hk => hk.2) (.slice Ao95 t636.length co95)) (fun _ hk => hk.2) (.int .i64 t639)) (fun _ h_ => h_.1))) hb); have n1_ := Zaa.mk (Kd.Zb3 (by (with_reducible repeat (first | apply Kd.R_alloc | apply Kd.Zap | apply Kd.Zav)); exact (Kd.Zbs (Kd.Zbo (p := ⟨gb641, 6, none⟩) (Kd.Zbo (p := ⟨gb641, 5, none⟩) (Kd.Zbo (p := ⟨gb641, 4, none⟩) (Kd.Zbo (p := ⟨gb641, 3, none⟩) (Kd.Zbo (p := ⟨gb641, 2, none⟩) (Kd.Zbo (p := ⟨gb641, 1, none⟩) (Kd.Zbo (p := ⟨gb641, 0, none⟩) (Kd.Zca HO630.out BK641.out (by decide)) (fun _ hk => hk.2) (.int .i64 t627)) (fun _ hk => hk.2) (.slice Ao93 t628.length co93)) (fun _ hk => hk.2) (.slice Ao94 t631.length co94)) (fun _ hk => hk.2) (.int .i64 t634)) (fun _ hk => hk.2) (.int .i64 t635)) (fun _ hk => hk.2) (.slice Ao95 t636.length co95)) (fun _ hk => hk.2) (.int .i64 t639)) (fun _ h_ => h_.1))) hb); have n2_ := Zaa.mk (Kd.Zb3 (by (with_reducible repeat (first | apply Kd.R_alloc | apply Kd.Zap | apply Kd.Zav)); exact (Kd.Zbs (Kd.Zbo (p := ⟨gb641, 6, none⟩) (Kd.Zbo (p := ⟨gb641, 5, none⟩) (Kd.Zbo (p := ⟨gb641, 4, none⟩) (Kd.Zbo (p := ⟨gb641, 3, none⟩) (Kd.Zbo (p := ⟨gb641, 2, none⟩) (Kd.Zbo (p := ⟨gb641, 1, none⟩) (Kd.Zbo (p := ⟨gb641, 0, none⟩) (Kd.Zca HO633.out BK641.out (by decide)) (fun _ hk => hk.2) (.int .i64 t627)) (fun _ hk => hk.2) (.slice Ao93 t628.length co93)) (fun _ hk => hk.2) (.slice Ao94 t631.length co94)) (fun _ hk => hk.2) (.int .i64 t634)) (fun _ hk => hk.2) (.int .i64 t635)) (fun _ hk => hk.2) (.slice Ao95 t636.length co95)) (fun _ hk => hk.2) (.int .i64 t639)) (fun _ h_ => h_.1))) hb); have n3_ := Zaa.mk (Kd.Zb8 (by (with_reducible repeat (first | apply Kd.S_alloc | apply Kd.Zbe | apply Kd.Zbk)); exact (Kd.Zb4 (Kd.Zbm (p := ⟨gb641, 6, none⟩) (Kd.Zbm (p := ⟨gb641, 5, none⟩) (Kd.Zbm (p := ⟨gb641, 4, none⟩) (Kd.Zbm (p := ⟨gb641, 3, none⟩) (Kd.Zbm (p := ⟨gb641, 2, none⟩) (Kd.Zbm (p := ⟨gb641, 1, none⟩) (Kd.Zbm (p := ⟨gb641, 0, none⟩) (Kd.Zcc HO638.out BK641.out (by decide)) (fun _ hk => hk.2) (.int .i64 t627)) (fun _ hk => hk.2) (.slice Ao93 t628.length co93)) (fun _ hk => hk.2) (.slice Ao94 t631.length co94)) (fun _ hk => hk.2) (.int .i64 t634)) (fun _ hk => hk.2) (.int .i64 t635)) (fun _ hk => hk.2) (.slice Ao95 t636.length co95)) (fun _ hk => hk.2) (.int .i64 t639)) (fun _ h_ => h_.1))) hb); have n4_ := Zaa.mk (Zbb (g := gb623) (o := .cells #[.slice A0_0 l0_0.length c0_0, .int .i64 a0_1, .slice A0_2 l0_2.length c0_2, .slice A0_3 l0_3.length c0_3, .int .i64 a0_4, .int .i64 a0_5, .slice A0_6 l0_6.length c0_6, .int .i64 a0_7, .slice A0_8 l0_8.length c0_8, .slice A0_9 l0_9.length c0_9] 27 (0, 0)) (by (with_reducible repeat (first | refine Zag ?_ _ | refine Zah ?_ | refine Zae ?_ _)); refine Zbv ?_ NB623_641.out _; (with_reducible repeat (first | refine Zag ?_ _ | refine Zah ?_ | refine Zae ?_ _)); refine Zbv ?_ NB623_641.out _; (with_reducible repeat (first | refine Zag ?_ _ | refine Zah ?_ | refine Zae ?_ _)); refine Zbv ?_ NB623_641.out _; (with_reducible repeat (first | refine Zag ?_ _ | refine Zah ?_ | refine Zae ?_ _)); refine Zbv ?_ NB623_641.out _; (with_reducible repeat (first | refine Zag ?_ _ | refine Zah ?_ | refine Zae ?_ _)); refine Zbv ?_ NB623_641.out _; (with_reducible repeat (first | refine Zag ?_ _ | refine Zah ?_ | refine Zae ?_ _)); refine Zbv ?_ NB623_641.out _; (with_reducible repeat (first | refine Zag ?_ _ | refine Zah ?_ | refine Zae ?_ _)); refine Zbv ?_ NB623_641.out _; (with_reducible repeat (first | refine Zag ?_ _ | refine Zah ?_ | refine Zae ?_ _)); exact BK623.out) hb); have n5_ := Zaa.mk (Zbb (g := gb641) (o := .cells #[.int .i64 t627, .slice Ao93 t628.length co93, .slice Ao94 t631.length co94, .int .i64 t634, .int .i64 t635, .slice Ao95 t636.length co95, .int .i64 t639] 25 (0, 0)) (by (with_reducible repeat (first | refine Zag ?_ _ | refine Zah ?_ | refine Zae ?_ _)); refine Zbu (cs := #[.int .i64 t627, .slice Ao93 t628.length co93, .slice Ao94 t631.length co94, .int .i64 t634, .int .i64 t635, .slice Ao95 t636.length co95, .int .i64 0]) ?_ 6 _ rfl; (with_reducible repeat (first | refine Zag ?_ _ | refine Zah ?_ | refine Zae ?_ _)); refine Zbu (cs := #[.int .i64 t627, .slice Ao93 t628.length co93, .slice Ao94 t631.length co94, .int .i64 t634, .int .i64 t635, .slice none 0 0, .int .i64 0]) ?_ 5 _ rfl; (with_reducible repeat (first | refine Zag ?_ _ | refine Zah ?_ | refine Zae ?_ _)); refine Zbu (cs := #[.int .i64 t627, .slice Ao93 t628.length co93, .slice Ao94 t631.length co94, .int .i64 t634, .int .i64 0, .slice none 0 0, .int .i64 0]) ?_ 4 _ rfl; (with_reducible repeat (first | refine Zag ?_ _ | refine Zah ?_ | refine Zae ?_ _)); refine Zbu (cs := #[.int .i64 t627, .slice Ao93 t628.length co93, .slice Ao94 t631.length co94, .int .i64 0, .int .i64 0, .slice none 0 0, .int .i64 0]) ?_ 3 _ rfl; (with_reducible repeat (first | refine Zag ?_ _ | refine Zah ?_ | refine Zae ?_ _)); refine Zbu (cs := #[.int .i64 t627, .slice Ao93 t628.length co93, .slice none 0 0, .int .i64 0, .int .i64 0, .slice none 0 0, .int .i64 0]) ?_ 2 _ rfl; (with_reducible repeat (first | refine Zag ?_ _ | refine Zah ?_ | refine Zae ?_ _)); refine Zbu (cs := #[.int .i64 t627, .slice none 0 0, .slice none 0 0, .int .i64 0, .int .i64 0, .slice none 0 0, .int .i64 0]) ?_ 1 _ rfl; (with_reducible repeat (first | refine Zag ?_ _ | refine Zah ?_ | refine Zae ?_ _)); refine Zbu (cs := #[.int .i64 0, .slice none 0 0, .slice none 0 0, .int .i64 0, .int .i64 0, .slice none 0 0, .int .i64 0]) ?_ 0 _ rfl; (with_reducible repeat (first | refine Zag ?_ _ | refine Zah ?_ | refine Zae ?_ _)); exact BK641.out) hb); have n6_ := Zaa.mk (Zay (by repeat (first | (with_reducible first | exact HB.out | apply Zac | apply Za | apply Zab | refine Zaf ?_ GE623.out | refine Zaf ?_ GE641.out) | exact HB.out)) hb); clear HO626; clear HO630; clear HO633; clear HO638; clear BK623; clear BK641; clear HB; have HO626 := n0_; have HO630 := n1_; have HO633 := n2_; have HO638 := n3_; have BK623 := n4_; have BK641 := n5_; have HB := n6_; clear n0_ n1_ n2_ n3_ n4_ n5_ n6_; (try clear hb); (try clear hb2); (try clear hk); (try clear hi)))
  go_ret
  exact ⟨by first | rfl | (simp [Za1, Za2] <;> rfl) | (simp [*, Za1, Za2] <;> rfl), by repeat (first | (with_reducible first | exact HB.out | apply Zac | apply Za | apply Zab | refine Zaf ?_ GE623.out | refine Zaf ?_ GE641.out) | exact HB.out)⟩

 subst c3
 have H1 : ((Za3.f k t624 t627 t628 t631 t634 t635 t636 t639).bind fun t643 => (Zad.l0 k t624 t643 0 t627 t628 t631 t634 t635 t636 t639)) = some r := by rw [if_pos rfl] at H; exact H
 clear H
 have H := H1
 clear H1
 replace H := Option.bind_eq_some_iff.mp H
 obtain ⟨t643, A40, H⟩ := H
 replace H : (Zad.l0 k t624 t643 0 t627 t628 t631 t634 t635 t636 t639) = some r := H
 have A4 := Zaa.mk A40
 clear A40
 have H' := Zaa.mk H
 clear H
 go_enter Try.func6, Try.ntmps6
 go_wp2_with (first | ((with_reducible refine Zb2 (N := 1) rfl ?_); refine Zcd ?hg (N := 1) ?hd (cs := #[.slice A0_0 l0_0.length c0_0, .int .i64 a0_1, .slice A0_2 l0_2.length c0_2, .slice A0_3 l0_3.length c0_3, .int .i64 a0_4, .int .i64 a0_5, .slice A0_6 l0_6.length c0_6, .int .i64 a0_7, .slice A0_8 l0_8.length c0_8, .slice A0_9 l0_9.length c0_9]) (t := 27) ?hr ?_; (case hd => rfl); (case hg => rfl); (case hr => first | (go_simp; done) | (go_simp; rfl)); intro gb623 hg w5 hbox hb; have n0_ := Zaa.mk (Zay (by repeat (first | (with_reducible first | exact HB.out | apply Zac | apply Za | apply Zab) | exact HB.out)) hb); have n1_ := Zaa.mk (hbox); have n2_ := Zaa.mk ((by rw [hg]; exact (Zal (by repeat (first | (with_reducible first | exact HB.out | apply Zac | apply Za | apply Zab) | exact HB.out))) : w.heap.size ≤ gb623)); have n3_ := Zaa.mk ((by rw [hg]; exact (Zal (by repeat (first | (with_reducible first | exact HB.out | apply Zac | apply Za | apply Zab) | exact HB.out))) : w.heap.size ≤ gb623)); clear HB; have HB := n0_; have BK623 := n1_; have GW623 := n2_; have GE623 := n3_; clear n0_ n1_ n2_ n3_; clear hb hbox hg; obtain ⟨hcz6_0, hcz6_1, hcz6_2, hcz6_3, hcz6_4, hcz6_5, hcz6_6, hcz6_7, hcz6_8, hcz6_9, hfz6_0, hfz6_1, hfz6_2, hfz6_3, hfz6_4, hfz6_5, hfz6_6, hfz6_7, hfz6_8, hfz6_9⟩ := blks10 BK623.out) | ((with_reducible refine Zbn (f := 14) rfl ?_); refine Zcf (some 18) rfl rfl Try.func14 (by kernel_rfl) rfl #[.agg #[.slice A0_0 l0_0.length c0_0, .int .i64 a0_1, .slice A0_2 l0_2.length c0_2, .slice A0_3 l0_3.length c0_3, .int .i64 a0_4, .int .i64 a0_5, .slice A0_6 l0_6.length c0_6, .int .i64 a0_7, .slice A0_8 l0_8.length c0_8, .slice A0_9 l0_9.length c0_9], .int .i64 2] rfl (by (try simp only [List.map_toArray, List.map_cons, List.map_nil]); first | done | rfl | (simp only [List.length_drop, List.length_take]; rfl)) ?_; (with_reducible refine (Zan.calls k _ _ l0_0 a0_1 _ _ l0_2 _ _ l0_3 a0_4 a0_5 _ _ l0_6 a0_7 _ _ l0_8 _ _ l0_9 2 t624 t627 t628 t631 t634 t635 t636 t639 true _ ?side1 ?side2 ?side3 ?side4 ?side5 ?side6 ?side7 ?side8 ?side9 ?side10 ?side11 ?side12 A2.out).mono ?_); (case side1 => repeat (first | exact (Kd.Zbj HR0_0.out HB.out) | (with_reducible refine Kd.C_alloc ?_ _) | (with_reducible refine Kd.Za0 ?_ _) | (with_reducible refine Kd.C_drew ?_))); (case side2 => exact HC0_0.out); (case side3 => repeat (first | exact (Kd.Zbj HR0_2.out HB.out) | (with_reducible refine Kd.C_alloc ?_ _) | (with_reducible refine Kd.Za0 ?_ _) | (with_reducible refine Kd.C_drew ?_))); (case side4 => exact HC0_2.out); (case side5 => repeat (first | exact (Kd.Zbj HR0_3.out HB.out) | (with_reducible refine Kd.C_alloc ?_ _) | (with_reducible refine Kd.Za0 ?_ _) | (with_reducible refine Kd.C_drew ?_))); (case side6 => exact HC0_3.out); (case side7 => repeat (first | exact (Kd.Zbj HR0_6.out HB.out) | (with_reducible refine Kd.C_alloc ?_ _) | (with_reducible refine Kd.Za0 ?_ _) | (with_reducible refine Kd.C_drew ?_))); (case side8 => exact HC0_6.out); (case side9 => repeat (first | exact (Kd.Zbj HR0_8.out HB.out) | (with_reducible refine Kd.C_alloc ?_ _) | (with_reducible refine Kd.Za0 ?_ _) | (with_reducible refine Kd.C_drew ?_))); (case side10 => exact HC0_8.out); (case side11 => repeat (first | exact (Kd.Zbj HR0_9.out HB.out) | (with_reducible refine Kd.C_alloc ?_ _) | (with_reducible refine Kd.Za0 ?_ _) | (with_reducible refine Kd.C_drew ?_))); (case side12 => exact HC0_9.out); rintro e w7 ⟨v625, v629, v632, v637, rfl, ho0, ho1, ho2, ho3, hb⟩; refine ⟨_, rfl, ?_⟩; have n0_ := Zaa.mk (Kd.Zc2 ho0 (Zal (by repeat (first | (with_reducible first | exact HB.out | apply Zac | apply Za | apply Zab | refine Zaf ?_ GE623.out) | exact HB.out)))); have n1_ := Zaa.mk (Kd.Zb9 ho1 (Zal (by repeat (first | (with_reducible first | exact HB.out | apply Zac | apply Za | apply Zab | refine Zaf ?_ GE623.out) | exact HB.out)))); have n2_ := Zaa.mk (Kd.Zb9 ho2 (Zal (by repeat (first | (with_reducible first | exact HB.out | apply Zac | apply Za | apply Zab | refine Zaf ?_ GE623.out) | exact HB.out)))); have n3_ := Zaa.mk (Kd.Zc2 ho3 (Zal (by repeat (first | (with_reducible first | exact HB.out | apply Zac | apply Za | apply Zab | refine Zaf ?_ GE623.out) | exact HB.out)))); have n4_ := Zaa.mk (Zbb (g := gb623) (o := .cells #[.slice A0_0 l0_0.length c0_0, .int .i64 a0_1, .slice A0_2 l0_2.length c0_2, .slice A0_3 l0_3.length c0_3, .int .i64 a0_4, .int .i64 a0_5, .slice A0_6 l0_6.length c0_6, .int .i64 a0_7, .slice A0_8 l0_8.length c0_8, .slice A0_9 l0_9.length c0_9] 27 (0, 0)) (mvK BK623.out) hb); have n5_ := Zaa.mk (Zay (by repeat (first | (with_reducible first | exact HB.out | apply Zac | apply Za | apply Zab | refine Zaf ?_ GE623.out) | exact HB.out)) hb); clear BK623; clear HB; have HO626 := n0_; have HO630 := n1_; have HO633 := n2_; have HO638 := n3_; have BK623 := n4_; have HB := n5_; clear n0_ n1_ n2_ n3_ n4_ n5_; (try clear hb); (try clear hb2); (try clear hk); (try clear hi); (try clear ho0); (try clear ho1); (try clear ho2); (try clear ho3)) | ((with_reducible refine Zb2 (N := 4) rfl ?_); refine Zcd ?hg (N := 4) ?hd (cs := #[.int .i64 0, .slice none 0 0, .slice none 0 0, .int .i64 0, .int .i64 0, .slice none 0 0, .int .i64 0]) (t := 25) ?hr ?_; (case hd => rfl); (case hg => rfl); (case hr => first | (go_simp; done) | (go_simp; rfl)); intro gb641 hg w8 hbox hb; have n0_ := Zaa.mk (Kd.Zb8 (mvS HO626.out) hb); have n1_ := Zaa.mk (Kd.Zb3 (mvR HO630.out) hb); have n2_ := Zaa.mk (Kd.Zb3 (mvR HO633.out) hb); have n3_ := Zaa.mk (Kd.Zb8 (mvS HO638.out) hb); have n4_ := Zaa.mk (Zbb (g := gb623) (o := .cells #[.slice A0_0 l0_0.length c0_0, .int .i64 a0_1, .slice A0_2 l0_2.length c0_2, .slice A0_3 l0_3.length c0_3, .int .i64 a0_4, .int .i64 a0_5, .slice A0_6 l0_6.length c0_6, .int .i64 a0_7, .slice A0_8 l0_8.length c0_8, .slice A0_9 l0_9.length c0_9] 27 (0, 0)) (mvK BK623.out) hb); have n5_ := Zaa.mk (Zay (by repeat (first | (with_reducible first | exact HB.out | apply Zac | apply Za | apply Zab | refine Zaf ?_ GE623.out) | exact HB.out)) hb); have n6_ := Zaa.mk (hbox); have n7_ := Zaa.mk ((by rw [hg]; exact (Zal (by repeat (first | (with_reducible first | exact HB.out | apply Zac | apply Za | apply Zab | refine Zaf ?_ GE623.out) | exact HB.out))) : w.heap.size ≤ gb641)); have n8_ := Zaa.mk ((by rw [hg]; exact (Zal (by repeat (first | (with_reducible first | exact HB.out | apply Zac | apply Za | apply Zab | refine Zaf ?_ GE623.out) | exact HB.out))) : w.heap.size ≤ gb641)); have n9_ := Zaa.mk ((by rw [hg]; exact Nat.ne_of_lt (Zc1 (g := gb623) (o := .cells #[.slice A0_0 l0_0.length c0_0, .int .i64 a0_1, .slice A0_2 l0_2.length c0_2, .slice A0_3 l0_3.length c0_3, .int .i64 a0_4, .int .i64 a0_5, .slice A0_6 l0_6.length c0_6, .int .i64 a0_7, .slice A0_8 l0_8.length c0_8, .slice A0_9 l0_9.length c0_9] 27 (0, 0)) (mvK BK623.out)) : gb623 ≠ gb641)); have n10_ := Zaa.mk ((by rw [hg]; exact Nat.ne_of_gt (Zc1 (g := gb623) (o := .cells #[.slice A0_0 l0_0.length c0_0, .int .i64 a0_1, .slice A0_2 l0_2.length c0_2, .slice A0_3 l0_3.length c0_3, .int .i64 a0_4, .int .i64 a0_5, .slice A0_6 l0_6.length c0_6, .int .i64 a0_7, .slice A0_8 l0_8.length c0_8, .slice A0_9 l0_9.length c0_9] 27 (0, 0)) (mvK BK623.out)) : gb641 ≠ gb623)); clear HO626; clear HO630; clear HO633; clear HO638; clear BK623; clear HB; have HO626 := n0_; have HO630 := n1_; have HO633 := n2_; have HO638 := n3_; have BK623 := n4_; have HB := n5_; have BK641 := n6_; have GW641 := n7_; have GE641 := n8_; have NB623_641 := n9_; have NB641_623 := n10_; clear n0_ n1_ n2_ n3_ n4_ n5_ n6_ n7_ n8_ n9_ n10_; clear hb hbox hg; have hnb9 := NB641_623.out; have hnc9 := NB623_641.out; obtain ⟨hcz10_0, hcz10_1, hcz10_2, hcz10_3, hcz10_4, hcz10_5, hcz10_6, hfz10_0, hfz10_1, hfz10_2, hfz10_3, hfz10_4, hfz10_5, hfz10_6⟩ := Zch BK641.out; obtain ⟨Ao11, co11, eo11⟩ := Kd.Zcb HO630.out; subst eo11; obtain ⟨Ao12, co12, eo12⟩ := Kd.Zcb HO633.out; subst eo12; obtain ⟨Ao13, co13, eo13⟩ := Kd.Zc6 HO638.out; subst eo13; obtain ⟨Ao14, co14, eo14⟩ := Kd.Zc6 HO626.out; subst eo14) | ((with_reducible refine Zbn (f := 20) rfl ?_); refine Zcf (some 27) rfl rfl Try.func20 (by kernel_rfl) rfl #[.slice Ao14 t624.length co14, .agg #[.int .i64 t627, .slice Ao11 t628.length co11, .slice Ao12 t631.length co12, .int .i64 t634, .int .i64 t635, .slice Ao13 t636.length co13, .int .i64 t639]] rfl (by (try simp only [List.map_toArray, List.map_cons, List.map_nil]); first | done | rfl | (simp only [List.length_drop, List.length_take]; rfl)) ?_; (with_reducible refine (Za3.calls k _ _ t624 t627 _ _ t628 _ _ t631 t634 t635 _ _ t636 t639 t643 _ ?side1 ?side2 ?side3 ?side4 ?side5 ?side6 ?side7 ?side8 A4.out).mono ?_); (case side1 => refine (Kd.Zb5 (e := 39) (base := w.heap.size) (ok := fun k_ => True) (n := t624.length) (c := co14) ?_).2.2; exact (by (with_reducible repeat (first | apply Kd.S_alloc | apply Kd.Zbe | apply Kd.Zbk)); exact (Kd.Zb4 (Kd.Zbm (p := ⟨gb641, 6, none⟩) (Kd.Zbm (p := ⟨gb641, 5, none⟩) (Kd.Zbm (p := ⟨gb641, 4, none⟩) (Kd.Zbm (p := ⟨gb641, 3, none⟩) (Kd.Zbm (p := ⟨gb641, 2, none⟩) (Kd.Zbm (p := ⟨gb641, 1, none⟩) (Kd.Zbm (p := ⟨gb641, 0, none⟩) (Kd.Zcc HO626.out BK641.out (by decide)) (fun _ hk => hk.2) (.int .i64 t627)) (fun _ hk => hk.2) (.slice Ao11 t628.length co11)) (fun _ hk => hk.2) (.slice Ao12 t631.length co12)) (fun _ hk => hk.2) (.int .i64 t634)) (fun _ hk => hk.2) (.int .i64 t635)) (fun _ hk => hk.2) (.slice Ao13 t636.length co13)) (fun _ hk => hk.2) (.int .i64 t639)) (fun _ h_ => h_.1)))); (case side2 => exact (Kd.Zb5 HO626.out).2.1); (case side3 => refine (Kd.Zbi (e := 3) (base := w.heap.size) (ok := fun k_ => some k_ ≠ (.slice Ao12 t631.length co12 : Value).ownBlock) (n := t628.length) (c := co11) ?_).2.2; exact (by (with_reducible repeat (first | apply Kd.R_alloc | apply Kd.Zap | apply Kd.Zav)); exact (Kd.Zbs (Kd.Zbo (p := ⟨gb641, 6, none⟩) (Kd.Zbo (p := ⟨gb641, 5, none⟩) (Kd.Zbo (p := ⟨gb641, 4, none⟩) (Kd.Zbo (p := ⟨gb641, 3, none⟩) (Kd.Zbo (p := ⟨gb641, 2, none⟩) (Kd.Zbo (p := ⟨gb641, 1, none⟩) (Kd.Zbo (p := ⟨gb641, 0, none⟩) (Kd.Zca HO630.out BK641.out (by decide)) (fun _ hk => hk.2) (.int .i64 t627)) (fun _ hk => hk.2) (.slice Ao11 t628.length co11)) (fun _ hk => hk.2) (.slice Ao12 t631.length co12)) (fun _ hk => hk.2) (.int .i64 t634)) (fun _ hk => hk.2) (.int .i64 t635)) (fun _ hk => hk.2) (.slice Ao13 t636.length co13)) (fun _ hk => hk.2) (.int .i64 t639)) (fun _ h_ => h_.1)))); (case side4 => exact (Kd.Zbi HO630.out).2.1); (case side5 => refine (Kd.Zbi (e := 3) (base := w.heap.size) (ok := fun k_ => some k_ ≠ (.slice Ao11 t628.length co11 : Value).ownBlock) (n := t631.length) (c := co12) ?_).2.2; exact (by (with_reducible repeat (first | apply Kd.R_alloc | apply Kd.Zap | apply Kd.Zav)); exact (Kd.Zbs (Kd.Zbo (p := ⟨gb641, 6, none⟩) (Kd.Zbo (p := ⟨gb641, 5, none⟩) (Kd.Zbo (p := ⟨gb641, 4, none⟩) (Kd.Zbo (p := ⟨gb641, 3, none⟩) (Kd.Zbo (p := ⟨gb641, 2, none⟩) (Kd.Zbo (p := ⟨gb641, 1, none⟩) (Kd.Zbo (p := ⟨gb641, 0, none⟩) (Kd.Zca HO633.out BK641.out (by decide)) (fun _ hk => hk.2) (.int .i64 t627)) (fun _ hk => hk.2) (.slice Ao11 t628.length co11)) (fun _ hk => hk.2) (.slice Ao12 t631.length co12)) (fun _ hk => hk.2) (.int .i64 t634)) (fun _ hk => hk.2) (.int .i64 t635)) (fun _ hk => hk.2) (.slice Ao13 t636.length co13)) (fun _ hk => hk.2) (.int .i64 t639)) (fun _ h_ => h_.1)))); (case side6 => exact (Kd.Zbi HO633.out).2.1); (case side7 => refine (Kd.Zb5 (e := 23) (base := w.heap.size) (ok := fun k_ => (some k_ ≠ (.slice Ao11 t628.length co11 : Value).ownBlock ∧ some k_ ≠ (.slice Ao12 t631.length co12 : Value).ownBlock)) (n := t636.length) (c := co13) ?_).2.2; exact (by (with_reducible repeat (first | apply Kd.S_alloc | apply Kd.Zbe | apply Kd.Zbk)); exact (Kd.Zb4 (Kd.Zbm (p := ⟨gb641, 6, none⟩) (Kd.Zbm (p := ⟨gb641, 5, none⟩) (Kd.Zbm (p := ⟨gb641, 4, none⟩) (Kd.Zbm (p := ⟨gb641, 3, none⟩) (Kd.Zbm (p := ⟨gb641, 2, none⟩) (Kd.Zbm (p := ⟨gb641, 1, none⟩) (Kd.Zbm (p := ⟨gb641, 0, none⟩) (Kd.Zcc HO638.out BK641.out (by decide)) (fun _ hk => hk.2) (.int .i64 t627)) (fun _ hk => hk.2) (.slice Ao11 t628.length co11)) (fun _ hk => hk.2) (.slice Ao12 t631.length co12)) (fun _ hk => hk.2) (.int .i64 t634)) (fun _ hk => hk.2) (.int .i64 t635)) (fun _ hk => hk.2) (.slice Ao13 t636.length co13)) (fun _ hk => hk.2) (.int .i64 t639)) (fun _ h_ => h_.1)))); (case side8 => exact (Kd.Zb5 HO638.out).2.1); rintro e w15 ⟨v644, rfl, ho0, hb⟩; refine ⟨_, rfl, ?_⟩; have n0_ := Zaa.mk (Kd.Zb8 (by (with_reducible repeat (first | apply Kd.S_alloc | apply Kd.Zbe | apply Kd.Zbk)); exact (Kd.Zb4 (Kd.Zbm (p := ⟨gb641, 6, none⟩) (Kd.Zbm (p := ⟨gb641, 5, none⟩) (Kd.Zbm (p := ⟨gb641, 4, none⟩) (Kd.Zbm (p := ⟨gb641, 3, none⟩) (Kd.Zbm (p := ⟨gb641, 2, none⟩) (Kd.Zbm (p := ⟨gb641, 1, none⟩) (Kd.Zbm (p := ⟨gb641, 0, none⟩) (Kd.Zcc HO626.out BK641.out (by decide)) (fun _ hk => hk.2) (.int .i64 t627)) (fun _ hk => hk.2) (.slice Ao11 t628.length co11)) (fun _ hk => hk.2) (.slice Ao12 t631.length co12)) (fun _ hk => hk.2) (.int .i64 t634)) (fun _ hk => hk.2) (.int .i64 t635)) (fun _ hk => hk.2) (.slice Ao13 t636.length co13)) (fun _ hk => hk.2) (.int .i64 t639)) (fun _ h_ => h_.1))) hb); have n1_ := Zaa.mk (Kd.Zb3 (by (with_reducible repeat (first | apply Kd.R_alloc | apply Kd.Zap | apply Kd.Zav)); exact (Kd.Zbs (Kd.Zbo (p := ⟨gb641, 6, none⟩) (Kd.Zbo (p := ⟨gb641, 5, none⟩) (Kd.Zbo (p := ⟨gb641, 4, none⟩) (Kd.Zbo (p := ⟨gb641, 3, none⟩) (Kd.Zbo (p := ⟨gb641, 2, none⟩) (Kd.Zbo (p := ⟨gb641, 1, none⟩) (Kd.Zbo (p := ⟨gb641, 0, none⟩) (Kd.Zca HO630.out BK641.out (by decide)) (fun _ hk => hk.2) (.int .i64 t627)) (fun _ hk => hk.2) (.slice Ao11 t628.length co11)) (fun _ hk => hk.2) (.slice Ao12 t631.length co12)) (fun _ hk => hk.2) (.int .i64 t634)) (fun _ hk => hk.2) (.int .i64 t635)) (fun _ hk => hk.2) (.slice Ao13 t636.length co13)) (fun _ hk => hk.2) (.int .i64 t639)) (fun _ h_ => h_.1))) hb); have n2_ := Zaa.mk (Kd.Zb3 (by (with_reducible repeat (first | apply Kd.R_alloc | apply Kd.Zap | apply Kd.Zav)); exact (Kd.Zbs (Kd.Zbo (p := ⟨gb641, 6, none⟩) (Kd.Zbo (p := ⟨gb641, 5, none⟩) (Kd.Zbo (p := ⟨gb641, 4, none⟩) (Kd.Zbo (p := ⟨gb641, 3, none⟩) (Kd.Zbo (p := ⟨gb641, 2, none⟩) (Kd.Zbo (p := ⟨gb641, 1, none⟩) (Kd.Zbo (p := ⟨gb641, 0, none⟩) (Kd.Zca HO633.out BK641.out (by decide)) (fun _ hk => hk.2) (.int .i64 t627)) (fun _ hk => hk.2) (.slice Ao11 t628.length co11)) (fun _ hk => hk.2) (.slice Ao12 t631.length co12)) (fun _ hk => hk.2) (.int .i64 t634)) (fun _ hk => hk.2) (.int .i64 t635)) (fun _ hk => hk.2) (.slice Ao13 t636.length co13)) (fun _ hk => hk.2) (.int .i64 t639)) (fun _ h_ => h_.1))) hb); have n3_ := Zaa.mk (Kd.Zc5 (by (with_reducible repeat (first | apply Kd.S_alloc | apply Kd.Zbe | apply Kd.Zbk)); exact (Kd.Zb4 (Kd.Zbm (p := ⟨gb641, 6, none⟩) (Kd.Zbm (p := ⟨gb641, 5, none⟩) (Kd.Zbm (p := ⟨gb641, 4, none⟩) (Kd.Zbm (p := ⟨gb641, 3, none⟩) (Kd.Zbm (p := ⟨gb641, 2, none⟩) (Kd.Zbm (p := ⟨gb641, 1, none⟩) (Kd.Zbm (p := ⟨gb641, 0, none⟩) (Kd.Zcc HO638.out BK641.out (by decide)) (fun _ hk => hk.2) (.int .i64 t627)) (fun _ hk => hk.2) (.slice Ao11 t628.length co11)) (fun _ hk => hk.2) (.slice Ao12 t631.length co12)) (fun _ hk => hk.2) (.int .i64 t634)) (fun _ hk => hk.2) (.int .i64 t635)) (fun _ hk => hk.2) (.slice Ao13 t636.length co13)) (fun _ hk => hk.2) (.int .i64 t639)) (fun _ h_ => h_.1))) (Kd.Zfk ho0) hb); have n4_ := Zaa.mk (Kd.Zc2 (Kd.Zdw (Kd.Zdw (Kd.Zdw ho0 (Kd.R_lt (by (with_reducible repeat (first | apply Kd.R_alloc | apply Kd.Zap | apply Kd.Zav)); exact (Kd.Zbs (Kd.Zbo (p := ⟨gb641, 6, none⟩) (Kd.Zbo (p := ⟨gb641, 5, none⟩) (Kd.Zbo (p := ⟨gb641, 4, none⟩) (Kd.Zbo (p := ⟨gb641, 3, none⟩) (Kd.Zbo (p := ⟨gb641, 2, none⟩) (Kd.Zbo (p := ⟨gb641, 1, none⟩) (Kd.Zbo (p := ⟨gb641, 0, none⟩) (Kd.Zca HO630.out BK641.out (by decide)) (fun _ hk => hk.2) (.int .i64 t627)) (fun _ hk => hk.2) (.slice Ao11 t628.length co11)) (fun _ hk => hk.2) (.slice Ao12 t631.length co12)) (fun _ hk => hk.2) (.int .i64 t634)) (fun _ hk => hk.2) (.int .i64 t635)) (fun _ hk => hk.2) (.slice Ao13 t636.length co13)) (fun _ hk => hk.2) (.int .i64 t639)) (fun _ h_ => h_.1))))) (Kd.R_lt (by (with_reducible repeat (first | apply Kd.R_alloc | apply Kd.Zap | apply Kd.Zav)); exact (Kd.Zbs (Kd.Zbo (p := ⟨gb641, 6, none⟩) (Kd.Zbo (p := ⟨gb641, 5, none⟩) (Kd.Zbo (p := ⟨gb641, 4, none⟩) (Kd.Zbo (p := ⟨gb641, 3, none⟩) (Kd.Zbo (p := ⟨gb641, 2, none⟩) (Kd.Zbo (p := ⟨gb641, 1, none⟩) (Kd.Zbo (p := ⟨gb641, 0, none⟩) (Kd.Zca HO633.out BK641.out (by decide)) (fun _ hk => hk.2) (.int .i64 t627)) (fun _ hk => hk.2) (.slice Ao11 t628.length co11)) (fun _ hk => hk.2) (.slice Ao12 t631.length co12)) (fun _ hk => hk.2) (.int .i64 t634)) (fun _ hk => hk.2) (.int .i64 t635)) (fun _ hk => hk.2) (.slice Ao13 t636.length co13)) (fun _ hk => hk.2) (.int .i64 t639)) (fun _ h_ => h_.1))))) (Kd.S_lt (by (with_reducible repeat (first | apply Kd.S_alloc | apply Kd.Zbe | apply Kd.Zbk)); exact (Kd.Zb4 (Kd.Zbm (p := ⟨gb641, 6, none⟩) (Kd.Zbm (p := ⟨gb641, 5, none⟩) (Kd.Zbm (p := ⟨gb641, 4, none⟩) (Kd.Zbm (p := ⟨gb641, 3, none⟩) (Kd.Zbm (p := ⟨gb641, 2, none⟩) (Kd.Zbm (p := ⟨gb641, 1, none⟩) (Kd.Zbm (p := ⟨gb641, 0, none⟩) (Kd.Zcc HO638.out BK641.out (by decide)) (fun _ hk => hk.2) (.int .i64 t627)) (fun _ hk => hk.2) (.slice Ao11 t628.length co11)) (fun _ hk => hk.2) (.slice Ao12 t631.length co12)) (fun _ hk => hk.2) (.int .i64 t634)) (fun _ hk => hk.2) (.int .i64 t635)) (fun _ hk => hk.2) (.slice Ao13 t636.length co13)) (fun _ hk => hk.2) (.int .i64 t639)) (fun _ h_ => h_.1))))) (Zal (by repeat (first | (with_reducible first | exact HB.out | apply Zac | apply Za | apply Zab | refine Zaf ?_ GE623.out | refine Zaf ?_ GE641.out) | exact HB.out)))); have n5_ := Zaa.mk (Zbb (g := gb623) (o := .cells #[.slice A0_0 l0_0.length c0_0, .int .i64 a0_1, .slice A0_2 l0_2.length c0_2, .slice A0_3 l0_3.length c0_3, .int .i64 a0_4, .int .i64 a0_5, .slice A0_6 l0_6.length c0_6, .int .i64 a0_7, .slice A0_8 l0_8.length c0_8, .slice A0_9 l0_9.length c0_9] 27 (0, 0)) (by (with_reducible repeat (first | refine Zag ?_ _ | refine Zah ?_ | refine Zae ?_ _)); refine Zbv ?_ NB623_641.out _; (with_reducible repeat (first | refine Zag ?_ _ | refine Zah ?_ | refine Zae ?_ _)); refine Zbv ?_ NB623_641.out _; (with_reducible repeat (first | refine Zag ?_ _ | refine Zah ?_ | refine Zae ?_ _)); refine Zbv ?_ NB623_641.out _; (with_reducible repeat (first | refine Zag ?_ _ | refine Zah ?_ | refine Zae ?_ _)); refine Zbv ?_ NB623_641.out _; (with_reducible repeat (first | refine Zag ?_ _ | refine Zah ?_ | refine Zae ?_ _)); refine Zbv ?_ NB623_641.out _; (with_reducible repeat (first | refine Zag ?_ _ | refine Zah ?_ | refine Zae ?_ _)); refine Zbv ?_ NB623_641.out _; (with_reducible repeat (first | refine Zag ?_ _ | refine Zah ?_ | refine Zae ?_ _)); refine Zbv ?_ NB623_641.out _; (with_reducible repeat (first | refine Zag ?_ _ | refine Zah ?_ | refine Zae ?_ _)); exact BK623.out) hb); have n6_ := Zaa.mk (Zbb (g := gb641) (o := .cells #[.int .i64 t627, .slice Ao11 t628.length co11, .slice Ao12 t631.length co12, .int .i64 t634, .int .i64 t635, .slice Ao13 t636.length co13, .int .i64 t639] 25 (0, 0)) (by (with_reducible repeat (first | refine Zag ?_ _ | refine Zah ?_ | refine Zae ?_ _)); refine Zbu (cs := #[.int .i64 t627, .slice Ao11 t628.length co11, .slice Ao12 t631.length co12, .int .i64 t634, .int .i64 t635, .slice Ao13 t636.length co13, .int .i64 0]) ?_ 6 _ rfl; (with_reducible repeat (first | refine Zag ?_ _ | refine Zah ?_ | refine Zae ?_ _)); refine Zbu (cs := #[.int .i64 t627, .slice Ao11 t628.length co11, .slice Ao12 t631.length co12, .int .i64 t634, .int .i64 t635, .slice none 0 0, .int .i64 0]) ?_ 5 _ rfl; (with_reducible repeat (first | refine Zag ?_ _ | refine Zah ?_ | refine Zae ?_ _)); refine Zbu (cs := #[.int .i64 t627, .slice Ao11 t628.length co11, .slice Ao12 t631.length co12, .int .i64 t634, .int .i64 0, .slice none 0 0, .int .i64 0]) ?_ 4 _ rfl; (with_reducible repeat (first | refine Zag ?_ _ | refine Zah ?_ | refine Zae ?_ _)); refine Zbu (cs := #[.int .i64 t627, .slice Ao11 t628.length co11, .slice Ao12 t631.length co12, .int .i64 0, .int .i64 0, .slice none 0 0, .int .i64 0]) ?_ 3 _ rfl; (with_reducible repeat (first | refine Zag ?_ _ | refine Zah ?_ | refine Zae ?_ _)); refine Zbu (cs := #[.int .i64 t627, .slice Ao11 t628.length co11, .slice none 0 0, .int .i64 0, .int .i64 0, .slice none 0 0, .int .i64 0]) ?_ 2 _ rfl; (with_reducible repeat (first | refine Zag ?_ _ | refine Zah ?_ | refine Zae ?_ _)); refine Zbu (cs := #[.int .i64 t627, .slice none 0 0, .slice none 0 0, .int .i64 0, .int .i64 0, .slice none 0 0, .int .i64 0]) ?_ 1 _ rfl; (with_reducible repeat (first | refine Zag ?_ _ | refine Zah ?_ | refine Zae ?_ _)); refine Zbu (cs := #[.int .i64 0, .slice none 0 0, .slice none 0 0, .int .i64 0, .int .i64 0, .slice none 0 0, .int .i64 0]) ?_ 0 _ rfl; (with_reducible repeat (first | refine Zag ?_ _ | refine Zah ?_ | refine Zae ?_ _)); exact BK641.out) hb); have n7_ := Zaa.mk (Zay (by repeat (first | (with_reducible first | exact HB.out | apply Zac | apply Za | apply Zab | refine Zaf ?_ GE623.out | refine Zaf ?_ GE641.out) | exact HB.out)) hb); clear HO626; clear HO630; clear HO633; clear HO638; clear BK623; clear BK641; clear HB; have HO626 := n0_; have HO630 := n1_; have HO633 := n2_; have HO638 := n3_; have HO645 := n4_; have BK623 := n5_; have BK641 := n6_; have HB := n7_; clear n0_ n1_ n2_ n3_ n4_ n5_ n6_ n7_; (try clear hb); (try clear hb2); (try clear hk); (try clear hi); (try clear ho0)))
 go_loopg [7] k (fun kq v7 w' => ∃ (x7_1 : Int), v7 = .int .i64 x7_1 ∧ Zaa (Zad.l0 kq t624 t643 x7_1 t627 t628 t631 t634 t635 t636 t639 = some r) ∧ Zaa (kq ≤ k) ∧ Zaa (Kd.S (Kd.slice 41 k41) 39 w' w.heap.size (fun _ => True) (.slice Ao14 t624.length co14) t624) ∧ Zaa (Kd.S (Kd.slice 3 (Kd.int .i64)) 23 w' w.heap.size (fun k_ => some k_ ≠ ((.slice Ao11 t628.length co11) : Value).ownBlock ∧ some k_ ≠ ((.slice Ao12 t631.length co12) : Value).ownBlock ∧ some k_ ≠ ((.slice Ao13 t636.length co13) : Value).ownBlock) v644 t643) ∧ Zaa (Kd.R (Kd.int .i64) 3 w' w.heap.size (fun k_ => some k_ ≠ ((.slice Ao12 t631.length co12) : Value).ownBlock) (.slice Ao11 t628.length co11) t628) ∧ Zaa (Kd.R (Kd.int .i64) 3 w' w.heap.size (fun k_ => some k_ ≠ ((.slice Ao11 t628.length co11) : Value).ownBlock) (.slice Ao12 t631.length co12) t631) ∧ Zaa (Kd.S (Kd.slice 3 (Kd.int .i64)) 23 w' w.heap.size (fun k_ => some k_ ≠ (v644 : Value).ownBlock ∧ some k_ ≠ ((.slice Ao11 t628.length co11) : Value).ownBlock ∧ some k_ ≠ ((.slice Ao12 t631.length co12) : Value).ownBlock) (.slice Ao13 t636.length co13) t636) ∧ Zaa (w'.heap[gb623]? = some (.cells #[(.slice A0_0 l0_0.length c0_0), .int .i64 a0_1, (.slice A0_2 l0_2.length c0_2), (.slice A0_3 l0_3.length c0_3), .int .i64 a0_4, .int .i64 a0_5, (.slice A0_6 l0_6.length c0_6), .int .i64 a0_7, (.slice A0_8 l0_8.length c0_8), (.slice A0_9 l0_9.length c0_9)] 27 (0, 0))) ∧ Zaa (w'.heap[gb641]? = some (.cells #[.int .i64 t627, (.slice Ao11 t628.length co11), (.slice Ao12 t631.length co12), .int .i64 t634, .int .i64 t635, (.slice Ao13 t636.length co13), .int .i64 t639] 25 (0, 0))) ∧ Zaa (Below w.heap.size w w'))
 case atStart => exact ⟨(0), (by first | rfl | (simp; done) | (simp [*]; done)), H', ⟨Nat.le_refl _⟩, ⟨by (with_reducible repeat (first | apply Kd.S_alloc | apply Kd.Zbe | apply Kd.Zbk)); exact HO626.out⟩, ⟨by (with_reducible repeat (first | apply Kd.S_alloc | apply Kd.Zbe | apply Kd.Zbk)); exact Kd.Zb4 HO645.out (fun _ hk => ⟨hk.1.1.2, ⟨hk.1.2, hk.2⟩⟩)⟩, ⟨by (with_reducible repeat (first | apply Kd.R_alloc | apply Kd.Zap | apply Kd.Zav)); exact HO630.out⟩, ⟨by (with_reducible repeat (first | apply Kd.R_alloc | apply Kd.Zap | apply Kd.Zav)); exact HO633.out⟩, ⟨by (with_reducible repeat (first | apply Kd.S_alloc | apply Kd.Zbe | apply Kd.Zbk)); exact Kd.Zb4 HO638.out (fun _ hk => ⟨hk.2, ⟨hk.1.1, hk.1.2⟩⟩)⟩, ⟨by (with_reducible repeat (first | refine Zag ?_ _ | refine Zah ?_ | refine Zae ?_ _)); exact BK623.out⟩, ⟨by (with_reducible repeat (first | refine Zag ?_ _ | refine Zah ?_ | refine Zae ?_ _)); exact BK641.out⟩, ⟨by repeat (first | (with_reducible first | exact HB.out | apply Zac | apply Za | apply Zab | refine Zaf ?_ GE623.out | refine Zaf ?_ GE641.out) | exact HB.out)⟩⟩
 case round =>
  clear H'
  try clear c1
  try clear c2
  try clear p2
  try clear c3
  try clear c6
  try clear c9
  try clear c14
  try clear hcz10_0
  try clear hcz10_1
  try clear hcz10_2
  try clear hcz10_3
  try clear hcz10_4
  try clear hcz10_5
  try clear hcz10_6
  try clear hcz6_0
  try clear hcz6_1
  try clear hcz6_2
  try clear hcz6_3
  try clear hcz6_4
  try clear hcz6_5
  try clear hcz6_6
  try clear hcz6_7
  try clear hcz6_8
  try clear hcz6_9
  try clear hfz10_0
  try clear hfz10_1
  try clear hfz10_2
  try clear hfz10_3
  try clear hfz10_4
  try clear hfz10_5
  try clear hfz10_6
  try clear hfz6_0
  try clear hfz6_1
  try clear hfz6_2
  try clear hfz6_3
  try clear hfz6_4
  try clear hfz6_5
  try clear hfz6_6
  try clear hfz6_7
  try clear hfz6_8
  try clear hfz6_9
  obtain ⟨x7_1, rfl, HA, HK1, HO_3, HO_6, HO_642001, HO_642002, HO_642005, BK623, BK641, HB⟩ := hrel
  cases gk with
  | zero => exact absurd HA.out (by simp [Zad.l0])
  | succ k1 =>
   have H := HA.out
   clear HA
   simp only [Zad.l0] at H
   by_cases c16 : x7_1 < (t643.length : Int)
   ·rw [if_pos c16] at H
    have c16b0 : decide (x7_1 < (t643.length : Int)) = true := decide_eq_true c16
    clear c16
    by_cases c17 : 0 ≤ x7_1
    rotate_left
    ·rw [if_neg c17] at H
     exact absurd H (by simp)
    rw [if_pos c17] at H
    have c17b0 : decide (0 ≤ x7_1) = true := decide_eq_true c17
    clear c17
    by_cases c18 : ((Zbz t643 x7_1).length : Int) = (t628.length : Int)
    rotate_left
    ·rw [if_neg c18] at H
     exact absurd H (by simp)
    rw [if_pos c18] at H
    have c18b0 : (((Zbz t643 x7_1).length : Int) == (t628.length : Int)) = true := beq_iff_eq.mpr c18
    have c18b1 : (((Zbz t643 x7_1).length : Int) != (t628.length : Int)) = false := bne_eq_false_iff_eq.mpr c18
    have c18b2 : ((Zbz t643 x7_1).length == t628.length) = true := by first | simpa using c18 | (simp at c18 ⊢; omega)
    clear c18
    have H' := Zaa.mk H
    clear H
    obtain ⟨Ao19, co19, eo19⟩ := Kd.Zc6 HO_6.out
    subst eo19
    try go_wp2
    have n0_ := Zaa.mk (Kd.Zbk HO_3.out)
    have n1_ := Zaa.mk (Kd.Zbk HO_6.out)
    have n2_ := Zaa.mk (Kd.Zav HO_642001.out)
    have n3_ := Zaa.mk (Kd.Zav HO_642002.out)
    have n4_ := Zaa.mk (Kd.Zbk HO_642005.out)
    have n5_ := Zaa.mk (Zah BK623.out)
    have n6_ := Zaa.mk (Zah BK641.out)
    have n7_ := Zaa.mk (Zab HB.out)
    clear HO_3
    clear HO_6
    clear HO_642001
    clear HO_642002
    clear HO_642005
    clear BK623
    clear BK641
    clear HB
    have HO_3 := n0_
    have HO_6 := n1_
    have HO_642001 := n2_
    have HO_642002 := n3_
    have HO_642005 := n4_
    have BK623 := n5_
    have BK641 := n6_
    have HB := n7_
    clear n0_ n1_ n2_ n3_ n4_ n5_ n6_ n7_
    have p646 : 0 ≤ (x7_1 : Int) := of_decide_eq_true (by first | (with_reducible assumption) | assumption)
    have q646 : x7_1 < (t643.length : Int) := of_decide_eq_true (by first | (with_reducible assumption) | assumption)
    obtain ⟨ad646, A646_0, c646_0, e646, hx646_0, hl646_0, hi646_0⟩ := Zdy (Kd.Zb5 HO_6.out).2.2 x7_1 p646 q646
    cases e646
    obtain ⟨ce646, hce646, hMe646, hcc646⟩ := Kd.S_get HO_6.out [] x7_1 p646 (by first | exact q646 | exact of_decide_eq_true (by first | (with_reducible assumption) | assumption) | (have e_ := (Kd.Zb5 HO_6.out).1; omega))
    obtain ⟨ve646_0, rfl, ge646_0⟩ := hMe646
    have hv646_0 := hcc646 0 _ rfl
    rw [Nat.add_zero, show ((Kd.slice 3 (Kd.int .i64))).sz = 1 from rfl, Nat.mul_one] at hv646_0
    replace hv646_0 := Option.some.inj (hv646_0.symm.trans hx646_0)
    rw [hv646_0] at ge646_0
    have HL646_0 := Zaa.mk (show Kd.R (Kd.int .i64) 3 _ _ _ _ (Zbz t643 x7_1) from ge646_0)
    clear hv646_0 ge646_0
    clear hcc646 hce646
    have HR646_0 := Zaa.mk hi646_0
    have HC646_0 := Zaa.mk hl646_0
    clear hi646_0 hl646_0
    replace p646 := eq_true p646
    replace q646 := eq_true q646
    refine Zd8 (n := 9) (S := fun w' => w'.cell? ⟨gb641, 0, none⟩ = some (.int .i64 t627) ∧ w'.cell? ⟨gb641, 1, none⟩ = some (.slice Ao11 t628.length co11) ∧ w'.cell? ⟨gb641, 2, none⟩ = some (.slice Ao12 t631.length co12) ∧ w'.cell? ⟨gb641, 3, none⟩ = some (.int .i64 t634) ∧ w'.cell? ⟨gb641, 4, none⟩ = some (.int .i64 t635) ∧ w'.cell? ⟨gb641, 5, none⟩ = some (.slice Ao13 t636.length co13) ∧ w'.cell? ⟨gb641, 6, none⟩ = some (.int .i64 t639) ∧ w'.cell? (ad646.add (x7_1).toNat) = some (.slice A646_0 (Zbz t643 x7_1).length c646_0)) (ds := []) #[false, false, false, false, false, false, false, false, false] (by kernel_rfl) rfl rfl ⟨(Zax BK641.out 0).trans rfl, (Zax BK641.out 1).trans rfl, (Zax BK641.out 2).trans rfl, (Zax BK641.out 3).trans rfl, (Zax BK641.out 4).trans rfl, (Zax BK641.out 5).trans rfl, (Zax BK641.out 6).trans rfl, hx646_0⟩ (fun hHeld => ?_); refine Zcz Zad.tab8 Zad.bits8 (fun HT_ HW_ => ?_)
    generalize wr.drew = w20 at HO_3 HO_6 HO_642001 HO_642002 HO_642005 BK623 BK641 HB HL646_0 HR646_0 hx646_0 hHeld ⊢
    refine Zbx (i := 0) (N := some 34) (v := ?_) (a' := ?_) #[true, false, false, false, false, false, false, false, false] rfl rfl (Zbp HT_.out (by kernel_rfl)) (fun _ _ _ h => h) (Or.inl ⟨by rfl, ?_⟩) ?_ ?_
    rotate_left
    ·intro w'
     go_simp
     with_reducible rfl
    rotate_left
    ·simp only [Act.put, List.setIfInBounds_toArray, List.set_cons_zero, List.set_cons_succ, Zbq, Zbr]
     rfl
    refine Zbx (i := 1) (N := some 35) (v := ?_) (a' := ?_) #[true, true, false, false, false, false, false, false, false] rfl rfl (Zbp HT_.out (by kernel_rfl)) (fun _ _ _ h => h) (Or.inl ⟨by rfl, ?_⟩) ?_ ?_
    rotate_left
    ·intro w'
     go_simp
     with_reducible rfl
    rotate_left
    ·simp only [Act.put, List.setIfInBounds_toArray, List.set_cons_zero, List.set_cons_succ, Zbq, Zbr]
     rfl
    refine Zbx (i := 2) (N := some 36) (v := ?_) (a' := ?_) #[true, true, true, false, false, false, false, false, false] rfl rfl (Zbp HT_.out (by kernel_rfl)) (fun _ _ _ h => h) (Or.inl ⟨by rfl, ?_⟩) ?_ ?_
    rotate_left
    ·intro w'
     go_simp
     with_reducible rfl
    rotate_left
    ·simp only [Act.put, List.setIfInBounds_toArray, List.set_cons_zero, List.set_cons_succ, Zbq, Zbr]
     rfl
    refine Zbx (i := 5) (N := some 39) (v := ?_) (a' := ?_) #[true, true, true, false, false, true, false, false, false] rfl rfl (Zbp HT_.out (by kernel_rfl)) (fun _ _ _ h => h) (Or.inl ⟨by rfl, ?_⟩) ?_ ?_
    rotate_left
    ·intro w'
     go_simp
     with_reducible rfl
    rotate_left
    ·simp only [Act.put, List.setIfInBounds_toArray, List.set_cons_zero, List.set_cons_succ, Zbq, Zbr]
     rfl
    refine Zdf (i := 3) (N := some 37) (v := ?_) (a' := ?_) #[true, true, true, true, false, true, false, false, false] rfl rfl (Zci HT_.out HW_.out (by kernel_rfl)) (fun _ _ _ h => h) (Or.inl ⟨by rfl, ?_⟩) hHeld ?_ ?_
    rotate_left
    ·rintro w' ⟨s0, s1, s2, s3, s4, s5, s6, s7⟩
     go_simp
     with_reducible rfl
    rotate_left
    ·simp only [Act.put, List.setIfInBounds_toArray, List.set_cons_zero, List.set_cons_succ, Zbq, Zbr]
     rfl
    refine Zbx (i := 4) (N := some 38) (v := ?_) (a' := ?_) #[true, true, true, true, true, true, false, false, false] rfl rfl (Zbp HT_.out (by kernel_rfl)) (fun _ _ _ h => h) (Or.inl ⟨by rfl, ?_⟩) ?_ ?_
    rotate_left
    ·intro w'
     go_simp
     with_reducible rfl
    rotate_left
    ·simp only [Act.put, List.setIfInBounds_toArray, List.set_cons_zero, List.set_cons_succ, Zbq, Zbr]
     rfl
    refine Zdf (i := 6) (N := some 40) (v := ?_) (a' := ?_) #[true, true, true, true, true, true, true, false, false] rfl rfl (Zci HT_.out HW_.out (by kernel_rfl)) (fun _ _ _ h => h) (Or.inl ⟨by rfl, ?_⟩) hHeld ?_ ?_
    rotate_left
    ·rintro w' ⟨s0, s1, s2, s3, s4, s5, s6, s7⟩
     go_simp
     with_reducible rfl
    rotate_left
    ·simp only [Act.put, List.setIfInBounds_toArray, List.set_cons_zero, List.set_cons_succ, Zbq, Zbr]
     rfl
    refine Zbx (i := 7) (N := some 41) (v := ?_) (a' := ?_) #[true, true, true, true, true, true, true, true, false] rfl rfl (Zbp HT_.out (by kernel_rfl)) (fun _ _ _ h => h) (Or.inl ⟨by rfl, ?_⟩) ?_ ?_
    rotate_left
    ·intro w'
     go_simp
     with_reducible rfl
    rotate_left
    ·simp only [Act.put, List.setIfInBounds_toArray, List.set_cons_zero, List.set_cons_succ, Zbq, Zbr]
     rfl
    refine Zbx (i := 8) (N := some 42) (v := ?_) (a' := ?_) #[true, true, true, true, true, true, true, true, true] rfl rfl (Zbp HT_.out (by kernel_rfl)) (fun _ _ _ h => h) (Or.inl ⟨by rfl, ?_⟩) ?_ ?_
    rotate_left
    ·intro w'
     go_simp
     with_reducible rfl
    rotate_left
    ·simp only [Act.put, List.setIfInBounds_toArray, List.set_cons_zero, List.set_cons_succ, Zbq, Zbr]
     rfl
    refine Zfd (Zdk HT_.out (by kernel_rfl)) ?_
    try go_wp2
    go_roundg k1
    case measure => have := HK1.out; omega
    case rel => exact ⟨(wrap64 (x7_1 + 1)), (by first | rfl | (simp; done) | (simp [*]; done)), H', ⟨by have := HK1.out; omega⟩, ⟨by (with_reducible repeat (first | apply Kd.S_alloc | apply Kd.Zbe | apply Kd.Zbk)); exact HO_3.out⟩, ⟨by (with_reducible repeat (first | apply Kd.S_alloc | apply Kd.Zbe | apply Kd.Zbk)); exact HO_6.out⟩, ⟨by (with_reducible repeat (first | apply Kd.R_alloc | apply Kd.Zap | apply Kd.Zav)); exact HO_642001.out⟩, ⟨by (with_reducible repeat (first | apply Kd.R_alloc | apply Kd.Zap | apply Kd.Zav)); exact HO_642002.out⟩, ⟨by (with_reducible repeat (first | apply Kd.S_alloc | apply Kd.Zbe | apply Kd.Zbk)); exact HO_642005.out⟩, ⟨by (with_reducible repeat (first | refine Zag ?_ _ | refine Zah ?_ | refine Zae ?_ _)); exact BK623.out⟩, ⟨by (with_reducible repeat (first | refine Zag ?_ _ | refine Zah ?_ | refine Zae ?_ _)); exact BK641.out⟩, ⟨by repeat (first | (with_reducible first | exact HB.out | apply Zac | apply Za | apply Zab | refine Zaf ?_ GE623.out | refine Zaf ?_ GE641.out) | exact HB.out)⟩⟩
   rw [if_neg c16] at H
   have c16b0 : decide (x7_1 < (t643.length : Int)) = false := decide_eq_false c16
   clear c16
   replace H := Option.bind_eq_some_iff.mp H
   obtain ⟨⟨t647, t650⟩, A210, H⟩ := H
   replace H : ((Zbc.f k1 t627 t628 t631 t634 t635 t636 t639).bind fun bt651 => ((Zau.f k1 t624 bt651.1 bt651.2.1 bt651.2.2.1 bt651.2.2.2.1 bt651.2.2.2.2.1 t643 bt651.2.2.2.2.2.2).bind fun bt665 => (if (t650 != bt665.2) = true then (Zad.j1 k1 t624 t643 t650 true t627 t628 t631 t634 t635 t636 t639 bt651.1 bt651.2.1 bt651.2.2.1 bt651.2.2.2.1 bt651.2.2.2.2.1 t643 bt651.2.2.2.2.2.2) else ((Zaw.f k1 t647 bt665.1).bind fun t669 => (Zad.j1 k1 t624 t643 t650 (!t669) t627 t628 t631 t634 t635 t636 t639 bt651.1 bt651.2.1 bt651.2.2.1 bt651.2.2.2.1 bt651.2.2.2.2.1 t643 bt651.2.2.2.2.2.2))))) = some r := H
   have A21 := Zaa.mk A210
   clear A210
   replace H := Option.bind_eq_some_iff.mp H
   obtain ⟨⟨t651, t652, t655, t658, t659, t660, t663⟩, A220, H⟩ := H
   replace H : ((Zau.f k1 t624 t651 t652 t655 t658 t659 t643 t663).bind fun bt665 => (if (t650 != bt665.2) = true then (Zad.j1 k1 t624 t643 t650 true t627 t628 t631 t634 t635 t636 t639 t651 t652 t655 t658 t659 t643 t663) else ((Zaw.f k1 t647 bt665.1).bind fun t669 => (Zad.j1 k1 t624 t643 t650 (!t669) t627 t628 t631 t634 t635 t636 t639 t651 t652 t655 t658 t659 t643 t663)))) = some r := H
   have A22 := Zaa.mk A220
   clear A220
   replace H := Option.bind_eq_some_iff.mp H
   obtain ⟨⟨t665, t668⟩, A230, H⟩ := H
   replace H : (if (t650 != t668) = true then (Zad.j1 k1 t624 t643 t650 true t627 t628 t631 t634 t635 t636 t639 t651 t652 t655 t658 t659 t643 t663) else ((Zaw.f k1 t647 t665).bind fun t669 => (Zad.j1 k1 t624 t643 t650 (!t669) t627 t628 t631 t634 t635 t636 t639 t651 t652 t655 t658 t659 t643 t663))) = some r := H
   have A23 := Zaa.mk A230
   clear A230
   have HC24 := Zaa.mk H
   clear H
   obtain ⟨Ao25, co25, eo25⟩ := Kd.Zc6 HO_6.out
   subst eo25
   have hnb26 := NB641_623.out
   have hnc26 := NB623_641.out
   obtain ⟨hcz27_0, hcz27_1, hcz27_2, hcz27_3, hcz27_4, hcz27_5, hcz27_6, hfz27_0, hfz27_1, hfz27_2, hfz27_3, hfz27_4, hfz27_5, hfz27_6⟩ := Zch BK641.out
   go_upto_region 14 with (first | ((with_reducible refine Zbn (f := 18) rfl ?_); refine Zcf (some 46) rfl rfl Try.func18 (by kernel_rfl) rfl #[.slice Ao14 t624.length co14, .agg #[.int .i64 t627, .slice Ao11 t628.length co11, .slice Ao12 t631.length co12, .int .i64 t634, .int .i64 t635, .slice Ao13 t636.length co13, .int .i64 t639]] rfl (by (try simp only [List.map_toArray, List.map_cons, List.map_nil]); first | done | rfl | (simp only [List.length_drop, List.length_take]; rfl)) ?_; (with_reducible refine (Zau.calls k1 _ _ t624 t627 _ _ t628 _ _ t631 t634 t635 _ _ t636 t639 t647 t650 _ ?side1 ?side2 ?side3 ?side4 ?side5 ?side6 ?side7 ?side8 A21.out).mono ?_); (case side1 => repeat (first | exact (Kd.Zb5 HO_3.out).2.2 | (with_reducible refine Kd.C_alloc ?_ _) | (with_reducible refine Kd.Za0 ?_ _) | (with_reducible refine Kd.C_drew ?_))); (case side2 => exact (Kd.Zb5 HO_3.out).2.1); (case side3 => repeat (first | exact (Kd.Zbi HO_642001.out).2.2 | (with_reducible refine Kd.C_alloc ?_ _) | (with_reducible refine Kd.Za0 ?_ _) | (with_reducible refine Kd.C_drew ?_))); (case side4 => exact (Kd.Zbi HO_642001.out).2.1); (case side5 => repeat (first | exact (Kd.Zbi HO_642002.out).2.2 | (with_reducible refine Kd.C_alloc ?_ _) | (with_reducible refine Kd.Za0 ?_ _) | (with_reducible refine Kd.C_drew ?_))); (case side6 => exact (Kd.Zbi HO_642002.out).2.1); (case side7 => repeat (first | exact (Kd.Zb5 HO_642005.out).2.2 | (with_reducible refine Kd.C_alloc ?_ _) | (with_reducible refine Kd.Za0 ?_ _) | (with_reducible refine Kd.C_drew ?_))); (case side8 => exact (Kd.Zb5 HO_642005.out).2.1); rintro e w28 ⟨v648, rfl, ho0, hb⟩; refine ⟨_, rfl, ?_⟩; have n0_ := Zaa.mk (Kd.Zc5 (mvS HO_3.out) (Kd.Zfk ho0) hb); have n1_ := Zaa.mk (Kd.Zb8 (mvS HO_6.out) hb); have n2_ := Zaa.mk (Kd.Zb3 (mvR HO_642001.out) hb); have n3_ := Zaa.mk (Kd.Zb3 (mvR HO_642002.out) hb); have n4_ := Zaa.mk (Kd.Zb8 (mvS HO_642005.out) hb); have n5_ := Zaa.mk (Kd.Zc2 (Kd.Zdw ho0 (Kd.S_lt (mvS HO_3.out))) (Zal (by repeat (first | (with_reducible first | exact HB.out | apply Zac | apply Za | apply Zab | refine Zaf ?_ GE623.out | refine Zaf ?_ GE641.out) | exact HB.out)))); have n6_ := Zaa.mk (Zbb (g := gb623) (o := .cells #[.slice A0_0 l0_0.length c0_0, .int .i64 a0_1, .slice A0_2 l0_2.length c0_2, .slice A0_3 l0_3.length c0_3, .int .i64 a0_4, .int .i64 a0_5, .slice A0_6 l0_6.length c0_6, .int .i64 a0_7, .slice A0_8 l0_8.length c0_8, .slice A0_9 l0_9.length c0_9] 27 (0, 0)) (mvK BK623.out) hb); have n7_ := Zaa.mk (Zbb (g := gb641) (o := .cells #[.int .i64 t627, .slice Ao11 t628.length co11, .slice Ao12 t631.length co12, .int .i64 t634, .int .i64 t635, .slice Ao13 t636.length co13, .int .i64 t639] 25 (0, 0)) (mvK BK641.out) hb); have n8_ := Zaa.mk (Zay (by repeat (first | (with_reducible first | exact HB.out | apply Zac | apply Za | apply Zab | refine Zaf ?_ GE623.out | refine Zaf ?_ GE641.out) | exact HB.out)) hb); clear HO_3; clear HO_6; clear HO_642001; clear HO_642002; clear HO_642005; clear BK623; clear BK641; clear HB; have HO_3 := n0_; have HO_6 := n1_; have HO_642001 := n2_; have HO_642002 := n3_; have HO_642005 := n4_; have HO649 := n5_; have BK623 := n6_; have BK641 := n7_; have HB := n8_; clear n0_ n1_ n2_ n3_ n4_ n5_ n6_ n7_ n8_; (try clear hb); (try clear hb2); (try clear hk); (try clear hi); (try clear ho0); obtain ⟨hcz29_0, hcz29_1, hcz29_2, hcz29_3, hcz29_4, hcz29_5, hcz29_6, hfz29_0, hfz29_1, hfz29_2, hfz29_3, hfz29_4, hfz29_5, hfz29_6⟩ := Zch BK641.out) | ((with_reducible refine Zbn (f := 26) rfl ?_); refine Zcf (some 50) rfl rfl Try.func26 (by kernel_rfl) rfl #[.agg #[.int .i64 t627, .slice Ao11 t628.length co11, .slice Ao12 t631.length co12, .int .i64 t634, .int .i64 t635, .slice Ao13 t636.length co13, .int .i64 t639]] rfl (by (try simp only [List.map_toArray, List.map_cons, List.map_nil]); first | done | rfl | (simp only [List.length_drop, List.length_take]; rfl)) ?_; (with_reducible refine (Zbc.calls k1 t627 _ _ t628 _ _ t631 t634 t635 _ _ t636 t639 t651 t652 t655 t658 t659 t660 t663 _ ?side1 ?side2 ?side3 ?side4 ?side5 ?side6 A22.out).mono ?_); (case side1 => repeat (first | exact (Kd.Zbi HO_642001.out).2.2 | (with_reducible refine Kd.C_alloc ?_ _) | (with_reducible refine Kd.Za0 ?_ _) | (with_reducible refine Kd.C_drew ?_))); (case side2 => exact (Kd.Zbi HO_642001.out).2.1); (case side3 => repeat (first | exact (Kd.Zbi HO_642002.out).2.2 | (with_reducible refine Kd.C_alloc ?_ _) | (with_reducible refine Kd.Za0 ?_ _) | (with_reducible refine Kd.C_drew ?_))); (case side4 => exact (Kd.Zbi HO_642002.out).2.1); (case side5 => repeat (first | exact (Kd.Zb5 HO_642005.out).2.2 | (with_reducible refine Kd.C_alloc ?_ _) | (with_reducible refine Kd.Za0 ?_ _) | (with_reducible refine Kd.C_drew ?_))); (case side6 => exact (Kd.Zb5 HO_642005.out).2.1); rintro e w30 ⟨v653, v656, v661, rfl, ho0, ho1, ho2, hb⟩; refine ⟨_, rfl, ?_⟩; have n0_ := Zaa.mk (Kd.Zb8 (mvS HO_3.out) hb); have n1_ := Zaa.mk (Kd.Zb4 (Kd.Zf8 (Kd.Zf8 (Kd.Zf8 (Kd.S_old (mvS HO_6.out) hb) (Kd.Zco ho0)) (Kd.Zco ho1)) (Kd.Zfk ho2)) (fun _ h_ => h_.1)); have n2_ := Zaa.mk (Kd.Zbs (Kd.R_told (Kd.R_told (Kd.R_old (mvR HO_642001.out) hb) (Kd.Zco ho0)) (Kd.Zco ho1)) (fun _ h_ => h_.1)); have n3_ := Zaa.mk (Kd.Zbs (Kd.R_told (Kd.R_told (Kd.R_old (mvR HO_642002.out) hb) (Kd.Zco ho0)) (Kd.Zco ho1)) (fun _ h_ => h_.1)); have n4_ := Zaa.mk (Kd.Zb4 (Kd.Zf8 (Kd.Zf8 (Kd.Zf8 (Kd.S_old (mvS HO_642005.out) hb) (Kd.Zco ho0)) (Kd.Zco ho1)) (Kd.Zfk ho2)) (fun _ h_ => h_.1)); have n5_ := Zaa.mk (Kd.Zb8 (mvS HO649.out) hb); have n6_ := Zaa.mk (Kd.Zb9 (Kd.Zc8 (Kd.Zc8 ho0 (Kd.R_lt (mvR HO_642001.out))) (Kd.R_lt (mvR HO_642002.out))) (Zal (by repeat (first | (with_reducible first | exact HB.out | apply Zac | apply Za | apply Zab | refine Zaf ?_ GE623.out | refine Zaf ?_ GE641.out) | exact HB.out)))); have n7_ := Zaa.mk (Kd.Zb9 (Kd.Zc8 (Kd.Zc8 ho1 (Kd.R_lt (mvR HO_642001.out))) (Kd.R_lt (mvR HO_642002.out))) (Zal (by repeat (first | (with_reducible first | exact HB.out | apply Zac | apply Za | apply Zab | refine Zaf ?_ GE623.out | refine Zaf ?_ GE641.out) | exact HB.out)))); have n8_ := Zaa.mk (Kd.Zc2 (Kd.Zdw (Kd.Zdw (Kd.Zdw (Kd.Zdw ho2 (Kd.S_lt (mvS HO_6.out))) (Kd.R_lt (mvR HO_642001.out))) (Kd.R_lt (mvR HO_642002.out))) (Kd.S_lt (mvS HO_642005.out))) (Zal (by repeat (first | (with_reducible first | exact HB.out | apply Zac | apply Za | apply Zab | refine Zaf ?_ GE623.out | refine Zaf ?_ GE641.out) | exact HB.out)))); have n9_ := Zaa.mk (Zbb (g := gb623) (o := .cells #[.slice A0_0 l0_0.length c0_0, .int .i64 a0_1, .slice A0_2 l0_2.length c0_2, .slice A0_3 l0_3.length c0_3, .int .i64 a0_4, .int .i64 a0_5, .slice A0_6 l0_6.length c0_6, .int .i64 a0_7, .slice A0_8 l0_8.length c0_8, .slice A0_9 l0_9.length c0_9] 27 (0, 0)) (mvK BK623.out) hb); have n10_ := Zaa.mk (Zbb (g := gb641) (o := .cells #[.int .i64 t627, .slice Ao11 t628.length co11, .slice Ao12 t631.length co12, .int .i64 t634, .int .i64 t635, .slice Ao13 t636.length co13, .int .i64 t639] 25 (0, 0)) (mvK BK641.out) hb); have n11_ := Zaa.mk (Zay (by repeat (first | (with_reducible first | exact HB.out | apply Zac | apply Za | apply Zab | refine Zaf ?_ GE623.out | refine Zaf ?_ GE641.out) | exact HB.out)) hb); clear HO_3; clear HO_6; clear HO_642001; clear HO_642002; clear HO_642005; clear HO649; clear BK623; clear BK641; clear HB; have HO_3 := n0_; have HO_6 := n1_; have HO_642001 := n2_; have HO_642002 := n3_; have HO_642005 := n4_; have HO649 := n5_; have HO654 := n6_; have HO657 := n7_; have HO662 := n8_; have BK623 := n9_; have BK641 := n10_; have HB := n11_; clear n0_ n1_ n2_ n3_ n4_ n5_ n6_ n7_ n8_ n9_ n10_ n11_; (try clear hb); (try clear hb2); (try clear hk); (try clear hi); (try clear ho0); (try clear ho1); (try clear ho2)) | ((with_reducible refine Zb2 (N := 10) rfl ?_); refine Zcd ?hg (N := 10) ?hd (cs := #[.int .i64 0, .slice none 0 0, .slice none 0 0, .int .i64 0, .int .i64 0, .slice none 0 0, .int .i64 0]) (t := 25) ?hr ?_; (case hd => rfl); (case hg => rfl); (case hr => first | (go_simp; done) | (go_simp; rfl)); intro gb664 hg w31 hbox hb; have n0_ := Zaa.mk (Kd.Zb8 (mvS HO_3.out) hb); have n1_ := Zaa.mk (Kd.Zb8 (mvS HO_6.out) hb); have n2_ := Zaa.mk (Kd.Zb3 (mvR HO_642001.out) hb); have n3_ := Zaa.mk (Kd.Zb3 (mvR HO_642002.out) hb); have n4_ := Zaa.mk (Kd.Zb8 (mvS HO_642005.out) hb); have n5_ := Zaa.mk (Kd.Zb8 (mvS HO649.out) hb); have n6_ := Zaa.mk (Kd.Zb3 (mvR HO654.out) hb); have n7_ := Zaa.mk (Kd.Zb3 (mvR HO657.out) hb); have n8_ := Zaa.mk (Kd.Zb8 (mvS HO662.out) hb); have n9_ := Zaa.mk (Zbb (g := gb623) (o := .cells #[.slice A0_0 l0_0.length c0_0, .int .i64 a0_1, .slice A0_2 l0_2.length c0_2, .slice A0_3 l0_3.length c0_3, .int .i64 a0_4, .int .i64 a0_5, .slice A0_6 l0_6.length c0_6, .int .i64 a0_7, .slice A0_8 l0_8.length c0_8, .slice A0_9 l0_9.length c0_9] 27 (0, 0)) (mvK BK623.out) hb); have n10_ := Zaa.mk (Zbb (g := gb641) (o := .cells #[.int .i64 t627, .slice Ao11 t628.length co11, .slice Ao12 t631.length co12, .int .i64 t634, .int .i64 t635, .slice Ao13 t636.length co13, .int .i64 t639] 25 (0, 0)) (mvK BK641.out) hb); have n11_ := Zaa.mk (Zay (by repeat (first | (with_reducible first | exact HB.out | apply Zac | apply Za | apply Zab | refine Zaf ?_ GE623.out | refine Zaf ?_ GE641.out) | exact HB.out)) hb); have n12_ := Zaa.mk (hbox); have n13_ := Zaa.mk ((by rw [hg]; exact (Zal (by repeat (first | (with_reducible first | exact HB.out | apply Zac | apply Za | apply Zab | refine Zaf ?_ GE623.out | refine Zaf ?_ GE641.out) | exact HB.out))) : w.heap.size ≤ gb664)); have n14_ := Zaa.mk ((by rw [hg]; exact (Zal (by repeat (first | (with_reducible first | exact HB.out | apply Zac | apply Za | apply Zab | refine Zaf ?_ GE623.out | refine Zaf ?_ GE641.out) | exact HB.out))) : w.heap.size ≤ gb664)); have n15_ := Zaa.mk ((by rw [hg]; exact Nat.ne_of_lt (Zc1 (g := gb623) (o := .cells #[.slice A0_0 l0_0.length c0_0, .int .i64 a0_1, .slice A0_2 l0_2.length c0_2, .slice A0_3 l0_3.length c0_3, .int .i64 a0_4, .int .i64 a0_5, .slice A0_6 l0_6.length c0_6, .int .i64 a0_7, .slice A0_8 l0_8.length c0_8, .slice A0_9 l0_9.length c0_9] 27 (0, 0)) (mvK BK623.out)) : gb623 ≠ gb664)); have n16_ := Zaa.mk ((by rw [hg]; exact Nat.ne_of_gt (Zc1 (g := gb623) (o := .cells #[.slice A0_0 l0_0.length c0_0, .int .i64 a0_1, .slice A0_2 l0_2.length c0_2, .slice A0_3 l0_3.length c0_3, .int .i64 a0_4, .int .i64 a0_5, .slice A0_6 l0_6.length c0_6, .int .i64 a0_7, .slice A0_8 l0_8.length c0_8, .slice A0_9 l0_9.length c0_9] 27 (0, 0)) (mvK BK623.out)) : gb664 ≠ gb623)); have n17_ := Zaa.mk ((by rw [hg]; exact Nat.ne_of_lt (Zc1 (g := gb641) (o := .cells #[.int .i64 t627, .slice Ao11 t628.length co11, .slice Ao12 t631.length co12, .int .i64 t634, .int .i64 t635, .slice Ao13 t636.length co13, .int .i64 t639] 25 (0, 0)) (mvK BK641.out)) : gb641 ≠ gb664)); have n18_ := Zaa.mk ((by rw [hg]; exact Nat.ne_of_gt (Zc1 (g := gb641) (o := .cells #[.int .i64 t627, .slice Ao11 t628.length co11, .slice Ao12 t631.length co12, .int .i64 t634, .int .i64 t635, .slice Ao13 t636.length co13, .int .i64 t639] 25 (0, 0)) (mvK BK641.out)) : gb664 ≠ gb641)); clear HO_3; clear HO_6; clear HO_642001; clear HO_642002; clear HO_642005; clear HO649; clear HO654; clear HO657; clear HO662; clear BK623; clear BK641; clear HB; have HO_3 := n0_; have HO_6 := n1_; have HO_642001 := n2_; have HO_642002 := n3_; have HO_642005 := n4_; have HO649 := n5_; have HO654 := n6_; have HO657 := n7_; have HO662 := n8_; have BK623 := n9_; have BK641 := n10_; have HB := n11_; have BK664 := n12_; have GW664 := n13_; have GE664 := n14_; have NB623_664 := n15_; have NB664_623 := n16_; have NB641_664 := n17_; have NB664_641 := n18_; clear n0_ n1_ n2_ n3_ n4_ n5_ n6_ n7_ n8_ n9_ n10_ n11_ n12_ n13_ n14_ n15_ n16_ n17_ n18_; clear hb hbox hg; have hnb32 := NB664_623.out; have hnc32 := NB623_664.out; have hnb33 := NB664_641.out; have hnc33 := NB641_664.out; obtain ⟨hcz34_0, hcz34_1, hcz34_2, hcz34_3, hcz34_4, hcz34_5, hcz34_6, hfz34_0, hfz34_1, hfz34_2, hfz34_3, hfz34_4, hfz34_5, hfz34_6⟩ := Zch BK664.out; obtain ⟨Ao35, co35, eo35⟩ := Kd.Zcb HO654.out; subst eo35; obtain ⟨Ao36, co36, eo36⟩ := Kd.Zcb HO657.out; subst eo36; obtain ⟨Ao37, co37, eo37⟩ := Kd.Zc6 HO662.out; subst eo37; have hb0_ := Zbu (cs' := #[.int .i64 t651, .slice none 0 0, .slice none 0 0, .int .i64 0, .int .i64 0, .slice none 0 0, .int .i64 0]) (BK664.out) 0 (.int .i64 t651) rfl; have hb1_ := Zbu (cs' := #[.int .i64 t651, .slice Ao35 t652.length co35, .slice none 0 0, .int .i64 0, .int .i64 0, .slice none 0 0, .int .i64 0]) (hb0_) 1 (.slice Ao35 t652.length co35) rfl; have hb2_ := Zbu (cs' := #[.int .i64 t651, .slice Ao35 t652.length co35, .slice Ao36 t655.length co36, .int .i64 0, .int .i64 0, .slice none 0 0, .int .i64 0]) (hb1_) 2 (.slice Ao36 t655.length co36) rfl; have hb3_ := Zbu (cs' := #[.int .i64 t651, .slice Ao35 t652.length co35, .slice Ao36 t655.length co36, .int .i64 t658, .int .i64 0, .slice none 0 0, .int .i64 0]) (hb2_) 3 (.int .i64 t658) rfl; have hb4_ := Zbu (cs' := #[.int .i64 t651, .slice Ao35 t652.length co35, .slice Ao36 t655.length co36, .int .i64 t658, .int .i64 t659, .slice none 0 0, .int .i64 0]) (hb3_) 4 (.int .i64 t659) rfl; have hb5_ := Zbu (cs' := #[.int .i64 t651, .slice Ao35 t652.length co35, .slice Ao36 t655.length co36, .int .i64 t658, .int .i64 t659, .slice Ao37 t660.length co37, .int .i64 0]) (hb4_) 5 (.slice Ao37 t660.length co37) rfl; have hb6_ := Zbu (cs' := #[.int .i64 t651, .slice Ao35 t652.length co35, .slice Ao36 t655.length co36, .int .i64 t658, .int .i64 t659, .slice Ao37 t660.length co37, .int .i64 t663]) (hb5_) 6 (.int .i64 t663) rfl; have hb7_ := Zbu (cs' := #[.int .i64 t651, .slice Ao35 t652.length co35, .slice Ao36 t655.length co36, .int .i64 t658, .int .i64 t659, .slice Ao25 t643.length co25, .int .i64 t663]) (hb6_) 5 (.slice Ao25 t643.length co25) rfl; have hz8_0 : ((((((((w31.setCell ⟨gb664, 0, none⟩ (.int .i64 t651)).setCell ⟨gb664, 1, none⟩ (.slice Ao35 t652.length co35)).setCell ⟨gb664, 2, none⟩ (.slice Ao36 t655.length co36)).setCell ⟨gb664, 3, none⟩ (.int .i64 t658)).setCell ⟨gb664, 4, none⟩ (.int .i64 t659)).setCell ⟨gb664, 5, none⟩ (.slice Ao37 t660.length co37)).setCell ⟨gb664, 6, none⟩ (.int .i64 t663)).setCell ⟨gb664, 5, none⟩ (.slice Ao25 t643.length co25)).cell? ⟨gb664, 0, none⟩ = some (.int .i64 t651) := (Zax hb7_ 0).trans rfl; have hz8_1 : ((((((((w31.setCell ⟨gb664, 0, none⟩ (.int .i64 t651)).setCell ⟨gb664, 1, none⟩ (.slice Ao35 t652.length co35)).setCell ⟨gb664, 2, none⟩ (.slice Ao36 t655.length co36)).setCell ⟨gb664, 3, none⟩ (.int .i64 t658)).setCell ⟨gb664, 4, none⟩ (.int .i64 t659)).setCell ⟨gb664, 5, none⟩ (.slice Ao37 t660.length co37)).setCell ⟨gb664, 6, none⟩ (.int .i64 t663)).setCell ⟨gb664, 5, none⟩ (.slice Ao25 t643.length co25)).cell? ⟨gb664, 1, none⟩ = some (.slice Ao35 t652.length co35) := (Zax hb7_ 1).trans rfl; have hz8_2 : ((((((((w31.setCell ⟨gb664, 0, none⟩ (.int .i64 t651)).setCell ⟨gb664, 1, none⟩ (.slice Ao35 t652.length co35)).setCell ⟨gb664, 2, none⟩ (.slice Ao36 t655.length co36)).setCell ⟨gb664, 3, none⟩ (.int .i64 t658)).setCell ⟨gb664, 4, none⟩ (.int .i64 t659)).setCell ⟨gb664, 5, none⟩ (.slice Ao37 t660.length co37)).setCell ⟨gb664, 6, none⟩ (.int .i64 t663)).setCell ⟨gb664, 5, none⟩ (.slice Ao25 t643.length co25)).cell? ⟨gb664, 2, none⟩ = some (.slice Ao36 t655.length co36) := (Zax hb7_ 2).trans rfl; have hz8_3 : ((((((((w31.setCell ⟨gb664, 0, none⟩ (.int .i64 t651)).setCell ⟨gb664, 1, none⟩ (.slice Ao35 t652.length co35)).setCell ⟨gb664, 2, none⟩ (.slice Ao36 t655.length co36)).setCell ⟨gb664, 3, none⟩ (.int .i64 t658)).setCell ⟨gb664, 4, none⟩ (.int .i64 t659)).setCell ⟨gb664, 5, none⟩ (.slice Ao37 t660.length co37)).setCell ⟨gb664, 6, none⟩ (.int .i64 t663)).setCell ⟨gb664, 5, none⟩ (.slice Ao25 t643.length co25)).cell? ⟨gb664, 3, none⟩ = some (.int .i64 t658) := (Zax hb7_ 3).trans rfl; have hz8_4 : ((((((((w31.setCell ⟨gb664, 0, none⟩ (.int .i64 t651)).setCell ⟨gb664, 1, none⟩ (.slice Ao35 t652.length co35)).setCell ⟨gb664, 2, none⟩ (.slice Ao36 t655.length co36)).setCell ⟨gb664, 3, none⟩ (.int .i64 t658)).setCell ⟨gb664, 4, none⟩ (.int .i64 t659)).setCell ⟨gb664, 5, none⟩ (.slice Ao37 t660.length co37)).setCell ⟨gb664, 6, none⟩ (.int .i64 t663)).setCell ⟨gb664, 5, none⟩ (.slice Ao25 t643.length co25)).cell? ⟨gb664, 4, none⟩ = some (.int .i64 t659) := (Zax hb7_ 4).trans rfl; have hz8_5 : ((((((((w31.setCell ⟨gb664, 0, none⟩ (.int .i64 t651)).setCell ⟨gb664, 1, none⟩ (.slice Ao35 t652.length co35)).setCell ⟨gb664, 2, none⟩ (.slice Ao36 t655.length co36)).setCell ⟨gb664, 3, none⟩ (.int .i64 t658)).setCell ⟨gb664, 4, none⟩ (.int .i64 t659)).setCell ⟨gb664, 5, none⟩ (.slice Ao37 t660.length co37)).setCell ⟨gb664, 6, none⟩ (.int .i64 t663)).setCell ⟨gb664, 5, none⟩ (.slice Ao25 t643.length co25)).cell? ⟨gb664, 5, none⟩ = some (.slice Ao25 t643.length co25) := (Zax hb7_ 5).trans rfl; have hz8_6 : ((((((((w31.setCell ⟨gb664, 0, none⟩ (.int .i64 t651)).setCell ⟨gb664, 1, none⟩ (.slice Ao35 t652.length co35)).setCell ⟨gb664, 2, none⟩ (.slice Ao36 t655.length co36)).setCell ⟨gb664, 3, none⟩ (.int .i64 t658)).setCell ⟨gb664, 4, none⟩ (.int .i64 t659)).setCell ⟨gb664, 5, none⟩ (.slice Ao37 t660.length co37)).setCell ⟨gb664, 6, none⟩ (.int .i64 t663)).setCell ⟨gb664, 5, none⟩ (.slice Ao25 t643.length co25)).cell? ⟨gb664, 6, none⟩ = some (.int .i64 t663) := (Zax hb7_ 6).trans rfl; clear hb7_ hb6_ hb5_ hb4_ hb3_ hb2_ hb1_ hb0_) | ((with_reducible refine Zbn (f := 18) rfl ?_); refine Zcf (some 56) rfl rfl Try.func18 (by kernel_rfl) rfl #[.slice Ao14 t624.length co14, .agg #[.int .i64 t651, .slice Ao35 t652.length co35, .slice Ao36 t655.length co36, .int .i64 t658, .int .i64 t659, .slice Ao25 t643.length co25, .int .i64 t663]] rfl (by (try simp only [List.map_toArray, List.map_cons, List.map_nil]); first | done | rfl | (simp only [List.length_drop, List.length_take]; rfl)) ?_; (with_reducible refine (Zau.calls k1 _ _ t624 t651 _ _ t652 _ _ t655 t658 t659 _ _ t643 t663 t665 t668 _ ?side1 ?side2 ?side3 ?side4 ?side5 ?side6 ?side7 ?side8 A23.out).mono ?_); (case side1 => refine (Kd.Zb5 (e := 39) (base := w.heap.size) (ok := fun k_ => (True ∧ some k_ ≠ (v648 : Value).ownBlock)) (n := t624.length) (c := co14) ?_).2.2; exact (by (with_reducible repeat (first | apply Kd.S_alloc | apply Kd.Zbe | apply Kd.Zbk)); exact (Kd.Zb4 (Kd.Zbm (p := ⟨gb664, 5, none⟩) (Kd.Zbm (p := ⟨gb664, 6, none⟩) (Kd.Zbm (p := ⟨gb664, 5, none⟩) (Kd.Zbm (p := ⟨gb664, 4, none⟩) (Kd.Zbm (p := ⟨gb664, 3, none⟩) (Kd.Zbm (p := ⟨gb664, 2, none⟩) (Kd.Zbm (p := ⟨gb664, 1, none⟩) (Kd.Zbm (p := ⟨gb664, 0, none⟩) (Kd.Zcc HO_3.out BK664.out (by decide)) (fun _ hk => hk.2) (.int .i64 t651)) (fun _ hk => hk.2) (.slice Ao35 t652.length co35)) (fun _ hk => hk.2) (.slice Ao36 t655.length co36)) (fun _ hk => hk.2) (.int .i64 t658)) (fun _ hk => hk.2) (.int .i64 t659)) (fun _ hk => hk.2) (.slice Ao37 t660.length co37)) (fun _ hk => hk.2) (.int .i64 t663)) (fun _ hk => hk.2) (.slice Ao25 t643.length co25)) (fun _ h_ => h_.1)))); (case side2 => exact (Kd.Zb5 HO_3.out).2.1); (case side3 => refine (Kd.Zbi (e := 3) (base := w.heap.size) (ok := fun k_ => ((some k_ ≠ (.slice Ao36 t655.length co36 : Value).ownBlock ∧ some k_ ≠ (.slice Ao11 t628.length co11 : Value).ownBlock) ∧ some k_ ≠ (.slice Ao12 t631.length co12 : Value).ownBlock)) (n := t652.length) (c := co35) ?_).2.2; exact (by (with_reducible repeat (first | apply Kd.R_alloc | apply Kd.Zap | apply Kd.Zav)); exact (Kd.Zbs (Kd.Zbo (p := ⟨gb664, 5, none⟩) (Kd.Zbo (p := ⟨gb664, 6, none⟩) (Kd.Zbo (p := ⟨gb664, 5, none⟩) (Kd.Zbo (p := ⟨gb664, 4, none⟩) (Kd.Zbo (p := ⟨gb664, 3, none⟩) (Kd.Zbo (p := ⟨gb664, 2, none⟩) (Kd.Zbo (p := ⟨gb664, 1, none⟩) (Kd.Zbo (p := ⟨gb664, 0, none⟩) (Kd.Zca HO654.out BK664.out (by decide)) (fun _ hk => hk.2) (.int .i64 t651)) (fun _ hk => hk.2) (.slice Ao35 t652.length co35)) (fun _ hk => hk.2) (.slice Ao36 t655.length co36)) (fun _ hk => hk.2) (.int .i64 t658)) (fun _ hk => hk.2) (.int .i64 t659)) (fun _ hk => hk.2) (.slice Ao37 t660.length co37)) (fun _ hk => hk.2) (.int .i64 t663)) (fun _ hk => hk.2) (.slice Ao25 t643.length co25)) (fun _ h_ => h_.1)))); (case side4 => exact (Kd.Zbi HO654.out).2.1); (case side5 => refine (Kd.Zbi (e := 3) (base := w.heap.size) (ok := fun k_ => ((some k_ ≠ (.slice Ao35 t652.length co35 : Value).ownBlock ∧ some k_ ≠ (.slice Ao11 t628.length co11 : Value).ownBlock) ∧ some k_ ≠ (.slice Ao12 t631.length co12 : Value).ownBlock)) (n := t655.length) (c := co36) ?_).2.2; exact (by (with_reducible repeat (first | apply Kd.R_alloc | apply Kd.Zap | apply Kd.Zav)); exact (Kd.Zbs (Kd.Zbo (p := ⟨gb664, 5, none⟩) (Kd.Zbo (p := ⟨gb664, 6, none⟩) (Kd.Zbo (p := ⟨gb664, 5, none⟩) (Kd.Zbo (p := ⟨gb664, 4, none⟩) (Kd.Zbo (p := ⟨gb664, 3, none⟩) (Kd.Zbo (p := ⟨gb664, 2, none⟩) (Kd.Zbo (p := ⟨gb664, 1, none⟩) (Kd.Zbo (p := ⟨gb664, 0, none⟩) (Kd.Zca HO657.out BK664.out (by decide)) (fun _ hk => hk.2) (.int .i64 t651)) (fun _ hk => hk.2) (.slice Ao35 t652.length co35)) (fun _ hk => hk.2) (.slice Ao36 t655.length co36)) (fun _ hk => hk.2) (.int .i64 t658)) (fun _ hk => hk.2) (.int .i64 t659)) (fun _ hk => hk.2) (.slice Ao37 t660.length co37)) (fun _ hk => hk.2) (.int .i64 t663)) (fun _ hk => hk.2) (.slice Ao25 t643.length co25)) (fun _ h_ => h_.1)))); (case side6 => exact (Kd.Zbi HO657.out).2.1); (case side7 => refine (Kd.Zb5 (e := 23) (base := w.heap.size) (ok := fun k_ => ((((some k_ ≠ (.slice Ao11 t628.length co11 : Value).ownBlock ∧ (some k_ ≠ (.slice Ao12 t631.length co12 : Value).ownBlock ∧ some k_ ≠ (.slice Ao13 t636.length co13 : Value).ownBlock)) ∧ some k_ ≠ (.slice Ao35 t652.length co35 : Value).ownBlock) ∧ some k_ ≠ (.slice Ao36 t655.length co36 : Value).ownBlock) ∧ some k_ ≠ (.slice Ao37 t660.length co37 : Value).ownBlock)) (n := t643.length) (c := co25) ?_).2.2; exact (by (with_reducible repeat (first | apply Kd.S_alloc | apply Kd.Zbe | apply Kd.Zbk)); exact (Kd.Zb4 (Kd.Zbm (p := ⟨gb664, 5, none⟩) (Kd.Zbm (p := ⟨gb664, 6, none⟩) (Kd.Zbm (p := ⟨gb664, 5, none⟩) (Kd.Zbm (p := ⟨gb664, 4, none⟩) (Kd.Zbm (p := ⟨gb664, 3, none⟩) (Kd.Zbm (p := ⟨gb664, 2, none⟩) (Kd.Zbm (p := ⟨gb664, 1, none⟩) (Kd.Zbm (p := ⟨gb664, 0, none⟩) (Kd.Zcc HO_6.out BK664.out (by decide)) (fun _ hk => hk.2) (.int .i64 t651)) (fun _ hk => hk.2) (.slice Ao35 t652.length co35)) (fun _ hk => hk.2) (.slice Ao36 t655.length co36)) (fun _ hk => hk.2) (.int .i64 t658)) (fun _ hk => hk.2) (.int .i64 t659)) (fun _ hk => hk.2) (.slice Ao37 t660.length co37)) (fun _ hk => hk.2) (.int .i64 t663)) (fun _ hk => hk.2) (.slice Ao25 t643.length co25)) (fun _ h_ => h_.1)))); (case side8 => exact (Kd.Zb5 HO_6.out).2.1); rintro e w38 ⟨v666, rfl, ho0, hb⟩; refine ⟨_, rfl, ?_⟩; have n0_ := Zaa.mk (Kd.Zc5 (by (with_reducible repeat (first | apply Kd.S_alloc | apply Kd.Zbe | apply Kd.Zbk)); exact (Kd.Zb4 (Kd.Zbm (p := ⟨gb664, 5, none⟩) (Kd.Zbm (p := ⟨gb664, 6, none⟩) (Kd.Zbm (p := ⟨gb664, 5, none⟩) (Kd.Zbm (p := ⟨gb664, 4, none⟩) (Kd.Zbm (p := ⟨gb664, 3, none⟩) (Kd.Zbm (p := ⟨gb664, 2, none⟩) (Kd.Zbm (p := ⟨gb664, 1, none⟩) (Kd.Zbm (p := ⟨gb664, 0, none⟩) (Kd.Zcc HO_3.out BK664.out (by decide)) (fun _ hk => hk.2) (.int .i64 t651)) (fun _ hk => hk.2) (.slice Ao35 t652.length co35)) (fun _ hk => hk.2) (.slice Ao36 t655.length co36)) (fun _ hk => hk.2) (.int .i64 t658)) (fun _ hk => hk.2) (.int .i64 t659)) (fun _ hk => hk.2) (.slice Ao37 t660.length co37)) (fun _ hk => hk.2) (.int .i64 t663)) (fun _ hk => hk.2) (.slice Ao25 t643.length co25)) (fun _ h_ => h_.1))) (Kd.Zfk ho0) hb); have n1_ := Zaa.mk (Kd.Zb8 (by (with_reducible repeat (first | apply Kd.S_alloc | apply Kd.Zbe | apply Kd.Zbk)); exact (Kd.Zb4 (Kd.Zbm (p := ⟨gb664, 5, none⟩) (Kd.Zbm (p := ⟨gb664, 6, none⟩) (Kd.Zbm (p := ⟨gb664, 5, none⟩) (Kd.Zbm (p := ⟨gb664, 4, none⟩) (Kd.Zbm (p := ⟨gb664, 3, none⟩) (Kd.Zbm (p := ⟨gb664, 2, none⟩) (Kd.Zbm (p := ⟨gb664, 1, none⟩) (Kd.Zbm (p := ⟨gb664, 0, none⟩) (Kd.Zcc HO_6.out BK664.out (by decide)) (fun _ hk => hk.2) (.int .i64 t651)) (fun _ hk => hk.2) (.slice Ao35 t652.length co35)) (fun _ hk => hk.2) (.slice Ao36 t655.length co36)) (fun _ hk => hk.2) (.int .i64 t658)) (fun _ hk => hk.2) (.int .i64 t659)) (fun _ hk => hk.2) (.slice Ao37 t660.length co37)) (fun _ hk => hk.2) (.int .i64 t663)) (fun _ hk => hk.2) (.slice Ao25 t643.length co25)) (fun _ h_ => h_.1))) hb); have n2_ := Zaa.mk (Kd.Zb3 (by (with_reducible repeat (first | apply Kd.R_alloc | apply Kd.Zap | apply Kd.Zav)); exact (Kd.Zbs (Kd.Zbo (p := ⟨gb664, 5, none⟩) (Kd.Zbo (p := ⟨gb664, 6, none⟩) (Kd.Zbo (p := ⟨gb664, 5, none⟩) (Kd.Zbo (p := ⟨gb664, 4, none⟩) (Kd.Zbo (p := ⟨gb664, 3, none⟩) (Kd.Zbo (p := ⟨gb664, 2, none⟩) (Kd.Zbo (p := ⟨gb664, 1, none⟩) (Kd.Zbo (p := ⟨gb664, 0, none⟩) (Kd.Zca HO_642001.out BK664.out (by decide)) (fun _ hk => hk.2) (.int .i64 t651)) (fun _ hk => hk.2) (.slice Ao35 t652.length co35)) (fun _ hk => hk.2) (.slice Ao36 t655.length co36)) (fun _ hk => hk.2) (.int .i64 t658)) (fun _ hk => hk.2) (.int .i64 t659)) (fun _ hk => hk.2) (.slice Ao37 t660.length co37)) (fun _ hk => hk.2) (.int .i64 t663)) (fun _ hk => hk.2) (.slice Ao25 t643.length co25)) (fun _ h_ => h_.1))) hb); have n3_ := Zaa.mk (Kd.Zb3 (by (with_reducible repeat (first | apply Kd.R_alloc | apply Kd.Zap | apply Kd.Zav)); exact (Kd.Zbs (Kd.Zbo (p := ⟨gb664, 5, none⟩) (Kd.Zbo (p := ⟨gb664, 6, none⟩) (Kd.Zbo (p := ⟨gb664, 5, none⟩) (Kd.Zbo (p := ⟨gb664, 4, none⟩) (Kd.Zbo (p := ⟨gb664, 3, none⟩) (Kd.Zbo (p := ⟨gb664, 2, none⟩) (Kd.Zbo (p := ⟨gb664, 1, none⟩) (Kd.Zbo (p := ⟨gb664, 0, none⟩) (Kd.Zca HO_642002.out BK664.out (by decide)) (fun _ hk => hk.2) (.int .i64 t651)) (fun _ hk => hk.2) (.slice Ao35 t652.length co35)) (fun _ hk => hk.2) (.slice Ao36 t655.length co36)) (fun _ hk => hk.2) (.int .i64 t658)) (fun _ hk => hk.2) (.int .i64 t659)) (fun _ hk => hk.2) (.slice Ao37 t660.length co37)) (fun _ hk => hk.2) (.int .i64 t663)) (fun _ hk => hk.2) (.slice Ao25 t643.length co25)) (fun _ h_ => h_.1))) hb); have n4_ := Zaa.mk (Kd.Zb8 (by (with_reducible repeat (first | apply Kd.S_alloc | apply Kd.Zbe | apply Kd.Zbk)); exact (Kd.Zb4 (Kd.Zbm (p := ⟨gb664, 5, none⟩) (Kd.Zbm (p := ⟨gb664, 6, none⟩) (Kd.Zbm (p := ⟨gb664, 5, none⟩) (Kd.Zbm (p := ⟨gb664, 4, none⟩) (Kd.Zbm (p := ⟨gb664, 3, none⟩) (Kd.Zbm (p := ⟨gb664, 2, none⟩) (Kd.Zbm (p := ⟨gb664, 1, none⟩) (Kd.Zbm (p := ⟨gb664, 0, none⟩) (Kd.Zcc HO_642005.out BK664.out (by decide)) (fun _ hk => hk.2) (.int .i64 t651)) (fun _ hk => hk.2) (.slice Ao35 t652.length co35)) (fun _ hk => hk.2) (.slice Ao36 t655.length co36)) (fun _ hk => hk.2) (.int .i64 t658)) (fun _ hk => hk.2) (.int .i64 t659)) (fun _ hk => hk.2) (.slice Ao37 t660.length co37)) (fun _ hk => hk.2) (.int .i64 t663)) (fun _ hk => hk.2) (.slice Ao25 t643.length co25)) (fun _ h_ => h_.1))) hb); have n5_ := Zaa.mk (Kd.Zc5 (by (with_reducible repeat (first | apply Kd.S_alloc | apply Kd.Zbe | apply Kd.Zbk)); exact (Kd.Zb4 (Kd.Zbm (p := ⟨gb664, 5, none⟩) (Kd.Zbm (p := ⟨gb664, 6, none⟩) (Kd.Zbm (p := ⟨gb664, 5, none⟩) (Kd.Zbm (p := ⟨gb664, 4, none⟩) (Kd.Zbm (p := ⟨gb664, 3, none⟩) (Kd.Zbm (p := ⟨gb664, 2, none⟩) (Kd.Zbm (p := ⟨gb664, 1, none⟩) (Kd.Zbm (p := ⟨gb664, 0, none⟩) (Kd.Zcc HO649.out BK664.out (by decide)) (fun _ hk => hk.2) (.int .i64 t651)) (fun _ hk => hk.2) (.slice Ao35 t652.length co35)) (fun _ hk => hk.2) (.slice Ao36 t655.length co36)) (fun _ hk => hk.2) (.int .i64 t658)) (fun _ hk => hk.2) (.int .i64 t659)) (fun _ hk => hk.2) (.slice Ao37 t660.length co37)) (fun _ hk => hk.2) (.int .i64 t663)) (fun _ hk => hk.2) (.slice Ao25 t643.length co25)) (fun _ h_ => h_.1))) (Kd.Zfk ho0) hb); have n6_ := Zaa.mk (Kd.Zb3 (by (with_reducible repeat (first | apply Kd.R_alloc | apply Kd.Zap | apply Kd.Zav)); exact (Kd.Zbs (Kd.Zbo (p := ⟨gb664, 5, none⟩) (Kd.Zbo (p := ⟨gb664, 6, none⟩) (Kd.Zbo (p := ⟨gb664, 5, none⟩) (Kd.Zbo (p := ⟨gb664, 4, none⟩) (Kd.Zbo (p := ⟨gb664, 3, none⟩) (Kd.Zbo (p := ⟨gb664, 2, none⟩) (Kd.Zbo (p := ⟨gb664, 1, none⟩) (Kd.Zbo (p := ⟨gb664, 0, none⟩) (Kd.Zca HO654.out BK664.out (by decide)) (fun _ hk => hk.2) (.int .i64 t651)) (fun _ hk => hk.2) (.slice Ao35 t652.length co35)) (fun _ hk => hk.2) (.slice Ao36 t655.length co36)) (fun _ hk => hk.2) (.int .i64 t658)) (fun _ hk => hk.2) (.int .i64 t659)) (fun _ hk => hk.2) (.slice Ao37 t660.length co37)) (fun _ hk => hk.2) (.int .i64 t663)) (fun _ hk => hk.2) (.slice Ao25 t643.length co25)) (fun _ h_ => h_.1))) hb); have n7_ := Zaa.mk (Kd.Zb3 (by (with_reducible repeat (first | apply Kd.R_alloc | apply Kd.Zap | apply Kd.Zav)); exact (Kd.Zbs (Kd.Zbo (p := ⟨gb664, 5, none⟩) (Kd.Zbo (p := ⟨gb664, 6, none⟩) (Kd.Zbo (p := ⟨gb664, 5, none⟩) (Kd.Zbo (p := ⟨gb664, 4, none⟩) (Kd.Zbo (p := ⟨gb664, 3, none⟩) (Kd.Zbo (p := ⟨gb664, 2, none⟩) (Kd.Zbo (p := ⟨gb664, 1, none⟩) (Kd.Zbo (p := ⟨gb664, 0, none⟩) (Kd.Zca HO657.out BK664.out (by decide)) (fun _ hk => hk.2) (.int .i64 t651)) (fun _ hk => hk.2) (.slice Ao35 t652.length co35)) (fun _ hk => hk.2) (.slice Ao36 t655.length co36)) (fun _ hk => hk.2) (.int .i64 t658)) (fun _ hk => hk.2) (.int .i64 t659)) (fun _ hk => hk.2) (.slice Ao37 t660.length co37)) (fun _ hk => hk.2) (.int .i64 t663)) (fun _ hk => hk.2) (.slice Ao25 t643.length co25)) (fun _ h_ => h_.1))) hb); have n8_ := Zaa.mk (Kd.Zb8 (by (with_reducible repeat (first | apply Kd.S_alloc | apply Kd.Zbe | apply Kd.Zbk)); exact (Kd.Zb4 (Kd.Zbm (p := ⟨gb664, 5, none⟩) (Kd.Zbm (p := ⟨gb664, 6, none⟩) (Kd.Zbm (p := ⟨gb664, 5, none⟩) (Kd.Zbm (p := ⟨gb664, 4, none⟩) (Kd.Zbm (p := ⟨gb664, 3, none⟩) (Kd.Zbm (p := ⟨gb664, 2, none⟩) (Kd.Zbm (p := ⟨gb664, 1, none⟩) (Kd.Zbm (p := ⟨gb664, 0, none⟩) (Kd.Zcc HO662.out BK664.out (by decide)) (fun _ hk => hk.2) (.int .i64 t651)) (fun _ hk => hk.2) (.slice Ao35 t652.length co35)) (fun _ hk => hk.2) (.slice Ao36 t655.length co36)) (fun _ hk => hk.2) (.int .i64 t658)) (fun _ hk => hk.2) (.int .i64 t659)) (fun _ hk => hk.2) (.slice Ao37 t660.length co37)) (fun _ hk => hk.2) (.int .i64 t663)) (fun _ hk => hk.2) (.slice Ao25 t643.length co25)) (fun _ h_ => h_.1))) hb); have n9_ := Zaa.mk (Kd.Zc2 (Kd.Zdw (Kd.Zdw ho0 (Kd.S_lt (by (with_reducible repeat (first | apply Kd.S_alloc | apply Kd.Zbe | apply Kd.Zbk)); exact (Kd.Zb4 (Kd.Zbm (p := ⟨gb664, 5, none⟩) (Kd.Zbm (p := ⟨gb664, 6, none⟩) (Kd.Zbm (p := ⟨gb664, 5, none⟩) (Kd.Zbm (p := ⟨gb664, 4, none⟩) (Kd.Zbm (p := ⟨gb664, 3, none⟩) (Kd.Zbm (p := ⟨gb664, 2, none⟩) (Kd.Zbm (p := ⟨gb664, 1, none⟩) (Kd.Zbm (p := ⟨gb664, 0, none⟩) (Kd.Zcc HO_3.out BK664.out (by decide)) (fun _ hk => hk.2) (.int .i64 t651)) (fun _ hk => hk.2) (.slice Ao35 t652.length co35)) (fun _ hk => hk.2) (.slice Ao36 t655.length co36)) (fun _ hk => hk.2) (.int .i64 t658)) (fun _ hk => hk.2) (.int .i64 t659)) (fun _ hk => hk.2) (.slice Ao37 t660.length co37)) (fun _ hk => hk.2) (.int .i64 t663)) (fun _ hk => hk.2) (.slice Ao25 t643.length co25)) (fun _ h_ => h_.1))))) (Kd.S_lt (by (with_reducible repeat (first | apply Kd.S_alloc | apply Kd.Zbe | apply Kd.Zbk)); exact (Kd.Zb4 (Kd.Zbm (p := ⟨gb664, 5, none⟩) (Kd.Zbm (p := ⟨gb664, 6, none⟩) (Kd.Zbm (p := ⟨gb664, 5, none⟩) (Kd.Zbm (p := ⟨gb664, 4, none⟩) (Kd.Zbm (p := ⟨gb664, 3, none⟩) (Kd.Zbm (p := ⟨gb664, 2, none⟩) (Kd.Zbm (p := ⟨gb664, 1, none⟩) (Kd.Zbm (p := ⟨gb664, 0, none⟩) (Kd.Zcc HO649.out BK664.out (by decide)) (fun _ hk => hk.2) (.int .i64 t651)) (fun _ hk => hk.2) (.slice Ao35 t652.length co35)) (fun _ hk => hk.2) (.slice Ao36 t655.length co36)) (fun _ hk => hk.2) (.int .i64 t658)) (fun _ hk => hk.2) (.int .i64 t659)) (fun _ hk => hk.2) (.slice Ao37 t660.length co37)) (fun _ hk => hk.2) (.int .i64 t663)) (fun _ hk => hk.2) (.slice Ao25 t643.length co25)) (fun _ h_ => h_.1))))) (Zal (by repeat (first | (with_reducible first | exact HB.out | apply Zac | apply Za | apply Zab | refine Zaf ?_ GE623.out | refine Zaf ?_ GE641.out | refine Zaf ?_ GE664.out) | exact HB.out)))); have n10_ := Zaa.mk (Zbb (g := gb623) (o := .cells #[.slice A0_0 l0_0.length c0_0, .int .i64 a0_1, .slice A0_2 l0_2.length c0_2, .slice A0_3 l0_3.length c0_3, .int .i64 a0_4, .int .i64 a0_5, .slice A0_6 l0_6.length c0_6, .int .i64 a0_7, .slice A0_8 l0_8.length c0_8, .slice A0_9 l0_9.length c0_9] 27 (0, 0)) (by (with_reducible repeat (first | refine Zag ?_ _ | refine Zah ?_ | refine Zae ?_ _)); refine Zbv ?_ NB623_664.out _; (with_reducible repeat (first | refine Zag ?_ _ | refine Zah ?_ | refine Zae ?_ _)); refine Zbv ?_ NB623_664.out _; (with_reducible repeat (first | refine Zag ?_ _ | refine Zah ?_ | refine Zae ?_ _)); refine Zbv ?_ NB623_664.out _; (with_reducible repeat (first | refine Zag ?_ _ | refine Zah ?_ | refine Zae ?_ _)); refine Zbv ?_ NB623_664.out _; (with_reducible repeat (first | refine Zag ?_ _ | refine Zah ?_ | refine Zae ?_ _)); refine Zbv ?_ NB623_664.out _; (with_reducible repeat (first | refine Zag ?_ _ | refine Zah ?_ | refine Zae ?_ _)); refine Zbv ?_ NB623_664.out _; (with_reducible repeat (first | refine Zag ?_ _ | refine Zah ?_ | refine Zae ?_ _)); refine Zbv ?_ NB623_664.out _; (with_reducible repeat (first | refine Zag ?_ _ | refine Zah ?_ | refine Zae ?_ _)); refine Zbv ?_ NB623_664.out _; (with_reducible repeat (first | refine Zag ?_ _ | refine Zah ?_ | refine Zae ?_ _)); exact BK623.out) hb); have n11_ := Zaa.mk (Zbb (g := gb641) (o := .cells #[.int .i64 t627, .slice Ao11 t628.length co11, .slice Ao12 t631.length co12, .int .i64 t634, .int .i64 t635, .slice Ao13 t636.length co13, .int .i64 t639] 25 (0, 0)) (by (with_reducible repeat (first | refine Zag ?_ _ | refine Zah ?_ | refine Zae ?_ _)); refine Zbv ?_ NB641_664.out _; (with_reducible repeat (first | refine Zag ?_ _ | refine Zah ?_ | refine Zae ?_ _)); refine Zbv ?_ NB641_664.out _; (with_reducible repeat (first | refine Zag ?_ _ | refine Zah ?_ | refine Zae ?_ _)); refine Zbv ?_ NB641_664.out _; (with_reducible repeat (first | refine Zag ?_ _ | refine Zah ?_ | refine Zae ?_ _)); refine Zbv ?_ NB641_664.out _; (with_reducible repeat (first | refine Zag ?_ _ | refine Zah ?_ | refine Zae ?_ _)); refine Zbv ?_ NB641_664.out _; (with_reducible repeat (first | refine Zag ?_ _ | refine Zah ?_ | refine Zae ?_ _)); refine Zbv ?_ NB641_664.out _; (with_reducible repeat (first | refine Zag ?_ _ | refine Zah ?_ | refine Zae ?_ _)); refine Zbv ?_ NB641_664.out _; (with_reducible repeat (first | refine Zag ?_ _ | refine Zah ?_ | refine Zae ?_ _)); refine Zbv ?_ NB641_664.out _; (with_reducible repeat (first | refine Zag ?_ _ | refine Zah ?_ | refine Zae ?_ _)); exact BK641.out) hb); have n12_ := Zaa.mk (Zbb (g := gb664) (o := .cells #[.int .i64 t651, .slice Ao35 t652.length co35, .slice Ao36 t655.length co36, .int .i64 t658, .int .i64 t659, .slice Ao25 t643.length co25, .int .i64 t663] 25 (0, 0)) (by (with_reducible repeat (first | refine Zag ?_ _ | refine Zah ?_ | refine Zae ?_ _)); refine Zbu (cs := #[.int .i64 t651, .slice Ao35 t652.length co35, .slice Ao36 t655.length co36, .int .i64 t658, .int .i64 t659, .slice Ao37 t660.length co37, .int .i64 t663]) ?_ 5 _ rfl; (with_reducible repeat (first | refine Zag ?_ _ | refine Zah ?_ | refine Zae ?_ _)); refine Zbu (cs := #[.int .i64 t651, .slice Ao35 t652.length co35, .slice Ao36 t655.length co36, .int .i64 t658, .int .i64 t659, .slice Ao37 t660.length co37, .int .i64 0]) ?_ 6 _ rfl; (with_reducible repeat (first | refine Zag ?_ _ | refine Zah ?_ | refine Zae ?_ _)); refine Zbu (cs := #[.int .i64 t651, .slice Ao35 t652.length co35, .slice Ao36 t655.length co36, .int .i64 t658, .int .i64 t659, .slice none 0 0, .int .i64 0]) ?_ 5 _ rfl; (with_reducible repeat (first | refine Zag ?_ _ | refine Zah ?_ | refine Zae ?_ _)); refine Zbu (cs := #[.int .i64 t651, .slice Ao35 t652.length co35, .slice Ao36 t655.length co36, .int .i64 t658, .int .i64 0, .slice none 0 0, .int .i64 0]) ?_ 4 _ rfl; (with_reducible repeat (first | refine Zag ?_ _ | refine Zah ?_ | refine Zae ?_ _)); refine Zbu (cs := #[.int .i64 t651, .slice Ao35 t652.length co35, .slice Ao36 t655.length co36, .int .i64 0, .int .i64 0, .slice none 0 0, .int .i64 0]) ?_ 3 _ rfl; (with_reducible repeat (first | refine Zag ?_ _ | refine Zah ?_ | refine Zae ?_ _)); refine Zbu (cs := #[.int .i64 t651, .slice Ao35 t652.length co35, .slice none 0 0, .int .i64 0, .int .i64 0, .slice none 0 0, .int .i64 0]) ?_ 2 _ rfl; (with_reducible repeat (first | refine Zag ?_ _ | refine Zah ?_ | refine Zae ?_ _)); refine Zbu (cs := #[.int .i64 t651, .slice none 0 0, .slice none 0 0, .int .i64 0, .int .i64 0, .slice none 0 0, .int .i64 0]) ?_ 1 _ rfl; (with_reducible repeat (first | refine Zag ?_ _ | refine Zah ?_ | refine Zae ?_ _)); refine Zbu (cs := #[.int .i64 0, .slice none 0 0, .slice none 0 0, .int .i64 0, .int .i64 0, .slice none 0 0, .int .i64 0]) ?_ 0 _ rfl; (with_reducible repeat (first | refine Zag ?_ _ | refine Zah ?_ | refine Zae ?_ _)); exact BK664.out) hb); have n13_ := Zaa.mk (Zay (by repeat (first | (with_reducible first | exact HB.out | apply Zac | apply Za | apply Zab | refine Zaf ?_ GE623.out | refine Zaf ?_ GE641.out | refine Zaf ?_ GE664.out) | exact HB.out)) hb); clear HO_3; clear HO_6; clear HO_642001; clear HO_642002; clear HO_642005; clear HO649; clear HO654; clear HO657; clear HO662; clear BK623; clear BK641; clear BK664; clear HB; have HO_3 := n0_; have HO_6 := n1_; have HO_642001 := n2_; have HO_642002 := n3_; have HO_642005 := n4_; have HO649 := n5_; have HO654 := n6_; have HO657 := n7_; have HO662 := n8_; have HO667 := n9_; have BK623 := n10_; have BK641 := n11_; have BK664 := n12_; have HB := n13_; clear n0_ n1_ n2_ n3_ n4_ n5_ n6_ n7_ n8_ n9_ n10_ n11_ n12_ n13_; (try clear hb); (try clear hb2); (try clear hk); (try clear hi); (try clear ho0)))
   (try simp only [Act.put, List.setIfInBounds_toArray, List.set_cons_zero, List.set_cons_succ])
   go_cut [67] (fun v67 wc => ∃ (kq : Nat) (x67_23 : Bool), v67 = .bool x67_23 ∧ Zaa (Zad.j1 kq t624 t643 t650 x67_23 t627 t628 t631 t634 t635 t636 t639 t651 t652 t655 t658 t659 t643 t663 = some r) ∧ Zaa (kq ≤ k1) ∧ Zaa (Kd.S (Kd.slice 41 k41) 39 wc w.heap.size (fun _ => True) (.slice Ao14 t624.length co14) t624) ∧ Zaa (Kd.S (Kd.slice 3 (Kd.int .i64)) 23 wc w.heap.size (fun k_ => some k_ ≠ ((.slice Ao11 t628.length co11) : Value).ownBlock ∧ some k_ ≠ ((.slice Ao12 t631.length co12) : Value).ownBlock ∧ some k_ ≠ ((.slice Ao13 t636.length co13) : Value).ownBlock ∧ some k_ ≠ ((.slice Ao35 t652.length co35) : Value).ownBlock ∧ some k_ ≠ ((.slice Ao36 t655.length co36) : Value).ownBlock) (.slice Ao25 t643.length co25) t643) ∧ Zaa (Kd.R (Kd.int .i64) 3 wc w.heap.size (fun k_ => some k_ ≠ ((.slice Ao12 t631.length co12) : Value).ownBlock ∧ some k_ ≠ ((.slice Ao35 t652.length co35) : Value).ownBlock ∧ some k_ ≠ ((.slice Ao36 t655.length co36) : Value).ownBlock) (.slice Ao11 t628.length co11) t628) ∧ Zaa (Kd.R (Kd.int .i64) 3 wc w.heap.size (fun k_ => some k_ ≠ ((.slice Ao11 t628.length co11) : Value).ownBlock ∧ some k_ ≠ ((.slice Ao35 t652.length co35) : Value).ownBlock ∧ some k_ ≠ ((.slice Ao36 t655.length co36) : Value).ownBlock) (.slice Ao12 t631.length co12) t631) ∧ Zaa (Kd.S (Kd.slice 3 (Kd.int .i64)) 23 wc w.heap.size (fun k_ => some k_ ≠ ((.slice Ao25 t643.length co25) : Value).ownBlock ∧ some k_ ≠ ((.slice Ao11 t628.length co11) : Value).ownBlock ∧ some k_ ≠ ((.slice Ao12 t631.length co12) : Value).ownBlock ∧ some k_ ≠ ((.slice Ao35 t652.length co35) : Value).ownBlock ∧ some k_ ≠ ((.slice Ao36 t655.length co36) : Value).ownBlock ∧ some k_ ≠ ((.slice Ao25 t643.length co25) : Value).ownBlock) (.slice Ao13 t636.length co13) t636) ∧ Zaa (Kd.R (Kd.int .i64) 3 wc w.heap.size (fun k_ => some k_ ≠ ((.slice Ao11 t628.length co11) : Value).ownBlock ∧ some k_ ≠ ((.slice Ao12 t631.length co12) : Value).ownBlock ∧ some k_ ≠ ((.slice Ao36 t655.length co36) : Value).ownBlock) (.slice Ao35 t652.length co35) t652) ∧ Zaa (Kd.R (Kd.int .i64) 3 wc w.heap.size (fun k_ => some k_ ≠ ((.slice Ao11 t628.length co11) : Value).ownBlock ∧ some k_ ≠ ((.slice Ao12 t631.length co12) : Value).ownBlock ∧ some k_ ≠ ((.slice Ao35 t652.length co35) : Value).ownBlock) (.slice Ao36 t655.length co36) t655) ∧ Zaa (Kd.S (Kd.slice 3 (Kd.int .i64)) 23 wc w.heap.size (fun k_ => some k_ ≠ ((.slice Ao11 t628.length co11) : Value).ownBlock ∧ some k_ ≠ ((.slice Ao12 t631.length co12) : Value).ownBlock ∧ some k_ ≠ ((.slice Ao13 t636.length co13) : Value).ownBlock ∧ some k_ ≠ ((.slice Ao35 t652.length co35) : Value).ownBlock ∧ some k_ ≠ ((.slice Ao36 t655.length co36) : Value).ownBlock) (.slice Ao25 t643.length co25) t643) ∧ Zaa (wc.heap[gb623]? = some (.cells #[(.slice A0_0 l0_0.length c0_0), .int .i64 a0_1, (.slice A0_2 l0_2.length c0_2), (.slice A0_3 l0_3.length c0_3), .int .i64 a0_4, .int .i64 a0_5, (.slice A0_6 l0_6.length c0_6), .int .i64 a0_7, (.slice A0_8 l0_8.length c0_8), (.slice A0_9 l0_9.length c0_9)] 27 (0, 0))) ∧ Zaa (wc.heap[gb641]? = some (.cells #[.int .i64 t627, (.slice Ao11 t628.length co11), (.slice Ao12 t631.length co12), .int .i64 t634, .int .i64 t635, (.slice Ao13 t636.length co13), .int .i64 t639] 25 (0, 0))) ∧ Zaa (wc.heap[gb664]? = some (.cells #[.int .i64 t651, (.slice Ao35 t652.length co35), (.slice Ao36 t655.length co36), .int .i64 t658, .int .i64 t659, (.slice Ao25 t643.length co25), .int .i64 t663] 25 (0, 0))) ∧ Zaa (Below w.heap.size w wc))
   case first =>
    have H := HC24.out
    clear HC24
    by_cases c39 : (t650 != t668) = true
    ·rw [if_pos c39] at H
     have c39b0 : (t650 != t668) = true := c39
     (try (have c39b1 : decide (t650 = t668) = false := by simpa using c39))
     (try (have c39b2 : (t650 == t668) = false := by simpa using c39))
     (try (have c39b3 : ¬ (t650 = t668) := by simpa using c39))
     clear c39
     (first | rw [c39b0] | (simp only [Zbq, Zbr]; rw [c39b0]) | skip)
     have H' := Zaa.mk H
     clear H
     go_wp2
     go_meet
     case rel => exact ⟨_, (true), (by first | rfl | (simp; done) | (simp [*]; done)), H', ⟨by have := HK1.out; first | omega | exact Nat.le_refl _⟩, ⟨by (with_reducible repeat (first | apply Kd.S_alloc | apply Kd.Zbe | apply Kd.Zbk)); exact Kd.Zb4 HO_3.out (fun _ hk => trivial)⟩, ⟨by (with_reducible repeat (first | apply Kd.S_alloc | apply Kd.Zbe | apply Kd.Zbk)); exact Kd.Zb4 HO_6.out (fun _ hk => ⟨hk.1.1.1.1, ⟨hk.1.1.1.2.1, ⟨hk.1.1.1.2.2, ⟨hk.1.1.2, hk.1.2⟩⟩⟩⟩)⟩, ⟨by (with_reducible repeat (first | apply Kd.R_alloc | apply Kd.Zap | apply Kd.Zav)); exact Kd.Zbs HO_642001.out (fun _ hk => ⟨hk.1.1, ⟨hk.1.2, hk.2⟩⟩)⟩, ⟨by (with_reducible repeat (first | apply Kd.R_alloc | apply Kd.Zap | apply Kd.Zav)); exact Kd.Zbs HO_642002.out (fun _ hk => ⟨hk.1.1, ⟨hk.1.2, hk.2⟩⟩)⟩, ⟨by (with_reducible repeat (first | apply Kd.S_alloc | apply Kd.Zbe | apply Kd.Zbk)); exact Kd.Zb4 HO_642005.out (fun _ hk => ⟨hk.1.1.1.1, ⟨hk.1.1.1.2.1, ⟨hk.1.1.1.2.2, ⟨hk.1.1.2, ⟨hk.1.2, hk.1.1.1.1⟩⟩⟩⟩⟩)⟩, ⟨by (with_reducible repeat (first | apply Kd.R_alloc | apply Kd.Zap | apply Kd.Zav)); exact Kd.Zbs HO654.out (fun _ hk => ⟨hk.1.2, ⟨hk.2, hk.1.1⟩⟩)⟩, ⟨by (with_reducible repeat (first | apply Kd.R_alloc | apply Kd.Zap | apply Kd.Zav)); exact Kd.Zbs HO657.out (fun _ hk => ⟨hk.1.2, ⟨hk.2, hk.1.1⟩⟩)⟩, ⟨by (with_reducible repeat (first | apply Kd.S_alloc | apply Kd.Zbe | apply Kd.Zbk)); exact Kd.Zb4 HO_6.out (fun _ hk => ⟨hk.1.1.1.1, ⟨hk.1.1.1.2.1, ⟨hk.1.1.1.2.2, ⟨hk.1.1.2, hk.1.2⟩⟩⟩⟩)⟩, ⟨by (with_reducible repeat (first | refine Zag ?_ _ | refine Zah ?_ | refine Zae ?_ _)); exact BK623.out⟩, ⟨by (with_reducible repeat (first | refine Zag ?_ _ | refine Zah ?_ | refine Zae ?_ _)); exact BK641.out⟩, ⟨by (with_reducible repeat (first | refine Zag ?_ _ | refine Zah ?_ | refine Zae ?_ _)); exact BK664.out⟩, ⟨by repeat (first | (with_reducible first | exact HB.out | apply Zac | apply Za | apply Zab | refine Zaf ?_ GE623.out | refine Zaf ?_ GE641.out | refine Zaf ?_ GE664.out) | exact HB.out)⟩⟩
    rw [if_neg c39] at H
    have c39b0 : (t650 != t668) = false := by simpa using c39
    (try (have c39b1 : decide (t650 = t668) = true := by simpa using c39))
    (try (have c39b2 : (t650 == t668) = true := by simpa using c39))
    clear c39
    (first | rw [c39b0] | (simp only [Zbq, Zbr]; rw [c39b0]) | skip)
    replace H := Option.bind_eq_some_iff.mp H
    obtain ⟨t669, A400, H⟩ := H
    replace H : (Zad.j1 k1 t624 t643 t650 (!t669) t627 t628 t631 t634 t635 t636 t639 t651 t652 t655 t658 t659 t643 t663) = some r := H
    have A40 := Zaa.mk A400
    clear A400
    have H' := Zaa.mk H
    clear H
    obtain ⟨Ao41, co41, eo41⟩ := Kd.Zc6 HO649.out
    subst eo41
    obtain ⟨Ao42, co42, eo42⟩ := Kd.Zc6 HO667.out
    subst eo42
    go_wp2_with (first | (go_at_call 21; (with_reducible refine (Zaw.calls k1 _ _ t647 _ _ t665 t669 _ ?side1 ?side2 ?side3 ?side4 A40.out).mono ?_); (case side1 => repeat (first | exact (Kd.Zb5 HO649.out).2.2 | (with_reducible refine Kd.C_alloc ?_ _) | (with_reducible refine Kd.Za0 ?_ _) | (with_reducible refine Kd.C_drew ?_))); (case side2 => exact (Kd.Zb5 HO649.out).2.1); (case side3 => repeat (first | exact (Kd.Zb5 HO667.out).2.2 | (with_reducible refine Kd.C_alloc ?_ _) | (with_reducible refine Kd.Za0 ?_ _) | (with_reducible refine Kd.C_drew ?_))); (case side4 => exact (Kd.Zb5 HO667.out).2.1); rintro e w' ⟨rfl, ⟨nd, rfl⟩⟩))
    go_meet
    case rel => exact ⟨_, (!t669), (by first | rfl | (simp; done) | (simp [*]; done)), H', ⟨by have := HK1.out; first | omega | exact Nat.le_refl _⟩, ⟨by (with_reducible repeat (first | apply Kd.S_alloc | apply Kd.Zbe | apply Kd.Zbk)); exact Kd.Zb4 HO_3.out (fun _ hk => trivial)⟩, ⟨by (with_reducible repeat (first | apply Kd.S_alloc | apply Kd.Zbe | apply Kd.Zbk)); exact Kd.Zb4 HO_6.out (fun _ hk => ⟨hk.1.1.1.1, ⟨hk.1.1.1.2.1, ⟨hk.1.1.1.2.2, ⟨hk.1.1.2, hk.1.2⟩⟩⟩⟩)⟩, ⟨by (with_reducible repeat (first | apply Kd.R_alloc | apply Kd.Zap | apply Kd.Zav)); exact Kd.Zbs HO_642001.out (fun _ hk => ⟨hk.1.1, ⟨hk.1.2, hk.2⟩⟩)⟩, ⟨by (with_reducible repeat (first | apply Kd.R_alloc | apply Kd.Zap | apply Kd.Zav)); exact Kd.Zbs HO_642002.out (fun _ hk => ⟨hk.1.1, ⟨hk.1.2, hk.2⟩⟩)⟩, ⟨by (with_reducible repeat (first | apply Kd.S_alloc | apply Kd.Zbe | apply Kd.Zbk)); exact Kd.Zb4 HO_642005.out (fun _ hk => ⟨hk.1.1.1.1, ⟨hk.1.1.1.2.1, ⟨hk.1.1.1.2.2, ⟨hk.1.1.2, ⟨hk.1.2, hk.1.1.1.1⟩⟩⟩⟩⟩)⟩, ⟨by (with_reducible repeat (first | apply Kd.R_alloc | apply Kd.Zap | apply Kd.Zav)); exact Kd.Zbs HO654.out (fun _ hk => ⟨hk.1.2, ⟨hk.2, hk.1.1⟩⟩)⟩, ⟨by (with_reducible repeat (first | apply Kd.R_alloc | apply Kd.Zap | apply Kd.Zav)); exact Kd.Zbs HO657.out (fun _ hk => ⟨hk.1.2, ⟨hk.2, hk.1.1⟩⟩)⟩, ⟨by (with_reducible repeat (first | apply Kd.S_alloc | apply Kd.Zbe | apply Kd.Zbk)); exact Kd.Zb4 HO_6.out (fun _ hk => ⟨hk.1.1.1.1, ⟨hk.1.1.1.2.1, ⟨hk.1.1.1.2.2, ⟨hk.1.1.2, hk.1.2⟩⟩⟩⟩)⟩, ⟨by (with_reducible repeat (first | refine Zag ?_ _ | refine Zah ?_ | refine Zae ?_ _)); exact BK623.out⟩, ⟨by (with_reducible repeat (first | refine Zag ?_ _ | refine Zah ?_ | refine Zae ?_ _)); exact BK641.out⟩, ⟨by (with_reducible repeat (first | refine Zag ?_ _ | refine Zah ?_ | refine Zae ?_ _)); exact BK664.out⟩, ⟨by repeat (first | (with_reducible first | exact HB.out | apply Zac | apply Za | apply Zab | refine Zaf ?_ GE623.out | refine Zaf ?_ GE641.out | refine Zaf ?_ GE664.out) | exact HB.out)⟩⟩
   case rest =>
    clear HC24
    try clear c1
    try clear c2
    try clear p2
    try clear c3
    try clear c6
    try clear p6
    try clear q6
    try clear hx6
    try clear c9
    try clear c14
    try clear c16
    try clear c16b0
    try clear c17
    try clear c17b0
    try clear c18
    try clear c18b0
    try clear c18b1
    try clear c18b2
    try clear c20
    try clear c26
    try clear c32
    try clear c33
    try clear c39
    try clear c39b0
    try clear c39b1
    try clear c39b2
    try clear hcz10_0
    try clear hcz10_1
    try clear hcz10_2
    try clear hcz10_3
    try clear hcz10_4
    try clear hcz10_5
    try clear hcz10_6
    try clear hcz27_0
    try clear hcz27_1
    try clear hcz27_2
    try clear hcz27_3
    try clear hcz27_4
    try clear hcz27_5
    try clear hcz27_6
    try clear hcz29_0
    try clear hcz29_1
    try clear hcz29_2
    try clear hcz29_3
    try clear hcz29_4
    try clear hcz29_5
    try clear hcz29_6
    try clear hcz34_0
    try clear hcz34_1
    try clear hcz34_2
    try clear hcz34_3
    try clear hcz34_4
    try clear hcz34_5
    try clear hcz34_6
    try clear hcz6_0
    try clear hcz6_1
    try clear hcz6_2
    try clear hcz6_3
    try clear hcz6_4
    try clear hcz6_5
    try clear hcz6_6
    try clear hcz6_7
    try clear hcz6_8
    try clear hcz6_9
    try clear hfz10_0
    try clear hfz10_1
    try clear hfz10_2
    try clear hfz10_3
    try clear hfz10_4
    try clear hfz10_5
    try clear hfz10_6
    try clear hfz27_0
    try clear hfz27_1
    try clear hfz27_2
    try clear hfz27_3
    try clear hfz27_4
    try clear hfz27_5
    try clear hfz27_6
    try clear hfz29_0
    try clear hfz29_1
    try clear hfz29_2
    try clear hfz29_3
    try clear hfz29_4
    try clear hfz29_5
    try clear hfz29_6
    try clear hfz34_0
    try clear hfz34_1
    try clear hfz34_2
    try clear hfz34_3
    try clear hfz34_4
    try clear hfz34_5
    try clear hfz34_6
    try clear hfz6_0
    try clear hfz6_1
    try clear hfz6_2
    try clear hfz6_3
    try clear hfz6_4
    try clear hfz6_5
    try clear hfz6_6
    try clear hfz6_7
    try clear hfz6_8
    try clear hfz6_9
    try clear hx646_0
    try clear p2
    try clear p646
    try clear q646
    obtain ⟨kq, x67_23, rfl, HA, HJ23, HO_3, HO_6, HO_642001, HO_642002, HO_642005, HO_665001, HO_665002, HO_665005, BK623, BK641, BK664, HB⟩ := hcut
    cases kq with
    | zero => exact absurd HA.out (by simp [Zad.j1])
    | succ kj23 =>
     have H := HA.out
     clear HA
     simp only [Zad.j1] at H
     by_cases c43 : x67_23 = true
     ·subst c43
      have H1 : (none) = some r := by rw [if_pos rfl] at H; exact H
      clear H
      have H := H1
      clear H1
      exact absurd H (by simp)
     replace c43 := Bool.eq_false_iff.mpr c43
     subst c43
     have H1 : (if (t643.length : Int) = 0 then (Zad.j2 kj23 t624 t643 t650 true t627 t628 t631 t634 t635 t636 t639 t651 t652 t655 t658 t659 t643 t663) else (Zad.j2 kj23 t624 t643 t650 (!t650) t627 t628 t631 t634 t635 t636 t639 t651 t652 t655 t658 t659 t643 t663)) = some r := by rw [if_neg (show ¬ (false = true) by decide)] at H; exact H
     clear H
     have H := H1
     clear H1
     have HC44 := Zaa.mk H
     clear H
     go_upto_region 16 with (fail)
     go_cut [74] (fun v74 wc => ∃ (kq : Nat) (x74_43 : Bool), v74 = .bool x74_43 ∧ Zaa (Zad.j2 kq t624 t643 t650 x74_43 t627 t628 t631 t634 t635 t636 t639 t651 t652 t655 t658 t659 t643 t663 = some r) ∧ Zaa (kq ≤ kj23) ∧ Zaa (Kd.S (Kd.slice 41 k41) 39 wc w.heap.size (fun _ => True) (.slice Ao14 t624.length co14) t624) ∧ Zaa (Kd.S (Kd.slice 3 (Kd.int .i64)) 23 wc w.heap.size (fun k_ => some k_ ≠ ((.slice Ao11 t628.length co11) : Value).ownBlock ∧ some k_ ≠ ((.slice Ao12 t631.length co12) : Value).ownBlock ∧ some k_ ≠ ((.slice Ao13 t636.length co13) : Value).ownBlock ∧ some k_ ≠ ((.slice Ao35 t652.length co35) : Value).ownBlock ∧ some k_ ≠ ((.slice Ao36 t655.length co36) : Value).ownBlock) (.slice Ao25 t643.length co25) t643) ∧ Zaa (Kd.R (Kd.int .i64) 3 wc w.heap.size (fun k_ => some k_ ≠ ((.slice Ao12 t631.length co12) : Value).ownBlock ∧ some k_ ≠ ((.slice Ao35 t652.length co35) : Value).ownBlock ∧ some k_ ≠ ((.slice Ao36 t655.length co36) : Value).ownBlock) (.slice Ao11 t628.length co11) t628) ∧ Zaa (Kd.R (Kd.int .i64) 3 wc w.heap.size (fun k_ => some k_ ≠ ((.slice Ao11 t628.length co11) : Value).ownBlock ∧ some k_ ≠ ((.slice Ao35 t652.length co35) : Value).ownBlock ∧ some k_ ≠ ((.slice Ao36 t655.length co36) : Value).ownBlock) (.slice Ao12 t631.length co12) t631) ∧ Zaa (Kd.S (Kd.slice 3 (Kd.int .i64)) 23 wc w.heap.size (fun k_ => some k_ ≠ ((.slice Ao25 t643.length co25) : Value).ownBlock ∧ some k_ ≠ ((.slice Ao11 t628.length co11) : Value).ownBlock ∧ some k_ ≠ ((.slice Ao12 t631.length co12) : Value).ownBlock ∧ some k_ ≠ ((.slice Ao35 t652.length co35) : Value).ownBlock ∧ some k_ ≠ ((.slice Ao36 t655.length co36) : Value).ownBlock ∧ some k_ ≠ ((.slice Ao25 t643.length co25) : Value).ownBlock) (.slice Ao13 t636.length co13) t636) ∧ Zaa (Kd.R (Kd.int .i64) 3 wc w.heap.size (fun k_ => some k_ ≠ ((.slice Ao11 t628.length co11) : Value).ownBlock ∧ some k_ ≠ ((.slice Ao12 t631.length co12) : Value).ownBlock ∧ some k_ ≠ ((.slice Ao36 t655.length co36) : Value).ownBlock) (.slice Ao35 t652.length co35) t652) ∧ Zaa (Kd.R (Kd.int .i64) 3 wc w.heap.size (fun k_ => some k_ ≠ ((.slice Ao11 t628.length co11) : Value).ownBlock ∧ some k_ ≠ ((.slice Ao12 t631.length co12) : Value).ownBlock ∧ some k_ ≠ ((.slice Ao35 t652.length co35) : Value).ownBlock) (.slice Ao36 t655.length co36) t655) ∧ Zaa (Kd.S (Kd.slice 3 (Kd.int .i64)) 23 wc w.heap.size (fun k_ => some k_ ≠ ((.slice Ao11 t628.length co11) : Value).ownBlock ∧ some k_ ≠ ((.slice Ao12 t631.length co12) : Value).ownBlock ∧ some k_ ≠ ((.slice Ao13 t636.length co13) : Value).ownBlock ∧ some k_ ≠ ((.slice Ao35 t652.length co35) : Value).ownBlock ∧ some k_ ≠ ((.slice Ao36 t655.length co36) : Value).ownBlock) (.slice Ao25 t643.length co25) t643) ∧ Zaa (wc.heap[gb623]? = some (.cells #[(.slice A0_0 l0_0.length c0_0), .int .i64 a0_1, (.slice A0_2 l0_2.length c0_2), (.slice A0_3 l0_3.length c0_3), .int .i64 a0_4, .int .i64 a0_5, (.slice A0_6 l0_6.length c0_6), .int .i64 a0_7, (.slice A0_8 l0_8.length c0_8), (.slice A0_9 l0_9.length c0_9)] 27 (0, 0))) ∧ Zaa (wc.heap[gb641]? = some (.cells #[.int .i64 t627, (.slice Ao11 t628.length co11), (.slice Ao12 t631.length co12), .int .i64 t634, .int .i64 t635, (.slice Ao13 t636.length co13), .int .i64 t639] 25 (0, 0))) ∧ Zaa (wc.heap[gb664]? = some (.cells #[.int .i64 t651, (.slice Ao35 t652.length co35), (.slice Ao36 t655.length co36), .int .i64 t658, .int .i64 t659, (.slice Ao25 t643.length co25), .int .i64 t663] 25 (0, 0))) ∧ Zaa (Below w.heap.size w wc))
     case first =>
      have H := HC44.out
      clear HC44
      by_cases c45 : (t643.length : Int) = 0
      ·rw [if_pos c45] at H
       have c45b0 : ((t643.length : Int) == 0) = true := beq_iff_eq.mpr c45
       have c45b1 : ((t643.length : Int) != 0) = false := bne_eq_false_iff_eq.mpr c45
       clear c45
       (first | rw [c45b0] | (simp only [Zbq, Zbr]; rw [c45b0]) | skip)
       have H' := Zaa.mk H
       clear H
       go_wp2
       go_meet
       case rel => exact ⟨_, (true), (by first | rfl | (simp; done) | (simp [*]; done)), H', ⟨by have := HK1.out; have := HJ23.out; first | omega | exact Nat.le_refl _⟩, ⟨by (with_reducible repeat (first | apply Kd.S_alloc | apply Kd.Zbe | apply Kd.Zbk)); exact HO_3.out⟩, ⟨by (with_reducible repeat (first | apply Kd.S_alloc | apply Kd.Zbe | apply Kd.Zbk)); exact HO_6.out⟩, ⟨by (with_reducible repeat (first | apply Kd.R_alloc | apply Kd.Zap | apply Kd.Zav)); exact HO_642001.out⟩, ⟨by (with_reducible repeat (first | apply Kd.R_alloc | apply Kd.Zap | apply Kd.Zav)); exact HO_642002.out⟩, ⟨by (with_reducible repeat (first | apply Kd.S_alloc | apply Kd.Zbe | apply Kd.Zbk)); exact HO_642005.out⟩, ⟨by (with_reducible repeat (first | apply Kd.R_alloc | apply Kd.Zap | apply Kd.Zav)); exact HO_665001.out⟩, ⟨by (with_reducible repeat (first | apply Kd.R_alloc | apply Kd.Zap | apply Kd.Zav)); exact HO_665002.out⟩, ⟨by (with_reducible repeat (first | apply Kd.S_alloc | apply Kd.Zbe | apply Kd.Zbk)); exact HO_665005.out⟩, ⟨by (with_reducible repeat (first | refine Zag ?_ _ | refine Zah ?_ | refine Zae ?_ _)); exact BK623.out⟩, ⟨by (with_reducible repeat (first | refine Zag ?_ _ | refine Zah ?_ | refine Zae ?_ _)); exact BK641.out⟩, ⟨by (with_reducible repeat (first | refine Zag ?_ _ | refine Zah ?_ | refine Zae ?_ _)); exact BK664.out⟩, ⟨by repeat (first | (with_reducible first | exact HB.out | apply Zac | apply Za | apply Zab | refine Zaf ?_ GE623.out | refine Zaf ?_ GE641.out | refine Zaf ?_ GE664.out) | exact HB.out)⟩⟩
      rw [if_neg c45] at H
      have c45b0 : ((t643.length : Int) == 0) = false := beq_eq_false_iff_ne.mpr c45
      have c45b1 : ((t643.length : Int) != 0) = true := bne_iff_ne.mpr c45
      have c45b2 : ¬ (t643 = []) := fun h_ => c45 (by rw [h_]; rfl)
      (first | rw [c45b0] | (simp only [Zbq, Zbr]; rw [c45b0]) | skip)
      have H' := Zaa.mk H
      clear H
      go_wp2
      go_meet
      case rel => exact ⟨_, (!t650), (by first | rfl | (simp; done) | (simp [*]; done)), H', ⟨by have := HK1.out; have := HJ23.out; first | omega | exact Nat.le_refl _⟩, ⟨by (with_reducible repeat (first | apply Kd.S_alloc | apply Kd.Zbe | apply Kd.Zbk)); exact HO_3.out⟩, ⟨by (with_reducible repeat (first | apply Kd.S_alloc | apply Kd.Zbe | apply Kd.Zbk)); exact HO_6.out⟩, ⟨by (with_reducible repeat (first | apply Kd.R_alloc | apply Kd.Zap | apply Kd.Zav)); exact HO_642001.out⟩, ⟨by (with_reducible repeat (first | apply Kd.R_alloc | apply Kd.Zap | apply Kd.Zav)); exact HO_642002.out⟩, ⟨by (with_reducible repeat (first | apply Kd.S_alloc | apply Kd.Zbe | apply Kd.Zbk)); exact HO_642005.out⟩, ⟨by (with_reducible repeat (first | apply Kd.R_alloc | apply Kd.Zap | apply Kd.Zav)); exact HO_665001.out⟩, ⟨by (with_reducible repeat (first | apply Kd.R_alloc | apply Kd.Zap | apply Kd.Zav)); exact HO_665002.out⟩, ⟨by (with_reducible repeat (first | apply Kd.S_alloc | apply Kd.Zbe | apply Kd.Zbk)); exact HO_665005.out⟩, ⟨by (with_reducible repeat (first | refine Zag ?_ _ | refine Zah ?_ | refine Zae ?_ _)); exact BK623.out⟩, ⟨by (with_reducible repeat (first | refine Zag ?_ _ | refine Zah ?_ | refine Zae ?_ _)); exact BK641.out⟩, ⟨by (with_reducible repeat (first | refine Zag ?_ _ | refine Zah ?_ | refine Zae ?_ _)); exact BK664.out⟩, ⟨by repeat (first | (with_reducible first | exact HB.out | apply Zac | apply Za | apply Zab | refine Zaf ?_ GE623.out | refine Zaf ?_ GE641.out | refine Zaf ?_ GE664.out) | exact HB.out)⟩⟩
     case rest =>
      clear HC44
      try clear c1
      try clear c2
      try clear p2
      try clear c3
      try clear c4
      try clear c6
      try clear p6
      try clear q6
      try clear hx6
      try clear c9
      try clear c14
      try clear c16
      try clear c16b0
      try clear c17
      try clear c17b0
      try clear c18
      try clear c18b0
      try clear c18b1
      try clear c18b2
      try clear c20
      try clear c26
      try clear c32
      try clear c33
      try clear c39
      try clear c39b0
      try clear c39b1
      try clear c39b2
      try clear c43
      try clear c45
      try clear c45b0
      try clear c45b1
      try clear c45b2
      try clear hcz10_0
      try clear hcz10_1
      try clear hcz10_2
      try clear hcz10_3
      try clear hcz10_4
      try clear hcz10_5
      try clear hcz10_6
      try clear hcz27_0
      try clear hcz27_1
      try clear hcz27_2
      try clear hcz27_3
      try clear hcz27_4
      try clear hcz27_5
      try clear hcz27_6
      try clear hcz29_0
      try clear hcz29_1
      try clear hcz29_2
      try clear hcz29_3
      try clear hcz29_4
      try clear hcz29_5
      try clear hcz29_6
      try clear hcz34_0
      try clear hcz34_1
      try clear hcz34_2
      try clear hcz34_3
      try clear hcz34_4
      try clear hcz34_5
      try clear hcz34_6
      try clear hcz6_0
      try clear hcz6_1
      try clear hcz6_2
      try clear hcz6_3
      try clear hcz6_4
      try clear hcz6_5
      try clear hcz6_6
      try clear hcz6_7
      try clear hcz6_8
      try clear hcz6_9
      try clear hfz10_0
      try clear hfz10_1
      try clear hfz10_2
      try clear hfz10_3
      try clear hfz10_4
      try clear hfz10_5
      try clear hfz10_6
      try clear hfz27_0
      try clear hfz27_1
      try clear hfz27_2
      try clear hfz27_3
      try clear hfz27_4
      try clear hfz27_5
      try clear hfz27_6
      try clear hfz29_0
      try clear hfz29_1
      try clear hfz29_2
      try clear hfz29_3
      try clear hfz29_4
      try clear hfz29_5
      try clear hfz29_6
      try clear hfz34_0
      try clear hfz34_1
      try clear hfz34_2
      try clear hfz34_3
      try clear hfz34_4
      try clear hfz34_5
      try clear hfz34_6
      try clear hfz6_0
      try clear hfz6_1
      try clear hfz6_2
      try clear hfz6_3
      try clear hfz6_4
      try clear hfz6_5
      try clear hfz6_6
      try clear hfz6_7
      try clear hfz6_8
      try clear hfz6_9
      try clear hx646_0
      try clear p2
      try clear p6
      try clear p646
      try clear q6
      try clear q646
      obtain ⟨kq, x74_43, rfl, HA, HJ43, HO_3, HO_6, HO_642001, HO_642002, HO_642005, HO_665001, HO_665002, HO_665005, BK623, BK641, BK664, HB⟩ := hcut
      cases kq with
      | zero => exact absurd HA.out (by simp [Zad.j2])
      | succ kj43 =>
       have H := HA.out
       clear HA
       simp only [Zad.j2] at H
       by_cases c46 : x74_43 = true
       ·subst c46
        have H1 : (if t650 = true then (none) else ((Zb.f kj43).bind fun t670 => (some t670))) = some r := by rw [if_pos rfl] at H; exact H
        clear H
        have H := H1
        clear H1
        by_cases c47 : t650 = true
        ·subst c47
         have H1 : (none) = some r := by rw [if_pos rfl] at H; exact H
         clear H
         have H := H1
         clear H1
         exact absurd H (by simp)
        replace c47 := Bool.eq_false_iff.mpr c47
        subst c47
        have H1 : ((Zb.f kj43).bind fun t670 => (some t670)) = some r := by rw [if_neg (show ¬ (false = true) by decide)] at H; exact H
        clear H
        have H := H1
        clear H1
        replace H := Option.bind_eq_some_iff.mp H
        obtain ⟨t670, A480, H⟩ := H
        replace H : (some t670) = some r := H
        have A48 := Zaa.mk A480
        clear A480
        obtain rfl := Option.some.inj H
        go_wp2_with (first | (go_at_call 15; (with_reducible refine (Zb.calls kj43  t670 _ A48.out).mono ?_); rintro e w49 ⟨rfl, hb⟩; have n0_ := Zaa.mk (Kd.Zb8 (mvS HO_3.out) hb); have n1_ := Zaa.mk (Kd.Zb8 (mvS HO_6.out) hb); have n2_ := Zaa.mk (Kd.Zb3 (mvR HO_642001.out) hb); have n3_ := Zaa.mk (Kd.Zb3 (mvR HO_642002.out) hb); have n4_ := Zaa.mk (Kd.Zb8 (mvS HO_642005.out) hb); have n5_ := Zaa.mk (Kd.Zb3 (mvR HO_665001.out) hb); have n6_ := Zaa.mk (Kd.Zb3 (mvR HO_665002.out) hb); have n7_ := Zaa.mk (Kd.Zb8 (mvS HO_665005.out) hb); have n8_ := Zaa.mk (Zbb (g := gb623) (o := .cells #[.slice A0_0 l0_0.length c0_0, .int .i64 a0_1, .slice A0_2 l0_2.length c0_2, .slice A0_3 l0_3.length c0_3, .int .i64 a0_4, .int .i64 a0_5, .slice A0_6 l0_6.length c0_6, .int .i64 a0_7, .slice A0_8 l0_8.length c0_8, .slice A0_9 l0_9.length c0_9] 27 (0, 0)) (mvK BK623.out) hb); have n9_ := Zaa.mk (Zbb (g := gb641) (o := .cells #[.int .i64 t627, .slice Ao11 t628.length co11, .slice Ao12 t631.length co12, .int .i64 t634, .int .i64 t635, .slice Ao13 t636.length co13, .int .i64 t639] 25 (0, 0)) (mvK BK641.out) hb); have n10_ := Zaa.mk (Zbb (g := gb664) (o := .cells #[.int .i64 t651, .slice Ao35 t652.length co35, .slice Ao36 t655.length co36, .int .i64 t658, .int .i64 t659, .slice Ao25 t643.length co25, .int .i64 t663] 25 (0, 0)) (mvK BK664.out) hb); have n11_ := Zaa.mk (Zay (mvB HB.out) hb); clear HO_3; clear HO_6; clear HO_642001; clear HO_642002; clear HO_642005; clear HO_665001; clear HO_665002; clear HO_665005; clear BK623; clear BK641; clear BK664; clear HB; have HO_3 := n0_; have HO_6 := n1_; have HO_642001 := n2_; have HO_642002 := n3_; have HO_642005 := n4_; have HO_665001 := n5_; have HO_665002 := n6_; have HO_665005 := n7_; have BK623 := n8_; have BK641 := n9_; have BK664 := n10_; have HB := n11_; clear n0_ n1_ n2_ n3_ n4_ n5_ n6_ n7_ n8_ n9_ n10_ n11_; (try clear hb); (try clear hb2); (try clear hk); (try clear hi)))
        go_ret
        exact ⟨by first | rfl | (simp [Za1, Za2] <;> rfl) | (simp [*, Za1, Za2] <;> rfl), by repeat (first | (with_reducible first | exact HB.out | apply Zac | apply Za | apply Zab | refine Zaf ?_ GE623.out | refine Zaf ?_ GE641.out | refine Zaf ?_ GE664.out) | exact HB.out)⟩
       replace c46 := Bool.eq_false_iff.mpr c46
       subst c46
       have H1 : (if 1 ≤ (t643.length : Int) then ((Zau.f kj43 t624 t651 t652 t655 t658 t659 (t643.take 1) t663).bind fun bt675 => (Zad.l1 kj43 t624 t643 bt675.1 bt675.2 0 t627 t628 t631 t634 t635 t636 t639)) else (none)) = some r := by rw [if_neg (show ¬ (false = true) by decide)] at H; exact H
       clear H
       have H := H1
       clear H1
       by_cases c50 : 1 ≤ (t643.length : Int)
       rotate_left
       ·rw [if_neg c50] at H
        exact absurd H (by simp)
       rw [if_pos c50] at H
       have c50b0 := eq_true c50
       have c50b1 : decide (1 ≤ (t643.length : Int)) = true := decide_eq_true c50
       clear c50
       obtain ⟨y671, hy671⟩ : ∃ y_ : List (List Int), y_ = (t643.take 1) := ⟨_, rfl⟩
       replace H : ((Zau.f kj43 t624 t651 t652 t655 t658 t659 y671 t663).bind fun bt675 => (Zad.l1 kj43 t624 t643 bt675.1 bt675.2 0 t627 t628 t631 t634 t635 t636 t639)) = some r := by first | (rw [hy671]; with_reducible exact H) | (have H2_ := (Option.bind_some _ _).symm.trans H; rw [hy671]; with_reducible exact H2_) | (have H2_ := (Option.bind_some _ _).symm.trans H; with_reducible exact H2_) | with_reducible exact H | (rw [hy671]; exact H) | exact H
       have Ny671 := Zaa.mk hy671
       clear hy671
       replace H := Option.bind_eq_some_iff.mp H
       obtain ⟨⟨t675, t678⟩, A510, H⟩ := H
       replace H : (Zad.l1 kj43 t624 t643 t675 t678 0 t627 t628 t631 t634 t635 t636 t639) = some r := H
       have A51 := Zaa.mk A510
       clear A510
       have H' := Zaa.mk H
       clear H
       have q52 : (1 : Int) ≤ ((t643.length : Int) : Int) := of_decide_eq_true (by first | (with_reducible assumption) | assumption)
       obtain ⟨i052, hi052, _, hsz52, _⟩ := info_parts Zfo
       have hroom52 : t643.length ≤ co25 := (Kd.Zb5 HO_6.out).2.1
       have hC52 : Kd.C (Kd.slice 3 (Kd.int .i64)) _ Ao25 t643.length t643 := (Kd.Zb5 HO_6.out).2.2
       have hcut52 := cut_to (P := Try.prog) 22 23 .i64 Try.underlying22 hi052 Ao25 t643.length co25 1 (by omega) q52 hroom52
       have hr52 := Kd.C_take (m := 1) hC52 (by omega)
       have hy52 : y671.length = (1 : Int).toNat := (by rw [Ny671.out, List.length_take]; omega)
       rw [← Ny671.out] at hr52
       rw [← hy52] at hcut52
       have HR674 := Zaa.mk hr52
       have HC674 := Zaa.mk (show y671.length ≤ co25 from by omega)
       clear hr52 hC52 hroom52 hi052 hsz52
       have KY52 := Zaa.mk hy52
       clear hy52
       have KL52 := Zaa.mk (show 1 ≤ t643.length from by omega)
       replace q52 := eq_true q52
       have hnb53 := NB664_623.out
       have hnc53 := NB623_664.out
       have hnb54 := NB664_641.out
       have hnc54 := NB641_664.out
       obtain ⟨hcz55_0, hcz55_1, hcz55_2, hcz55_3, hcz55_4, hcz55_5, hcz55_6, hfz55_0, hfz55_1, hfz55_2, hfz55_3, hfz55_4, hfz55_5, hfz55_6⟩ := Zch BK664.out
       go_wp2_with (first | ((with_reducible refine Zbn (f := 18) rfl ?_); refine Zcf (some 86) rfl rfl Try.func18 (by kernel_rfl) rfl #[.slice Ao14 t624.length co14, .agg #[.int .i64 t651, .slice Ao35 t652.length co35, .slice Ao36 t655.length co36, .int .i64 t658, .int .i64 t659, .slice Ao25 y671.length co25, .int .i64 t663]] rfl (by (try simp only [List.map_toArray, List.map_cons, List.map_nil]); first | done | rfl | (simp only [List.length_drop, List.length_take]; rfl)) ?_; (with_reducible refine (Zau.calls kj43 _ _ t624 t651 _ _ t652 _ _ t655 t658 t659 _ _ y671 t663 t675 t678 _ ?side1 ?side2 ?side3 ?side4 ?side5 ?side6 ?side7 ?side8 A51.out).mono ?_); (case side1 => refine (Kd.Zb5 (e := 39) (base := w.heap.size) (ok := fun k_ => True) (n := t624.length) (c := co14) ?_).2.2; exact (by (with_reducible repeat (first | apply Kd.S_alloc | apply Kd.Zbe | apply Kd.Zbk)); exact (Kd.Zb4 (Kd.Zbm (p := ⟨gb664, 5, none⟩) (Kd.Zcc HO_3.out BK664.out (by decide)) (fun _ hk => hk.2) (.slice Ao25 y671.length co25)) (fun _ h_ => h_.1)))); (case side2 => exact (Kd.Zb5 HO_3.out).2.1); (case side3 => refine (Kd.Zbi (e := 3) (base := w.heap.size) (ok := fun k_ => (some k_ ≠ (.slice Ao11 t628.length co11 : Value).ownBlock ∧ (some k_ ≠ (.slice Ao12 t631.length co12 : Value).ownBlock ∧ some k_ ≠ (.slice Ao36 t655.length co36 : Value).ownBlock))) (n := t652.length) (c := co35) ?_).2.2; exact (by (with_reducible repeat (first | apply Kd.R_alloc | apply Kd.Zap | apply Kd.Zav)); exact (Kd.Zbs (Kd.Zbo (p := ⟨gb664, 5, none⟩) (Kd.Zca HO_665001.out BK664.out (by decide)) (fun _ hk => hk.2) (.slice Ao25 y671.length co25)) (fun _ h_ => h_.1)))); (case side4 => exact (Kd.Zbi HO_665001.out).2.1); (case side5 => refine (Kd.Zbi (e := 3) (base := w.heap.size) (ok := fun k_ => (some k_ ≠ (.slice Ao11 t628.length co11 : Value).ownBlock ∧ (some k_ ≠ (.slice Ao12 t631.length co12 : Value).ownBlock ∧ some k_ ≠ (.slice Ao35 t652.length co35 : Value).ownBlock))) (n := t655.length) (c := co36) ?_).2.2; exact (by (with_reducible repeat (first | apply Kd.R_alloc | apply Kd.Zap | apply Kd.Zav)); exact (Kd.Zbs (Kd.Zbo (p := ⟨gb664, 5, none⟩) (Kd.Zca HO_665002.out BK664.out (by decide)) (fun _ hk => hk.2) (.slice Ao25 y671.length co25)) (fun _ h_ => h_.1)))); (case side6 => exact (Kd.Zbi HO_665002.out).2.1); (case side7 => repeat (first | exact ((by have q_ := (Kd.Zbm (p := ⟨gb664, 5, none⟩) (Kd.Zcc HO_6.out BK664.out (by decide)) (fun _ hk => hk.2) (.slice Ao25 y671.length co25)); have c_ := Kd.C_take (m := 1) ((Kd.Zb5 q_).2.2) (by first | omega | (have h_ : ((1 : Int)) ≤ (t643.length : Int) := of_decide_eq_true (by assumption); omega)); rw [← Ny671.out] at c_; exact c_)) | (with_reducible refine Kd.C_alloc ?_ _) | (with_reducible refine Kd.Za0 ?_ _) | (with_reducible refine Kd.C_drew ?_))); (case side8 => exact HC674.out); rintro e w56 ⟨v676, rfl, ho0, hb⟩; refine ⟨_, rfl, ?_⟩; have n0_ := Zaa.mk (Kd.Zc5 (by (with_reducible repeat (first | apply Kd.S_alloc | apply Kd.Zbe | apply Kd.Zbk)); exact (Kd.Zb4 (Kd.Zbm (p := ⟨gb664, 5, none⟩) (Kd.Zcc HO_3.out BK664.out (by decide)) (fun _ hk => hk.2) (.slice Ao25 y671.length co25)) (fun _ h_ => h_.1))) (Kd.Zfk ho0) hb); have n1_ := Zaa.mk (Kd.Zb8 (by (with_reducible repeat (first | apply Kd.S_alloc | apply Kd.Zbe | apply Kd.Zbk)); exact (Kd.Zb4 (Kd.Zbm (p := ⟨gb664, 5, none⟩) (Kd.Zcc HO_6.out BK664.out (by decide)) (fun _ hk => hk.2) (.slice Ao25 y671.length co25)) (fun _ h_ => h_.1))) hb); have n2_ := Zaa.mk (Kd.Zb3 (by (with_reducible repeat (first | apply Kd.R_alloc | apply Kd.Zap | apply Kd.Zav)); exact (Kd.Zbs (Kd.Zbo (p := ⟨gb664, 5, none⟩) (Kd.Zca HO_642001.out BK664.out (by decide)) (fun _ hk => hk.2) (.slice Ao25 y671.length co25)) (fun _ h_ => h_.1))) hb); have n3_ := Zaa.mk (Kd.Zb3 (by (with_reducible repeat (first | apply Kd.R_alloc | apply Kd.Zap | apply Kd.Zav)); exact (Kd.Zbs (Kd.Zbo (p := ⟨gb664, 5, none⟩) (Kd.Zca HO_642002.out BK664.out (by decide)) (fun _ hk => hk.2) (.slice Ao25 y671.length co25)) (fun _ h_ => h_.1))) hb); have n4_ := Zaa.mk (Kd.Zb8 (by (with_reducible repeat (first | apply Kd.S_alloc | apply Kd.Zbe | apply Kd.Zbk)); exact (Kd.Zb4 (Kd.Zbm (p := ⟨gb664, 5, none⟩) (Kd.Zcc HO_642005.out BK664.out (by decide)) (fun _ hk => hk.2) (.slice Ao25 y671.length co25)) (fun _ h_ => h_.1))) hb); have n5_ := Zaa.mk (Kd.Zb3 (by (with_reducible repeat (first | apply Kd.R_alloc | apply Kd.Zap | apply Kd.Zav)); exact (Kd.Zbs (Kd.Zbo (p := ⟨gb664, 5, none⟩) (Kd.Zca HO_665001.out BK664.out (by decide)) (fun _ hk => hk.2) (.slice Ao25 y671.length co25)) (fun _ h_ => h_.1))) hb); have n6_ := Zaa.mk (Kd.Zb3 (by (with_reducible repeat (first | apply Kd.R_alloc | apply Kd.Zap | apply Kd.Zav)); exact (Kd.Zbs (Kd.Zbo (p := ⟨gb664, 5, none⟩) (Kd.Zca HO_665002.out BK664.out (by decide)) (fun _ hk => hk.2) (.slice Ao25 y671.length co25)) (fun _ h_ => h_.1))) hb); have n7_ := Zaa.mk (Kd.Zb8 (by (with_reducible repeat (first | apply Kd.S_alloc | apply Kd.Zbe | apply Kd.Zbk)); exact (Kd.Zb4 (Kd.Zbm (p := ⟨gb664, 5, none⟩) (Kd.Zcc HO_665005.out BK664.out (by decide)) (fun _ hk => hk.2) (.slice Ao25 y671.length co25)) (fun _ h_ => h_.1))) hb); have n8_ := Zaa.mk (Kd.Zc2 (Kd.Zdw ho0 (Kd.S_lt (by (with_reducible repeat (first | apply Kd.S_alloc | apply Kd.Zbe | apply Kd.Zbk)); exact (Kd.Zb4 (Kd.Zbm (p := ⟨gb664, 5, none⟩) (Kd.Zcc HO_3.out BK664.out (by decide)) (fun _ hk => hk.2) (.slice Ao25 y671.length co25)) (fun _ h_ => h_.1))))) (Zal (by repeat (first | (with_reducible first | exact HB.out | apply Zac | apply Za | apply Zab | refine Zaf ?_ GE623.out | refine Zaf ?_ GE641.out | refine Zaf ?_ GE664.out) | exact HB.out)))); have n9_ := Zaa.mk (Zbb (g := gb623) (o := .cells #[.slice A0_0 l0_0.length c0_0, .int .i64 a0_1, .slice A0_2 l0_2.length c0_2, .slice A0_3 l0_3.length c0_3, .int .i64 a0_4, .int .i64 a0_5, .slice A0_6 l0_6.length c0_6, .int .i64 a0_7, .slice A0_8 l0_8.length c0_8, .slice A0_9 l0_9.length c0_9] 27 (0, 0)) (by (with_reducible repeat (first | refine Zag ?_ _ | refine Zah ?_ | refine Zae ?_ _)); refine Zbv ?_ NB623_664.out _; (with_reducible repeat (first | refine Zag ?_ _ | refine Zah ?_ | refine Zae ?_ _)); exact BK623.out) hb); have n10_ := Zaa.mk (Zbb (g := gb641) (o := .cells #[.int .i64 t627, .slice Ao11 t628.length co11, .slice Ao12 t631.length co12, .int .i64 t634, .int .i64 t635, .slice Ao13 t636.length co13, .int .i64 t639] 25 (0, 0)) (by (with_reducible repeat (first | refine Zag ?_ _ | refine Zah ?_ | refine Zae ?_ _)); refine Zbv ?_ NB641_664.out _; (with_reducible repeat (first | refine Zag ?_ _ | refine Zah ?_ | refine Zae ?_ _)); exact BK641.out) hb); have n11_ := Zaa.mk (Zbb (g := gb664) (o := .cells #[.int .i64 t651, .slice Ao35 t652.length co35, .slice Ao36 t655.length co36, .int .i64 t658, .int .i64 t659, .slice Ao25 y671.length co25, .int .i64 t663] 25 (0, 0)) (by (with_reducible repeat (first | refine Zag ?_ _ | refine Zah ?_ | refine Zae ?_ _)); refine Zbu (cs := #[.int .i64 t651, .slice Ao35 t652.length co35, .slice Ao36 t655.length co36, .int .i64 t658, .int .i64 t659, .slice Ao25 t643.length co25, .int .i64 t663]) ?_ 5 _ rfl; (with_reducible repeat (first | refine Zag ?_ _ | refine Zah ?_ | refine Zae ?_ _)); exact BK664.out) hb); have n12_ := Zaa.mk (Zay (by repeat (first | (with_reducible first | exact HB.out | apply Zac | apply Za | apply Zab | refine Zaf ?_ GE623.out | refine Zaf ?_ GE641.out | refine Zaf ?_ GE664.out) | exact HB.out)) hb); clear HO_3; clear HO_6; clear HO_642001; clear HO_642002; clear HO_642005; clear HO_665001; clear HO_665002; clear HO_665005; clear BK623; clear BK641; clear BK664; clear HB; have HO_3 := n0_; have HO_6 := n1_; have HO_642001 := n2_; have HO_642002 := n3_; have HO_642005 := n4_; have HO_665001 := n5_; have HO_665002 := n6_; have HO_665005 := n7_; have HO677 := n8_; have BK623 := n9_; have BK641 := n10_; have BK664 := n11_; have HB := n12_; clear n0_ n1_ n2_ n3_ n4_ n5_ n6_ n7_ n8_ n9_ n10_ n11_ n12_; (try clear hb); (try clear hb2); (try clear hk); (try clear hi); (try clear ho0)))
       go_loopg [15] kj43 (fun kq v15 w' => ∃ (x15_4 : Int), v15 = .int .i64 x15_4 ∧ Zaa (Zad.l1 kq t624 t643 t675 t678 x15_4 t627 t628 t631 t634 t635 t636 t639 = some r) ∧ Zaa (kq ≤ kj43) ∧ Zaa (Kd.S (Kd.slice 41 k41) 39 w' w.heap.size (fun k_ => some k_ ≠ (v676 : Value).ownBlock) (.slice Ao14 t624.length co14) t624) ∧ Zaa (Kd.S (Kd.slice 3 (Kd.int .i64)) 23 w' w.heap.size (fun k_ => some k_ ≠ ((.slice Ao11 t628.length co11) : Value).ownBlock ∧ some k_ ≠ ((.slice Ao12 t631.length co12) : Value).ownBlock ∧ some k_ ≠ ((.slice Ao13 t636.length co13) : Value).ownBlock ∧ some k_ ≠ ((.slice Ao35 t652.length co35) : Value).ownBlock ∧ some k_ ≠ ((.slice Ao36 t655.length co36) : Value).ownBlock) (.slice Ao25 t643.length co25) t643) ∧ Zaa (Kd.S (Kd.slice 41 k41) 39 w' w.heap.size (fun k_ => some k_ ≠ ((.slice Ao14 t624.length co14) : Value).ownBlock) v676 t675) ∧ Zaa (Kd.R (Kd.int .i64) 3 w' w.heap.size (fun k_ => some k_ ≠ ((.slice Ao12 t631.length co12) : Value).ownBlock ∧ some k_ ≠ ((.slice Ao35 t652.length co35) : Value).ownBlock ∧ some k_ ≠ ((.slice Ao36 t655.length co36) : Value).ownBlock) (.slice Ao11 t628.length co11) t628) ∧ Zaa (Kd.R (Kd.int .i64) 3 w' w.heap.size (fun k_ => some k_ ≠ ((.slice Ao11 t628.length co11) : Value).ownBlock ∧ some k_ ≠ ((.slice Ao35 t652.length co35) : Value).ownBlock ∧ some k_ ≠ ((.slice Ao36 t655.length co36) : Value).ownBlock) (.slice Ao12 t631.length co12) t631) ∧ Zaa (Kd.S (Kd.slice 3 (Kd.int .i64)) 23 w' w.heap.size (fun k_ => some k_ ≠ ((.slice Ao25 t643.length co25) : Value).ownBlock ∧ some k_ ≠ ((.slice Ao11 t628.length co11) : Value).ownBlock ∧ some k_ ≠ ((.slice Ao12 t631.length co12) : Value).ownBlock ∧ some k_ ≠ ((.slice Ao35 t652.length co35) : Value).ownBlock ∧ some k_ ≠ ((.slice Ao36 t655.length co36) : Value).ownBlock) (.slice Ao13 t636.length co13) t636) ∧ Zaa (Kd.R (Kd.int .i64) 3 w' w.heap.size (fun k_ => some k_ ≠ ((.slice Ao11 t628.length co11) : Value).ownBlock ∧ some k_ ≠ ((.slice Ao12 t631.length co12) : Value).ownBlock ∧ some k_ ≠ ((.slice Ao36 t655.length co36) : Value).ownBlock) (.slice Ao35 t652.length co35) t652) ∧ Zaa (Kd.R (Kd.int .i64) 3 w' w.heap.size (fun k_ => some k_ ≠ ((.slice Ao11 t628.length co11) : Value).ownBlock ∧ some k_ ≠ ((.slice Ao12 t631.length co12) : Value).ownBlock ∧ some k_ ≠ ((.slice Ao35 t652.length co35) : Value).ownBlock) (.slice Ao36 t655.length co36) t655) ∧ Zaa (w'.heap[gb623]? = some (.cells #[(.slice A0_0 l0_0.length c0_0), .int .i64 a0_1, (.slice A0_2 l0_2.length c0_2), (.slice A0_3 l0_3.length c0_3), .int .i64 a0_4, .int .i64 a0_5, (.slice A0_6 l0_6.length c0_6), .int .i64 a0_7, (.slice A0_8 l0_8.length c0_8), (.slice A0_9 l0_9.length c0_9)] 27 (0, 0))) ∧ Zaa (w'.heap[gb641]? = some (.cells #[.int .i64 t627, (.slice Ao11 t628.length co11), (.slice Ao12 t631.length co12), .int .i64 t634, .int .i64 t635, (.slice Ao13 t636.length co13), .int .i64 t639] 25 (0, 0))) ∧ Zaa (w'.heap[gb664]? = some (.cells #[.int .i64 t651, (.slice Ao35 t652.length co35), (.slice Ao36 t655.length co36), .int .i64 t658, .int .i64 t659, (.slice Ao25 y671.length co25), .int .i64 t663] 25 (0, 0))) ∧ Zaa (Below w.heap.size w w'))
       case atStart => exact ⟨(0), (by first | rfl | (simp; done) | (simp [*]; done)), H', ⟨Nat.le_refl _⟩, ⟨by (with_reducible repeat (first | apply Kd.S_alloc | apply Kd.Zbe | apply Kd.Zbk)); exact Kd.Zb4 HO_3.out (fun _ hk => hk.2)⟩, ⟨by (with_reducible repeat (first | apply Kd.S_alloc | apply Kd.Zbe | apply Kd.Zbk)); exact HO_6.out⟩, ⟨by (with_reducible repeat (first | apply Kd.S_alloc | apply Kd.Zbe | apply Kd.Zbk)); exact Kd.Zb4 HO677.out (fun _ hk => hk.2)⟩, ⟨by (with_reducible repeat (first | apply Kd.R_alloc | apply Kd.Zap | apply Kd.Zav)); exact HO_642001.out⟩, ⟨by (with_reducible repeat (first | apply Kd.R_alloc | apply Kd.Zap | apply Kd.Zav)); exact HO_642002.out⟩, ⟨by (with_reducible repeat (first | apply Kd.S_alloc | apply Kd.Zbe | apply Kd.Zbk)); exact Kd.Zb4 HO_642005.out (fun _ hk => ⟨hk.1, ⟨hk.2.1, ⟨hk.2.2.1, ⟨hk.2.2.2.1, hk.2.2.2.2.1⟩⟩⟩⟩)⟩, ⟨by (with_reducible repeat (first | apply Kd.R_alloc | apply Kd.Zap | apply Kd.Zav)); exact HO_665001.out⟩, ⟨by (with_reducible repeat (first | apply Kd.R_alloc | apply Kd.Zap | apply Kd.Zav)); exact HO_665002.out⟩, ⟨by (with_reducible repeat (first | refine Zag ?_ _ | refine Zah ?_ | refine Zae ?_ _)); exact BK623.out⟩, ⟨by (with_reducible repeat (first | refine Zag ?_ _ | refine Zah ?_ | refine Zae ?_ _)); exact BK641.out⟩, ⟨by (with_reducible repeat (first | refine Zag ?_ _ | refine Zah ?_ | refine Zae ?_ _)); exact BK664.out⟩, ⟨by repeat (first | (with_reducible first | exact HB.out | apply Zac | apply Za | apply Zab | refine Zaf ?_ GE623.out | refine Zaf ?_ GE641.out | refine Zaf ?_ GE664.out) | exact HB.out)⟩⟩
       case round =>
        clear H'
        try clear c1
        try clear c2
        try clear p2
        try clear c3
        try clear c4
        try clear c5
        try clear q5
        try clear c6
        try clear p6
        try clear q6
        try clear hx6
        try clear c9
        try clear c14
        try clear c16
        try clear c16b0
        try clear c17
        try clear c17b0
        try clear c18
        try clear c18b0
        try clear c18b1
        try clear c18b2
        try clear c20
        try clear c26
        try clear c32
        try clear c33
        try clear c39
        try clear c39b0
        try clear c39b1
        try clear c39b2
        try clear c43
        try clear c45
        try clear c45b0
        try clear c45b1
        try clear c45b2
        try clear c46
        try clear c47
        try clear c50
        try clear c50b0
        try clear c50b1
        try clear q52
        try clear c53
        try clear c54
        try clear hcz10_0
        try clear hcz10_1
        try clear hcz10_2
        try clear hcz10_3
        try clear hcz10_4
        try clear hcz10_5
        try clear hcz10_6
        try clear hcz27_0
        try clear hcz27_1
        try clear hcz27_2
        try clear hcz27_3
        try clear hcz27_4
        try clear hcz27_5
        try clear hcz27_6
        try clear hcz29_0
        try clear hcz29_1
        try clear hcz29_2
        try clear hcz29_3
        try clear hcz29_4
        try clear hcz29_5
        try clear hcz29_6
        try clear hcz34_0
        try clear hcz34_1
        try clear hcz34_2
        try clear hcz34_3
        try clear hcz34_4
        try clear hcz34_5
        try clear hcz34_6
        try clear hcz55_0
        try clear hcz55_1
        try clear hcz55_2
        try clear hcz55_3
        try clear hcz55_4
        try clear hcz55_5
        try clear hcz55_6
        try clear hcz6_0
        try clear hcz6_1
        try clear hcz6_2
        try clear hcz6_3
        try clear hcz6_4
        try clear hcz6_5
        try clear hcz6_6
        try clear hcz6_7
        try clear hcz6_8
        try clear hcz6_9
        try clear hfz10_0
        try clear hfz10_1
        try clear hfz10_2
        try clear hfz10_3
        try clear hfz10_4
        try clear hfz10_5
        try clear hfz10_6
        try clear hfz27_0
        try clear hfz27_1
        try clear hfz27_2
        try clear hfz27_3
        try clear hfz27_4
        try clear hfz27_5
        try clear hfz27_6
        try clear hfz29_0
        try clear hfz29_1
        try clear hfz29_2
        try clear hfz29_3
        try clear hfz29_4
        try clear hfz29_5
        try clear hfz29_6
        try clear hfz34_0
        try clear hfz34_1
        try clear hfz34_2
        try clear hfz34_3
        try clear hfz34_4
        try clear hfz34_5
        try clear hfz34_6
        try clear hfz55_0
        try clear hfz55_1
        try clear hfz55_2
        try clear hfz55_3
        try clear hfz55_4
        try clear hfz55_5
        try clear hfz55_6
        try clear hfz6_0
        try clear hfz6_1
        try clear hfz6_2
        try clear hfz6_3
        try clear hfz6_4
        try clear hfz6_5
        try clear hfz6_6
        try clear hfz6_7
        try clear hfz6_8
        try clear hfz6_9
        try clear hx646_0
        try clear p2
        try clear p6
        try clear p646
        try clear q52
        try clear q6
        try clear q646
        obtain ⟨x15_4, rfl, HA, HK4, HO_3, HO_6, HO_13, HO_642001, HO_642002, HO_642005, HO_665001, HO_665002, BK623, BK641, BK664, HB⟩ := hrel
        cases gk with
        | zero => exact absurd HA.out (by simp [Zad.l1])
        | succ k4 =>
         have H := HA.out
         clear HA
         simp only [Zad.l1] at H
         have HC57 := Zaa.mk H
         clear H
         go_upto_region 21 with (fail)
         go_cut [96] (fun v96 wc => ∃ (kq : Nat) (x96_56 : Bool), v96 = .bool x96_56 ∧ Zaa (Zad.j4 kq t624 t643 t675 t678 x15_4 x96_56 t627 t628 t631 t634 t635 t636 t639 = some r) ∧ Zaa (kq ≤ k4) ∧ Zaa (Kd.S (Kd.slice 41 k41) 39 wc w.heap.size (fun k_ => some k_ ≠ (v676 : Value).ownBlock) (.slice Ao14 t624.length co14) t624) ∧ Zaa (Kd.S (Kd.slice 3 (Kd.int .i64)) 23 wc w.heap.size (fun k_ => some k_ ≠ ((.slice Ao11 t628.length co11) : Value).ownBlock ∧ some k_ ≠ ((.slice Ao12 t631.length co12) : Value).ownBlock ∧ some k_ ≠ ((.slice Ao13 t636.length co13) : Value).ownBlock ∧ some k_ ≠ ((.slice Ao35 t652.length co35) : Value).ownBlock ∧ some k_ ≠ ((.slice Ao36 t655.length co36) : Value).ownBlock) (.slice Ao25 t643.length co25) t643) ∧ Zaa (Kd.S (Kd.slice 41 k41) 39 wc w.heap.size (fun k_ => some k_ ≠ ((.slice Ao14 t624.length co14) : Value).ownBlock) v676 t675) ∧ Zaa (Kd.R (Kd.int .i64) 3 wc w.heap.size (fun k_ => some k_ ≠ ((.slice Ao12 t631.length co12) : Value).ownBlock ∧ some k_ ≠ ((.slice Ao35 t652.length co35) : Value).ownBlock ∧ some k_ ≠ ((.slice Ao36 t655.length co36) : Value).ownBlock) (.slice Ao11 t628.length co11) t628) ∧ Zaa (Kd.R (Kd.int .i64) 3 wc w.heap.size (fun k_ => some k_ ≠ ((.slice Ao11 t628.length co11) : Value).ownBlock ∧ some k_ ≠ ((.slice Ao35 t652.length co35) : Value).ownBlock ∧ some k_ ≠ ((.slice Ao36 t655.length co36) : Value).ownBlock) (.slice Ao12 t631.length co12) t631) ∧ Zaa (Kd.S (Kd.slice 3 (Kd.int .i64)) 23 wc w.heap.size (fun k_ => some k_ ≠ ((.slice Ao25 t643.length co25) : Value).ownBlock ∧ some k_ ≠ ((.slice Ao11 t628.length co11) : Value).ownBlock ∧ some k_ ≠ ((.slice Ao12 t631.length co12) : Value).ownBlock ∧ some k_ ≠ ((.slice Ao35 t652.length co35) : Value).ownBlock ∧ some k_ ≠ ((.slice Ao36 t655.length co36) : Value).ownBlock) (.slice Ao13 t636.length co13) t636) ∧ Zaa (Kd.R (Kd.int .i64) 3 wc w.heap.size (fun k_ => some k_ ≠ ((.slice Ao11 t628.length co11) : Value).ownBlock ∧ some k_ ≠ ((.slice Ao12 t631.length co12) : Value).ownBlock ∧ some k_ ≠ ((.slice Ao36 t655.length co36) : Value).ownBlock) (.slice Ao35 t652.length co35) t652) ∧ Zaa (Kd.R (Kd.int .i64) 3 wc w.heap.size (fun k_ => some k_ ≠ ((.slice Ao11 t628.length co11) : Value).ownBlock ∧ some k_ ≠ ((.slice Ao12 t631.length co12) : Value).ownBlock ∧ some k_ ≠ ((.slice Ao35 t652.length co35) : Value).ownBlock) (.slice Ao36 t655.length co36) t655) ∧ Zaa (wc.heap[gb623]? = some (.cells #[(.slice A0_0 l0_0.length c0_0), .int .i64 a0_1, (.slice A0_2 l0_2.length c0_2), (.slice A0_3 l0_3.length c0_3), .int .i64 a0_4, .int .i64 a0_5, (.slice A0_6 l0_6.length c0_6), .int .i64 a0_7, (.slice A0_8 l0_8.length c0_8), (.slice A0_9 l0_9.length c0_9)] 27 (0, 0))) ∧ Zaa (wc.heap[gb641]? = some (.cells #[.int .i64 t627, (.slice Ao11 t628.length co11), (.slice Ao12 t631.length co12), .int .i64 t634, .int .i64 t635, (.slice Ao13 t636.length co13), .int .i64 t639] 25 (0, 0))) ∧ Zaa (wc.heap[gb664]? = some (.cells #[.int .i64 t651, (.slice Ao35 t652.length co35), (.slice Ao36 t655.length co36), .int .i64 t658, .int .i64 t659, (.slice Ao25 y671.length co25), .int .i64 t663] 25 (0, 0))) ∧ Zaa (Below w.heap.size w wc))
         case first =>
          have H := HC57.out
          clear HC57
          by_cases c58 : x15_4 < (t628.length : Int)
          ·rw [if_pos c58] at H
           have c58b0 : decide (x15_4 < (t628.length : Int)) = true := decide_eq_true c58
           clear c58
           (first | rw [c58b0] | (simp only [Zbq, Zbr]; rw [c58b0]) | skip)
           have H' := Zaa.mk H
           clear H
           have hnb59 := NB641_623.out
           have hnc59 := NB623_641.out
           have hnb60 := NB641_664.out
           have hnc60 := NB664_641.out
           obtain ⟨hcz61_0, hcz61_1, hcz61_2, hcz61_3, hcz61_4, hcz61_5, hcz61_6, hfz61_0, hfz61_1, hfz61_2, hfz61_3, hfz61_4, hfz61_5, hfz61_6⟩ := Zch BK641.out
           go_wp2
           go_meet
           case rel => exact ⟨_, (t678), (by first | rfl | (simp; done) | (simp [*]; done)), H', ⟨by have := HK1.out; have := HJ23.out; have := HJ43.out; have := HK4.out; first | omega | exact Nat.le_refl _⟩, ⟨by (with_reducible repeat (first | apply Kd.S_alloc | apply Kd.Zbe | apply Kd.Zbk)); exact HO_3.out⟩, ⟨by (with_reducible repeat (first | apply Kd.S_alloc | apply Kd.Zbe | apply Kd.Zbk)); exact HO_6.out⟩, ⟨by (with_reducible repeat (first | apply Kd.S_alloc | apply Kd.Zbe | apply Kd.Zbk)); exact HO_13.out⟩, ⟨by (with_reducible repeat (first | apply Kd.R_alloc | apply Kd.Zap | apply Kd.Zav)); exact HO_642001.out⟩, ⟨by (with_reducible repeat (first | apply Kd.R_alloc | apply Kd.Zap | apply Kd.Zav)); exact HO_642002.out⟩, ⟨by (with_reducible repeat (first | apply Kd.S_alloc | apply Kd.Zbe | apply Kd.Zbk)); exact HO_642005.out⟩, ⟨by (with_reducible repeat (first | apply Kd.R_alloc | apply Kd.Zap | apply Kd.Zav)); exact HO_665001.out⟩, ⟨by (with_reducible repeat (first | apply Kd.R_alloc | apply Kd.Zap | apply Kd.Zav)); exact HO_665002.out⟩, ⟨by (with_reducible repeat (first | refine Zag ?_ _ | refine Zah ?_ | refine Zae ?_ _)); exact BK623.out⟩, ⟨by (with_reducible repeat (first | refine Zag ?_ _ | refine Zah ?_ | refine Zae ?_ _)); exact BK641.out⟩, ⟨by (with_reducible repeat (first | refine Zag ?_ _ | refine Zah ?_ | refine Zae ?_ _)); exact BK664.out⟩, ⟨by repeat (first | (with_reducible first | exact HB.out | apply Zac | apply Za | apply Zab | refine Zaf ?_ GE623.out | refine Zaf ?_ GE641.out | refine Zaf ?_ GE664.out) | exact HB.out)⟩⟩
          rw [if_neg c58] at H
          have c58b0 : decide (x15_4 < (t628.length : Int)) = false := decide_eq_false c58
          clear c58
          (first | rw [c58b0] | (simp only [Zbq, Zbr]; rw [c58b0]) | skip)
          have H' := Zaa.mk H
          clear H
          have hnb62 := NB641_623.out
          have hnc62 := NB623_641.out
          have hnb63 := NB641_664.out
          have hnc63 := NB664_641.out
          obtain ⟨hcz64_0, hcz64_1, hcz64_2, hcz64_3, hcz64_4, hcz64_5, hcz64_6, hfz64_0, hfz64_1, hfz64_2, hfz64_3, hfz64_4, hfz64_5, hfz64_6⟩ := Zch BK641.out
          go_wp2
          go_meet
          case rel => exact ⟨_, (false), (by first | rfl | (simp; done) | (simp [*]; done)), H', ⟨by have := HK1.out; have := HJ23.out; have := HJ43.out; have := HK4.out; first | omega | exact Nat.le_refl _⟩, ⟨by (with_reducible repeat (first | apply Kd.S_alloc | apply Kd.Zbe | apply Kd.Zbk)); exact HO_3.out⟩, ⟨by (with_reducible repeat (first | apply Kd.S_alloc | apply Kd.Zbe | apply Kd.Zbk)); exact HO_6.out⟩, ⟨by (with_reducible repeat (first | apply Kd.S_alloc | apply Kd.Zbe | apply Kd.Zbk)); exact HO_13.out⟩, ⟨by (with_reducible repeat (first | apply Kd.R_alloc | apply Kd.Zap | apply Kd.Zav)); exact HO_642001.out⟩, ⟨by (with_reducible repeat (first | apply Kd.R_alloc | apply Kd.Zap | apply Kd.Zav)); exact HO_642002.out⟩, ⟨by (with_reducible repeat (first | apply Kd.S_alloc | apply Kd.Zbe | apply Kd.Zbk)); exact HO_642005.out⟩, ⟨by (with_reducible repeat (first | apply Kd.R_alloc | apply Kd.Zap | apply Kd.Zav)); exact HO_665001.out⟩, ⟨by (with_reducible repeat (first | apply Kd.R_alloc | apply Kd.Zap | apply Kd.Zav)); exact HO_665002.out⟩, ⟨by (with_reducible repeat (first | refine Zag ?_ _ | refine Zah ?_ | refine Zae ?_ _)); exact BK623.out⟩, ⟨by (with_reducible repeat (first | refine Zag ?_ _ | refine Zah ?_ | refine Zae ?_ _)); exact BK641.out⟩, ⟨by (with_reducible repeat (first | refine Zag ?_ _ | refine Zah ?_ | refine Zae ?_ _)); exact BK664.out⟩, ⟨by repeat (first | (with_reducible first | exact HB.out | apply Zac | apply Za | apply Zab | refine Zaf ?_ GE623.out | refine Zaf ?_ GE641.out | refine Zaf ?_ GE664.out) | exact HB.out)⟩⟩
         case rest =>
          clear HC57
          try clear c1
          try clear c2
          try clear p2
          try clear c3
          try clear c4
          try clear c5
          try clear q5
          try clear c6
          try clear p6
          try clear q6
          try clear hx6
          try clear c9
          try clear c14
          try clear c16
          try clear c16b0
          try clear c17
          try clear c17b0
          try clear c18
          try clear c18b0
          try clear c18b1
          try clear c18b2
          try clear c20
          try clear c26
          try clear c32
          try clear c33
          try clear c39
          try clear c39b0
          try clear c39b1
          try clear c39b2
          try clear c43
          try clear c45
          try clear c45b0
          try clear c45b1
          try clear c45b2
          try clear c46
          try clear c47
          try clear c50
          try clear c50b0
          try clear c50b1
          try clear q52
          try clear c53
          try clear c54
          try clear c58
          try clear c58b0
          try clear c59
          try clear c60
          try clear c62
          try clear c63
          try clear p64
          try clear q64
          try clear hx64
          try clear hcz10_0
          try clear hcz10_1
          try clear hcz10_2
          try clear hcz10_3
          try clear hcz10_4
          try clear hcz10_5
          try clear hcz10_6
          try clear hcz27_0
          try clear hcz27_1
          try clear hcz27_2
          try clear hcz27_3
          try clear hcz27_4
          try clear hcz27_5
          try clear hcz27_6
          try clear hcz29_0
          try clear hcz29_1
          try clear hcz29_2
          try clear hcz29_3
          try clear hcz29_4
          try clear hcz29_5
          try clear hcz29_6
          try clear hcz34_0
          try clear hcz34_1
          try clear hcz34_2
          try clear hcz34_3
          try clear hcz34_4
          try clear hcz34_5
          try clear hcz34_6
          try clear hcz55_0
          try clear hcz55_1
          try clear hcz55_2
          try clear hcz55_3
          try clear hcz55_4
          try clear hcz55_5
          try clear hcz55_6
          try clear hcz61_0
          try clear hcz61_1
          try clear hcz61_2
          try clear hcz61_3
          try clear hcz61_4
          try clear hcz61_5
          try clear hcz61_6
          try clear hcz64_0
          try clear hcz64_1
          try clear hcz64_2
          try clear hcz64_3
          try clear hcz64_4
          try clear hcz64_5
          try clear hcz64_6
          try clear hcz6_0
          try clear hcz6_1
          try clear hcz6_2
          try clear hcz6_3
          try clear hcz6_4
          try clear hcz6_5
          try clear hcz6_6
          try clear hcz6_7
          try clear hcz6_8
          try clear hcz6_9
          try clear hfz10_0
          try clear hfz10_1
          try clear hfz10_2
          try clear hfz10_3
          try clear hfz10_4
          try clear hfz10_5
          try clear hfz10_6
          try clear hfz27_0
          try clear hfz27_1
          try clear hfz27_2
          try clear hfz27_3
          try clear hfz27_4
          try clear hfz27_5
          try clear hfz27_6
          try clear hfz29_0
          try clear hfz29_1
          try clear hfz29_2
          try clear hfz29_3
          try clear hfz29_4
          try clear hfz29_5
          try clear hfz29_6
          try clear hfz34_0
          try clear hfz34_1
          try clear hfz34_2
          try clear hfz34_3
          try clear hfz34_4
          try clear hfz34_5
          try clear hfz34_6
          try clear hfz55_0
          try clear hfz55_1
          try clear hfz55_2
          try clear hfz55_3
          try clear hfz55_4
          try clear hfz55_5
          try clear hfz55_6
          try clear hfz61_0
          try clear hfz61_1
          try clear hfz61_2
          try clear hfz61_3
          try clear hfz61_4
          try clear hfz61_5
          try clear hfz61_6
          try clear hfz64_0
          try clear hfz64_1
          try clear hfz64_2
          try clear hfz64_3
          try clear hfz64_4
          try clear hfz64_5
          try clear hfz64_6
          try clear hfz6_0
          try clear hfz6_1
          try clear hfz6_2
          try clear hfz6_3
          try clear hfz6_4
          try clear hfz6_5
          try clear hfz6_6
          try clear hfz6_7
          try clear hfz6_8
          try clear hfz6_9
          try clear hx646_0
          try clear p2
          try clear p6
          try clear p646
          try clear q5
          try clear q52
          try clear q6
          try clear q646
          obtain ⟨kq, x96_56, rfl, HA, HJ56, HO_3, HO_6, HO_13, HO_642001, HO_642002, HO_642005, HO_665001, HO_665002, BK623, BK641, BK664, HB⟩ := hcut
          cases kq with
          | zero => exact absurd HA.out (by simp [Zad.j4])
          | succ kj56 =>
           have H := HA.out
           clear HA
           simp only [Zad.j4] at H
           by_cases c65 : x96_56 = true
           rotate_left
           ·replace c65 := Bool.eq_false_iff.mpr c65
            subst c65
            have H1 : (if t678 = true then ((Zb.f kj56).bind fun t679 => (some t679)) else (none)) = some r := by rw [if_neg (show ¬ (false = true) by decide)] at H; exact H
            clear H
            have H := H1
            clear H1
            by_cases c83 : t678 = true
            rotate_left
            ·replace c83 := Bool.eq_false_iff.mpr c83
             subst c83
             have H1 : (none) = some r := by rw [if_neg (show ¬ (false = true) by decide)] at H; exact H
             clear H
             have H := H1
             clear H1
             exact absurd H (by simp)
            subst c83
            have H1 : ((Zb.f kj56).bind fun t679 => (some t679)) = some r := by rw [if_pos rfl] at H; exact H
            clear H
            have H := H1
            clear H1
            replace H := Option.bind_eq_some_iff.mp H
            obtain ⟨t679, A840, H⟩ := H
            replace H : (some t679) = some r := H
            have A84 := Zaa.mk A840
            clear A840
            obtain rfl := Option.some.inj H
            go_wp2_with (first | (go_at_call 15; (with_reducible refine (Zb.calls kj56  t679 _ A84.out).mono ?_); rintro e w85 ⟨rfl, hb⟩; have n0_ := Zaa.mk (Kd.Zb8 (mvS HO_3.out) hb); have n1_ := Zaa.mk (Kd.Zb8 (mvS HO_6.out) hb); have n2_ := Zaa.mk (Kd.Zb8 (mvS HO_13.out) hb); have n3_ := Zaa.mk (Kd.Zb3 (mvR HO_642001.out) hb); have n4_ := Zaa.mk (Kd.Zb3 (mvR HO_642002.out) hb); have n5_ := Zaa.mk (Kd.Zb8 (mvS HO_642005.out) hb); have n6_ := Zaa.mk (Kd.Zb3 (mvR HO_665001.out) hb); have n7_ := Zaa.mk (Kd.Zb3 (mvR HO_665002.out) hb); have n8_ := Zaa.mk (Zbb (g := gb623) (o := .cells #[.slice A0_0 l0_0.length c0_0, .int .i64 a0_1, .slice A0_2 l0_2.length c0_2, .slice A0_3 l0_3.length c0_3, .int .i64 a0_4, .int .i64 a0_5, .slice A0_6 l0_6.length c0_6, .int .i64 a0_7, .slice A0_8 l0_8.length c0_8, .slice A0_9 l0_9.length c0_9] 27 (0, 0)) (mvK BK623.out) hb); have n9_ := Zaa.mk (Zbb (g := gb641) (o := .cells #[.int .i64 t627, .slice Ao11 t628.length co11, .slice Ao12 t631.length co12, .int .i64 t634, .int .i64 t635, .slice Ao13 t636.length co13, .int .i64 t639] 25 (0, 0)) (mvK BK641.out) hb); have n10_ := Zaa.mk (Zbb (g := gb664) (o := .cells #[.int .i64 t651, .slice Ao35 t652.length co35, .slice Ao36 t655.length co36, .int .i64 t658, .int .i64 t659, (.slice _ y671.length co25), .int .i64 t663] 25 (0, 0)) (mvK BK664.out) hb); have n11_ := Zaa.mk (Zay (mvB HB.out) hb); clear HO_3; clear HO_6; clear HO_13; clear HO_642001; clear HO_642002; clear HO_642005; clear HO_665001; clear HO_665002; clear BK623; clear BK641; clear BK664; clear HB; have HO_3 := n0_; have HO_6 := n1_; have HO_13 := n2_; have HO_642001 := n3_; have HO_642002 := n4_; have HO_642005 := n5_; have HO_665001 := n6_; have HO_665002 := n7_; have BK623 := n8_; have BK641 := n9_; have BK664 := n10_; have HB := n11_; clear n0_ n1_ n2_ n3_ n4_ n5_ n6_ n7_ n8_ n9_ n10_ n11_; (try clear hb); (try clear hb2); (try clear hk); (try clear hi)))
            go_ret
            exact ⟨by first | rfl | (simp [Za1, Za2] <;> rfl) | (simp [*, Za1, Za2] <;> rfl), by repeat (first | (with_reducible first | exact HB.out | apply Zac | apply Za | apply Zab | refine Zaf ?_ GE623.out | refine Zaf ?_ GE641.out | refine Zaf ?_ GE664.out) | exact HB.out)⟩
           subst c65
           have H1 : (if (t675.length : Int) = (t624.length : Int) then (if 0 ≤ x15_4 then (if x15_4 < (t628.length : Int) then (if 0 ≤ (rd t628 x15_4) then (if (rd t628 x15_4) < (t675.length : Int) then ((Zak.f kj56 (Zcn t675 (rd t628 x15_4))).bind fun t682 => (if 0 < (t643.length : Int) then (if x15_4 ≤ (wrap64 (x15_4 + 1)) then (if (wrap64 (x15_4 + 1)) ≤ ((Zbz t643 0).length : Int) then ((Zam.f kj56 t682 (((Zbz t643 0).take ((wrap64 (x15_4 + 1)) : Int).toNat).drop (x15_4 : Int).toNat)).bind fun t690 => (if t690 = true then (Zad.l1 kj56 t624 t643 t675 t678 (wrap64 (x15_4 + 1)) t627 t628 t631 t634 t635 t636 t639) else (none))) else (none)) else (none)) else (none))) else (none)) else (none)) else (none)) else (none)) else (none)) = some r := by rw [if_pos rfl] at H; exact H
           clear H
           have H := H1
           clear H1
           by_cases c66 : (t675.length : Int) = (t624.length : Int)
           rotate_left
           ·rw [if_neg c66] at H
            have c66b0 : ((t675.length : Int) == (t624.length : Int)) = false := beq_eq_false_iff_ne.mpr c66
            have c66b1 : ((t675.length : Int) != (t624.length : Int)) = true := bne_iff_ne.mpr c66
            have c66b2 : (t675.length == t624.length) = false := by first | simpa using c66 | (simp at c66 ⊢; omega)
            exact absurd H (by simp)
           rw [if_pos c66] at H
           have c66b0 : ((t675.length : Int) == (t624.length : Int)) = true := beq_iff_eq.mpr c66
           have c66b1 : ((t675.length : Int) != (t624.length : Int)) = false := bne_eq_false_iff_eq.mpr c66
           have c66b2 : (t675.length == t624.length) = true := by first | simpa using c66 | (simp at c66 ⊢; omega)
           clear c66
           by_cases c67 : 0 ≤ x15_4
           rotate_left
           ·rw [if_neg c67] at H
            exact absurd H (by simp)
           rw [if_pos c67] at H
           have c67b0 : decide (0 ≤ x15_4) = true := decide_eq_true c67
           clear c67
           by_cases c68 : x15_4 < (t628.length : Int)
           rotate_left
           ·rw [if_neg c68] at H
            exact absurd H (by simp)
           rw [if_pos c68] at H
           have c68b0 : decide (x15_4 < (t628.length : Int)) = true := decide_eq_true c68
           clear c68
           by_cases c69 : 0 ≤ (rd t628 x15_4)
           rotate_left
           ·rw [if_neg c69] at H
            exact absurd H (by simp)
           rw [if_pos c69] at H
           have c69b0 : decide (0 ≤ (rd t628 x15_4)) = true := decide_eq_true c69
           clear c69
           by_cases c70 : (rd t628 x15_4) < (t675.length : Int)
           rotate_left
           ·rw [if_neg c70] at H
            exact absurd H (by simp)
           rw [if_pos c70] at H
           have c70b0 : decide ((rd t628 x15_4) < (t675.length : Int)) = true := decide_eq_true c70
           clear c70
           replace H := Option.bind_eq_some_iff.mp H
           obtain ⟨t682, A710, H⟩ := H
           replace H : (if 0 < (t643.length : Int) then (if x15_4 ≤ (wrap64 (x15_4 + 1)) then (if (wrap64 (x15_4 + 1)) ≤ ((Zbz t643 0).length : Int) then ((Zam.f kj56 t682 (((Zbz t643 0).take ((wrap64 (x15_4 + 1)) : Int).toNat).drop (x15_4 : Int).toNat)).bind fun t690 => (if t690 = true then (Zad.l1 kj56 t624 t643 t675 t678 (wrap64 (x15_4 + 1)) t627 t628 t631 t634 t635 t636 t639) else (none))) else (none)) else (none)) else (none)) = some r := H
           have A71 := Zaa.mk A710
           clear A710
           by_cases c72 : 0 < (t643.length : Int)
           rotate_left
           ·rw [if_neg c72] at H
            exact absurd H (by simp)
           rw [if_pos c72] at H
           have c72b0 : decide (0 < (t643.length : Int)) = true := decide_eq_true c72
           have c72b1 : decide (0 < t643.length) = true := decide_eq_true (by omega)
           clear c72
           have c73b0 := eq_true (of_decide_eq_true (by first | (with_reducible assumption) | assumption) : 0 ≤ x15_4)
           by_cases c74 : x15_4 ≤ (wrap64 (x15_4 + 1))
           rotate_left
           ·rw [if_neg c74] at H
            exact absurd H (by simp)
           rw [if_pos c74] at H
           have c74b0 := eq_true c74
           have c74b1 : decide (x15_4 ≤ (wrap64 (x15_4 + 1))) = true := decide_eq_true c74
           by_cases c75 : (wrap64 (x15_4 + 1)) ≤ ((Zbz t643 0).length : Int)
           rotate_left
           ·rw [if_neg c75] at H
            exact absurd H (by simp)
           rw [if_pos c75] at H
           have c75b0 := eq_true c75
           have c75b1 : decide ((wrap64 (x15_4 + 1)) ≤ ((Zbz t643 0).length : Int)) = true := decide_eq_true c75
           obtain ⟨y686, hy686⟩ : ∃ y_ : List Int, y_ = (((Zbz t643 0).take ((wrap64 (x15_4 + 1)) : Int).toNat).drop (x15_4 : Int).toNat) := ⟨_, rfl⟩
           replace H : ((Zam.f kj56 t682 y686).bind fun t690 => (if t690 = true then (Zad.l1 kj56 t624 t643 t675 t678 (wrap64 (x15_4 + 1)) t627 t628 t631 t634 t635 t636 t639) else (none))) = some r := by first | (rw [hy686]; with_reducible exact H) | (have H2_ := (Option.bind_some _ _).symm.trans H; rw [hy686]; with_reducible exact H2_) | (have H2_ := (Option.bind_some _ _).symm.trans H; with_reducible exact H2_) | with_reducible exact H | (rw [hy686]; exact H) | exact H
           have Ny686 := Zaa.mk hy686
           clear hy686
           replace H := Option.bind_eq_some_iff.mp H
           obtain ⟨t690, A760, H⟩ := H
           replace H : (if t690 = true then (Zad.l1 kj56 t624 t643 t675 t678 (wrap64 (x15_4 + 1)) t627 t628 t631 t634 t635 t636 t639) else (none)) = some r := H
           have A76 := Zaa.mk A760
           clear A760
           by_cases c77 : t690 = true
           rotate_left
           ·replace c77 := Bool.eq_false_iff.mpr c77
            subst c77
            have H1 : (none) = some r := by rw [if_neg (show ¬ (false = true) by decide)] at H; exact H
            clear H
            have H := H1
            clear H1
            exact absurd H (by simp)
           subst c77
           have H1 : (Zad.l1 kj56 t624 t643 t675 t678 (wrap64 (x15_4 + 1)) t627 t628 t631 t634 t635 t636 t639) = some r := by rw [if_pos rfl] at H; exact H
           clear H
           have H := H1
           clear H1
           have H' := Zaa.mk H
           clear H
           try go_wp2
           have n0_ := Zaa.mk (Kd.Zbk HO_3.out)
           have n1_ := Zaa.mk (Kd.Zbk HO_6.out)
           have n2_ := Zaa.mk (Kd.Zbk HO_13.out)
           have n3_ := Zaa.mk (Kd.Zav HO_642001.out)
           have n4_ := Zaa.mk (Kd.Zav HO_642002.out)
           have n5_ := Zaa.mk (Kd.Zbk HO_642005.out)
           have n6_ := Zaa.mk (Kd.Zav HO_665001.out)
           have n7_ := Zaa.mk (Kd.Zav HO_665002.out)
           have n8_ := Zaa.mk (Zah BK623.out)
           have n9_ := Zaa.mk (Zah BK641.out)
           have n10_ := Zaa.mk (Zah BK664.out)
           have n11_ := Zaa.mk (Zab HB.out)
           clear HO_3
           clear HO_6
           clear HO_13
           clear HO_642001
           clear HO_642002
           clear HO_642005
           clear HO_665001
           clear HO_665002
           clear BK623
           clear BK641
           clear BK664
           clear HB
           have HO_3 := n0_
           have HO_6 := n1_
           have HO_13 := n2_
           have HO_642001 := n3_
           have HO_642002 := n4_
           have HO_642005 := n5_
           have HO_665001 := n6_
           have HO_665002 := n7_
           have BK623 := n8_
           have BK641 := n9_
           have BK664 := n10_
           have HB := n11_
           clear n0_ n1_ n2_ n3_ n4_ n5_ n6_ n7_ n8_ n9_ n10_ n11_
           obtain ⟨Ao79, co79, eo79⟩ := Kd.Zc6 HO_13.out
           (first | subst eo79 | (injection eo79 with f1_ f2_ f3_; have f4_ := f1_.symm; have f5_ := f3_.symm; clear f1_ f2_ f3_; subst f4_; subst f5_))
           have p680 : 0 ≤ (x15_4 : Int) := of_decide_eq_true (by first | (with_reducible assumption) | assumption)
           have q680 : x15_4 < (t628.length : Int) := of_decide_eq_true (by first | (with_reducible assumption) | assumption)
           obtain ⟨ad680, e680, hx680_0⟩ := Kd.Zb6 (Kd.Zbi HO_642001.out).2.2 x15_4 p680 q680
           cases e680
           replace p680 := eq_true p680
           replace q680 := eq_true q680
           have p681 : 0 ≤ ((rd t628 x15_4) : Int) := of_decide_eq_true (by first | (with_reducible assumption) | assumption)
           have q681 : (rd t628 x15_4) < (t675.length : Int) := of_decide_eq_true (by first | (with_reducible assumption) | assumption)
           obtain ⟨ad681, A681_0, c681_0, e681, hx681_0, hl681_0, hi681_0⟩ := Zfb (Kd.Zb5 HO_13.out).2.2 (rd t628 x15_4) p681 q681
           cases e681
           obtain ⟨ce681, hce681, hMe681, hcc681⟩ := Kd.S_get HO_13.out [] (rd t628 x15_4) p681 (by first | exact q681 | exact of_decide_eq_true (by first | (with_reducible assumption) | assumption) | (have e_ := (Kd.Zb5 HO_13.out).1; omega))
           obtain ⟨ve681_0, rfl, ge681_0⟩ := hMe681
           have hv681_0 := hcc681 0 _ rfl
           rw [Nat.add_zero, show ((Kd.slice 41 k41)).sz = 1 from rfl, Nat.mul_one] at hv681_0
           replace hv681_0 := Option.some.inj (hv681_0.symm.trans hx681_0)
           rw [hv681_0] at ge681_0
           have HL681_0 := Zaa.mk (show Kd.R k41 41 _ _ _ _ (Zcn t675 (rd t628 x15_4)) from ge681_0)
           clear hv681_0 ge681_0
           clear hcc681 hce681
           have HR681_0 := Zaa.mk hi681_0
           have HC681_0 := Zaa.mk hl681_0
           clear hi681_0 hl681_0
           replace p681 := eq_true p681
           replace q681 := eq_true q681
           have p685 : 0 ≤ (0 : Int) := (by omega)
           have q685 : 0 < (t643.length : Int) := of_decide_eq_true (by first | (with_reducible assumption) | assumption)
           obtain ⟨ad685, A685_0, c685_0, e685, hx685_0, hl685_0, hi685_0⟩ := Zdy (Kd.Zb5 HO_6.out).2.2 0 p685 q685
           cases e685
           obtain ⟨ce685, hce685, hMe685, hcc685⟩ := Kd.S_get HO_6.out [] 0 p685 (by first | exact q685 | exact of_decide_eq_true (by first | (with_reducible assumption) | assumption) | (have e_ := (Kd.Zb5 HO_6.out).1; omega))
           obtain ⟨ve685_0, rfl, ge685_0⟩ := hMe685
           have hv685_0 := hcc685 0 _ rfl
           rw [Nat.add_zero, show ((Kd.slice 3 (Kd.int .i64))).sz = 1 from rfl, Nat.mul_one] at hv685_0
           replace hv685_0 := Option.some.inj (hv685_0.symm.trans hx685_0)
           rw [hv685_0] at ge685_0
           have HL685_0 := Zaa.mk (show Kd.R (Kd.int .i64) 3 _ _ _ _ (Zbz t643 0) from ge685_0)
           clear hv685_0 ge685_0
           clear hcc685 hce685
           have qi685 : (0 < t643.length) = True := eq_true (by omega)
           (try rw [show ((0 : Int)).toNat = 0 from rfl] at hx685_0)
           (try rw [Addr.add_zero'] at hx685_0)
           have HR685_0 := Zaa.mk hi685_0
           have HC685_0 := Zaa.mk hl685_0
           clear hi685_0 hl685_0
           replace p685 := eq_true p685
           replace q685 := eq_true q685
           have q80 : ((wrap64 (x15_4 + 1)) : Int) ≤ (((Zbz t643 0).length : Int) : Int) := of_decide_eq_true (by first | (with_reducible assumption) | assumption)
           obtain ⟨i080, hi080, _, hsz80, _⟩ := info_parts info3
           have hroom80 : (Zbz t643 0).length ≤ c685_0 := HC685_0.out
           have hC80 : Kd.C (Kd.int .i64) _ A685_0 (Zbz t643 0).length (Zbz t643 0) := (by repeat (first | (with_reducible exact HR685_0.out) | (with_reducible refine Kd.C_alloc ?_ _) | (with_reducible refine Kd.Za0 ?_ _) | (with_reducible refine Kd.C_drew ?_) | exact HR685_0.out))
           have ql80 : (x15_4 : Int) ≤ ((wrap64 (x15_4 + 1)) : Int) := of_decide_eq_true (by first | (with_reducible assumption) | assumption)
           have q080 : (0 : Int) ≤ (x15_4 : Int) := of_decide_eq_true (by first | (with_reducible assumption) | assumption)
           have hcut80 := cut_mid (P := Try.prog) 23 3 .i64 .i64 Try.underlying23 hi080 1 hsz80 A685_0 (Zbz t643 0).length c685_0 x15_4 (wrap64 (x15_4 + 1)) q080 ql80 q80 hroom80
           have hr80 := Kd.C_mid (lo := (x15_4 : Int).toNat) (hi := ((wrap64 (x15_4 + 1)) : Int).toNat) (c := c685_0) hC80 (by omega) (by omega) hroom80
           obtain ⟨A80, hA80⟩ : ∃ A1, A1 = (if c685_0 = (x15_4 : Int).toNat then A685_0 else (A685_0 : Option Addr).map (·.add ((x15_4 : Int).toNat * 1))) := ⟨_, rfl⟩
           obtain ⟨c80, hc80⟩ : ∃ c1, c1 = c685_0 - (x15_4 : Int).toNat := ⟨_, rfl⟩
           have hy80 : y686.length = ((wrap64 (x15_4 + 1)) : Int).toNat - (x15_4 : Int).toNat := (by rw [Ny686.out, List.length_drop, List.length_take] <;> omega)
           rw [show ((Zbz t643 0).take ((wrap64 (x15_4 + 1)) : Int).toNat).drop (x15_4 : Int).toNat = y686 from Ny686.out.symm] at hr80
           replace hr80 : Kd.C (Kd.int .i64) _ A80 y686.length y686 := (by rw [hA80]; exact hr80)
           rw [← hy80, ← hA80, ← hc80] at hcut80
           have HR689 := Zaa.mk hr80
           have HC689 := Zaa.mk (show y686.length ≤ c80 from by rw [hy80, hc80]; exact Nat.sub_le_sub_right (Nat.le_trans (by omega) hroom80) _)
           clear hr80 hC80 hroom80 hi080 hsz80 hc80
           have KY80 := Zaa.mk hy80
           have KA80 := Zaa.mk hA80
           clear hy80 hA80
           replace q80 := eq_true q80
           refine Zd8 (n := 25) (S := fun w' => w'.cell? ⟨gb641, 0, none⟩ = some (.int .i64 t627) ∧ w'.cell? ⟨gb641, 1, none⟩ = some (.slice (some ad680) t628.length co11) ∧ w'.cell? ⟨gb641, 2, none⟩ = some (.slice Ao12 t631.length co12) ∧ w'.cell? ⟨gb641, 3, none⟩ = some (.int .i64 t634) ∧ w'.cell? ⟨gb641, 4, none⟩ = some (.int .i64 t635) ∧ w'.cell? ⟨gb641, 5, none⟩ = some (.slice Ao13 t636.length co13) ∧ w'.cell? ⟨gb641, 6, none⟩ = some (.int .i64 t639) ∧ w'.cell? (ad680.add (x15_4).toNat) = some (.int .i64 (rd t628 x15_4)) ∧ w'.cell? (ad681.add ((rd t628 x15_4)).toNat) = some (.slice A681_0 (Zcn t675 (rd t628 x15_4)).length c681_0) ∧ w'.cell? ad685 = some (.slice A685_0 (Zbz t643 0).length c685_0)) (ds := []) #[false, false, false, false, false, false, false, false, false, false, false, false, false, false, false, false, false, false, false, false, false, false, false, false, false] (by kernel_rfl) rfl rfl ⟨(Zax BK641.out 0).trans rfl, (Zax BK641.out 1).trans rfl, (Zax BK641.out 2).trans rfl, (Zax BK641.out 3).trans rfl, (Zax BK641.out 4).trans rfl, (Zax BK641.out 5).trans rfl, (Zax BK641.out 6).trans rfl, hx680_0, hx681_0, hx685_0⟩ (fun hHeld => ?_); refine Zcz Zad.tab23 Zad.bits23 (fun HT_ HW_ => ?_)
           generalize wc.drew = w78 at HO_3 HO_6 HO_13 HO_642001 HO_642002 HO_642005 HO_665001 HO_665002 BK623 BK641 BK664 HB HL681_0 HL685_0 HR681_0 HR685_0 HR689 hx680_0 hx681_0 hx685_0 hHeld ⊢
           refine Zbx (i := 0) (N := some 99) (v := ?_) (a' := ?_) #[true, false, false, false, false, false, false, false, false, false, false, false, false, false, false, false, false, false, false, false, false, false, false, false, false] rfl rfl (Zbp HT_.out (by kernel_rfl)) (fun _ _ _ h => h) (Or.inl ⟨by rfl, ?_⟩) ?_ ?_
           rotate_left
           ·intro w'
            go_simp
            with_reducible rfl
           rotate_left
           ·simp only [Act.put, List.setIfInBounds_toArray, List.set_cons_zero, List.set_cons_succ, Zbq, Zbr]
            rfl
           refine Zbx (i := 1) (N := some 100) (v := ?_) (a' := ?_) #[true, true, false, false, false, false, false, false, false, false, false, false, false, false, false, false, false, false, false, false, false, false, false, false, false] rfl rfl (Zbp HT_.out (by kernel_rfl)) (fun _ _ _ h => h) (Or.inl ⟨by rfl, ?_⟩) ?_ ?_
           rotate_left
           ·intro w'
            go_simp
            with_reducible rfl
           rotate_left
           ·simp only [Act.put, List.setIfInBounds_toArray, List.set_cons_zero, List.set_cons_succ, Zbq, Zbr]
            rfl
           refine Zbx (i := 2) (N := some 101) (v := ?_) (a' := ?_) #[true, true, true, false, false, false, false, false, false, false, false, false, false, false, false, false, false, false, false, false, false, false, false, false, false] rfl rfl (Zbp HT_.out (by kernel_rfl)) (fun _ _ _ h => h) (Or.inl ⟨by rfl, ?_⟩) ?_ ?_
           rotate_left
           ·intro w'
            go_simp
            with_reducible rfl
           rotate_left
           ·simp only [Act.put, List.setIfInBounds_toArray, List.set_cons_zero, List.set_cons_succ, Zbq, Zbr]
            rfl
           refine Zbx (i := 3) (N := some 102) (v := ?_) (a' := ?_) #[true, true, true, true, false, false, false, false, false, false, false, false, false, false, false, false, false, false, false, false, false, false, false, false, false] rfl rfl (Zbp HT_.out (by kernel_rfl)) (fun _ _ _ h => h) (Or.inl ⟨by rfl, ?_⟩) ?_ ?_
           rotate_left
           ·intro w'
            go_simp
            with_reducible rfl
           rotate_left
           ·simp only [Act.put, List.setIfInBounds_toArray, List.set_cons_zero, List.set_cons_succ, Zbq, Zbr]
            rfl
           refine Zbx (i := 4) (N := some 103) (v := ?_) (a' := ?_) #[true, true, true, true, true, false, false, false, false, false, false, false, false, false, false, false, false, false, false, false, false, false, false, false, false] rfl rfl (Zbp HT_.out (by kernel_rfl)) (fun _ _ _ h => h) (Or.inl ⟨by rfl, ?_⟩) ?_ ?_
           rotate_left
           ·intro w'
            go_simp
            with_reducible rfl
           rotate_left
           ·simp only [Act.put, List.setIfInBounds_toArray, List.set_cons_zero, List.set_cons_succ, Zbq, Zbr]
            rfl
           refine Zbx (i := 5) (N := some 104) (v := ?_) (a' := ?_) #[true, true, true, true, true, true, false, false, false, false, false, false, false, false, false, false, false, false, false, false, false, false, false, false, false] rfl rfl (Zbp HT_.out (by kernel_rfl)) (fun _ _ _ h => h) (Or.inl ⟨by rfl, ?_⟩) ?_ ?_
           rotate_left
           ·intro w'
            go_simp
            with_reducible rfl
           rotate_left
           ·simp only [Act.put, List.setIfInBounds_toArray, List.set_cons_zero, List.set_cons_succ, Zbq, Zbr]
            rfl
           refine Zbx (i := 6) (N := some 105) (v := ?_) (a' := ?_) #[true, true, true, true, true, true, true, false, false, false, false, false, false, false, false, false, false, false, false, false, false, false, false, false, false] rfl rfl (Zbp HT_.out (by kernel_rfl)) (fun _ _ _ h => h) (Or.inl ⟨by rfl, ?_⟩) ?_ ?_
           rotate_left
           ·intro w'
            go_simp
            with_reducible rfl
           rotate_left
           ·simp only [Act.put, List.setIfInBounds_toArray, List.set_cons_zero, List.set_cons_succ, Zbq, Zbr]
            rfl
           refine Zbx (i := 7) (N := some 106) (v := ?_) (a' := ?_) #[true, true, true, true, true, true, true, true, false, false, false, false, false, false, false, false, false, false, false, false, false, false, false, false, false] rfl rfl (Zbp HT_.out (by kernel_rfl)) (fun _ _ _ h => h) (Or.inl ⟨by rfl, ?_⟩) ?_ ?_
           rotate_left
           ·intro w'
            go_simp
            with_reducible rfl
           rotate_left
           ·simp only [Act.put, List.setIfInBounds_toArray, List.set_cons_zero, List.set_cons_succ, Zbq, Zbr]
            rfl
           refine Zbx (i := 9) (N := some 108) (v := ?_) (a' := ?_) #[true, true, true, true, true, true, true, true, false, true, false, false, false, false, false, false, false, false, false, false, false, false, false, false, false] rfl rfl (Zbp HT_.out (by kernel_rfl)) (fun _ _ _ h => h) (Or.inl ⟨by rfl, ?_⟩) ?_ ?_
           rotate_left
           ·intro w'
            go_simp
            with_reducible rfl
           rotate_left
           ·simp only [Act.put, List.setIfInBounds_toArray, List.set_cons_zero, List.set_cons_succ, Zbq, Zbr]
            rfl
           refine Zbx (i := 15) (N := some 114) (v := ?_) (a' := ?_) #[true, true, true, true, true, true, true, true, false, true, false, false, false, false, false, true, false, false, false, false, false, false, false, false, false] rfl rfl (Zbp HT_.out (by kernel_rfl)) (fun _ _ _ h => h) (Or.inl ⟨by rfl, ?_⟩) ?_ ?_
           rotate_left
           ·intro w'
            go_simp
            with_reducible rfl
           rotate_left
           ·simp only [Act.put, List.setIfInBounds_toArray, List.set_cons_zero, List.set_cons_succ, Zbq, Zbr]
            rfl
           refine Zbx (i := 16) (N := some 115) (v := ?_) (a' := ?_) #[true, true, true, true, true, true, true, true, false, true, false, false, false, false, false, true, true, false, false, false, false, false, false, false, false] rfl rfl (Zbp HT_.out (by kernel_rfl)) (fun _ _ _ h => h) (Or.inl ⟨by rfl, ?_⟩) ?_ ?_
           rotate_left
           ·intro w'
            go_simp
            with_reducible rfl
           rotate_left
           ·simp only [Act.put, List.setIfInBounds_toArray, List.set_cons_zero, List.set_cons_succ, Zbq, Zbr]
            rfl
           refine Zbx (i := 18) (N := some 117) (v := ?_) (a' := ?_) #[true, true, true, true, true, true, true, true, false, true, false, false, false, false, false, true, true, false, true, false, false, false, false, false, false] rfl rfl (Zbp HT_.out (by kernel_rfl)) (fun _ _ _ h => h) (Or.inl ⟨by rfl, ?_⟩) ?_ ?_
           rotate_left
           ·intro w'
            go_simp
            with_reducible rfl
           rotate_left
           ·simp only [Act.put, List.setIfInBounds_toArray, List.set_cons_zero, List.set_cons_succ, Zbq, Zbr]
            rfl
           refine Zbx (i := 19) (N := some 118) (v := ?_) (a' := ?_) #[true, true, true, true, true, true, true, true, false, true, false, false, false, false, false, true, true, false, true, true, false, false, false, false, false] rfl rfl (Zbp HT_.out (by kernel_rfl)) (fun _ _ _ h => h) (Or.inl ⟨by rfl, ?_⟩) ?_ ?_
           rotate_left
           ·intro w'
            go_simp
            with_reducible rfl
           rotate_left
           ·simp only [Act.put, List.setIfInBounds_toArray, List.set_cons_zero, List.set_cons_succ, Zbq, Zbr]
            rfl
           refine Zbx (i := 20) (N := some 119) (v := ?_) (a' := ?_) #[true, true, true, true, true, true, true, true, false, true, false, false, false, false, false, true, true, false, true, true, true, false, false, false, false] rfl rfl (Zbp HT_.out (by kernel_rfl)) (fun _ _ _ h => h) (Or.inl ⟨by rfl, ?_⟩) ?_ ?_
           rotate_left
           ·intro w'
            go_simp
            with_reducible rfl
           rotate_left
           ·simp only [Act.put, List.setIfInBounds_toArray, List.set_cons_zero, List.set_cons_succ, Zbq, Zbr]
            rfl
           refine Zdf (i := 8) (N := some 107) (v := ?_) (a' := ?_) #[true, true, true, true, true, true, true, true, true, true, false, false, false, false, false, true, true, false, true, true, true, false, false, false, false] rfl rfl (Zci HT_.out HW_.out (by kernel_rfl)) (fun _ _ _ h => h) (Or.inl ⟨by rfl, ?_⟩) hHeld ?_ ?_
           rotate_left
           ·rintro w' ⟨s0, s1, s2, s3, s4, s5, s6, s7, s8, s9⟩
            go_simp
            with_reducible rfl
           rotate_left
           ·simp only [Act.put, List.setIfInBounds_toArray, List.set_cons_zero, List.set_cons_succ, Zbq, Zbr]
            rfl
           refine Zbx (i := 10) (N := some 109) (v := ?_) (a' := ?_) #[true, true, true, true, true, true, true, true, true, true, true, false, false, false, false, true, true, false, true, true, true, false, false, false, false] rfl rfl (Zbp HT_.out (by kernel_rfl)) (fun _ _ _ h => h) (Or.inl ⟨by rfl, ?_⟩) ?_ ?_
           rotate_left
           ·intro w'
            go_simp
            with_reducible rfl
           rotate_left
           ·simp only [Act.put, List.setIfInBounds_toArray, List.set_cons_zero, List.set_cons_succ, Zbq, Zbr]
            rfl
           refine Zdf (i := 11) (N := some 110) (v := ?_) (a' := ?_) #[true, true, true, true, true, true, true, true, true, true, true, true, false, false, false, true, true, false, true, true, true, false, false, false, false] rfl rfl (Zci HT_.out HW_.out (by kernel_rfl)) (fun _ _ _ h => h) (Or.inl ⟨by rfl, ?_⟩) hHeld ?_ ?_
           rotate_left
           ·rintro w' ⟨s0, s1, s2, s3, s4, s5, s6, s7, s8, s9⟩
            go_simp
            with_reducible rfl
           rotate_left
           ·simp only [Act.put, List.setIfInBounds_toArray, List.set_cons_zero, List.set_cons_succ, Zbq, Zbr]
            rfl
           refine Zbx (i := 12) (N := some 111) (v := ?_) (a' := ?_) #[true, true, true, true, true, true, true, true, true, true, true, true, true, false, false, true, true, false, true, true, true, false, false, false, false] rfl rfl (Zbp HT_.out (by kernel_rfl)) (fun _ _ _ h => h) (Or.inl ⟨by rfl, ?_⟩) ?_ ?_
           rotate_left
           ·intro w'
            go_simp
            with_reducible rfl
           rotate_left
           ·simp only [Act.put, List.setIfInBounds_toArray, List.set_cons_zero, List.set_cons_succ, Zbq, Zbr]
            rfl
           refine Zdf (i := 13) (N := some 112) (v := ?_) (a' := ?_) #[true, true, true, true, true, true, true, true, true, true, true, true, true, true, false, true, true, false, true, true, true, false, false, false, false] rfl rfl (Zci HT_.out HW_.out (by kernel_rfl)) (fun _ _ _ h => h) (Or.inl ⟨by rfl, ?_⟩) hHeld ?_ ?_
           rotate_left
           ·rintro w' ⟨s0, s1, s2, s3, s4, s5, s6, s7, s8, s9⟩
            go_simp
            with_reducible rfl
           rotate_left
           ·simp only [Act.put, List.setIfInBounds_toArray, List.set_cons_zero, List.set_cons_succ, Zbq, Zbr]
            rfl
           refine Zdf (i := 17) (N := some 116) (v := ?_) (a' := ?_) #[true, true, true, true, true, true, true, true, true, true, true, true, true, true, false, true, true, true, true, true, true, false, false, false, false] rfl rfl (Zci HT_.out HW_.out (by kernel_rfl)) (fun _ _ _ h => h) (Or.inl ⟨by rfl, ?_⟩) hHeld ?_ ?_
           rotate_left
           ·rintro w' ⟨s0, s1, s2, s3, s4, s5, s6, s7, s8, s9⟩
            go_simp
            with_reducible rfl
           rotate_left
           ·simp only [Act.put, List.setIfInBounds_toArray, List.set_cons_zero, List.set_cons_succ, Zbq, Zbr]
            rfl
           refine Zbx (i := 21) (N := some 120) (v := ?_) (a' := ?_) #[true, true, true, true, true, true, true, true, true, true, true, true, true, true, false, true, true, true, true, true, true, true, false, false, false] rfl rfl (Zbp HT_.out (by kernel_rfl)) (fun _ _ _ h => h) (Or.inl ⟨by rfl, ?_⟩) ?_ ?_
           rotate_left
           ·intro w'
            go_simp
            with_reducible rfl
           rotate_left
           ·simp only [Act.put, List.setIfInBounds_toArray, List.set_cons_zero, List.set_cons_succ, Zbq, Zbr]
            rfl
           refine one_ (i := 14) (N := some 113) #[true, true, true, true, true, true, true, true, true, true, true, true, true, true, true, true, true, true, true, true, true, true, false, false, false] rfl rfl (Zdp HT_.out (by kernel_rfl)) (by decide) (fun K hK => ?_)
           refine goes_ Try.func29 (by kernel_rfl) rfl #[.slice A681_0 (Zcn t675 (rd t628 x15_4)).length c681_0] (by rfl) rfl rfl (by (try simp only [List.map_toArray, List.map_cons, List.map_nil]); first | done | rfl | (simp only [List.length_drop, List.length_take]; rfl)) ?_
           with_reducible refine (Zak.calls kj56 _ _ (Zcn t675 (rd t628 x15_4)) t682 _ ?side1 ?side2 A71.out).mono ?_
           (case side1 => repeat (first | exact (by repeat (first | (with_reducible exact HR681_0.out) | (with_reducible refine Kd.C_alloc ?_ _) | (with_reducible refine Kd.Za0 ?_ _) | (with_reducible refine Kd.C_drew ?_) | exact HR681_0.out)) | (with_reducible refine Kd.C_alloc ?_ _) | (with_reducible refine Kd.Za0 ?_ _) | (with_reducible refine Kd.C_drew ?_)))
           (case side2 => exact HC681_0.out)
           rintro e w81 ⟨v683, rfl, ho0, hb⟩
           have HS7_ := (hb.cell (World.block_lt_of_cell? _ _ (hHeld.2.2.2.2.2.2.2.1))).trans (hHeld.2.2.2.2.2.2.2.1)
           have HS8_ := (hb.cell (World.block_lt_of_cell? _ _ (hHeld.2.2.2.2.2.2.2.2.1))).trans (hHeld.2.2.2.2.2.2.2.2.1)
           have HS9_ := (hb.cell (World.block_lt_of_cell? _ _ (hHeld.2.2.2.2.2.2.2.2.2))).trans (hHeld.2.2.2.2.2.2.2.2.2)
           refine ⟨_, rfl, ?_⟩
           have n0_ := Zaa.mk (Kd.Zb8 (mvS HO_3.out) hb)
           have n1_ := Zaa.mk (Kd.Zc5 (mvS HO_6.out) (Kd.Zco ho0) hb)
           have n2_ := Zaa.mk (Kd.Zb8 (mvS HO_13.out) hb)
           have n3_ := Zaa.mk (Kd.Zcs (mvR HO_642001.out) (Kd.Zco ho0) hb)
           have n4_ := Zaa.mk (Kd.Zcs (mvR HO_642002.out) (Kd.Zco ho0) hb)
           have n5_ := Zaa.mk (Kd.Zc5 (mvS HO_642005.out) (Kd.Zco ho0) hb)
           have n6_ := Zaa.mk (Kd.Zcs (mvR HO_665001.out) (Kd.Zco ho0) hb)
           have n7_ := Zaa.mk (Kd.Zcs (mvR HO_665002.out) (Kd.Zco ho0) hb)
           have n8_ := Zaa.mk (Kd.Zb3 (mvR HL681_0.out) hb)
           have n9_ := Zaa.mk (Kd.Zcs (mvR HL685_0.out) (Kd.Zco ho0) hb)
           have n10_ := Zaa.mk (Kd.Zb9 (Kd.Zc8 (Kd.Zc8 (Kd.Zc8 (Kd.Zc8 (Kd.Zc8 ho0 (Kd.R_lt (mvR HO_642001.out))) (Kd.R_lt (mvR HO_642002.out))) (Kd.R_lt (mvR HO_665001.out))) (Kd.R_lt (mvR HO_665002.out))) (Kd.R_lt (mvR HL685_0.out))) (Zal (mvB HB.out)))
           have n11_ := Zaa.mk (Zbb (g := gb623) (o := .cells #[.slice A0_0 l0_0.length c0_0, .int .i64 a0_1, .slice A0_2 l0_2.length c0_2, .slice A0_3 l0_3.length c0_3, .int .i64 a0_4, .int .i64 a0_5, .slice A0_6 l0_6.length c0_6, .int .i64 a0_7, .slice A0_8 l0_8.length c0_8, .slice A0_9 l0_9.length c0_9] 27 (0, 0)) (mvK BK623.out) hb)
           have n12_ := Zaa.mk (Zbb (g := gb641) (o := .cells #[.int .i64 t627, .slice (some ad680) t628.length co11, .slice Ao12 t631.length co12, .int .i64 t634, .int .i64 t635, .slice Ao13 t636.length co13, .int .i64 t639] 25 (0, 0)) (mvK BK641.out) hb)
           have n13_ := Zaa.mk (Zbb (g := gb664) (o := .cells #[.int .i64 t651, .slice Ao35 t652.length co35, .slice Ao36 t655.length co36, .int .i64 t658, .int .i64 t659, (.slice _ y671.length co25), .int .i64 t663] 25 (0, 0)) (mvK BK664.out) hb)
           have n14_ := Zaa.mk (Kd.Zbj (by first | (with_reducible exact HR681_0.out) | (with_reducible exact Kd.Za0 HR681_0.out _) | (with_reducible exact Kd.C_drew HR681_0.out) | repeat (first | (with_reducible exact HR681_0.out) | (with_reducible refine Kd.C_alloc ?_ _) | (with_reducible refine Kd.Za0 ?_ _) | (with_reducible refine Kd.C_drew ?_) | exact HR681_0.out)) hb)
           have n15_ := Zaa.mk (Kd.Zbj (by first | (with_reducible exact HR685_0.out) | (with_reducible exact Kd.Za0 HR685_0.out _) | (with_reducible exact Kd.C_drew HR685_0.out) | repeat (first | (with_reducible exact HR685_0.out) | (with_reducible refine Kd.C_alloc ?_ _) | (with_reducible refine Kd.Za0 ?_ _) | (with_reducible refine Kd.C_drew ?_) | exact HR685_0.out)) hb)
           have n16_ := Zaa.mk (Kd.Zbj (by first | (with_reducible exact HR689.out) | (with_reducible exact Kd.Za0 HR689.out _) | (with_reducible exact Kd.C_drew HR689.out) | repeat (first | (with_reducible exact HR689.out) | (with_reducible refine Kd.C_alloc ?_ _) | (with_reducible refine Kd.Za0 ?_ _) | (with_reducible refine Kd.C_drew ?_) | exact HR689.out)) hb)
           have n17_ := Zaa.mk (Zay (mvB HB.out) hb)
           clear HO_3
           clear HO_6
           clear HO_13
           clear HO_642001
           clear HO_642002
           clear HO_642005
           clear HO_665001
           clear HO_665002
           clear HL681_0
           clear HL685_0
           clear BK623
           clear BK641
           clear BK664
           clear HR681_0
           clear HR685_0
           clear HR689
           clear HB
           have HO_3 := n0_
           have HO_6 := n1_
           have HO_13 := n2_
           have HO_642001 := n3_
           have HO_642002 := n4_
           have HO_642005 := n5_
           have HO_665001 := n6_
           have HO_665002 := n7_
           have HL681_0 := n8_
           have HL685_0 := n9_
           have HO684 := n10_
           have BK623 := n11_
           have BK641 := n12_
           have BK664 := n13_
           have HR681_0 := n14_
           have HR685_0 := n15_
           have HR689 := n16_
           have HB := n17_
           clear n0_ n1_ n2_ n3_ n4_ n5_ n6_ n7_ n8_ n9_ n10_ n11_ n12_ n13_ n14_ n15_ n16_ n17_
           (try clear hb)
           (try clear hb2)
           (try clear hk)
           (try clear hi)
           (try clear ho0)
           obtain ⟨Ao82, co82, eo82⟩ := Kd.Zcb HO684.out
           (first | subst eo82 | (injection eo82 with f1_ f2_ f3_; have f4_ := f1_.symm; have f5_ := f3_.symm; clear f1_ f2_ f3_; subst f4_; subst f5_))
           refine hK.out _ _ ⟨(Zax BK641.out 0).trans rfl, (Zax BK641.out 1).trans rfl, (Zax BK641.out 2).trans rfl, (Zax BK641.out 3).trans rfl, (Zax BK641.out 4).trans rfl, (Zax BK641.out 5).trans rfl, (Zax BK641.out 6).trans rfl, HS7_, HS8_, HS9_⟩ (fun hHeld => ?_)
           clear hK K
           refine Ze2 (a' := ?_) ?_ ?_
           rotate_left
           ·show Act.put _ (some 113) _ = _
            simp only [Act.put, List.setIfInBounds_toArray, List.set_cons_zero, List.set_cons_succ, Zbq, Zbr]
            rfl
           refine one_ (i := 22) (N := some 121) #[true, true, true, true, true, true, true, true, true, true, true, true, true, true, true, true, true, true, true, true, true, true, true, false, false] rfl rfl (Zdp HT_.out (by kernel_rfl)) (by decide) (fun K hK => ?_)
           refine goes_ Try.func28 (by kernel_rfl) rfl #[.slice Ao82 t682.length co82, .slice A80 y686.length c80] (by rfl) rfl rfl (by (try simp only [List.map_toArray, List.map_cons, List.map_nil]); first | done | rfl | (simp only [List.length_drop, List.length_take]; rfl)) ?_
           with_reducible refine (Zam.calls kj56 _ _ t682 _ _ y686 true _ ?side1 ?side2 ?side3 ?side4 A76.out).mono ?_
           (case side1 => repeat (first | exact (Kd.Zbi HO684.out).2.2 | (with_reducible refine Kd.C_alloc ?_ _) | (with_reducible refine Kd.Za0 ?_ _) | (with_reducible refine Kd.C_drew ?_)))
           (case side2 => exact (Kd.Zbi HO684.out).2.1)
           (case side3 => repeat (first | exact (by repeat (first | (with_reducible exact HR689.out) | (with_reducible refine Kd.C_alloc ?_ _) | (with_reducible refine Kd.Za0 ?_ _) | (with_reducible refine Kd.C_drew ?_) | exact HR689.out)) | (with_reducible refine Kd.C_alloc ?_ _) | (with_reducible refine Kd.Za0 ?_ _) | (with_reducible refine Kd.C_drew ?_)))
           (case side4 => exact HC689.out)
           rintro e w' ⟨rfl, ⟨nd, rfl⟩⟩
           refine ⟨_, rfl, ?_⟩
           refine hK.out _ _ ⟨(Zax BK641.out 0).trans rfl, (Zax BK641.out 1).trans rfl, (Zax BK641.out 2).trans rfl, (Zax BK641.out 3).trans rfl, (Zax BK641.out 4).trans rfl, (Zax BK641.out 5).trans rfl, (Zax BK641.out 6).trans rfl, hHeld.2.2.2.2.2.2.2.1, hHeld.2.2.2.2.2.2.2.2.1, hHeld.2.2.2.2.2.2.2.2.2⟩ (fun hHeld => ?_)
           clear hK K
           refine Ze2 (a' := ?_) ?_ ?_
           rotate_left
           ·show Act.put _ (some 121) _ = _
            simp only [Act.put, List.setIfInBounds_toArray, List.set_cons_zero, List.set_cons_succ, Zbq, Zbr]
            rfl
           refine Zbx (i := 23) (N := some 122) (v := ?_) (a' := ?_) #[true, true, true, true, true, true, true, true, true, true, true, true, true, true, true, true, true, true, true, true, true, true, true, true, false] rfl rfl (Zbp HT_.out (by kernel_rfl)) (fun _ _ _ h => h) (Or.inl ⟨by rfl, ?_⟩) ?_ ?_
           rotate_left
           ·intro w'
            go_simp
            with_reducible rfl
           rotate_left
           ·simp only [Act.put, List.setIfInBounds_toArray, List.set_cons_zero, List.set_cons_succ, Zbq, Zbr]
            rfl
           refine Zbx (i := 24) (N := some 123) (v := ?_) (a' := ?_) #[true, true, true, true, true, true, true, true, true, true, true, true, true, true, true, true, true, true, true, true, true, true, true, true, true] rfl rfl (Zbp HT_.out (by kernel_rfl)) (fun _ _ _ h => h) (Or.inl ⟨by rfl, ?_⟩) ?_ ?_
           rotate_left
           ·intro w'
            go_simp
            with_reducible rfl
           rotate_left
           ·simp only [Act.put, List.setIfInBounds_toArray, List.set_cons_zero, List.set_cons_succ, Zbq, Zbr]
            rfl
           refine Zfd (Zdk HT_.out (by kernel_rfl)) ?_
           try go_wp2
           go_roundg kj56
           case measure => have := HK1.out; have := HJ23.out; have := HJ43.out; have := HK4.out; have := HJ56.out; omega
           case rel => exact ⟨(wrap64 (x15_4 + 1)), (by first | rfl | (simp; done) | (simp [*]; done)), H', ⟨by have := HK1.out; have := HJ23.out; have := HJ43.out; have := HK4.out; have := HJ56.out; omega⟩, ⟨by (with_reducible repeat (first | apply Kd.S_alloc | apply Kd.Zbe | apply Kd.Zbk)); exact HO_3.out⟩, ⟨by (with_reducible repeat (first | apply Kd.S_alloc | apply Kd.Zbe | apply Kd.Zbk)); exact Kd.Zb4 HO_6.out (fun _ hk => ⟨hk.1.1, ⟨hk.1.2.1, ⟨hk.1.2.2.1, ⟨hk.1.2.2.2.1, hk.1.2.2.2.2⟩⟩⟩⟩)⟩, ⟨by (with_reducible repeat (first | apply Kd.S_alloc | apply Kd.Zbe | apply Kd.Zbk)); exact HO_13.out⟩, ⟨by (with_reducible repeat (first | apply Kd.R_alloc | apply Kd.Zap | apply Kd.Zav)); exact Kd.Zbs HO_642001.out (fun _ hk => ⟨hk.1.1, ⟨hk.1.2.1, hk.1.2.2⟩⟩)⟩, ⟨by (with_reducible repeat (first | apply Kd.R_alloc | apply Kd.Zap | apply Kd.Zav)); exact Kd.Zbs HO_642002.out (fun _ hk => ⟨hk.1.1, ⟨hk.1.2.1, hk.1.2.2⟩⟩)⟩, ⟨by (with_reducible repeat (first | apply Kd.S_alloc | apply Kd.Zbe | apply Kd.Zbk)); exact Kd.Zb4 HO_642005.out (fun _ hk => ⟨hk.1.1, ⟨hk.1.2.1, ⟨hk.1.2.2.1, ⟨hk.1.2.2.2.1, hk.1.2.2.2.2⟩⟩⟩⟩)⟩, ⟨by (with_reducible repeat (first | apply Kd.R_alloc | apply Kd.Zap | apply Kd.Zav)); exact Kd.Zbs HO_665001.out (fun _ hk => ⟨hk.1.1, ⟨hk.1.2.1, hk.1.2.2⟩⟩)⟩, ⟨by (with_reducible repeat (first | apply Kd.R_alloc | apply Kd.Zap | apply Kd.Zav)); exact Kd.Zbs HO_665002.out (fun _ hk => ⟨hk.1.1, ⟨hk.1.2.1, hk.1.2.2⟩⟩)⟩, ⟨by (with_reducible repeat (first | refine Zag ?_ _ | refine Zah ?_ | refine Zae ?_ _)); exact BK623.out⟩, ⟨by (with_reducible repeat (first | refine Zag ?_ _ | refine Zah ?_ | refine Zae ?_ _)); exact BK641.out⟩, ⟨by (with_reducible repeat (first | refine Zag ?_ _ | refine Zah ?_ | refine Zae ?_ _)); exact BK664.out⟩, ⟨by repeat (first | (with_reducible first | exact HB.out | apply Zac | apply Za | apply Zab | refine Zaf ?_ GE623.out | refine Zaf ?_ GE641.out | refine Zaf ?_ GE664.out) | exact HB.out)⟩⟩
end Go.Proofs.Ytpbcigilipdedaa.P
/- TableOnly: one row alone leaves just its values; rows that may be, as a table of their own, leave the same. -/
namespace Go.Proofs.Ytpbcigilipdedaa.P
open Go.RowKit Go.Proofs.YtpbcigilipdedaaW.PrintWords Go.Proofs.YtpbcigilipdedaaW.PrintLast Go.Proofs.YtpbcigilipdedaaW.PrintMore
set_option linter.unusedVariables false
set_option linter.unusedSimpArgs false

theorem Zee : Ev (fun k => (Zb.f k).bind fun t => some t) true := Ev.bind (Ev.pure true) (Ev.pure true)
theorem own_ev (kd : Int) (vars coefs : List Int) (op rhs : Int) (rows : List (List Int)) (b : Int) (hv : vars.length < 17592186044000) (hc : coefs.length < 17592186044000) (hr : rows.length < 5000000000000) (hin : ∀ x ∈ rows, x.length < 17592186044000) :
    Ev (fun k => Zbc.f k kd vars coefs op rhs rows b) (kd, vars, coefs, op, rhs, rows, b) := by
  unfold Zbc.f
  refine Ev.bind (Ev.pure _) (Ev.Zcl (by simp; omega) (Ev.bind (Ev.pure _) (Ev.Zcl (by simp; omega) ?_)))
  exact Ev.bind (ref_Copy rows (by omega) (fun x hx => by have := hin x hx; omega)) (by simpa using Ev.pure _)
theorem vals_one {o : List Rg} {q : Int → Prop} (h : DomIs o q) {x : Int} (e : ∀ v, q v ↔ v = x) : vals o = [x] :=
  SS.ext (Zf0 h.1) (List.pairwise_singleton _ _) (fun v => (Zds v o).trans ((h.2 v).trans ((e v).trans List.mem_singleton.symm)))
section
variable {d n : List (List Rg)} {vars : List Int} {rows keep : List (List Int)} {r0 : List Int} (kd : Int) (coefs : List Int) (op rhs b : Int)
  (hd : Doms d) (hm : ∀ v ∈ vars, 0 ≤ v ∧ v < (d.length : Int)) (hvl : vars.length ≤ 64)
include hd hm hvl
/-- The values that one row alone leaves. -/
theorem only_l1 (hn : n.length = d.length) (hcol : ∀ i (h : i < vars.length), vals (dv n vars[i]) = [r0.getD i 0] ∧ ∃ c, Gd 1048576 c (dv n vars[i]) ∧ -1048576 ≤ c) (hk : keep.head? = some r0) (hr0 : r0.length = vars.length) :
    ∀ (m i : Nat), i + m = vars.length → Ev (fun k => Zad.l1 k d keep n true (i : Int) kd vars coefs op rhs rows b) true := by
  have h64 := hd.1
  have hkl : 0 < keep.length := by cases keep with | nil => cases hk | cons _ _ => simp
  have e0 : Zbz keep 0 = r0 := by
    cases keep with
    | nil => cases hk
    | cons a l => obtain rfl := Option.some.inj hk; rfl
  intro m
  induction m with
  | zero =>
    intro i h
    refine Ev.step (fun k => by rw [Zad.l1, if_neg (by omega)]) (Ev.step (fun k => by rw [Zad.j4, if_neg Bool.false_ne_true, if_pos rfl]) Zee)
  | succ m ih =>
    intro i h
    have hi : i < vars.length := by omega
    obtain ⟨v0, v1⟩ := hm _ (List.getElem_mem hi)
    obtain ⟨hv, c, hg, hc⟩ := hcol i hi
    refine Ev.step (fun k => by rw [Zad.l1, if_pos (by omega)]) (Ev.step (fun k => by rw [Zad.j4, if_pos rfl, if_pos (by omega), if_pos (by omega), if_pos (by omega), Zck vars i hi, if_pos v0, if_pos (by omega), rdRt]) ?_)
    refine Ev.bind (Zgd _ hg hc) (Ev.Zcl (by omega) ?_)
    simp only [w1 (show i < 4611686018427387904 by omega), e0]
    refine Ev.Zcl (by omega) (Ev.Zcl (by omega) ?_)
    have ecut : (r0.take (((i + 1 : Nat) : Int)).toNat).drop ((i : Int)).toNat = [r0.getD i 0] := by
      rw [Int.toNat_natCast, Int.toNat_natCast, List.take_succ_eq_append_getElem (by omega), List.drop_append_of_le_length (by rw [List.length_take]; omega), List.drop_of_length_le (by rw [List.length_take]; omega), List.getD_eq_getElem?_getD, List.getElem?_eq_getElem (by omega)]
      rfl
    rw [ecut, hv]
    exact Ev.bind (ref_Nums _ _ (by simp)) (Ev.Zcl (by simp) (ih (i + 1) (by omega)))
end
set_option maxHeartbeats 2000000 in
theorem law_TableOnly (A0 : Option Addr) (c0 : Nat) (x0 : List (List Int)) (x1 : Int) (A2 : Option Addr) (c2 : Nat) (x2 : List Int) (A3 : Option Addr) (c3 : Nat) (x3 : List Int) (x4 x5 : Int) (A6 : Option Addr) (c6 : Nat) (x6 : List (List Int)) (x7 : Int) (A8 : Option Addr) (c8 : Nat) (x8 : List Int) (A9 : Option Addr) (c9 : Nat) (x9 : List Int) (W : World)
    (hC0 : (Kd.slice 3 (Kd.int .i64)).C W A0 x0.length x0) (hc0 : x0.length ≤ c0) (ok0 : x0.length * 24 ≤ 140737488351232 ∧ ∀ x ∈ x0, x.length * 8 ≤ 140737488351232 ∧ ∀ y ∈ x, (Lit.int .i64 y).wf = true) (ok1 : (Lit.int .i64 x1).wf = true)
    (hC2 : (Kd.int .i64).C W A2 x2.length x2) (hc2 : x2.length ≤ c2) (ok2 : x2.length * 8 ≤ 140737488351232 ∧ ∀ y ∈ x2, (Lit.int .i64 y).wf = true)
    (hC3 : (Kd.int .i64).C W A3 x3.length x3) (hc3 : x3.length ≤ c3) (ok3 : x3.length * 8 ≤ 140737488351232 ∧ ∀ y ∈ x3, (Lit.int .i64 y).wf = true) (ok4 : (Lit.int .i64 x4).wf = true) (ok5 : (Lit.int .i64 x5).wf = true)
    (hC6 : (Kd.slice 3 (Kd.int .i64)).C W A6 x6.length x6) (hc6 : x6.length ≤ c6) (ok6 : x6.length * 24 ≤ 140737488351232 ∧ ∀ x ∈ x6, x.length * 8 ≤ 140737488351232 ∧ ∀ y ∈ x, (Lit.int .i64 y).wf = true) (ok7 : (Lit.int .i64 x7).wf = true)
    (hC8 : (Kd.int .i64).C W A8 x8.length x8) (hc8 : x8.length ≤ c8) (ok8 : x8.length * 8 ≤ 140737488351232 ∧ ∀ y ∈ x8, (Lit.int .i64 y).wf = true)
    (hC9 : (Kd.int .i64).C W A9 x9.length x9) (hc9 : x9.length ≤ c9) (ok9 : x9.length * 8 ≤ 140737488351232 ∧ ∀ y ∈ x9, (Lit.int .i64 y).wf = true) :
    Calls Try.prog 6 #[.agg #[.slice A0 x0.length c0, .int .i64 x1, .slice A2 x2.length c2, .slice A3 x3.length c3, .int .i64 x4, .int .i64 x5, .slice A6 x6.length c6, .int .i64 x7, .slice A8 x8.length c8, .slice A9 x9.length c9]] W fun e W' => e = .returned (.bool true) ∧ Below W.heap.size W W' := by
  have hb : ∀ x ∈ x6, x.length * 8 ≤ 140737488351232 := fun x hx => (ok6.2 x hx).1
  obtain ⟨ok, hL, hok⟩ := laid_ev x0 x1 x2 x3 x4 x5 x6 x7 x8 x9 2 (.inl rfl) ok2.1 ok3.1 ok6.1 hb
  have hE : Ev (fun k => Zad.f k x0 x1 x2 x3 x4 x5 x6 x7 x8 x9) true := by
    unfold Zad.f
    refine Ev.bind hL ?_
    cases ok with
    | false => exact Ev.Zc7 Bool.false_ne_true Zee
    | true =>
      have hT := (hok rfl).tab
      have hd := domsC_doms x0
      have hdl := Zdr x0
      have hvl := Zft hT.nodup hT.mem
      have hr20 : (x6.take 20).length ≤ 20 := by rw [List.length_take]; omega
      have hrow := hT.row
      have hcf := hT.coefs
      subst hcf
      generalize x6.take 20 = rows at hT hr20 hrow ⊢
      generalize domsC x0 = d at hd hdl hvl hT ⊢
      refine Ev.Zcl rfl ?_
      refine Ev.bind (Rows_ev d 2 x2 [] x4 x5 rows x7 hT.mem (by omega) (by omega) (fun x hx => ⟨(hrow x hx).1, by have := (hrow x hx).1; omega⟩)) ?_
      obtain ⟨keep, hkeep⟩ : ∃ keep, rows.filter (rowIn d x2) = keep := ⟨_, rfl⟩
      have hkl : keep.length ≤ 20 := by rw [← hkeep]; exact Nat.le_trans (List.length_filter_le _ _) hr20
      have hkrow : ∀ r ∈ keep, r.length = x2.length ∧ ∀ x ∈ r, isVal x = true := fun r hr => hrow r (by rw [← hkeep] at hr; exact (List.mem_filter.1 hr).1)
      have hkin : ∀ r ∈ keep, rowIn d x2 r = true := fun r hr => by rw [← hkeep] at hr; exact (List.mem_filter.1 hr).2
      have hkk : keep.filter (rowIn d x2) = keep := List.filter_eq_self.2 hkin
      have hk1 : (keep.take 1).filter (rowIn d x2) = keep.take 1 := List.filter_eq_self.2 (fun r hr => hkin r (List.mem_of_mem_take hr))
      have hOwn := own_ev 2 x2 [] x4 x5 rows x7 (by omega) (by simp) (by omega) (fun x hx => by have := (hrow x hx).1; omega)
      have hP1 := Zfz d hd x2 hT.mem hT.nodup 2 [] x4 x5 rows x7 (by omega) hrow
      have hP2 := Zfz d hd x2 hT.mem hT.nodup 2 [] x4 x5 keep x7 (by omega) hkrow
      have hP3 := Zfz d hd x2 hT.mem hT.nodup 2 [] x4 x5 (keep.take 1) x7 (by rw [List.length_take]; omega) (fun r hr => hkrow r (List.mem_of_mem_take hr))
      rw [hkeep] at hP1 ⊢
      rw [hkk] at hP2
      rw [hk1] at hP3
      -- the same is left of both
      have both : ∃ res : List (List Rg) × Bool, Ev (fun k => Zau.f k d 2 x2 [] x4 x5 rows x7) res ∧ Ev (fun k => Zau.f k d 2 x2 [] x4 x5 keep x7) res ∧ (∀ x ∈ res.1, x.length ≤ 4611686018427387 ) ∧ res.1.length ≤ 64 ∧ (keep = [] → res.2 = false) ∧ (res.2 = true → keep ≠ [] ∧ ∀ x ∈ d, x ≠ []) := by
        rcases hP1 with ⟨he, h1⟩ | ⟨hne, ⟨hk0, h1⟩ | ⟨hk0, l, h1, hl1, hl2, hl3⟩⟩
        · rcases hP2 with ⟨_, h2⟩ | ⟨hne, _⟩
          · exact ⟨_, h1, h2, (fun x hx => by cases hx), by simp, fun _ => rfl, fun h => by cases h⟩
          obtain ⟨x, hx, hx0⟩ := he
          exact absurd hx0 (hne x hx)
        · rcases hP2 with ⟨he, h2⟩ | ⟨_, ⟨_, h2⟩ | ⟨hk1, _⟩⟩
          · obtain ⟨x, hx, hx0⟩ := he
            exact absurd hx0 (hne x hx)
          · exact ⟨_, h1, h2, (fun x hx => by cases hx), by simp, fun _ => rfl, fun h => by cases h⟩
          exact absurd hk0 hk1
        rcases hP2 with ⟨he, h2⟩ | ⟨_, ⟨hk1, _⟩ | ⟨_, m, h2, hm1, hm2, hm3⟩⟩
        · obtain ⟨x, hx, hx0⟩ := he
          exact absurd hx0 (hne x hx)
        · exact absurd hk1 hk0
        have hdv : ∀ j : Int, 0 ≤ j → j < (l.length : Int) → dv l j = dv m j := by
          intro j h0 h9
          by_cases hj : j ∈ x2
          rotate_left
          · rw [hl3 j h0 hj, hm3 j h0 hj]
          obtain ⟨i, hi, rfl⟩ := List.mem_iff_getElem.1 hj
          exact DomIs.eq (hl2 i hi) (hm2 i hi) (fun _ => Iff.rfl)
        have e : l = m := dv_ext (by omega) hdv
        subst e
        refine ⟨_, h1, h2, fun x hx => ?_, by show l.length ≤ 64; rw [hl1]; exact hd.1, fun h => absurd h hk0, fun _ => ⟨hk0, hne⟩⟩
        obtain ⟨j, hj, rfl⟩ := List.mem_iff_getElem.1 hx
        replace hj : j < l.length := hj
        show l[j].length ≤ 4611686018427387
        have hjd : j < d.length := by omega
        have edv : dv l (j : Int) = l[j] := by unfold dv; rw [Int.toNat_natCast, List.getD_eq_getElem?_getD, List.getElem?_eq_getElem hj]; rfl
        have hg : ∃ c, Gd 1048576 c l[j] ∧ -1048576 ≤ c := by
          rw [← edv]
          by_cases hj2 : (j : Int) ∈ x2
          · obtain ⟨i, hi, e⟩ := List.mem_iff_getElem.1 hj2
            rw [← e]
            exact ⟨_, (hl2 i hi).1, Int.le_refl _⟩
          rw [hl3 _ (by omega) hj2]
          have : dv d (j : Int) = d[j] := by unfold dv; rw [Int.toNat_natCast, List.getD_eq_getElem?_getD, List.getElem?_eq_getElem hjd]; rfl
          rw [this]
          exact ⟨_, (hd.2 _ (List.getElem_mem hjd)).1, Int.le_refl _⟩
        obtain ⟨c, hc, hc2⟩ := hg
        have q1 := Zc0 hc
        have q2 := Zem hc
        omega
      obtain ⟨res, h1, h2, hlen, hlen2, hemp, hful⟩ := both
      have hsame := same3_self res.1 (by omega) (fun x hx => by have := hlen x hx; omega)
      -- behind the two calls
      have behind : Ev (fun k => Zad.j1 k d keep res.2 false 2 x2 [] x4 x5 rows x7 2 x2 [] x4 x5 keep x7) true := by
        by_cases hk0 : keep = []
        · refine Ev.step (fun k => by rw [Zad.j1, if_neg Bool.false_ne_true, if_pos (by rw [hk0]; rfl)]) (Ev.step (fun k => by rw [Zad.j2, if_pos rfl, if_neg (by rw [hemp hk0]; exact Bool.false_ne_true)]) Zee)
        have hpos : 0 < keep.length := List.length_pos_iff.2 hk0
        refine Ev.step (fun k => by rw [Zad.j1, if_neg Bool.false_ne_true, if_neg (by omega)]) ?_
        cases hr : res.2 with
        | false => exact Ev.step (fun k => by rw [Zad.j2, if_pos (show (!false) = true from rfl), if_neg Bool.false_ne_true]) Zee
        | true =>
          obtain ⟨_, hne⟩ := hful hr
          refine Ev.step (fun k => by rw [Zad.j2, if_neg (by decide), if_pos (by omega)]) ?_
          rcases hP3 with ⟨he, _⟩ | ⟨_, ⟨hk9, _⟩ | ⟨_, n, h3, hn1, hn2, hn3⟩⟩
          · obtain ⟨x, hx, hx0⟩ := he
            exact absurd hx0 (hne x hx)
          · exfalso
            have := congrArg List.length hk9
            rw [List.length_take, List.length_nil] at this
            omega
          refine Ev.bind h3 ?_
          obtain ⟨r0, hr0⟩ : ∃ r0, keep.head? = some r0 := by
            cases keep with
            | nil => exact absurd rfl hk0
            | cons a l => exact ⟨a, rfl⟩
          have hr0m : r0 ∈ keep := List.mem_of_head? hr0
          have ek : keep.take 1 = [r0] := by
            cases keep with
            | nil => cases hr0
            | cons a l => obtain rfl := Option.some.inj hr0; rfl
          rw [ek] at hn2
          refine only_l1 2 [] x4 x5 x7 hd hT.mem (by omega) hn1 (fun i hi => ⟨vals_one (hn2 i hi) (fun v => ?_), _, (hn2 i hi).1, Int.le_refl _⟩) hr0 (hkrow r0 hr0m).1 x2.length 0 (by omega)
          simp only [List.mem_singleton, exists_eq_left]
          exact eq_comm
      -- the rows' lengths
      have lens : ∀ (m n : Nat), n + m = keep.length → Ev (fun k => Zad.l0 k d keep (n : Int) 2 x2 [] x4 x5 rows x7) true := by
        intro m
        induction m with
        | zero =>
          intro n h
          refine Ev.step (fun k => by rw [Zad.l0, if_neg (by omega)]) (Ev.bind h1 (Ev.bind hOwn (Ev.bind h2 (Ev.Zc7 (show ¬ (res.2 != res.2) = true by cases res.2 <;> decide) (Ev.bind hsame ?_)))))
          exact behind
        | succ m ih =>
          intro n h
          have hn : n < keep.length := by omega
          have := (hkrow _ (List.getElem_mem hn)).1
          refine Ev.step (fun k => by rw [Zad.l0, if_pos (by omega), if_pos (by omega), Zdq keep n hn, if_pos (by omega), w1 (show n < 4611686018427387904 by omega)]) (ih (n + 1) (by omega))
      exact lens keep.length 0 (by omega)
  obtain ⟨k, hk⟩ := hE.out
  exact Zad.calls k A0 c0 x0 x1 A2 c2 x2 A3 c3 x3 x4 x5 A6 c6 x6 x7 A8 c8 x8 A9 c9 x9 true W hC0 hc0 hC2 hc2 hC3 hc3 hC6 hc6 hC8 hc8 hC9 hc9 hk
end Go.Proofs.Ytpbcigilipdedaa.P
/- What a datum of a statement's arguments holds: a number, a text, a row, a struct, whatever is nested: its cells read as a value of the kind; and how long its rows are at most (by the weight of the whole). -/
namespace Go.Proofs.Ytpbcigilipdedaa.P
open Go.RowKit Go.ChangeShapes Go.WideShapes Go.Proofs.YtpbcigilipdedaaW.PrintWords
set_option linter.unusedVariables false

/-- Whatever reads as a datum of type t is a value of kind d, of which ok is true. -/
structure OpensZ {α : Type} (P : Program) (d : Kd α) (ok : α → Prop) (t : TypeId) : Prop where
  out : ∀ {H : Type} (enc : TypeId × Value → H) (w : World) (base : Nat) (sp : Nat → Bool) (held : Bool) (fuel : Nat) (cs : List Value) (x : DataW H × List MemPlace),
    DataW.trod enc P w base sp held fuel t cs = some x → (∀ n ∈ x.1.weights P t, n ≤ reachBytes) → ∃ v : α, d.K w v cs ∧ ok v
theorem OpensZ.int {P : Program} {t : TypeId} {k : IntKind} (ht : P.underlying t = some (.int k)) : OpensZ P (Kd.int k) (fun n => (Lit.int k n).wf = true) t := by
  refine ⟨?_⟩
  intro H enc w base sp held fuel cs x h hz
  obtain ⟨n, rfl, rfl, hw⟩ := DataW.trod_int ht h
  exact ⟨n, rfl, hw⟩
theorem OpensZ.bool {P : Program} {t : TypeId} (ht : P.underlying t = some .bool) : OpensZ P Kd.bool (fun _ => True) t := by
  refine ⟨?_⟩
  intro H enc w base sp held fuel cs x h hz
  obtain ⟨b, rfl, rfl⟩ := DataW.trod_bool ht h
  exact ⟨b, rfl, trivial⟩
theorem OpensZ.string {P : Program} {t : TypeId} (ht : P.underlying t = some .string) : OpensZ P Kd.string (fun s => s.size ≤ maxLen) t := by
  refine ⟨?_⟩
  intro H enc w base sp held fuel cs x h hz
  obtain ⟨s, rfl, rfl, hs⟩ := DataW.trod_string ht h
  exact ⟨s, rfl, hs⟩
theorem OpensZ.iso {α β : Type} {P : Program} {d : Kd α} {ok : α → Prop} {t : TypeId} (h : OpensZ P d ok t) (f : β → α) (g : α → β) (hfg : ∀ a, f (g a) = a) : OpensZ P (Kd.iso d f) (fun b => ok (f b)) t := by
  refine ⟨?_⟩
  intro H enc w base sp held fuel cs x hx hz
  obtain ⟨v, hK, hok⟩ := h.out enc w base sp held fuel cs x hx hz
  exact ⟨g v, by show d.K w (f (g v)) cs; rw [hfg]; exact hK, by show ok (f (g v)); rw [hfg]; exact hok⟩
theorem Zey {H : Type} {P : Program} {t e : TypeId} (ht : P.underlying t = some (.slice e)) {el sp : List (DataW H)} : (DataW.slice el sp : DataW H).weights P t = (el.length + sp.length) * P.bytesOf e :: (DataW.weightsAll P e el ++ DataW.weightsAll P e sp) := by simp [DataW.weights, ht]
theorem weights_agg {H : Type} {P : Program} {t : TypeId} {fs : Array Field} (ht : P.underlying t = some (.struct fs)) {ps : List (DataW H)} : (DataW.agg ps : DataW H).weights P t = DataW.weightsEach P (fs.toList.map (·.type)) ps := by simp [DataW.weights, ht]
theorem Zej {H : Type} {P : Program} {e : TypeId} {d : DataW H} : ∀ {l : List (DataW H)}, d ∈ l → ∀ {n : Nat}, n ∈ d.weights P e → n ∈ DataW.weightsAll P e l
  | x :: l, hd, n, hn => by
    simp only [DataW.weightsAll, List.mem_append]
    rcases List.mem_cons.1 hd with rfl | hd
    · exact .inl hn
    exact .inr (Zej hd hn)
theorem choose_list {α : Type} {n : Nat} {R : Nat → α → Prop} (h : ∀ i, i < n → ∃ a, R i a) : ∃ l : List α, l.length = n ∧ ∀ i (hi : i < l.length), R i l[i] := by
  induction n with
  | zero => exact ⟨[], rfl, fun i hi => absurd hi (by simp)⟩
  | succ n ih =>
    obtain ⟨l, hl, hR⟩ := ih (fun i hi => h i (by omega))
    obtain ⟨a, ha⟩ := h n (by omega)
    refine ⟨l ++ [a], by simp [hl], fun i hi => ?_⟩
    rcases Nat.lt_or_ge i l.length with hlt | hge
    · rw [List.getElem_append_left hlt]
      exact hR i hlt
    have : i = l.length := by simp at hi; omega
    subst this
    rw [List.getElem_append_right (by omega)]
    simpa [hl] using ha
theorem addr_add (a : Addr) (i j : Nat) : (a.add i).add j = a.add (i + j) := by
  by_cases h : i = 0
  · subst h; simp [Addr.add]
  by_cases h2 : j = 0
  · subst h2; simp [Addr.add]
  simp [Addr.add, h, h2, Nat.add_assoc]
theorem OpensZ.row {α : Type} {P : Program} {d : Kd α} {ok : α → Prop} {t e : TypeId} {B : Nat} (ht : P.underlying t = some (.slice e)) (hc : P.cellsOf e = d.sz) (hB : P.bytesOf e = B) (h : OpensZ P d ok e) :
    OpensZ P (Kd.slice e d) (fun l => l.length * B ≤ 140737488351232 ∧ ∀ x ∈ l, ok x) t := by
  refine ⟨?_⟩
  intro H enc w base sp held fuel cs x hx hz
  rcases Go.Deep.open_slice ht hx with ⟨rfl, rfl⟩ | ⟨a, len, cap, m, n, D, Pl, rfl, hb, hl, hm, hmm, rfl, he⟩
  · exact ⟨[], ⟨none, 0, rfl, Nat.le_refl _, rfl, by simp, fun h => absurd h (by simp)⟩, by simp, fun x hx => by simp at hx⟩
  have hlm : len ≤ m := by rw [hmm]; split <;> omega
  have each : ∀ i, i < len → ∃ v : α, ok v ∧ ∃ c, c.length = d.sz ∧ d.K w v c ∧ ∀ j u, c[j]? = some u → w.cell? (a.add (i * d.sz + j)) = some u := fun i hi => by
    obtain ⟨cs', h1, h2⟩ := he i (by omega)
    obtain ⟨v, hK, hok⟩ := h.out enc w base sp held n cs' _ h2 (fun q hq => hz q (by
      rw [Zey ht]
      refine List.mem_cons_of_mem _ (List.mem_append_left _ (Zej (d := D i) (List.mem_map.2 ⟨i, List.mem_range.2 hi, rfl⟩) hq))))
    obtain ⟨_, hlen, hcell⟩ := World.cells?_some h1
    rw [hc] at hlen hcell
    refine ⟨v, hok, cs', hlen, hK, fun j u hu => ?_⟩
    have hj : j < d.sz := by rw [← hlen]; exact (List.getElem?_eq_some_iff.1 hu).1
    have := hcell j hj
    rw [hu] at this
    rw [← this, addr_add]
  obtain ⟨l, hll, hR⟩ := choose_list each
  have hmax : cap ≤ 9223372036854775807 := by unfold maxLen at hm; exact hm
  refine ⟨l, ⟨some a, cap, by rw [hll], by omega, rfl, by omega, fun _ => ⟨a, rfl, fun j p hp => ?_⟩⟩, ?_, fun x hx => ?_⟩
  · obtain ⟨hj, rfl⟩ := List.getElem?_eq_some_iff.1 hp
    obtain ⟨_, c, h1, h2, h3⟩ := hR j hj
    exact ⟨c, h1, h2, h3⟩
  · have h3 := hz ((len + (m - len)) * P.bytesOf e) (by rw [Zey ht]; simp)
    rw [hB] at h3
    rw [hll]
    exact Nat.le_trans (Nat.mul_le_mul_right _ (by omega)) h3
  obtain ⟨i, hi, rfl⟩ := List.mem_iff_getElem.1 hx
  exact (hR i hi).1
/-- The fields from an offset on. -/
structure OpensZF {α : Type} (P : Program) (d : Kd α) (ok : α → Prop) (fs : List Field) (off : Nat) : Prop where
  out : ∀ {H : Type} (enc : TypeId × Value → H) (w : World) (base : Nat) (sp : Nat → Bool) (held : Bool) (fuel : Nat) (cs : List Value), cs.length = off + d.sz →
    (∀ f ∈ fs, ∃ x, DataW.trod enc P w base sp held fuel f.type ((cs.drop f.offset).take (P.cellsOf f.type)) = some x ∧ ∀ n ∈ x.1.weights P f.type, n ≤ reachBytes) → ∃ v : α, d.K w v (cs.drop off) ∧ ok v
theorem OpensZF.last {α : Type} {P : Program} {d : Kd α} {ok : α → Prop} {f : Field} {off : Nat} (ho : f.offset = off) (hc : P.cellsOf f.type = d.sz) (h : OpensZ P d ok f.type) : OpensZF P d ok [f] off := by
  refine ⟨?_⟩
  intro H enc w base sp held fuel cs hl hf
  obtain ⟨x, hx, hz⟩ := hf f (by simp)
  rw [ho, hc, List.take_of_length_le (by simp; omega)] at hx
  exact h.out enc w base sp held fuel _ x hx hz
theorem OpensZF.cons {α β : Type} {P : Program} {d : Kd α} {ok : α → Prop} {d' : Kd β} {ok' : β → Prop} {f : Field} {fs : List Field} {off : Nat} (ho : f.offset = off) (hc : P.cellsOf f.type = d.sz) (h : OpensZ P d ok f.type) (h' : OpensZF P d' ok' fs (off + d.sz)) :
    OpensZF P (Kd.pair d d') (fun z => ok z.1 ∧ ok' z.2) (f :: fs) off := by
  refine ⟨?_⟩
  intro H enc w base sp held fuel cs hl hf
  have hl' : cs.length = off + (d.sz + d'.sz) := hl
  obtain ⟨x, hx, hz⟩ := hf f (by simp)
  obtain ⟨v, hK, hok⟩ := h.out enc w base sp held fuel _ x hx hz
  obtain ⟨v', hK', hok'⟩ := h'.out enc w base sp held fuel cs (by omega) (fun g hg => hf g (List.mem_cons_of_mem _ hg))
  rw [ho, hc] at hK
  refine ⟨(v, v'), ⟨(cs.drop off).take d.sz, cs.drop (off + d.sz), ?_, hK, hK'⟩, hok, hok'⟩
  rw [← List.drop_drop, List.take_append_drop]
theorem OpensZ.struct {α : Type} {P : Program} {d : Kd α} {ok : α → Prop} {t : TypeId} {fs : List Field} (ht : P.underlying t = some (.struct fs.toArray)) (hc : P.cellsOf t = d.sz) (h : OpensZF P d ok fs 0) : OpensZ P d ok t := by
  refine ⟨?_⟩
  intro H enc w base sp held fuel cs x hx hz
  obtain ⟨xs, n, rfl, rfl, hl, hxl, hf⟩ := DataW.trod_struct ht hx
  have := h.out enc w base sp held n cs (by omega) (fun f hf' => by
    obtain ⟨i, hi, rfl⟩ := List.mem_iff_getElem.1 hf'
    have := hf i fs[i] (by simp [hi])
    have hix : i < xs.length := by simp at hxl; omega
    rw [List.getElem?_eq_getElem hix] at this
    refine ⟨xs[i], by simpa using this, fun q hq => hz q ?_⟩
    rw [weights_agg ht]
    exact DataW.weights_mem_each (j := i) (t := fs[i].type) (d := xs[i].1) (by simp [hi]) (by simp [hix]) q hq)
  simpa using this
/-- A slice that is an argument. -/
theorem OpensZ.arg {α H : Type} {P : Program} {d : Kd α} {ok : List α → Prop} {e t : TypeId} (h : OpensZ P (Kd.slice e d) ok t) {enc : TypeId × Value → H} {w : World} {base : Nat} {sp : Nat → Bool} {held : Bool} {A : Option Addr} {len cap : Nat} {dt : DataW H} {ps : List MemPlace}
    (hT : DataW.Trod enc P w base sp held t (.slice A len cap) dt ps) (hz : ∀ n ∈ dt.weights P t, n ≤ reachBytes) : ∃ l : List α, l.length = len ∧ l.length ≤ cap ∧ d.C w A l.length l ∧ ok l := by
  obtain ⟨fuel, hf⟩ := hT
  obtain ⟨l, ⟨A', c, hcs, hl, hC⟩, hok⟩ := h.out enc w base sp held fuel _ _ hf hz
  simp [Value.cells] at hcs
  obtain ⟨rfl, rfl, rfl⟩ := hcs
  exact ⟨l, rfl, hl, hC, hok⟩
theorem each_weights {H : Type} {P : Program} {ts : List TypeId} {ds : List (DataW H)} (h : (DataW.weightsEach P ts ds).all (· ≤ reachBytes) = true) {j : Nat} {t : TypeId} {d : DataW H} (ht : ts[j]? = some t) (hd : ds[j]? = some d) : ∀ n ∈ d.weights P t, n ≤ reachBytes := fun n hn => by
  have := List.all_eq_true.1 h n (DataW.weights_mem_each ht hd n hn)
  simpa using this
end Go.Proofs.Ytpbcigilipdedaa.P
