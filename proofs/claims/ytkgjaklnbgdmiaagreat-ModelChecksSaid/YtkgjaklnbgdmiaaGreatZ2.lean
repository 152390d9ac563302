/- Proved: what each function of the program that the statements of this seat reach comes to, for whatever memory and arguments it is called with (on condition that its plain text tells a result). -/
import Derived.Test.YtkgjaklnbgdmiaaGreatZ1
import Derived.Shelf.SlicesG.CompactI
import Derived.Lib.SlicesCompact
/- The closures of model.right and model.Con, and model.row. -/
set_option linter.unusedSimpArgs false
set_option linter.unusedVariables false
set_option maxHeartbeats 8000000
namespace Go.Proofs.YtkgjaklnbgdmiaaGreat.P
open Go.RowKit Go.Shelf Go.Proofs.YtkgjaklnbgdmiaaGreatW.PrintWords Go.Proofs.YtkgjaklnbgdmiaaGreatW.PrintLast Go.Proofs.YtkgjaklnbgdmiaaGreatW.PrintMore
theorem cellB {W W':World} {a:Addr} {v:Value} (hb:Below W.heap.size W W') (hc:W.cell? a=some v):W'.cell? a=some v:=(hb.cell (World.block_lt_of_cell? W _ hc)).trans hc
def farV (x:Int):Bool:=decide (x< -1048576)||decide (1048576<x)
theorem rowPred (x:Int) (w:World):Calls Tryz.prog 82 #[.int .i64 x] w fun e w'=>e= .returned (.bool (farV x))∧∃q,w'=w.drewN q:=by
  unfold farV;by_cases h1:x< -1048576
  · have d1 : decide (x < -1048576) = true := decide_eq_true h1
    go_enter Tryz.func82,Tryz.ntmps82;go_wp2;go_ret;exact⟨by simp[d1],0,rfl⟩
  have d1:decide (x< -1048576)=false:=decide_eq_false h1;go_enter Tryz.func82,Tryz.ntmps82;go_wp2;go_ret;exact⟨by simp[d1],0,rfl⟩
def oddU (x:Int):Bool:=x !=1 && x != -1
theorem oddPred (x:Int) (w:World):Calls Tryz.prog 63 #[.int .i64 x] w fun e w'=>e= .returned (.bool (oddU x))∧∃q,w'=w.drewN q:=by
  unfold oddU;by_cases h1:x=1
  · subst h1
    go_enter Tryz.func63,Tryz.ntmps63;go_wp2;go_ret;exact⟨by simp,0,rfl⟩
  have d1:decide (x=1)=false:=decide_eq_false h1;go_enter Tryz.func63,Tryz.ntmps63;go_wp2;go_ret;exact⟨by simp[d1],0,rfl⟩
def awayV (n:Nat) (x:Int):Bool:=decide (x<0)||decide ((n:Int)≤x)
theorem awayPred (x:Int) (bd:Nat) (A0:Option Addr) (n c0:Nat) (w:World) (hd:w.cell? ⟨bd,0,none⟩=some (.slice A0 n c0)):Calls Tryz.prog 32 #[.int .i64 x,.pointer (some ⟨bd,0,none⟩)] w fun e w'=>e= .returned (.bool (awayV n x))∧∃q,w'=w.drewN q:=by
  unfold awayV;by_cases h1:x<0
  · have d1 : decide (x < 0) = true := decide_eq_true h1
    go_enter Tryz.func32,Tryz.ntmps32;go_wp2;go_ret;exact⟨by simp[d1],0,rfl⟩
  have d1:decide (x<0)=false:=decide_eq_false h1;go_enter Tryz.func32,Tryz.ntmps32;go_wp2;go_ret;exact⟨by simp[d1],0,rfl⟩
def rowOk (vars l:List Int):Bool:=decide ((l.length:Int)=(vars.length:Int)) && !(l.any farV)
theorem row_calls (kd : Int) (A1 : Option Addr) (c1 : Nat) (vars : List Int) (v2 : Value) (op rhs : Int) (v5 : Value) (b : Int) (A : Option Addr) (c : Nat) (l : List Int) (w : World) (hr : Kd.C (Kd.int .i64) w A l.length l) (hc : l.length ≤ c) (hv2 : v2.oneCell' = true) (hv5 : v5.oneCell' = true) :
    Calls Tryz.prog 60 #[.agg #[.int .i64 kd,.slice A1 vars.length c1,v2,.int .i64 op,.int .i64 rhs,v5,.int .i64 b],.slice A l.length c] w fun e w'=>e= .returned (.bool (rowOk vars l))∧Below w.heap.size w w':=by
  have hb0:Below w.heap.size w (w.alloc (.cells #[.int .i64 kd,.slice A1 vars.length c1,v2,.int .i64 op,.int .i64 rhs,v5,.int .i64 b] 40)):=Zb (Below.refl _ _) _;have cC:=fun(W:World) (hW:Below w.heap.size w W)=>Zee farV 82 #[] (enters_of Tryz.func82 (by kernel_rfl) rfl) A c l W (Kd.Zaf hr hW) (fun k _ q=>rowPred _ _)
  have CC:=Za.mk cC;clear cC;unfold rowOk;by_cases hl:(l.length:Int)=(vars.length:Int);rotate_left
  · have d1 : decide ((l.length : Int) = (vars.length : Int)) = false := decide_eq_false hl
    have d2:((l.length:Int)==(vars.length:Int))=false:=d1;go_enter Tryz.func60,Tryz.ntmps60;go_wp2;go_ret;exact⟨by simp[d1],hb0⟩
  have d1:decide ((l.length:Int)=(vars.length:Int))=true:=decide_eq_true hl;have d2:((l.length:Int)==(vars.length:Int))=true:=d1;go_enter Tryz.func60,Tryz.ntmps60
  go_wp2_with (go_at_call 33;go_loud (refine(CC.out _ (Zb (Below.refl _ _) _)).mono ?_;rintro e w' ⟨rfl,q,rfl⟩))
  go_ret;exact⟨by simp[d1],Zb7 hb0 _⟩
structure ConAt (W : World) (bd bc : Nat) (A0 : Option Addr) (c0 : Nat) (l0 : List (List S59)) (kd : Int) (A1 : Option Addr) (c1 : Nat) (vars : List Int) (A2 : Option Addr) (c2 : Nat) (coefs : List Int) (op rhs : Int) (A5 : Option Addr) (c5 : Nat) (rows : List (List Int)) (b : Int) : Prop where
  ed:W.cell? ⟨bd,0,none⟩=some (.slice A0 l0.length c0)
  k0:W.cell? ⟨bc,0,none⟩=some (.int .i64 kd)
  k1:W.cell? ⟨bc,1,none⟩=some (.slice A1 vars.length c1)
  k2:W.cell? ⟨bc,2,none⟩=some (.slice A2 coefs.length c2)
  k3:W.cell? ⟨bc,3,none⟩=some (.int .i64 op)
  k4:W.cell? ⟨bc,4,none⟩=some (.int .i64 rhs)
  k5:W.cell? ⟨bc,5,none⟩=some (.slice A5 rows.length c5)
  k6:W.cell? ⟨bc,6,none⟩=some (.int .i64 b)
  rd:Kd.C (Kd.slice 59 k59) W A0 l0.length l0
  r1:Kd.C (Kd.int .i64) W A1 vars.length vars
  r2:Kd.C (Kd.int .i64) W A2 coefs.length coefs
  r5:Kd.C (Kd.slice 3 (Kd.int .i64)) W A5 rows.length rows
  hd:l0.length≤c0
  h1:vars.length≤c1
  h2:coefs.length≤c2
  h5:rows.length≤c5
theorem ConAt.below {W W' : World} {bd bc : Nat} {A0 : Option Addr} {c0 : Nat} {l0 : List (List S59)} {kd : Int} {A1 : Option Addr} {c1 : Nat} {vars : List Int} {A2 : Option Addr} {c2 : Nat} {coefs : List Int} {op rhs : Int} {A5 : Option Addr} {c5 : Nat} {rows : List (List Int)} {b : Int}
    (h:ConAt W bd bc A0 c0 l0 kd A1 c1 vars A2 c2 coefs op rhs A5 c5 rows b) (hb:Below W.heap.size W W'):ConAt W' bd bc A0 c0 l0 kd A1 c1 vars A2 c2 coefs op rhs A5 c5 rows b:=
  ⟨cellB hb h.ed,cellB hb h.k0,cellB hb h.k1,cellB hb h.k2,cellB hb h.k3,cellB hb h.k4,cellB hb h.k5,cellB hb h.k6,Kd.Zaf h.rd hb,Kd.Zaf h.r1 hb,Kd.Zaf h.r2 hb,Kd.Zaf h.r5 hb,h.hd,h.h1,h.h2,h.h5⟩
section
variable {bd bc:Nat} {A0:Option Addr} {c0:Nat} {l0:List (List S59)} {kd:Int} {A1:Option Addr} {c1:Nat} {vars:List Int} {A2:Option Addr} {c2:Nat} {coefs:List Int} {op rhs:Int} {A5:Option Addr} {c5:Nat} {rows:List (List Int)} {b:Int}
theorem rowBad (W : World) (h : ConAt W bd bc A0 c0 l0 kd A1 c1 vars A2 c2 coefs op rhs A5 c5 rows b) (A : Option Addr) (c : Nat) (l : List Int) (hr : Kd.C (Kd.int .i64) W A l.length l) (hc : l.length ≤ c) :
    Calls Tryz.prog 59 #[.slice A l.length c,.pointer (some ⟨bc,0,none⟩)] W fun e w'=>e= .returned (.bool (!rowOk vars l))∧Below W.heap.size W w':=by
  have cR:=fun(w:World) (hw:Below W.heap.size W w)=>row_calls kd A1 c1 vars (.slice A2 coefs.length c2) op rhs (.slice A5 rows.length c5) b A c l w (Kd.Zaf hr hw) hc rfl rfl
  have CR:=Za.mk cR;have k0:=h.k0;have k1:=h.k1;have k2:=h.k2;have k3:=h.k3;have k4:=h.k4;have k5:=h.k5;have k6:=h.k6;clear cR h
  generalize rowOk vars l=rk at CR ⊢
  obtain⟨wo,rfl⟩:∃wo:World,wo=W:=⟨_,rfl⟩;go_enter Tryz.func59,Tryz.ntmps59
  go_wp2_with (go_at_call 60;go_loud (refine(CR.out _ ?hB).mono ?_;(case hB=>first|exact Below.refl _ _|exact Zb7 (Below.refl _ _) _|exact Zd1 (Below.refl _ _));rintro e w' ⟨rfl,hb⟩))
  go_ret;exact⟨rfl,hb⟩
def truthsL (k : Nat) (l0 : List (List S59)) : List Int → Option (List Bool)
  | [] => some []
  |v::vs=>if 0≤v∧v<(l0.length:Int)then(Zcd.f k (l0.getD v.toNat [])).bind fun t=>(truthsL k l0 vs).bind fun ts=>some (t::ts)else none
theorem Zg0 (k : Nat) (l0 : List (List S59)) : ∀ (l : List Int) (ts : List Bool), truthsL k l0 l = some ts → ts.length = l.length ∧ ∀ i (h : i < l.length), 0 ≤ l[i] ∧ l[i] < (l0.length : Int) ∧ Zcd.f k (l0.getD l[i].toNat []) = some (ts.getD i false)
  | [],ts,h=>by
    obtain rfl:=Option.some.inj h;exact⟨rfl,fun i h=>absurd h (Nat.not_lt_zero _)⟩
  |v::vs,ts,h=>by
    unfold truthsL at h
    split at h
    case isFalse=>cases h
    case isTrue h1=>
      obtain⟨m,hm,h⟩:=Option.bind_eq_some_iff.1 h;obtain⟨ms',hms,h⟩:=Option.bind_eq_some_iff.1 h;obtain rfl:=Option.some.inj h;obtain⟨e,hg⟩:=Zg0 k l0 vs ms' hms;refine⟨by simp[e],fun i hi=> ?_⟩
      cases i with
      | zero => exact ⟨h1.1, h1.2, hm⟩
      |succ i=>exact hg i (by simpa using hi)
theorem truthPred (k : Nat) (W : World) (h : ConAt W bd bc A0 c0 l0 kd A1 c1 vars A2 c2 coefs op rhs A5 c5 rows b) (v : Int) (hv0 : 0 ≤ v) (hv1 : v < (l0.length : Int)) (t : Bool) (ht : Zcd.f k (l0.getD v.toNat []) = some t) :
    Calls Tryz.prog 54 #[.int .i64 v,.pointer (some ⟨bd,0,none⟩)] W fun e w'=>e= .returned (.bool (!t))∧Below W.heap.size W w':=by
  have ed:=h.ed;obtain⟨ad,A6,c6,rfl,hx,hl,hi⟩:=at_L4 h.rd v hv0 hv1;have cT:=fun(w:World) (hw:Below W.heap.size W w)=>Zcd.calls k A6 c6 (Ze l0 v) t w (Kd.Zaf hi hw) hl ht
  have CT:=Za.mk cT;have p1:decide (0≤v)=true:=decide_eq_true hv0;have p2:decide (v<(l0.length:Int))=true:=decide_eq_true hv1;clear cT h hl hi ht;obtain⟨wo,rfl⟩:∃wo:World,wo=W:=⟨_,rfl⟩;go_enter Tryz.func54,Tryz.ntmps54
  go_wp2_with (go_at_call 55;go_loud (refine(CT.out _ ?hB).mono ?_;(case hB=>first|exact Below.refl _ _|exact Zb7 (Below.refl _ _) _|exact Zd1 (Below.refl _ _));rintro e w' ⟨rfl,hb⟩))
  go_ret;exact⟨rfl,hb⟩
end
end Go.Proofs.YtkgjaklnbgdmiaaGreat.P
namespace Go.Proofs.YtkgjaklnbgdmiaaGreat.P
open Go.RowKit Go.Proofs.YtkgjaklnbgdmiaaGreatW.PrintWords Go.Proofs.YtkgjaklnbgdmiaaGreatW.PrintLast Go.Proofs.YtkgjaklnbgdmiaaGreatW.PrintMore
attribute [local go_sem] Zci Zck Zc3 Zc4 Zcb Zcc Zcj Zcl
def slices_Index_int.l0 : Nat → List Int → Int → Int → Int → Option (Int)
 | 0, _, _, _, _ => none
 |k+1,x0,x1,x7,x8=>if x8<x7 then(if 0≤x8 then(if x8<(x0.length:Int)then(if x1=(rd x0 x8)then(some x8)else(slices_Index_int.l0 k x0 x1 x7 (wrap64 (x8+1))))else(none))else(none))else(some (-1))
def slices_Index_int.f (k:Nat) (l0:List Int) (a1:Int):Option (Int):=slices_Index_int.l0 k l0 a1 (l0.length:Int) 0
theorem slices_Index_int.Zf3 : ∀ k, (∀ y0 y1 y2 y3, LeO (slices_Index_int.l0 k y0 y1 y2 y3) (slices_Index_int.l0 (k + 1) y0 y1 y2 y3))
 | 0 => fun _ _ _ _ r h => by simp [slices_Index_int.l0] at h
 |k+1=>by
  have ih0:=slices_Index_int.Zf3 k;intro y0 y1 y2 y3;unfold slices_Index_int.l0
  repeat' first
  | (with_reducible exact ih0 _ _ _ _)
  | (with_reducible exact LeO.refl _)
  | (with_reducible exact LeO.none _)
  | (with_reducible refine LeO.ite ?_ ?_)
  |(with_reducible refine LeO.bind ?_ (fun _=> ?_))
theorem slices_Index_int.mono:∀a0 a1 k,LeO (slices_Index_int.f k a0 a1) (slices_Index_int.f (k+1) a0 a1):=by
 intro a0 a1 k;have ih0:=slices_Index_int.Zf3 k;unfold slices_Index_int.f
 repeat' first
   | (with_reducible exact ih0 _ _ _ _)
   | (with_reducible exact LeO.refl _)
   | (with_reducible exact LeO.none _)
   | (with_reducible refine LeO.ite ?_ ?_)
   |(with_reducible refine LeO.bind ?_ (fun _=> ?_))
set_option maxRecDepth 100000 in
theorem slices_Index_int.calls (k : Nat) (A0 : Option Addr) (c0 : Nat) (l0 : List Int) (a1 : Int) (r : Int) (w : World) (hr0 : Kd.C (Kd.int .i64) w A0 l0.length l0) (hc0 : l0.length ≤ c0) (h : slices_Index_int.f k l0 a1 = some r) :
  Calls Tryz.prog 84 #[.slice A0 l0.length c0,.int .i64 a1] w fun e w'=>e= .returned (.int .i64 r)∧Za1 w w':=by
 have HR0:=Za.mk hr0;have HC0:=Za.mk hc0;clear hr0 hc0;have H:(slices_Index_int.l0 k l0 a1 (l0.length:Int) 0)=some r:=h;clear h;have H':=Za.mk H;clear H;go_enter Tryz.func84,Tryz.ntmps84;go_wp2
 go_loopg [8] k (fun kq v8 w'=>∃(jK:Int),v8= .int .i64 jK∧Za (slices_Index_int.l0 kq l0 a1 (l0.length:Int) jK=some r)∧Za (kq≤k)∧Za1 w w')
 case atStart=>exact⟨(0),eS,H',⟨Nat.le_refl _⟩,by repeat(first|exact Za1.refl _|apply Za1.step)⟩
 case round=>
  clear H';try clear p2
  obtain⟨jK,rfl,HA,HK1,⟨m1,rfl⟩⟩:=hrel
  cases gk with
  | zero => exact absurd HA.out (by simp [slices_Index_int.l0])
  |succ k1=>
   have H:=HA.out;clear HA;simp only[slices_Index_int.l0]at H;by_cases c3:jK<(l0.length:Int)
   case neg=>
    rw[if_neg c3]at H;have gL:decide (jK<(l0.length:Int))=false:=decide_eq_false c3;clear c3;obtain rfl:=sj H;go_wp2;go_ret;exact⟨eS,by repeat(first|exact Za1.refl _|apply Za1.step)⟩
   rw[if_pos c3]at H;have gL:decide (jK<(l0.length:Int))=true:=decide_eq_true c3;clear c3;obtain⟨dV,H⟩:=ifT H;obtain⟨dS,H⟩:=ifT H;by_cases c6:a1=(rd l0 jK)
   case pos=>
    rw[if_pos c6]at H;have jh:(a1==(rd l0 jK))=true:=beq_iff_eq.mpr c6;have qY:(a1 !=(rd l0 jK))=false:=bne_eq_false_iff_eq.mpr c6;clear c6;obtain rfl:=sj H;have FM:0≤(jK:Int):=odt;have Gg:jK<(l0.length:Int):=odt;obtain⟨cLa,rfl,Ya⟩:=Kd.Zb0 HR0.out jK FM Gg;replace FM:=eq_true FM;replace Gg:=eq_true Gg;go_wp2;go_ret;exact⟨eS,by repeat(first|exact Za1.refl _|apply Za1.step)⟩
   rw[if_neg c6]at H;have jh:(a1==(rd l0 jK))=false:=beq_eq_false_iff_ne.mpr c6;have qY:(a1 !=(rd l0 jK))=true:=bne_iff_ne.mpr c6;have H':=Za.mk H;clear H;have FM:0≤(jK:Int):=odt;have Gg:jK<(l0.length:Int):=odt;obtain⟨cLa,rfl,Ya⟩:=Kd.Zb0 HR0.out jK FM Gg;replace FM:=eq_true FM;replace Gg:=eq_true Gg;go_wp2
   go_roundg k1
   case measure=>have:=HK1.out;omega
   case rel=>exact⟨(wrap64 (jK+1)),eS,H',⟨by have:=HK1.out;omega⟩,by repeat(first|exact Za1.refl _|apply Za1.step)⟩
def slices_Contains_int.f (k:Nat) (l0:List Int) (a1:Int):Option (Bool):=(slices_Index_int.f k l0 a1).bind fun Nb=>(some (decide (Nb≥0)))
theorem slices_Contains_int.mono:∀a0 a1 k,LeO (slices_Contains_int.f k a0 a1) (slices_Contains_int.f (k+1) a0 a1):=by
 intro a0 a1 k;unfold slices_Contains_int.f
 repeat' first
   | (with_reducible exact slices_Index_int.mono _ _ _)
   | (with_reducible exact LeO.refl _)
   | (with_reducible exact LeO.none _)
   | (with_reducible refine LeO.ite ?_ ?_)
   |(with_reducible refine LeO.bind ?_ (fun _=> ?_))
set_option maxRecDepth 100000 in
theorem slices_Contains_int.calls (k : Nat) (A0 : Option Addr) (c0 : Nat) (l0 : List Int) (a1 : Int) (r : Bool) (w : World) (hr0 : Kd.C (Kd.int .i64) w A0 l0.length l0) (hc0 : l0.length ≤ c0) (h : slices_Contains_int.f k l0 a1 = some r) :
  Calls Tryz.prog 62 #[.slice A0 l0.length c0,.int .i64 a1] w fun e w'=>e= .returned (.bool r)∧Za1 w w':=by
 have HR0:=Za.mk hr0;have HC0:=Za.mk hc0;clear hr0 hc0;have H:((slices_Index_int.f k l0 a1).bind fun Nb=>(some (decide (Nb≥0))))=some r:=h;clear h;obtain⟨Nb,A3,H⟩:=bnd H;try dsimp only at H
 obtain rfl:=sj H;go_enter Tryz.func62,Tryz.ntmps62
 go_wp2_with (first|((with_reducible refine Zat (f:=84) rfl ?_);refine gl 7 Tryz.func84 #[.slice A0 l0.length c0,.int .i64 a1] ?_;(with_reducible refine(slices_Index_int.calls k _ _ l0 a1 Nb _ (cM HR0.out) HC0.out A3.out).mono ?_);rintro e w' ⟨rfl,⟨nd,rfl⟩⟩;refine⟨_,rfl,?_⟩))
 go_ret;exact⟨eS,by repeat(first|exact Za1.refl _|apply Za1.step)⟩
end Go.Proofs.YtkgjaklnbgdmiaaGreat.P
/- Plain: 'from some number of rounds on it tells a'; lists of numbers in order. No program in sight. -/
namespace Go.Proofs.YtkgjaklnbgdmiaaGreat.P
open Go.RowKit Go.Proofs.YtkgjaklnbgdmiaaGreatW.PrintWords Go.Proofs.YtkgjaklnbgdmiaaGreatW.PrintLast Go.Proofs.YtkgjaklnbgdmiaaGreatW.PrintMore
def Ev {α:Type} (F:Nat→Option α) (a:α):Prop:=∃k0,∀k,k0≤k→F k=some a
section
variable {α β:Type} {F G:Nat→Option α} {a:α} {b:β}
theorem Ev.out (h:Ev F a):∃k,F k=some a:=by obtain⟨k,h⟩:=h;exact⟨k,h k (Nat.le_refl _)⟩
theorem Ev.const {x:Option α} (h:x=some a):Ev (fun _=>x) a:=⟨0,fun _ _=>h⟩
theorem Ev.pure (a:α):Ev (fun _=>some a) a:=Ev.const rfl
theorem Ev.bind {H:Nat→α→Option β} (h:Ev F a) (g:Ev (fun k=>H k a) b):Ev (fun k=>(F k).bind (H k)) b:=by
  obtain⟨k1,h1⟩:=h;obtain⟨k2,h2⟩:=g;refine⟨max k1 k2,fun k hk=> ?_⟩
  show(F k).bind (H k)=some b
  rw[h1 k (by omega)];exact h2 k (by omega)
theorem Ev.step (h:∀k,F (k+1)=G k) (g:Ev G a):Ev F a:=by
  obtain⟨k1,h1⟩:=g;refine⟨k1+1,fun k hk=> ?_⟩;obtain⟨m,rfl⟩:∃m,k=m+1:=⟨k - 1,by omega⟩;rw[h m];exact h1 m (by omega)
theorem Ev.eq (h:∀k,F k=G k) (g:Ev G a):Ev F a:=by
  obtain⟨k1,h1⟩:=g;exact⟨k1,fun k hk=>(h k).trans (h1 k hk)⟩
theorem Ev.Zan {c:Prop} [Decidable c] (hc:c) (g:Ev F a):Ev (fun k=>if c then F k else G k) a:=Ev.eq (fun k=>if_pos hc) g
theorem Ev.Za4 {c:Prop} [Decidable c] (hc:¬c) (g:Ev G a):Ev (fun k=>if c then F k else G k) a:=Ev.eq (fun k=>if_neg hc) g
end
theorem w64 {n:Int} (h1: -9223372036854775808≤n) (h2:n≤9223372036854775807):wrap64 n=n:=by unfold wrap64;omega
theorem w1 {n:Nat} (h:n<4611686018427387904):wrap64 ((n:Int)+1)=((n+1:Nat):Int):=by rw[w64 (by omega) (by omega)];omega
theorem wf64 {n:Int} (h:(Lit.int .i64 n).wf=true): -9223372036854775808≤n∧n≤9223372036854775807:=by
  simp[Lit.wf,IntKind.min,IntKind.max,IntKind.signed,IntKind.bits]at h
  omega
theorem Zdo (l:List Int) (n:Nat) (h:n<l.length):rd l (n:Int)=l[n]:=by simp[rd,List.getD_eq_getElem?_getD,List.getElem?_eq_getElem h]
abbrev SS (l:List Int):Prop:=List.Pairwise (fun a b:Int=>a<b) l
theorem SS.ext : ∀ {l m : List Int}, SS l → SS m → (∀ x, x ∈ l ↔ x ∈ m) → l = m
  | [], [], _, _, _ => rfl
  | [], y :: m, _, _, h => absurd ((h y).2 List.mem_cons_self) (by simp)
  | x :: l, [], _, _, h => absurd ((h x).1 List.mem_cons_self) (by simp)
  |x::l,y::m,h1,h2,h=>by
    obtain⟨hx,hl⟩:=List.pairwise_cons.1 h1;obtain⟨hy,hm⟩:=List.pairwise_cons.1 h2
    have e:x=y:=by
      rcases List.mem_cons.1 ((h x).1 List.mem_cons_self)with e|h3
      · exact e
      rcases List.mem_cons.1 ((h y).2 List.mem_cons_self)with e|h4
      · exact e.symm
      have:=hy x h3;have:=hx y h4;omega
    subst e
    congr 1
    refine SS.ext hl hm (fun z=>⟨fun hz=> ?_,fun hz=> ?_⟩)
    · rcases List.mem_cons.1 ((h z).1 (List.mem_cons_of_mem _ hz)) with e | h3
      · have:=hx z hz;omega
      exact h3
    rcases List.mem_cons.1 ((h z).2 (List.mem_cons_of_mem _ hz))with e|h3
    · have:=hy z hz;omega
    exact h3
def insU (x : Int) : List Int → List Int
  | [] => [x]
  |y::l=>if x<y then x::y::l else if x=y then y::l else y::insU x l
theorem Zf9 (x z : Int) : ∀ l, z ∈ insU x l ↔ z = x ∨ z ∈ l
  | [] => by simp [insU]
  |y::l=>by
    unfold insU
    split
    · simp
    split
    · rename_i h1 h2
      subst h2
      simp
    rw[List.mem_cons,Zf9 x z l,List.mem_cons]
    constructor
    · rintro (h | h | h)
      · exact .inr (.inl h)
      · exact .inl h
      exact .inr (.inr h)
    rintro(h|h|h)
    · exact .inr (.inl h)
    · exact .inl h
    exact .inr (.inr h)
theorem insU_ss (x : Int) : ∀ l, SS l → SS (insU x l)
  | [], _ => by simp [insU]
  |y::l,h=>by
    obtain⟨hy,hl⟩:=List.pairwise_cons.1 h;unfold insU
    split
    · refine List.pairwise_cons.2 ⟨fun z hz => ?_, h⟩
      rcases List.mem_cons.1 hz with rfl|hz
      · assumption
      have:=hy z hz;omega
    split
    · exact h
    refine List.pairwise_cons.2 ⟨fun z hz=> ?_,insU_ss x l hl⟩
    rcases(Zf9 x z l).1 hz with rfl|hz
    · omega
    exact hy z hz
def sd : List Int → List Int
  | [] => []
  |x::l=>insU x (sd l)
theorem mem_sd (z : Int) : ∀ l, z ∈ sd l ↔ z ∈ l
  | [] => by simp [sd]
  |x::l=>by rw[sd,Zf9,mem_sd z l,List.mem_cons]
theorem sd_ss : ∀ l, SS (sd l)
  | [] => List.Pairwise.nil
  |x::l=>insU_ss x _ (sd_ss l)
theorem sd_eq {l m:List Int} (hm:SS m) (h:∀x,x ∈ m↔x ∈ l):sd l=m:=SS.ext (sd_ss l) hm (fun x=>(mem_sd x l).trans (h x).symm)
theorem Zfi (x : Int) : ∀ l, (insU x l).length ≤ l.length + 1
  | [] => by simp [insU]
  |y::l=>by
    unfold insU
    split
    · simp
    split
    · simp
    have:=Zfi x l
    simp;omega
theorem Zgy : ∀ l, (sd l).length ≤ l.length
  | [] => by simp [sd]
  |x::l=>by
    have:=Zfi x (sd l);have:=Zgy l
    simp[sd];omega
theorem ss_length {l:List Int} {a b:Int} (h:SS l) (hb:∀x ∈ l,a≤x∧x≤b):(l.length:Int)≤max 0 (b+1 - a):=by
  induction l generalizing a with
  | nil => simp; omega
  |cons x l ih=>
    obtain⟨hx,hl⟩:=List.pairwise_cons.1 h;have h1:=hb x List.mem_cons_self;have:=ih (a:=x+1) hl (fun y hy=>⟨by have:=hx y hy;omega,(hb y (List.mem_cons_of_mem _ hy)).2⟩)
    simp
    omega
end Go.Proofs.YtkgjaklnbgdmiaaGreat.P
/- slices.Sort and slices.Compact over whole numbers in a row of one's own: each once, rising. -/
namespace Go.Proofs.YtkgjaklnbgdmiaaGreat.P
open Go.RowKit Go.Shelf Go.Lib Go.Proofs.YtkgjaklnbgdmiaaGreatW.PrintWords Go.Proofs.YtkgjaklnbgdmiaaGreatW.PrintLast Go.Proofs.YtkgjaklnbgdmiaaGreatW.PrintMore
theorem compact_ss (d:Array Int) (hs:∀i j,i≤j→j<d.size→d[i]! ≤d[j]!):SS (compactUpTo d d.size):=by
  unfold compactUpTo;refine List.Pairwise.map _ (fun a b h=>h) ?_;have h1:List.Pairwise (fun a b:Nat=>a<b) ((List.range d.size).filter (keeps d)):=List.Pairwise.filter _ List.pairwise_lt_range;refine(List.pairwise_iff_forall_sublist.2 fun {a b} hab=> ?_);have hlt:a<b:=List.pairwise_iff_forall_sublist.1 h1 hab;have hb:b ∈ (List.range d.size).filter (keeps d):=hab.subset (by simp);obtain⟨hb1,hb2⟩:=List.mem_filter.1 hb;have hbs:b<d.size:=List.mem_range.1 hb1
  have hne:d[b]! ≠d[b - 1]! :=by
    unfold keeps at hb2;exact(of_decide_eq_true hb2).resolve_left (by omega)
  have h2:=hs (b - 1) b (by omega) hbs;have h3:=hs a (b - 1) (by omega) (by omega)
  show d[a]! <d[b]!
  omega
theorem compact_mem (d:Array Int) (x:Int):x ∈ compactUpTo d d.size↔∃j,j<d.size∧d[j]! =x:=by
  unfold compactUpTo
  constructor
  · intro h
    obtain⟨j,hj,rfl⟩:=List.mem_map.1 h;exact⟨j,List.mem_range.1 (List.mem_filter.1 hj).1,rfl⟩
  rintro⟨j,hj,rfl⟩
  induction j with
  | zero => exact List.mem_map.2 ⟨0, List.mem_filter.2 ⟨List.mem_range.2 hj, by simp [keeps]⟩, rfl⟩
  |succ j ih=>
    by_cases hk:keeps d (j+1)=true
    · exact List.mem_map.2 ⟨j+1,List.mem_filter.2 ⟨List.mem_range.2 hj,hk⟩,rfl⟩
    have e:d[j+1]! =d[j]! :=by
      unfold keeps at hk
      simpa using hk
    rw[e];exact ih (by omega)
theorem Ze1 (l:List Int):compact (sortI l)=sd l:=by
  have hle:∀i j,i≤j→j<(sortI l).toArray.size→(sortI l).toArray[i]! ≤(sortI l).toArray[j]! :=fun i j hij hj=>by
    have hj':j<(sortI l).length:=by simpa using hj
    rw[getElem!_pos _ i (by simp;omega),getElem!_pos _ j (by simpa using hj)]
    rcases Nat.lt_or_eq_of_le hij with h|rfl
    · exact List.pairwise_iff_getElem.1 (sortI_le l) i j (by omega) hj' h
    exact Int.le_refl _
  have e:compact (sortI l)=compactUpTo (sortI l).toArray (sortI l).toArray.size:=by simp[compact]
  rw[e];refine(sd_eq (compact_ss _ hle) (fun x=>(compact_mem _ x).trans ?_)).symm;rw[←(Zfa l).mem_iff,List.mem_iff_getElem]
  constructor
  · rintro ⟨j, hj, rfl⟩
    exact⟨j,by simpa using hj,by rw[getElem!_pos _ j hj];simp⟩
  rintro⟨j,hj,rfl⟩;exact⟨j,by simpa using hj,by rw[getElem!_pos _ j (by simpa using hj)];simp⟩
theorem Zgg (xs:List Int):(compact xs).length≤xs.length:=by
  have:=List.length_filter_le (keeps xs.toArray) (List.range xs.length)
  simpa[compact,compactUpTo] using this
theorem compact_int (v : Value) (xs : List Int) (w0 w : World) (hS : w0.heap.size ≤ w.heap.size) (hlen : xs.length < 4611686018427387904) (hrow : w.ownsRow w0.heap.size 3 1 v xs.length (xs.map (Value.int .i64))) (hB : Below w0.heap.size w0 w) :
    Calls Tryz.prog 44 #[v] w fun e w'=>∃(A:Option Addr) (c:Nat),e= .returned (.slice A (compact xs).length c)∧(compact xs).length≤c∧Kd.C (Kd.int .i64) w' A (compact xs).length (compact xs)∧Below w0.heap.size w0 w':=by
  rcases hrow.2 with ⟨rfl,h0⟩|⟨g,cap,cur,rfl,hg,hb,hn,hcap,hsz,htk⟩
  · have hx : xs = [] := List.length_eq_zero_iff.1 h0
    subst hx;refine(AnyG.slices_Compact_int_empty lcompact none 0 w).mono ?_;rintro e w' ⟨rfl,rfl⟩;exact⟨none,0,rfl,Nat.le_refl _,Kd.C_nil _ _,hB⟩
  have hlt:g<w.heap.size:=(Array.getElem?_eq_some_iff.1 hb).1;have hH:Sort.Holds (Value.int .i64) w g 0 xs.toArray:=holds_of_blockI hb (by simpa using htk);refine(AnyG.slices_Compact_int lcompact g 0 cap xs w hH (by omega) hn).mono ?_;rintro e w' ⟨rfl,q,rfl⟩;have hcl:=Zgg xs;refine⟨_,_,rfl,by omega,⟨rfl,by omega,fun _=>⟨_,rfl,fun j p hj=>⟨[.int .i64 p],rfl,rfl,fun i u hi=> ?_⟩⟩⟩,?_⟩
  · have hj' : j < (compact xs).length := (List.getElem?_eq_some_iff.1 hj).1
    obtain⟨rfl,rfl⟩:i=0∧u= .int .i64 p:=by
      cases i with
      | zero => simpa using hi.symm
      |succ i=>simp at hi
    have:=(Sort.holds_putRow (Value.int .i64) (Sort.ahead w q) g 0 xs.toArray (compact xs++List.replicate (xs.length - (compact xs).length) 0).toArray (Sort.holds_ahead _ _ _ _ _ _ hH) (by simp;omega) j (by simp;omega)).1;rw[getElem!_pos _ j (by simp;omega)]at this;simp only[List.getElem_toArray]at this;rw[List.getElem_append_left hj',(List.getElem?_eq_some_iff.1 hj).2]at this;rw[Addr.add_lit,show(Kd.int .i64).sz=1 from rfl]
    simpa using this
  have hgr:w.grownBy (Sort.putRow (Value.int .i64) (Sort.ahead w q) g 0 (compact xs++List.replicate (xs.length - (compact xs).length) 0).toArray) (some g):=by
    refine⟨rfl,rfl,rfl,by simp[Sort.size_putRow,Sort.ahead],fun k hk hne=> ?_⟩;have:g≠k:=fun e=>hne (by rw[e])
    simp[Sort.putRow,Sort.mapBlock,Sort.ahead,Array.getElem?_modify,this]
  exact hB.grown hgr hS (fun k e=>by cases e;exact hg)
theorem take_compact (cur:Array Value) (xs:List Int) (zs:List Int) (h:xs.length≤cur.size):(Sort.putCells (Value.int .i64) 0 (xs++zs).toArray cur).toList.take xs.length=xs.map (Value.int .i64):=by
  apply List.ext_getElem?;intro j;by_cases hj:j<xs.length;rotate_left
  · rw[List.getElem?_take_eq_none (by omega),List.getElem?_eq_none (by simp;omega)]
  rw[List.getElem?_take_of_lt hj,Array.getElem?_toList]
  simp[Sort.putCells,hj,show j<cur.size by omega,show j<xs.length+zs.length by omega,List.getElem_append_left]
theorem Zgh (v : Value) (xs : List Int) (w0 w : World) (hS : w0.heap.size ≤ w.heap.size) (hlen : xs.length < 4611686018427387904) (hrow : w.ownsRow w0.heap.size 3 1 v xs.length (xs.map (Value.int .i64))) (hB : Below w0.heap.size w0 w) :
    Calls Tryz.prog 44 #[v] w fun e w'=>∃v':Value,e= .returned v'∧w'.ownsRow w0.heap.size 3 1 v' (compact xs).length ((compact xs).map (Value.int .i64))∧Below w0.heap.size w0 w':=by
  rcases hrow.2 with ⟨rfl,h0⟩|⟨g,cap,cur,rfl,hg,hb,hn,hcap,hsz,htk⟩
  · have hx : xs = [] := List.length_eq_zero_iff.1 h0
    subst hx;refine(AnyG.slices_Compact_int_empty lcompact none 0 w).mono ?_;rintro e w' ⟨rfl,rfl⟩;exact⟨_,rfl,own_nil _ _ _ _,hB⟩
  have hlt:g<w.heap.size:=(Array.getElem?_eq_some_iff.1 hb).1;have hH:Sort.Holds (Value.int .i64) w g 0 xs.toArray:=holds_of_blockI hb (by simpa using htk);refine(AnyG.slices_Compact_int lcompact g 0 cap xs w hH (by omega) hn).mono ?_;rintro e w' ⟨rfl,q,rfl⟩;have hcl:=Zgg xs;refine⟨_,rfl,⟨by simp,.inr ⟨g,cap,Sort.putCells (Value.int .i64) 0 (compact xs++List.replicate (xs.length - (compact xs).length) 0).toArray cur,rfl,hg,?_,by omega,hcap,by simp[Sort.putCells,hsz],?_⟩⟩,?_⟩
  · simp[Sort.putRow,Sort.mapBlock,Sort.ahead,Array.getElem?_modify,hb,Sort.onCells]
  · rw [Nat.mul_one]
    exact take_compact cur (compact xs) _ (by omega)
  have hgr:w.grownBy (Sort.putRow (Value.int .i64) (Sort.ahead w q) g 0 (compact xs++List.replicate (xs.length - (compact xs).length) 0).toArray) (some g):=by
    refine⟨rfl,rfl,rfl,by simp[Sort.size_putRow,Sort.ahead],fun k hk hne=> ?_⟩;have:g≠k:=fun e=>hne (by rw[e])
    simp[Sort.putRow,Sort.mapBlock,Sort.ahead,Array.getElem?_modify,this]
  exact hB.grown hgr hS (fun k e=>by cases e;exact hg)
end Go.Proofs.YtkgjaklnbgdmiaaGreat.P
/- model.all: are numbers all others? -/
namespace Go.Proofs.YtkgjaklnbgdmiaaGreat.P
open Go.RowKit Go.Shelf Go.Proofs.YtkgjaklnbgdmiaaGreatW.PrintWords Go.Proofs.YtkgjaklnbgdmiaaGreatW.PrintLast Go.Proofs.YtkgjaklnbgdmiaaGreatW.PrintMore
def Zdb.f (l0:List Int):Option Bool:=if 1000000<l0.length then none else some (decide (((sd l0).length:Int)=(l0.length:Int)))
theorem row_ofA (W:World) (base:Nat) (v:Value) (xs:List Int) {n:Nat} (hn:xs.length=n) (h:W.ownsRow base 3 1 v n (xs.map (Value.int .i64))):W.ownsRow base 3 1 v xs.length (xs.map (Value.int .i64)):=by
  subst hn;exact h
set_option maxRecDepth 100000 in
theorem Zdb.calls (A0 : Option Addr) (c0 : Nat) (l0 : List Int) (r : Bool) (w : World) (hr0 : Kd.C (Kd.int .i64) w A0 l0.length l0) (hc0 : l0.length ≤ c0) (h : Zdb.f l0 = some r) :
    Calls Tryz.prog 58 #[.slice A0 l0.length c0] w fun e w'=>e= .returned (.bool r)∧Below w.heap.size w w':=by
  have HR:=Za.mk hr0;clear hr0;have hlen:l0.length≤9223372036854775807:=HR.out.2.1;have cV:=fun(W:World)=>callsIn_wide.1 (values_in Fence.wide 9 trivial rfl A0 l0.length c0 W)
  unfold Zdb.f at h;by_cases hbig:1000000<l0.length
  · rw[if_pos hbig]at h;cases h
  rw[if_neg hbig]at h;obtain rfl:=Option.some.inj h;clear h;have hsz:∀q,(w.drewN q).heap.size=w.heap.size:=fun q=>by simp
  have cS := fun (q : Nat) => sorted_calls 102 #[.pointer (some ⟨w.heap.size, 0, none⟩)] (enters_of Tryz.func102 (by kernel_rfl) rfl) w.heap.size _ _ l0.length (by omega) (fun xs e => by rw [e]; exact Nat.le_refl _)
    ((w.drewN q).alloc (.cells #[.slice A0 l0.length c0] 24)) ((w.drewN q).alloc (.cells #[.slice A0 l0.length c0] 24)) (Below.refl _ _) (by simp)
    (values_stops Fence.wide 7 trivial rfl (by omega) w.heap.size w _ A0 c0 l0 HR.out (by simp) ((Zb7 (Below.refl _ w) q).alloc (by simp) _) (by have:=(Boxed.new (w.drewN q) 24 (.slice A0 l0.length c0)).cell;rwa [hsz]at this))
  have cC:=fun(v:Value) (w0 W:World) (h1:w0.heap.size≤W.heap.size) (h2:W.ownsRow w0.heap.size 3 1 v (sortI l0).length ((sortI l0).map (Value.int .i64))) (h3:Below w0.heap.size w0 W)=>compact_int v (sortI l0) w0 W h1 (by rw[Zdu];omega) h2 h3
  have hsl:=Za.mk (Zdu l0);have hcs:=Za.mk (Ze1 l0);go_enter Tryz.func58,Tryz.ntmps58
  go_wp2_with (first|(go_at_call 81;refine(cV _).mono ?_;rintro e w' ⟨rfl,rfl⟩)|(go_at_call 80;go_loud (refine(cS 0).mono ?_;rintro e W1 ⟨v,xs,rfl,rfl,hrow,hb⟩))|(go_at_call 44;go_loud (refine(cC _ _ _ hb.size (row_ofA _ _ _ _ hsl.out hrow) hb).mono ?_;rintro e W2 ⟨A1,c1,rfl,hcl,hC1,hb2⟩)))
  go_ret;refine⟨?_,((Zb7 (Below.refl _ w) 0).alloc (by simp) _).trans (hb2.mono (by simp))⟩;rw[←hcs.out]
  rfl
end Go.Proofs.YtkgjaklnbgdmiaaGreat.P
namespace Go.Proofs.YtkgjaklnbgdmiaaGreat.P
open Go.RowKit Go.Proofs.YtkgjaklnbgdmiaaGreatW.PrintWords Go.Proofs.YtkgjaklnbgdmiaaGreatW.PrintLast Go.Proofs.YtkgjaklnbgdmiaaGreatW.PrintMore
attribute [local go_sem] Zci Zck Zc3 Zc4 Zcb Zcc Zcj Zcl
def Zcz.f (k:Nat) (bB:Int) (aa:List Int) (aT:List Int) (bz:Int) (bG:Int) (aW:List (List Int)) (bH:Int):Option (Bool):=if(aa.length:Int)>0 then(if(aa.length:Int)=(aT.length:Int)then((Zdb.f aa).bind fun Nc=>(if Nc=true then((slices_Contains_int.f k aT 0).bind fun Nf=>(some (!Nf)))else(some false)))else(some false))else(some false)
theorem Zcz.mono:∀a0 a1 a2 a3 a4 a5 a6 k,LeO (Zcz.f k a0 a1 a2 a3 a4 a5 a6) (Zcz.f (k+1) a0 a1 a2 a3 a4 a5 a6):=by
 intro a0 a1 a2 a3 a4 a5 a6 k;unfold Zcz.f
 repeat' first
   | (with_reducible exact slices_Contains_int.mono _ _ _)
   | (with_reducible exact LeO.refl _)
   | (with_reducible exact LeO.none _)
   | (with_reducible refine LeO.ite ?_ ?_)
   |(with_reducible refine LeO.bind ?_ (fun _=> ?_))
set_option maxRecDepth 100000 in
theorem Zcz.calls (k : Nat) (bB : Int) (aI : Option Addr) (aG : Nat) (aa : List Int) (dJ : Option Addr) (dK : Nat) (aT : List Int) (bz : Int) (bG : Int) (dI : Option Addr) (dH : Nat) (aW : List (List Int)) (bH : Int) (r : Bool) (w : World) (eO : Kd.C (Kd.int .i64) w aI aa.length aa) (eH : aa.length ≤ aG) (kE : Kd.C (Kd.int .i64) w dJ aT.length aT) (kw : aT.length ≤ dK) (kJ : Kd.C (Kd.slice 3 (Kd.int .i64)) w dI aW.length aW) (kD : aW.length ≤ dH) (h : Zcz.f k bB aa aT bz bG aW bH = some r) :
  Calls Tryz.prog 64 #[.agg #[.int .i64 bB,.slice aI aa.length aG,.slice dJ aT.length dK,.int .i64 bz,.int .i64 bG,.slice dI aW.length dH,.int .i64 bH]] w fun e w'=>e= .returned (.bool r)∧Below w.heap.size w w':=by
 have hu40:=Tryz.underlying40;have fE:=Za.mk eO;have gU:=Za.mk eH;clear eO eH;have nL:=Za.mk kE;have oG:=Za.mk kw;clear kE kw;have lS:=Za.mk kJ;have qN:=Za.mk kD;clear kJ kD;have HB:=Za.mk (Below.refl w.heap.size w);have H:(if(aa.length:Int)>0 then(if(aa.length:Int)=(aT.length:Int)then((Zdb.f aa).bind fun Nc=>(if Nc=true then((slices_Contains_int.f k aT 0).bind fun Nf=>(some (!Nf)))else(some false)))else(some false))else(some false))=some r:=h;clear h;by_cases c2:(aa.length:Int)>0
 case neg=>
  rw[if_neg c2]at H;have mh:decide (0<(aa.length:Int))=false:=decide_eq_false c2;have TI:decide (0<aa.length)=false:=decide_eq_false (by omega);clear c2;obtain rfl:=sj H;go_enter Tryz.func64,Tryz.ntmps64
  go_wp2_with (first|((with_reducible refine Zap (N:=1) rfl ?_);(try(refine Zb9 (by rfl) ?_;dsimp only));refine bx 1 #[.int .i64 bB,.slice aI aa.length aG,.slice dJ aT.length dK,.int .i64 bz,.int .i64 bG,.slice dI aW.length dH,.int .i64 bH] 40 ?_;intro BO hg w16 hbox hb;have su:=Za.mk (hbox);have PG:=Za.mk ((gE hg HB.out:w.heap.size≤BO));replace HB:=Za.mk (bS HB.out hb);clear hb hbox hg;obtain⟨yu,yw,F3,Jz,J2,Xa,Xb,xS,xU,Fb,Jn,Jo,Wz,W9⟩:=cz7 su.out))
  go_ret;exact⟨eR,bM HB.out⟩
 rw[if_pos c2]at H;have mh:decide (0<(aa.length:Int))=true:=decide_eq_true c2;have TI:decide (0<aa.length)=true:=decide_eq_true (by omega);clear c2;by_cases c3:(aa.length:Int)=(aT.length:Int)
 case neg=>
  rw[if_neg c3]at H;have gL:((aa.length:Int)==(aT.length:Int))=false:=beq_eq_false_iff_ne.mpr c3;have lV:((aa.length:Int) !=(aT.length:Int))=true:=bne_iff_ne.mpr c3;have qB:(aa.length==aT.length)=false:=by first|simpa using c3|(simp at c3 ⊢;omega)
  obtain rfl:=sj H;go_enter Tryz.func64,Tryz.ntmps64
  go_wp2_with (first|((with_reducible refine Zap (N:=1) rfl ?_);(try(refine Zb9 (by rfl) ?_;dsimp only));refine bx 1 #[.int .i64 bB,.slice aI aa.length aG,.slice dJ aT.length dK,.int .i64 bz,.int .i64 bG,.slice dI aW.length dH,.int .i64 bH] 40 ?_;intro BO hg w14 hbox hb;have su:=Za.mk (hbox);have PG:=Za.mk ((gE hg HB.out:w.heap.size≤BO));replace HB:=Za.mk (bS HB.out hb);clear hb hbox hg;obtain⟨yn,yo,yt,CW,CX,Fw,Fx,xP,xQ,xR,Ck,Cm,EW,EX⟩:=cz7 su.out))
  go_ret;exact⟨eR,bM HB.out⟩
 rw[if_pos c3]at H;have gL:((aa.length:Int)==(aT.length:Int))=true:=beq_iff_eq.mpr c3;have lV:((aa.length:Int) !=(aT.length:Int))=false:=bne_eq_false_iff_eq.mpr c3;have qB:(aa.length==aT.length)=true:=by first|simpa using c3|(simp at c3 ⊢;omega)
 clear c3;obtain⟨Nc,A4,H⟩:=bnd H;try dsimp only at H
 by_cases c5:Nc=true
 case neg=>
  replace c5:=Bool.eq_false_iff.mpr c5;subst c5;replace H:=ifF H;obtain rfl:=sj H;go_enter Tryz.func64,Tryz.ntmps64
  go_wp2_with (first|((with_reducible refine Zap (N:=1) rfl ?_);(try(refine Zb9 (by rfl) ?_;dsimp only));refine bx 1 #[.int .i64 bB,.slice aI aa.length aG,.slice dJ aT.length dK,.int .i64 bz,.int .i64 bG,.slice dI aW.length dH,.int .i64 bH] 40 ?_;intro BO hg w11 hbox hb;have su:=Za.mk (hbox);have PG:=Za.mk ((gE hg HB.out:w.heap.size≤BO));replace HB:=Za.mk (bS HB.out hb);clear hb hbox hg;obtain⟨tF,tH,tJ,tK,tL,yj,yl,sU,sV,sW,tq,tu,xM,xN⟩:=cz7 su.out)|(go_at_call 58;(with_reducible refine(Zdb.calls _ _ aa false _ (cM (Kd.Zaf fE.out HB.out)) gU.out A4.out).mono ?_);rintro e w13 ⟨rfl,hb⟩;replace HB:=Za.mk (bS HB.out hb);clear su;(try clear hb);(try clear hb2);(try clear hk);(try clear hi)))
  go_ret;exact⟨eR,bM HB.out⟩
 subst c5;rw[if_pos rfl]at H;obtain⟨Nf,A6,H⟩:=bnd H;try dsimp only at H
 obtain rfl:=sj H;go_enter Tryz.func64,Tryz.ntmps64
 go_wp2_with (first|((with_reducible refine Zap (N:=1) rfl ?_);(try(refine Zb9 (by rfl) ?_;dsimp only));refine bx 1 #[.int .i64 bB,.slice aI aa.length aG,.slice dJ aT.length dK,.int .i64 bz,.int .i64 bG,.slice dI aW.length dH,.int .i64 bH] 40 ?_;intro BO hg w7 hbox hb;have su:=Za.mk (hbox);have PG:=Za.mk ((gE hg HB.out:w.heap.size≤BO));replace HB:=Za.mk (bS HB.out hb);clear hb hbox hg;obtain⟨Dj,Dk,Dl,Dm,Dn,Ej,El,Cy,Cz,C8,C9,CE,Eh,Ei⟩:=cz7 su.out)|(go_at_call 58;(with_reducible refine(Zdb.calls _ _ aa true _ (cM (Kd.Zaf fE.out HB.out)) gU.out A4.out).mono ?_);rintro e w9 ⟨rfl,hb⟩;replace su:=Za.mk (kB su.out hb);replace HB:=Za.mk (bS HB.out hb);(try clear hb);(try clear hb2);(try clear hk);(try clear hi);obtain⟨qy,qz,q8,qW,qX,CF,CJ,qp,qw,qx,qU,qV,Cf,Cg⟩:=cz7 su.out)|(go_at_call 62;(with_reducible refine(slices_Contains_int.calls k _ _ aT 0 Nf _ (cM (Kd.Zaf nL.out HB.out)) oG.out A6.out).mono ?_);rintro e w' ⟨rfl,⟨nd,rfl⟩⟩))
 go_ret;exact⟨eR,bM HB.out⟩
def Zc1.f (k:Nat) (bB:Int) (aa:List Int) (aT:List Int) (bz:Int) (bG:Int) (aW:List (List Int)) (bH:Int):Option (Bool):=(Zcz.f k bB aa aT bz bG aW bH).bind fun Ng=>(if Ng=true then(if bz≥0 then(some (decide (bz<3)))else(some false))else(some false))
theorem Zc1.mono:∀a0 a1 a2 a3 a4 a5 a6 k,LeO (Zc1.f k a0 a1 a2 a3 a4 a5 a6) (Zc1.f (k+1) a0 a1 a2 a3 a4 a5 a6):=by
 intro a0 a1 a2 a3 a4 a5 a6 k;unfold Zc1.f
 repeat' first
   | (with_reducible exact Zcz.mono _ _ _ _ _ _ _ _)
   | (with_reducible exact LeO.refl _)
   | (with_reducible exact LeO.none _)
   | (with_reducible refine LeO.ite ?_ ?_)
   |(with_reducible refine LeO.bind ?_ (fun _=> ?_))
set_option maxRecDepth 100000 in
theorem Zc1.calls (k : Nat) (bB : Int) (aI : Option Addr) (aG : Nat) (aa : List Int) (dJ : Option Addr) (dK : Nat) (aT : List Int) (bz : Int) (bG : Int) (dI : Option Addr) (dH : Nat) (aW : List (List Int)) (bH : Int) (r : Bool) (w : World) (eO : Kd.C (Kd.int .i64) w aI aa.length aa) (eH : aa.length ≤ aG) (kE : Kd.C (Kd.int .i64) w dJ aT.length aT) (kw : aT.length ≤ dK) (kJ : Kd.C (Kd.slice 3 (Kd.int .i64)) w dI aW.length aW) (kD : aW.length ≤ dH) (h : Zc1.f k bB aa aT bz bG aW bH = some r) :
  Calls Tryz.prog 56 #[.agg #[.int .i64 bB,.slice aI aa.length aG,.slice dJ aT.length dK,.int .i64 bz,.int .i64 bG,.slice dI aW.length dH,.int .i64 bH]] w fun e w'=>e= .returned (.bool r)∧Below w.heap.size w w':=by
 have hu40:=Tryz.underlying40;have fE:=Za.mk eO;have gU:=Za.mk eH;clear eO eH;have nL:=Za.mk kE;have oG:=Za.mk kw;clear kE kw;have lS:=Za.mk kJ;have qN:=Za.mk kD;clear kJ kD;have HB:=Za.mk (Below.refl w.heap.size w);have H:((Zcz.f k bB aa aT bz bG aW bH).bind fun Ng=>(if Ng=true then(if bz≥0 then(some (decide (bz<3)))else(some false))else(some false)))=some r:=h;clear h;obtain⟨Ng,A2,H⟩:=bnd H;try dsimp only at H
 by_cases c3:Ng=true
 case neg=>
  replace c3:=Bool.eq_false_iff.mpr c3;subst c3;replace H:=ifF H;obtain rfl:=sj H;go_enter Tryz.func56,Tryz.ntmps56
  go_wp2_with (first|((with_reducible refine Zap (N:=1) rfl ?_);refine bx 1 #[.int .i64 bB,.slice aI aa.length aG,.slice dJ aT.length dK,.int .i64 bz,.int .i64 bG,.slice dI aW.length dH,.int .i64 bH] 40 ?_;intro Ib hg w13 hbox hb;have qL:=Za.mk (hbox);have Vh:=Za.mk ((gE hg HB.out:w.heap.size≤Ib));replace HB:=Za.mk (bS HB.out hb);clear hb hbox hg;obtain⟨uJ,uK,ym,CK,CU,RO,RP,uC,uD,xO,Ci,Cj,Re,Rf⟩:=cz7 qL.out)|((with_reducible refine Zat (f:=64) rfl ?_);refine gl 4 Tryz.func64 #[.agg #[.int .i64 bB,.slice aI aa.length aG,.slice dJ aT.length dK,.int .i64 bz,.int .i64 bG,.slice dI aW.length dH,.int .i64 bH]] ?_;(with_reducible refine(Zcz.calls k bB _ _ aa _ _ aT bz bG _ _ aW bH false _ (cM (Kd.Zaf fE.out HB.out)) gU.out (cM (Kd.Zaf nL.out HB.out)) oG.out (cM (Kd.Zaf lS.out HB.out)) qN.out A2.out).mono ?_);rintro e w15 ⟨rfl,hb⟩;refine⟨_,rfl,?_⟩;replace HB:=Za.mk (bS HB.out hb);clear qL;(try clear hb);(try clear hb2);(try clear hk);(try clear hi)))
  go_ret;exact⟨eR,bM HB.out⟩
 subst c3;rw[if_pos rfl]at H;by_cases c4:bz≥0
 case neg=>
  rw[if_neg c4]at H;have dV:decide (0≤bz)=false:=decide_eq_false c4;clear c4;obtain rfl:=sj H;go_enter Tryz.func56,Tryz.ntmps56
  go_wp2_with (first|((with_reducible refine Zap (N:=1) rfl ?_);refine bx 1 #[.int .i64 bB,.slice aI aa.length aG,.slice dJ aT.length dK,.int .i64 bz,.int .i64 bG,.slice dI aW.length dH,.int .i64 bH] 40 ?_;intro Ib hg w9 hbox hb;have qL:=Za.mk (hbox);have Vh:=Za.mk ((gE hg HB.out:w.heap.size≤Ib));replace HB:=Za.mk (bS HB.out hb);clear hb hbox hg;obtain⟨qy,qz,q8,qW,qX,CF,CJ,qp,qw,qx,qU,qV,Cf,Cg⟩:=cz7 qL.out)|((with_reducible refine Zat (f:=64) rfl ?_);refine gl 4 Tryz.func64 #[.agg #[.int .i64 bB,.slice aI aa.length aG,.slice dJ aT.length dK,.int .i64 bz,.int .i64 bG,.slice dI aW.length dH,.int .i64 bH]] ?_;(with_reducible refine(Zcz.calls k bB _ _ aa _ _ aT bz bG _ _ aW bH true _ (cM (Kd.Zaf fE.out HB.out)) gU.out (cM (Kd.Zaf nL.out HB.out)) oG.out (cM (Kd.Zaf lS.out HB.out)) qN.out A2.out).mono ?_);rintro e w11 ⟨rfl,hb⟩;refine⟨_,rfl,?_⟩;replace qL:=Za.mk (kB qL.out hb);replace HB:=Za.mk (bS HB.out hb);(try clear hb);(try clear hb2);(try clear hk);(try clear hi);obtain⟨tF,tH,tJ,tK,tL,yj,yl,sU,sV,sW,tq,tu,xM,xN⟩:=cz7 qL.out))
  go_ret;exact⟨eR,bM HB.out⟩
 rw[if_pos c4]at H;have dV:decide (0≤bz)=true:=decide_eq_true c4;clear c4;obtain rfl:=sj H;go_enter Tryz.func56,Tryz.ntmps56
 go_wp2_with (first|((with_reducible refine Zap (N:=1) rfl ?_);refine bx 1 #[.int .i64 bB,.slice aI aa.length aG,.slice dJ aT.length dK,.int .i64 bz,.int .i64 bG,.slice dI aW.length dH,.int .i64 bH] 40 ?_;intro Ib hg w5 hbox hb;have qL:=Za.mk (hbox);have Vh:=Za.mk ((gE hg HB.out:w.heap.size≤Ib));replace HB:=Za.mk (bS HB.out hb);clear hb hbox hg;obtain⟨nH,nI,nW,qI,qJ,KC,KD,nE,nG,nV,qG,qH,K6,K7⟩:=cz7 qL.out)|((with_reducible refine Zat (f:=64) rfl ?_);refine gl 4 Tryz.func64 #[.agg #[.int .i64 bB,.slice aI aa.length aG,.slice dJ aT.length dK,.int .i64 bz,.int .i64 bG,.slice dI aW.length dH,.int .i64 bH]] ?_;(with_reducible refine(Zcz.calls k bB _ _ aa _ _ aT bz bG _ _ aW bH true _ (cM (Kd.Zaf fE.out HB.out)) gU.out (cM (Kd.Zaf nL.out HB.out)) oG.out (cM (Kd.Zaf lS.out HB.out)) qN.out A2.out).mono ?_);rintro e w7 ⟨rfl,hb⟩;refine⟨_,rfl,?_⟩;replace qL:=Za.mk (kB qL.out hb);replace HB:=Za.mk (bS HB.out hb);(try clear hb);(try clear hb2);(try clear hk);(try clear hi);obtain⟨Dj,Dk,Dl,Dm,Dn,Ej,El,Cy,Cz,C8,C9,CE,Eh,Ei⟩:=cz7 qL.out))
 go_ret;exact⟨eR,bM HB.out⟩
def Zc5.f (bB:Int) (aa:List Int) (aT:List Int) (bz:Int) (bG:Int) (aW:List (List Int)) (bH:Int):Option (Bool):=if(aT.length:Int)=0 then(if bz=0 then(if bG=0 then(some (bH==0))else(some false))else(some false))else(some false)
set_option maxRecDepth 100000 in
theorem Zc5.calls (bB : Int) (aI : Option Addr) (aG : Nat) (aa : List Int) (dJ : Option Addr) (dK : Nat) (aT : List Int) (bz : Int) (bG : Int) (dI : Option Addr) (dH : Nat) (aW : List (List Int)) (bH : Int) (r : Bool) (w : World) (eO : Kd.C (Kd.int .i64) w aI aa.length aa) (eH : aa.length ≤ aG) (kE : Kd.C (Kd.int .i64) w dJ aT.length aT) (kw : aT.length ≤ dK) (kJ : Kd.C (Kd.slice 3 (Kd.int .i64)) w dI aW.length aW) (kD : aW.length ≤ dH) (h : Zc5.f bB aa aT bz bG aW bH = some r) :
  Calls Tryz.prog 57 #[.agg #[.int .i64 bB,.slice aI aa.length aG,.slice dJ aT.length dK,.int .i64 bz,.int .i64 bG,.slice dI aW.length dH,.int .i64 bH]] w fun e w'=>e= .returned (.bool r)∧Below w.heap.size w w':=by
 have hu40:=Tryz.underlying40;have fE:=Za.mk eO;have gU:=Za.mk eH;clear eO eH;have nL:=Za.mk kE;have oG:=Za.mk kw;clear kE kw;have lS:=Za.mk kJ;have qN:=Za.mk kD;clear kJ kD;have HB:=Za.mk (Below.refl w.heap.size w);have H:(if(aT.length:Int)=0 then(if bz=0 then(if bG=0 then(some (bH==0))else(some false))else(some false))else(some false))=some r:=h;clear h;by_cases c2:(aT.length:Int)=0
 case neg=>
  rw[if_neg c2]at H;have mh:((aT.length:Int)==0)=false:=beq_eq_false_iff_ne.mpr c2;have TI:((aT.length:Int) !=0)=true:=bne_iff_ne.mpr c2;have tta:¬(aT= []):=fun h_=>c2 (by rw[h_];rfl)
  obtain rfl:=sj H;go_enter Tryz.func57,Tryz.ntmps57
  go_wp2_with (first|((with_reducible refine Zap (N:=1) rfl ?_);refine bx 1 #[.int .i64 bB,.slice aI aa.length aG,.slice dJ aT.length dK,.int .i64 bz,.int .i64 bG,.slice dI aW.length dH,.int .i64 bH] 40 ?_;intro BP hg w11 hbox hb;have Bq:=Za.mk (hbox);have PH:=Za.mk ((gE hg HB.out:w.heap.size≤BP));replace HB:=Za.mk (bS HB.out hb);clear hb hbox hg;obtain⟨tF,tH,tJ,tK,tL,yj,yl,sU,sV,sW,tq,tu,xM,xN⟩:=cz7 Bq.out))
  go_ret;exact⟨eR,bM HB.out⟩
 rw[if_pos c2]at H;have mh:((aT.length:Int)==0)=true:=beq_iff_eq.mpr c2;have TI:((aT.length:Int) !=0)=false:=bne_eq_false_iff_eq.mpr c2;clear c2;by_cases c3:bz=0
 case neg=>
  rw[if_neg c3]at H;have gL:(bz==0)=false:=beq_eq_false_iff_ne.mpr c3;have lV:(bz !=0)=true:=bne_iff_ne.mpr c3;obtain rfl:=sj H;go_enter Tryz.func57,Tryz.ntmps57
  go_wp2_with (first|((with_reducible refine Zap (N:=1) rfl ?_);refine bx 1 #[.int .i64 bB,.slice aI aa.length aG,.slice dJ aT.length dK,.int .i64 bz,.int .i64 bG,.slice dI aW.length dH,.int .i64 bH] 40 ?_;intro BP hg w9 hbox hb;have Bq:=Za.mk (hbox);have PH:=Za.mk ((gE hg HB.out:w.heap.size≤BP));replace HB:=Za.mk (bS HB.out hb);clear hb hbox hg;obtain⟨qy,qz,q8,qW,qX,CF,CJ,qp,qw,qx,qU,qV,Cf,Cg⟩:=cz7 Bq.out))
  go_ret;exact⟨eR,bM HB.out⟩
 rw[if_pos c3]at H;have gL:(bz==0)=true:=beq_iff_eq.mpr c3;have lV:(bz !=0)=false:=bne_eq_false_iff_eq.mpr c3;clear c3;by_cases c4:bG=0
 case neg=>
  rw[if_neg c4]at H;have dV:(bG==0)=false:=beq_eq_false_iff_ne.mpr c4;have um:(bG !=0)=true:=bne_iff_ne.mpr c4;obtain rfl:=sj H;go_enter Tryz.func57,Tryz.ntmps57
  go_wp2_with (first|((with_reducible refine Zap (N:=1) rfl ?_);refine bx 1 #[.int .i64 bB,.slice aI aa.length aG,.slice dJ aT.length dK,.int .i64 bz,.int .i64 bG,.slice dI aW.length dH,.int .i64 bH] 40 ?_;intro BP hg w7 hbox hb;have Bq:=Za.mk (hbox);have PH:=Za.mk ((gE hg HB.out:w.heap.size≤BP));replace HB:=Za.mk (bS HB.out hb);clear hb hbox hg;obtain⟨Dj,Dk,Dl,Dm,Dn,Ej,El,Cy,Cz,C8,C9,CE,Eh,Ei⟩:=cz7 Bq.out))
  go_ret;exact⟨eR,bM HB.out⟩
 rw[if_pos c4]at H;have dV:(bG==0)=true:=beq_iff_eq.mpr c4;have um:(bG !=0)=false:=bne_eq_false_iff_eq.mpr c4;clear c4;obtain rfl:=sj H;go_enter Tryz.func57,Tryz.ntmps57
 go_wp2_with (first|((with_reducible refine Zap (N:=1) rfl ?_);refine bx 1 #[.int .i64 bB,.slice aI aa.length aG,.slice dJ aT.length dK,.int .i64 bz,.int .i64 bG,.slice dI aW.length dH,.int .i64 bH] 40 ?_;intro BP hg w5 hbox hb;have Bq:=Za.mk (hbox);have PH:=Za.mk ((gE hg HB.out:w.heap.size≤BP));replace HB:=Za.mk (bS HB.out hb);clear hb hbox hg;obtain⟨nH,nI,nW,qI,qJ,KC,KD,nE,nG,nV,qG,qH,K6,K7⟩:=cz7 Bq.out))
 go_ret;exact⟨eR,bM HB.out⟩
end Go.Proofs.YtkgjaklnbgdmiaaGreat.P
/- model.right: is a constraint's row kept? -/
namespace Go.Proofs.YtkgjaklnbgdmiaaGreat.P
open Go.RowKit Go.Shelf Go.Proofs.YtkgjaklnbgdmiaaGreatW.PrintWords Go.Proofs.YtkgjaklnbgdmiaaGreatW.PrintLast Go.Proofs.YtkgjaklnbgdmiaaGreatW.PrintMore
def truthOf (k:Nat) (l0:List (List S59)) (v:Int):Bool:=(Zcd.f k (l0.getD v.toNat [])).getD false
theorem Zgz (k : Nat) (l0 : List (List S59)) : ∀ (l : List Int) (ts : List Bool), truthsL k l0 l = some ts → l.all (truthOf k l0) = ts.all fun t => t
  | [],ts,h=>by
    obtain rfl:=Option.some.inj h
    rfl
  |v::vs,ts,h=>by
    unfold truthsL at h
    split at h
    case isFalse=>cases h
    case isTrue h1=>
      obtain⟨m,hm,h⟩:=Option.bind_eq_some_iff.1 h;obtain⟨ms',hms,h⟩:=Option.bind_eq_some_iff.1 h;obtain rfl:=Option.some.inj h;rw[List.all_cons,List.all_cons,Zgz k l0 vs ms' hms];unfold truthOf;rw[hm]
      rfl
section
variable {bd bc:Nat} {A0:Option Addr} {c0:Nat} {l0:List (List S59)} {kd:Int} {A1:Option Addr} {c1:Nat} {vars:List Int} {A2:Option Addr} {c2:Nat} {coefs:List Int} {op rhs:Int} {A5:Option Addr} {c5:Nat} {rows:List (List Int)} {b:Int}
theorem truths_calls (k : Nat) (W : World) (h : ConAt W bd bc A0 c0 l0 kd A1 c1 vars A2 c2 coefs op rhs A5 c5 rows b) (A : Option Addr) (c : Nat) (l : List Int) (ts : List Bool) (hr : Kd.C (Kd.int .i64) W A l.length l) (hc : l.length ≤ c) (ht : truthsL k l0 l = some ts) :
    Calls Tryz.prog 53 #[.slice A l.length c,.pointer (some ⟨bd,0,none⟩)] W fun e w'=>e= .returned (.bool (ts.all fun t=>t))∧Below W.heap.size W w':=by
  rw[←Zgz k l0 l ts ht];have hany:(l.any fun v=> !truthOf k l0 v)= !(l.all (truthOf k l0)):=by rw[List.not_all_eq_any_not]
  obtain⟨hlen,hget⟩:=Zg0 k l0 l ts ht
  have cC := fun (w : World) (hw : Below W.heap.size W w) => Zfy (fun v => !truthOf k l0 v) 54 #[.pointer (some ⟨bd, 0, none⟩)] (enters_of Tryz.func54 (by kernel_rfl) rfl) A c l w (Kd.Zaf hr hw) (fun i hi w2 hw2 => by
    have e:rd l (i:Int)=l[i]:=by simp[rd,List.getD_eq_getElem?_getD,List.getElem?_eq_getElem hi]
    obtain⟨g1,g2,g3⟩:=hget i hi;have:=truthPred k w2 (h.below (Zae hw hw2)) (rd l (i:Int)) (by rw[e];exact g1) (by rw[e];exact g2) (truthOf k l0 (rd l (i:Int))) (by rw[e];unfold truthOf;rw[g3];rfl)
    exact this)
  simp only[hany]at cC;have CC:=Za.mk cC;clear cC h hr hany hget hlen ht
  generalize l.all (truthOf k l0)=r at CC ⊢
  obtain⟨wo,rfl⟩:∃wo:World,wo=W:=⟨_,rfl⟩;go_enter Tryz.func53,Tryz.ntmps53
  go_wp2_with (go_at_call 33;go_loud (refine(CC.out _ ?hB).mono ?_;(case hB=>first|exact Below.refl _ _|exact Zb7 (Below.refl _ _) _|exact Zd1 (Below.refl _ _));rintro e w' ⟨rfl,hb⟩))
  go_ret;exact⟨by simp,hb⟩
end
def Zbw.f (k:Nat) (l0:List (List S59)) (kd:Int) (vars coefs:List Int) (op rhs:Int) (rows:List (List Int)) (b:Int):Option Bool:=
  if kd≠2∧0<rows.length then some false
  else if kd=0 then(Zc1.f k kd vars coefs op rhs rows b).bind fun h=>some (h && decide (b=0))
  else if kd=1 then(Zc5.f kd vars coefs op rhs rows b).bind fun p=>(Zdb.f vars).bind fun a=>some (p && (decide (0<vars.length) && a))
  else if kd=2 then(Zc5.f kd vars coefs op rhs rows b).bind fun p=>(Zdb.f vars).bind fun a=>some (p && (decide (0<vars.length) && (a && (decide (rows.length≤1024) && !(rows.any fun l=> !rowOk vars l)))))
  else if kd=3 then(Zc5.f kd vars coefs op rhs rows b).bind fun p=>(Zdb.f vars).bind fun a=>some (p && (decide (3≤vars.length) && a))
  else if kd=4 then if 0≤b∧b<(l0.length:Int)then(Zc1.f k kd vars coefs op rhs rows b).bind fun h=>(Zcd.f k (l0.getD b.toNat [])).bind fun t=>(slices_Contains_int.f k vars b).bind fun c=>some (h && (t && !c))else none
  else if kd=5 then(Zcz.f k kd vars coefs op rhs rows b).bind fun s=>(truthsL k l0 vars).bind fun ts=>some (s && (decide (op=0) && (decide (rhs=0) && (decide (b=0) && (!(coefs.any oddU) && ts.all fun t=>t)))))
  else(Zc5.f kd vars coefs op rhs rows b).bind fun p=>some (p && (decide (2≤vars.length) && decide ((vars.length:Int)%2=0)))
theorem Zf6 (k : Nat) (l0 : List (List S59)) : ∀ l, LeO (truthsL k l0 l) (truthsL (k + 1) l0 l)
  | [] => LeO.refl _
  |v::vs=>by
    unfold truthsL;exact LeO.ite (LeO.bind (Zcd.mono _ _) (fun _=>LeO.bind (Zf6 k l0 vs) (fun _=>LeO.refl _))) (LeO.refl _)
theorem Zdt (A0 : Option Addr) (c0 : Nat) (l0 : List (List S59)) (kd : Int) (A1 : Option Addr) (c1 : Nat) (vars : List Int) (A2 : Option Addr) (c2 : Nat) (coefs : List Int) (op rhs : Int) (A5 : Option Addr) (c5 : Nat) (rows : List (List Int)) (b : Int) (w : World) (hr0 : Kd.C (Kd.slice 59 k59) w A0 l0.length l0) (hc0 : l0.length ≤ c0) (hr1 : Kd.C (Kd.int .i64) w A1 vars.length vars) (hc1 : vars.length ≤ c1) (hr2 : Kd.C (Kd.int .i64) w A2 coefs.length coefs) (hc2 : coefs.length ≤ c2) (hr5 : Kd.C (Kd.slice 3 (Kd.int .i64)) w A5 rows.length rows) (hc5 : rows.length ≤ c5) :
    ConAt ((w.alloc (.cells #[.slice A0 l0.length c0] 45)).alloc (.cells #[.int .i64 kd,.slice A1 vars.length c1,.slice A2 coefs.length c2,.int .i64 op,.int .i64 rhs,.slice A5 rows.length c5,.int .i64 b] 40)) w.heap.size (w.heap.size+1) A0 c0 l0 kd A1 c1 vars A2 c2 coefs op rhs A5 c5 rows b:=by
  have hb:Below w.heap.size w ((w.alloc (.cells #[.slice A0 l0.length c0] 45)).alloc (.cells #[.int .i64 kd,.slice A1 vars.length c1,.slice A2 coefs.length c2,.int .i64 op,.int .i64 rhs,.slice A5 rows.length c5,.int .i64 b] 40)):=Zb (Zb (Below.refl _ _) _) _;exact⟨by simp,by simp,by simp,by simp,by simp,by simp,by simp,by simp,Kd.Zaf hr0 hb,Kd.Zaf hr1 hb,Kd.Zaf hr2 hb,Kd.Zaf hr5 hb,hc0,hc1,hc2,hc5⟩
set_option maxRecDepth 100000 in
theorem right_0 (k : Nat) (A0 : Option Addr) (c0 : Nat) (l0 : List (List S59)) (kd : Int) (A1 : Option Addr) (c1 : Nat) (vars : List Int) (A2 : Option Addr) (c2 : Nat) (coefs : List Int) (op rhs : Int) (A5 : Option Addr) (c5 : Nat) (rows : List (List Int)) (b : Int) (r : Bool) (w : World) (hr0 : Kd.C (Kd.slice 59 k59) w A0 l0.length l0) (hc0 : l0.length ≤ c0) (hr1 : Kd.C (Kd.int .i64) w A1 vars.length vars) (hc1 : vars.length ≤ c1) (hr2 : Kd.C (Kd.int .i64) w A2 coefs.length coefs) (hc2 : coefs.length ≤ c2) (hr5 : Kd.C (Kd.slice 3 (Kd.int .i64)) w A5 rows.length rows) (hc5 : rows.length ≤ c5) (hk : kd = 0) (hrow : rows.length = 0) (h : Zbw.f k l0 kd vars coefs op rhs rows b = some r) :
    Calls Tryz.prog 34 #[.slice A0 l0.length c0,.agg #[.int .i64 kd,.slice A1 vars.length c1,.slice A2 coefs.length c2,.int .i64 op,.int .i64 rhs,.slice A5 rows.length c5,.int .i64 b]] w fun e w'=>e= .returned (.bool r)∧Below w.heap.size w w':=by
  subst hk;have HC:=Za.mk (Zdt A0 c0 l0 0 A1 c1 vars A2 c2 coefs op rhs A5 c5 rows b w hr0 hc0 hr1 hc1 hr2 hc2 hr5 hc5);have hwB:Below w.heap.size w ((w.alloc (.cells #[.slice A0 l0.length c0] 45)).alloc (.cells #[.int .i64 0,.slice A1 vars.length c1,.slice A2 coefs.length c2,.int .i64 op,.int .i64 rhs,.slice A5 rows.length c5,.int .i64 b] 40)):=Zb (Zb (Below.refl _ _) _) _;have HWB:=Za.mk hwB;clear hwB hr0 hr1 hr2 hr5;unfold Zbw.f at h;rw[if_neg (fun h_=>absurd h_.2 (by omega))]at h;rw[if_pos rfl]at h;obtain⟨q1,hq1,h2_⟩:=Option.bind_eq_some_iff.1 h;clear h;have h:=h2_;clear h2_;have A_1:=Za.mk hq1;clear hq1;obtain rfl:=Option.some.inj h;clear h;have CH:=Za.mk (fun(w':World) (hw:Below ((w.alloc (.cells #[.slice A0 l0.length c0] 45)).alloc (.cells #[.int .i64 0,.slice A1 vars.length c1,.slice A2 coefs.length c2,.int .i64 op,.int .i64 rhs,.slice A5 rows.length c5,.int .i64 b] 40)).heap.size ((w.alloc (.cells #[.slice A0 l0.length c0] 45)).alloc (.cells #[.int .i64 0,.slice A1 vars.length c1,.slice A2 coefs.length c2,.int .i64 op,.int .i64 rhs,.slice A5 rows.length c5,.int .i64 b] 40)) w')=>Zc1.calls k 0 A1 c1 vars A2 c2 coefs op rhs A5 c5 rows b q1 w' (Kd.Zaf HC.out.r1 hw) hc1 (Kd.Zaf HC.out.r2 hw) hc2 (Kd.Zaf HC.out.r5 hw) hc5 A_1.out);have BW:=Za.mk (Below.refl ((w.alloc (.cells #[.slice A0 l0.length c0] 45)).alloc (.cells #[.int .i64 0,.slice A1 vars.length c1,.slice A2 coefs.length c2,.int .i64 op,.int .i64 rhs,.slice A5 rows.length c5,.int .i64 b] 40)).heap.size ((w.alloc (.cells #[.slice A0 l0.length c0] 45)).alloc (.cells #[.int .i64 0,.slice A1 vars.length c1,.slice A2 coefs.length c2,.int .i64 op,.int .i64 rhs,.slice A5 rows.length c5,.int .i64 b] 40)));have JU:decide (0<(rows.length:Int))=false:=decide_eq_false (by omega);have hr0n_:decide (0<rows.length)=false:=decide_eq_false (by omega);clear hrow
  cases q1 with
  |false=>
    go_enter Tryz.func34,Tryz.ntmps34
    go_wp2_with (first|(go_at_call 56;go_loud (refine(CH.out _ ?hB).mono ?_;(case hB=>exact mvB BW.out);rintro e w' ⟨rfl,hb⟩;have BW1:=Za.mk (Zae (mvB BW.out) hb);clear BW hb;have BW:=BW1;clear BW1;have hx_:=HC.out.below BW.out;have ed:=hx_.ed;have k0:=hx_.k0;have k1:=hx_.k1;have k2:=hx_.k2;have k3:=hx_.k3;have k4:=hx_.k4;have k5:=hx_.k5;have k6:=hx_.k6;clear hx_)))
    go_ret;exact⟨by first|rfl|(simp[*];done)|(simp[*];rfl),Zae HWB.out (mvB BW.out)⟩
  |true=>
    go_enter Tryz.func34,Tryz.ntmps34
    go_wp2_with (first|(go_at_call 56;go_loud (refine(CH.out _ ?hB).mono ?_;(case hB=>exact mvB BW.out);rintro e w' ⟨rfl,hb⟩;have BW1:=Za.mk (Zae (mvB BW.out) hb);clear BW hb;have BW:=BW1;clear BW1;have hx_:=HC.out.below BW.out;have ed:=hx_.ed;have k0:=hx_.k0;have k1:=hx_.k1;have k2:=hx_.k2;have k3:=hx_.k3;have k4:=hx_.k4;have k5:=hx_.k5;have k6:=hx_.k6;clear hx_)))
    go_ret;exact⟨by first|rfl|(simp[*];done)|(simp[*];rfl),Zae HWB.out (mvB BW.out)⟩
set_option maxRecDepth 100000 in
theorem right_1 (k : Nat) (A0 : Option Addr) (c0 : Nat) (l0 : List (List S59)) (kd : Int) (A1 : Option Addr) (c1 : Nat) (vars : List Int) (A2 : Option Addr) (c2 : Nat) (coefs : List Int) (op rhs : Int) (A5 : Option Addr) (c5 : Nat) (rows : List (List Int)) (b : Int) (r : Bool) (w : World) (hr0 : Kd.C (Kd.slice 59 k59) w A0 l0.length l0) (hc0 : l0.length ≤ c0) (hr1 : Kd.C (Kd.int .i64) w A1 vars.length vars) (hc1 : vars.length ≤ c1) (hr2 : Kd.C (Kd.int .i64) w A2 coefs.length coefs) (hc2 : coefs.length ≤ c2) (hr5 : Kd.C (Kd.slice 3 (Kd.int .i64)) w A5 rows.length rows) (hc5 : rows.length ≤ c5) (hk : kd = 1) (hrow : rows.length = 0) (h : Zbw.f k l0 kd vars coefs op rhs rows b = some r) :
    Calls Tryz.prog 34 #[.slice A0 l0.length c0,.agg #[.int .i64 kd,.slice A1 vars.length c1,.slice A2 coefs.length c2,.int .i64 op,.int .i64 rhs,.slice A5 rows.length c5,.int .i64 b]] w fun e w'=>e= .returned (.bool r)∧Below w.heap.size w w':=by
  subst hk;have HC:=Za.mk (Zdt A0 c0 l0 1 A1 c1 vars A2 c2 coefs op rhs A5 c5 rows b w hr0 hc0 hr1 hc1 hr2 hc2 hr5 hc5);have hwB:Below w.heap.size w ((w.alloc (.cells #[.slice A0 l0.length c0] 45)).alloc (.cells #[.int .i64 1,.slice A1 vars.length c1,.slice A2 coefs.length c2,.int .i64 op,.int .i64 rhs,.slice A5 rows.length c5,.int .i64 b] 40)):=Zb (Zb (Below.refl _ _) _) _;have HWB:=Za.mk hwB;clear hwB hr0 hr1 hr2 hr5;unfold Zbw.f at h;rw[if_neg (fun h_=>absurd h_.2 (by omega))]at h;rw[if_neg (by decide)]at h;rw[if_pos rfl]at h;obtain⟨q1,hq1,h2_⟩:=Option.bind_eq_some_iff.1 h;clear h;have h:=h2_;clear h2_;have A_1:=Za.mk hq1;clear hq1;obtain⟨q2,hq2,h2_⟩:=Option.bind_eq_some_iff.1 h;clear h;have h:=h2_;clear h2_;have A_2:=Za.mk hq2;clear hq2;obtain rfl:=Option.some.inj h;clear h;have CP:=Za.mk (fun(w':World) (hw:Below ((w.alloc (.cells #[.slice A0 l0.length c0] 45)).alloc (.cells #[.int .i64 1,.slice A1 vars.length c1,.slice A2 coefs.length c2,.int .i64 op,.int .i64 rhs,.slice A5 rows.length c5,.int .i64 b] 40)).heap.size ((w.alloc (.cells #[.slice A0 l0.length c0] 45)).alloc (.cells #[.int .i64 1,.slice A1 vars.length c1,.slice A2 coefs.length c2,.int .i64 op,.int .i64 rhs,.slice A5 rows.length c5,.int .i64 b] 40)) w')=>Zc5.calls 1 A1 c1 vars A2 c2 coefs op rhs A5 c5 rows b q1 w' (Kd.Zaf HC.out.r1 hw) hc1 (Kd.Zaf HC.out.r2 hw) hc2 (Kd.Zaf HC.out.r5 hw) hc5 A_1.out);have CA:=Za.mk (fun(w':World) (hw:Below ((w.alloc (.cells #[.slice A0 l0.length c0] 45)).alloc (.cells #[.int .i64 1,.slice A1 vars.length c1,.slice A2 coefs.length c2,.int .i64 op,.int .i64 rhs,.slice A5 rows.length c5,.int .i64 b] 40)).heap.size ((w.alloc (.cells #[.slice A0 l0.length c0] 45)).alloc (.cells #[.int .i64 1,.slice A1 vars.length c1,.slice A2 coefs.length c2,.int .i64 op,.int .i64 rhs,.slice A5 rows.length c5,.int .i64 b] 40)) w')=>Zdb.calls A1 c1 vars q2 w' (Kd.Zaf HC.out.r1 hw) hc1 A_2.out);have BW:=Za.mk (Below.refl ((w.alloc (.cells #[.slice A0 l0.length c0] 45)).alloc (.cells #[.int .i64 1,.slice A1 vars.length c1,.slice A2 coefs.length c2,.int .i64 op,.int .i64 rhs,.slice A5 rows.length c5,.int .i64 b] 40)).heap.size ((w.alloc (.cells #[.slice A0 l0.length c0] 45)).alloc (.cells #[.int .i64 1,.slice A1 vars.length c1,.slice A2 coefs.length c2,.int .i64 op,.int .i64 rhs,.slice A5 rows.length c5,.int .i64 b] 40)));have JU:decide (0<(rows.length:Int))=false:=decide_eq_false (by omega);have hr0n_:decide (0<rows.length)=false:=decide_eq_false (by omega);clear hrow
  cases q1 with
  |false=>
    go_enter Tryz.func34,Tryz.ntmps34
    go_wp2_with (first|(go_at_call 57;go_loud (refine(CP.out _ ?hB).mono ?_;(case hB=>exact mvB BW.out);rintro e w' ⟨rfl,hb⟩;have BW1:=Za.mk (Zae (mvB BW.out) hb);clear BW hb;have BW:=BW1;clear BW1;have hx_:=HC.out.below BW.out;have ed:=hx_.ed;have k0:=hx_.k0;have k1:=hx_.k1;have k2:=hx_.k2;have k3:=hx_.k3;have k4:=hx_.k4;have k5:=hx_.k5;have k6:=hx_.k6;clear hx_))|(go_at_call 58;go_loud (refine(CA.out _ ?hB).mono ?_;(case hB=>exact mvB BW.out);rintro e w' ⟨rfl,hb⟩;have BW1:=Za.mk (Zae (mvB BW.out) hb);clear BW hb;have BW:=BW1;clear BW1;have hx_:=HC.out.below BW.out;have ed:=hx_.ed;have k0:=hx_.k0;have k1:=hx_.k1;have k2:=hx_.k2;have k3:=hx_.k3;have k4:=hx_.k4;have k5:=hx_.k5;have k6:=hx_.k6;clear hx_)))
    go_ret;exact⟨by first|rfl|(simp[*];done)|(simp[*];rfl),Zae HWB.out (mvB BW.out)⟩
  |true=>
    by_cases hq_:0<vars.length
    · have d1len0_ : decide (0 < (vars.length : Int)) = true := decide_eq_true (by omega)
      have d2len0_:decide (0<vars.length)=true:=decide_eq_true hq_;clear hq_;go_enter Tryz.func34,Tryz.ntmps34
      go_wp2_with (first|(go_at_call 57;go_loud (refine(CP.out _ ?hB).mono ?_;(case hB=>exact mvB BW.out);rintro e w' ⟨rfl,hb⟩;have BW1:=Za.mk (Zae (mvB BW.out) hb);clear BW hb;have BW:=BW1;clear BW1;have hx_:=HC.out.below BW.out;have ed:=hx_.ed;have k0:=hx_.k0;have k1:=hx_.k1;have k2:=hx_.k2;have k3:=hx_.k3;have k4:=hx_.k4;have k5:=hx_.k5;have k6:=hx_.k6;clear hx_))|(go_at_call 58;go_loud (refine(CA.out _ ?hB).mono ?_;(case hB=>exact mvB BW.out);rintro e w' ⟨rfl,hb⟩;have BW1:=Za.mk (Zae (mvB BW.out) hb);clear BW hb;have BW:=BW1;clear BW1;have hx_:=HC.out.below BW.out;have ed:=hx_.ed;have k0:=hx_.k0;have k1:=hx_.k1;have k2:=hx_.k2;have k3:=hx_.k3;have k4:=hx_.k4;have k5:=hx_.k5;have k6:=hx_.k6;clear hx_)))
      go_ret;exact⟨by first|rfl|(simp[*];done)|(simp[*];rfl),Zae HWB.out (mvB BW.out)⟩
    have d1len0_:decide (0<(vars.length:Int))=false:=decide_eq_false (by omega);have d2len0_:decide (0<vars.length)=false:=decide_eq_false hq_;clear hq_;go_enter Tryz.func34,Tryz.ntmps34
    go_wp2_with (first|(go_at_call 57;go_loud (refine(CP.out _ ?hB).mono ?_;(case hB=>exact mvB BW.out);rintro e w' ⟨rfl,hb⟩;have BW1:=Za.mk (Zae (mvB BW.out) hb);clear BW hb;have BW:=BW1;clear BW1;have hx_:=HC.out.below BW.out;have ed:=hx_.ed;have k0:=hx_.k0;have k1:=hx_.k1;have k2:=hx_.k2;have k3:=hx_.k3;have k4:=hx_.k4;have k5:=hx_.k5;have k6:=hx_.k6;clear hx_))|(go_at_call 58;go_loud (refine(CA.out _ ?hB).mono ?_;(case hB=>exact mvB BW.out);rintro e w' ⟨rfl,hb⟩;have BW1:=Za.mk (Zae (mvB BW.out) hb);clear BW hb;have BW:=BW1;clear BW1;have hx_:=HC.out.below BW.out;have ed:=hx_.ed;have k0:=hx_.k0;have k1:=hx_.k1;have k2:=hx_.k2;have k3:=hx_.k3;have k4:=hx_.k4;have k5:=hx_.k5;have k6:=hx_.k6;clear hx_)))
    go_ret;exact⟨by first|rfl|(simp[*];done)|(simp[*];rfl),Zae HWB.out (mvB BW.out)⟩
set_option maxRecDepth 100000 in
theorem right_2 (k : Nat) (A0 : Option Addr) (c0 : Nat) (l0 : List (List S59)) (kd : Int) (A1 : Option Addr) (c1 : Nat) (vars : List Int) (A2 : Option Addr) (c2 : Nat) (coefs : List Int) (op rhs : Int) (A5 : Option Addr) (c5 : Nat) (rows : List (List Int)) (b : Int) (r : Bool) (w : World) (hr0 : Kd.C (Kd.slice 59 k59) w A0 l0.length l0) (hc0 : l0.length ≤ c0) (hr1 : Kd.C (Kd.int .i64) w A1 vars.length vars) (hc1 : vars.length ≤ c1) (hr2 : Kd.C (Kd.int .i64) w A2 coefs.length coefs) (hc2 : coefs.length ≤ c2) (hr5 : Kd.C (Kd.slice 3 (Kd.int .i64)) w A5 rows.length rows) (hc5 : rows.length ≤ c5) (hk : kd = 2) (hrow : True) (h : Zbw.f k l0 kd vars coefs op rhs rows b = some r) :
    Calls Tryz.prog 34 #[.slice A0 l0.length c0,.agg #[.int .i64 kd,.slice A1 vars.length c1,.slice A2 coefs.length c2,.int .i64 op,.int .i64 rhs,.slice A5 rows.length c5,.int .i64 b]] w fun e w'=>e= .returned (.bool r)∧Below w.heap.size w w':=by
  subst hk;have HC:=Za.mk (Zdt A0 c0 l0 2 A1 c1 vars A2 c2 coefs op rhs A5 c5 rows b w hr0 hc0 hr1 hc1 hr2 hc2 hr5 hc5);have hwB:Below w.heap.size w ((w.alloc (.cells #[.slice A0 l0.length c0] 45)).alloc (.cells #[.int .i64 2,.slice A1 vars.length c1,.slice A2 coefs.length c2,.int .i64 op,.int .i64 rhs,.slice A5 rows.length c5,.int .i64 b] 40)):=Zb (Zb (Below.refl _ _) _) _;have HWB:=Za.mk hwB;clear hwB hr0 hr1 hr2 hr5;unfold Zbw.f at h;rw[if_neg (fun h_=>h_.1 rfl)]at h;rw[if_neg (by decide)]at h;rw[if_neg (by decide)]at h;rw[if_pos rfl]at h;obtain⟨q1,hq1,h2_⟩:=Option.bind_eq_some_iff.1 h;clear h;have h:=h2_;clear h2_;have A_1:=Za.mk hq1;clear hq1;obtain⟨q2,hq2,h2_⟩:=Option.bind_eq_some_iff.1 h;clear h;have h:=h2_;clear h2_;have A_2:=Za.mk hq2;clear hq2;obtain rfl:=Option.some.inj h;clear h;have CP:=Za.mk (fun(w':World) (hw:Below ((w.alloc (.cells #[.slice A0 l0.length c0] 45)).alloc (.cells #[.int .i64 2,.slice A1 vars.length c1,.slice A2 coefs.length c2,.int .i64 op,.int .i64 rhs,.slice A5 rows.length c5,.int .i64 b] 40)).heap.size ((w.alloc (.cells #[.slice A0 l0.length c0] 45)).alloc (.cells #[.int .i64 2,.slice A1 vars.length c1,.slice A2 coefs.length c2,.int .i64 op,.int .i64 rhs,.slice A5 rows.length c5,.int .i64 b] 40)) w')=>Zc5.calls 2 A1 c1 vars A2 c2 coefs op rhs A5 c5 rows b q1 w' (Kd.Zaf HC.out.r1 hw) hc1 (Kd.Zaf HC.out.r2 hw) hc2 (Kd.Zaf HC.out.r5 hw) hc5 A_1.out);have CA:=Za.mk (fun(w':World) (hw:Below ((w.alloc (.cells #[.slice A0 l0.length c0] 45)).alloc (.cells #[.int .i64 2,.slice A1 vars.length c1,.slice A2 coefs.length c2,.int .i64 op,.int .i64 rhs,.slice A5 rows.length c5,.int .i64 b] 40)).heap.size ((w.alloc (.cells #[.slice A0 l0.length c0] 45)).alloc (.cells #[.int .i64 2,.slice A1 vars.length c1,.slice A2 coefs.length c2,.int .i64 op,.int .i64 rhs,.slice A5 rows.length c5,.int .i64 b] 40)) w')=>Zdb.calls A1 c1 vars q2 w' (Kd.Zaf HC.out.r1 hw) hc1 A_2.out);have CR:=Za.mk (fun(w':World) (hw:Below ((w.alloc (.cells #[.slice A0 l0.length c0] 45)).alloc (.cells #[.int .i64 2,.slice A1 vars.length c1,.slice A2 coefs.length c2,.int .i64 op,.int .i64 rhs,.slice A5 rows.length c5,.int .i64 b] 40)).heap.size ((w.alloc (.cells #[.slice A0 l0.length c0] 45)).alloc (.cells #[.int .i64 2,.slice A1 vars.length c1,.slice A2 coefs.length c2,.int .i64 op,.int .i64 rhs,.slice A5 rows.length c5,.int .i64 b] 40)) w')=>Zg4 (fun l=> !rowOk vars l) 59 #[.pointer (some ⟨w.heap.size+1,0,none⟩)] (enters_of Tryz.func59 (by kernel_rfl) rfl) A5 c5 rows w' (Kd.Zaf HC.out.r5 hw) (fun x Ax cx _ w2 hw2 hrx hcx=>rowBad w2 (HC.out.below (Zae hw hw2)) Ax cx x hrx hcx))
  generalize (rows.any fun l=> !rowOk vars l)=q4 at CR ⊢
  have BW:=Za.mk (Below.refl ((w.alloc (.cells #[.slice A0 l0.length c0] 45)).alloc (.cells #[.int .i64 2,.slice A1 vars.length c1,.slice A2 coefs.length c2,.int .i64 op,.int .i64 rhs,.slice A5 rows.length c5,.int .i64 b] 40)).heap.size ((w.alloc (.cells #[.slice A0 l0.length c0] 45)).alloc (.cells #[.int .i64 2,.slice A1 vars.length c1,.slice A2 coefs.length c2,.int .i64 op,.int .i64 rhs,.slice A5 rows.length c5,.int .i64 b] 40)));clear hrow
  cases q1 with
  |false=>
    go_enter Tryz.func34,Tryz.ntmps34
    go_wp2_with (first|(go_at_call 57;go_loud (refine(CP.out _ ?hB).mono ?_;(case hB=>exact mvB BW.out);rintro e w' ⟨rfl,hb⟩;have BW1:=Za.mk (Zae (mvB BW.out) hb);clear BW hb;have BW:=BW1;clear BW1;have hx_:=HC.out.below BW.out;have ed:=hx_.ed;have k0:=hx_.k0;have k1:=hx_.k1;have k2:=hx_.k2;have k3:=hx_.k3;have k4:=hx_.k4;have k5:=hx_.k5;have k6:=hx_.k6;clear hx_))|(go_at_call 58;go_loud (refine(CA.out _ ?hB).mono ?_;(case hB=>exact mvB BW.out);rintro e w' ⟨rfl,hb⟩;have BW1:=Za.mk (Zae (mvB BW.out) hb);clear BW hb;have BW:=BW1;clear BW1;have hx_:=HC.out.below BW.out;have ed:=hx_.ed;have k0:=hx_.k0;have k1:=hx_.k1;have k2:=hx_.k2;have k3:=hx_.k3;have k4:=hx_.k4;have k5:=hx_.k5;have k6:=hx_.k6;clear hx_))|(go_at_call 61;go_loud (refine(CR.out _ ?hB).mono ?_;(case hB=>exact mvB BW.out);rintro e w' ⟨rfl,hb⟩;have BW1:=Za.mk (Zae (mvB BW.out) hb);clear BW hb;have BW:=BW1;clear BW1;have hx_:=HC.out.below BW.out;have ed:=hx_.ed;have k0:=hx_.k0;have k1:=hx_.k1;have k2:=hx_.k2;have k3:=hx_.k3;have k4:=hx_.k4;have k5:=hx_.k5;have k6:=hx_.k6;clear hx_)))
    go_ret;exact⟨by first|rfl|(simp[*];done)|(simp[*];rfl),Zae HWB.out (mvB BW.out)⟩
  |true=>
    by_cases hq_:0<vars.length;rotate_left
    · have d1len0_ : decide (0 < (vars.length : Int)) = false := decide_eq_false (by omega)
      have d2len0_:decide (0<vars.length)=false:=decide_eq_false hq_;clear hq_;go_enter Tryz.func34,Tryz.ntmps34
      go_wp2_with (first|(go_at_call 57;go_loud (refine(CP.out _ ?hB).mono ?_;(case hB=>exact mvB BW.out);rintro e w' ⟨rfl,hb⟩;have BW1:=Za.mk (Zae (mvB BW.out) hb);clear BW hb;have BW:=BW1;clear BW1;have hx_:=HC.out.below BW.out;have ed:=hx_.ed;have k0:=hx_.k0;have k1:=hx_.k1;have k2:=hx_.k2;have k3:=hx_.k3;have k4:=hx_.k4;have k5:=hx_.k5;have k6:=hx_.k6;clear hx_))|(go_at_call 58;go_loud (refine(CA.out _ ?hB).mono ?_;(case hB=>exact mvB BW.out);rintro e w' ⟨rfl,hb⟩;have BW1:=Za.mk (Zae (mvB BW.out) hb);clear BW hb;have BW:=BW1;clear BW1;have hx_:=HC.out.below BW.out;have ed:=hx_.ed;have k0:=hx_.k0;have k1:=hx_.k1;have k2:=hx_.k2;have k3:=hx_.k3;have k4:=hx_.k4;have k5:=hx_.k5;have k6:=hx_.k6;clear hx_))|(go_at_call 61;go_loud (refine(CR.out _ ?hB).mono ?_;(case hB=>exact mvB BW.out);rintro e w' ⟨rfl,hb⟩;have BW1:=Za.mk (Zae (mvB BW.out) hb);clear BW hb;have BW:=BW1;clear BW1;have hx_:=HC.out.below BW.out;have ed:=hx_.ed;have k0:=hx_.k0;have k1:=hx_.k1;have k2:=hx_.k2;have k3:=hx_.k3;have k4:=hx_.k4;have k5:=hx_.k5;have k6:=hx_.k6;clear hx_)))
      go_ret;exact⟨by first|rfl|(simp[*];done)|(simp[*];rfl),Zae HWB.out (mvB BW.out)⟩
    have d1len0_:decide (0<(vars.length:Int))=true:=decide_eq_true (by omega);have d2len0_:decide (0<vars.length)=true:=decide_eq_true hq_;clear hq_
    cases q2 with
    |false=>
      go_enter Tryz.func34,Tryz.ntmps34
      go_wp2_with (first|(go_at_call 57;go_loud (refine(CP.out _ ?hB).mono ?_;(case hB=>exact mvB BW.out);rintro e w' ⟨rfl,hb⟩;have BW1:=Za.mk (Zae (mvB BW.out) hb);clear BW hb;have BW:=BW1;clear BW1;have hx_:=HC.out.below BW.out;have ed:=hx_.ed;have k0:=hx_.k0;have k1:=hx_.k1;have k2:=hx_.k2;have k3:=hx_.k3;have k4:=hx_.k4;have k5:=hx_.k5;have k6:=hx_.k6;clear hx_))|(go_at_call 58;go_loud (refine(CA.out _ ?hB).mono ?_;(case hB=>exact mvB BW.out);rintro e w' ⟨rfl,hb⟩;have BW1:=Za.mk (Zae (mvB BW.out) hb);clear BW hb;have BW:=BW1;clear BW1;have hx_:=HC.out.below BW.out;have ed:=hx_.ed;have k0:=hx_.k0;have k1:=hx_.k1;have k2:=hx_.k2;have k3:=hx_.k3;have k4:=hx_.k4;have k5:=hx_.k5;have k6:=hx_.k6;clear hx_))|(go_at_call 61;go_loud (refine(CR.out _ ?hB).mono ?_;(case hB=>exact mvB BW.out);rintro e w' ⟨rfl,hb⟩;have BW1:=Za.mk (Zae (mvB BW.out) hb);clear BW hb;have BW:=BW1;clear BW1;have hx_:=HC.out.below BW.out;have ed:=hx_.ed;have k0:=hx_.k0;have k1:=hx_.k1;have k2:=hx_.k2;have k3:=hx_.k3;have k4:=hx_.k4;have k5:=hx_.k5;have k6:=hx_.k6;clear hx_)))
      go_ret;exact⟨by first|rfl|(simp[*];done)|(simp[*];rfl),Zae HWB.out (mvB BW.out)⟩
    |true=>
      by_cases hq_:rows.length≤1024
      · have d1len1_ : decide ((rows.length : Int) ≤ 1024) = true := decide_eq_true (by omega)
        have d2len1_:decide (rows.length≤1024)=true:=decide_eq_true hq_;clear hq_;go_enter Tryz.func34,Tryz.ntmps34
        go_wp2_with (first|(go_at_call 57;go_loud (refine(CP.out _ ?hB).mono ?_;(case hB=>exact mvB BW.out);rintro e w' ⟨rfl,hb⟩;have BW1:=Za.mk (Zae (mvB BW.out) hb);clear BW hb;have BW:=BW1;clear BW1;have hx_:=HC.out.below BW.out;have ed:=hx_.ed;have k0:=hx_.k0;have k1:=hx_.k1;have k2:=hx_.k2;have k3:=hx_.k3;have k4:=hx_.k4;have k5:=hx_.k5;have k6:=hx_.k6;clear hx_))|(go_at_call 58;go_loud (refine(CA.out _ ?hB).mono ?_;(case hB=>exact mvB BW.out);rintro e w' ⟨rfl,hb⟩;have BW1:=Za.mk (Zae (mvB BW.out) hb);clear BW hb;have BW:=BW1;clear BW1;have hx_:=HC.out.below BW.out;have ed:=hx_.ed;have k0:=hx_.k0;have k1:=hx_.k1;have k2:=hx_.k2;have k3:=hx_.k3;have k4:=hx_.k4;have k5:=hx_.k5;have k6:=hx_.k6;clear hx_))|(go_at_call 61;go_loud (refine(CR.out _ ?hB).mono ?_;(case hB=>exact mvB BW.out);rintro e w' ⟨rfl,hb⟩;have BW1:=Za.mk (Zae (mvB BW.out) hb);clear BW hb;have BW:=BW1;clear BW1;have hx_:=HC.out.below BW.out;have ed:=hx_.ed;have k0:=hx_.k0;have k1:=hx_.k1;have k2:=hx_.k2;have k3:=hx_.k3;have k4:=hx_.k4;have k5:=hx_.k5;have k6:=hx_.k6;clear hx_)))
        go_ret;exact⟨by first|rfl|(simp[*];done)|(simp[*];rfl),Zae HWB.out (mvB BW.out)⟩
      have d1len1_:decide ((rows.length:Int)≤1024)=false:=decide_eq_false (by omega);have d2len1_:decide (rows.length≤1024)=false:=decide_eq_false hq_;clear hq_;go_enter Tryz.func34,Tryz.ntmps34
      go_wp2_with (first|(go_at_call 57;go_loud (refine(CP.out _ ?hB).mono ?_;(case hB=>exact mvB BW.out);rintro e w' ⟨rfl,hb⟩;have BW1:=Za.mk (Zae (mvB BW.out) hb);clear BW hb;have BW:=BW1;clear BW1;have hx_:=HC.out.below BW.out;have ed:=hx_.ed;have k0:=hx_.k0;have k1:=hx_.k1;have k2:=hx_.k2;have k3:=hx_.k3;have k4:=hx_.k4;have k5:=hx_.k5;have k6:=hx_.k6;clear hx_))|(go_at_call 58;go_loud (refine(CA.out _ ?hB).mono ?_;(case hB=>exact mvB BW.out);rintro e w' ⟨rfl,hb⟩;have BW1:=Za.mk (Zae (mvB BW.out) hb);clear BW hb;have BW:=BW1;clear BW1;have hx_:=HC.out.below BW.out;have ed:=hx_.ed;have k0:=hx_.k0;have k1:=hx_.k1;have k2:=hx_.k2;have k3:=hx_.k3;have k4:=hx_.k4;have k5:=hx_.k5;have k6:=hx_.k6;clear hx_))|(go_at_call 61;go_loud (refine(CR.out _ ?hB).mono ?_;(case hB=>exact mvB BW.out);rintro e w' ⟨rfl,hb⟩;have BW1:=Za.mk (Zae (mvB BW.out) hb);clear BW hb;have BW:=BW1;clear BW1;have hx_:=HC.out.below BW.out;have ed:=hx_.ed;have k0:=hx_.k0;have k1:=hx_.k1;have k2:=hx_.k2;have k3:=hx_.k3;have k4:=hx_.k4;have k5:=hx_.k5;have k6:=hx_.k6;clear hx_)))
      go_ret;exact⟨by first|rfl|(simp[*];done)|(simp[*];rfl),Zae HWB.out (mvB BW.out)⟩
set_option maxRecDepth 100000 in
theorem right_3 (k : Nat) (A0 : Option Addr) (c0 : Nat) (l0 : List (List S59)) (kd : Int) (A1 : Option Addr) (c1 : Nat) (vars : List Int) (A2 : Option Addr) (c2 : Nat) (coefs : List Int) (op rhs : Int) (A5 : Option Addr) (c5 : Nat) (rows : List (List Int)) (b : Int) (r : Bool) (w : World) (hr0 : Kd.C (Kd.slice 59 k59) w A0 l0.length l0) (hc0 : l0.length ≤ c0) (hr1 : Kd.C (Kd.int .i64) w A1 vars.length vars) (hc1 : vars.length ≤ c1) (hr2 : Kd.C (Kd.int .i64) w A2 coefs.length coefs) (hc2 : coefs.length ≤ c2) (hr5 : Kd.C (Kd.slice 3 (Kd.int .i64)) w A5 rows.length rows) (hc5 : rows.length ≤ c5) (hk : kd = 3) (hrow : rows.length = 0) (h : Zbw.f k l0 kd vars coefs op rhs rows b = some r) :
    Calls Tryz.prog 34 #[.slice A0 l0.length c0,.agg #[.int .i64 kd,.slice A1 vars.length c1,.slice A2 coefs.length c2,.int .i64 op,.int .i64 rhs,.slice A5 rows.length c5,.int .i64 b]] w fun e w'=>e= .returned (.bool r)∧Below w.heap.size w w':=by
  subst hk;have HC:=Za.mk (Zdt A0 c0 l0 3 A1 c1 vars A2 c2 coefs op rhs A5 c5 rows b w hr0 hc0 hr1 hc1 hr2 hc2 hr5 hc5);have hwB:Below w.heap.size w ((w.alloc (.cells #[.slice A0 l0.length c0] 45)).alloc (.cells #[.int .i64 3,.slice A1 vars.length c1,.slice A2 coefs.length c2,.int .i64 op,.int .i64 rhs,.slice A5 rows.length c5,.int .i64 b] 40)):=Zb (Zb (Below.refl _ _) _) _;have HWB:=Za.mk hwB;clear hwB hr0 hr1 hr2 hr5;unfold Zbw.f at h;rw[if_neg (fun h_=>absurd h_.2 (by omega))]at h;rw[if_neg (by decide)]at h;rw[if_neg (by decide)]at h;rw[if_neg (by decide)]at h;rw[if_pos rfl]at h;obtain⟨q1,hq1,h2_⟩:=Option.bind_eq_some_iff.1 h;clear h;have h:=h2_;clear h2_;have A_1:=Za.mk hq1;clear hq1;obtain⟨q2,hq2,h2_⟩:=Option.bind_eq_some_iff.1 h;clear h;have h:=h2_;clear h2_;have A_2:=Za.mk hq2;clear hq2;obtain rfl:=Option.some.inj h;clear h;have CP:=Za.mk (fun(w':World) (hw:Below ((w.alloc (.cells #[.slice A0 l0.length c0] 45)).alloc (.cells #[.int .i64 3,.slice A1 vars.length c1,.slice A2 coefs.length c2,.int .i64 op,.int .i64 rhs,.slice A5 rows.length c5,.int .i64 b] 40)).heap.size ((w.alloc (.cells #[.slice A0 l0.length c0] 45)).alloc (.cells #[.int .i64 3,.slice A1 vars.length c1,.slice A2 coefs.length c2,.int .i64 op,.int .i64 rhs,.slice A5 rows.length c5,.int .i64 b] 40)) w')=>Zc5.calls 3 A1 c1 vars A2 c2 coefs op rhs A5 c5 rows b q1 w' (Kd.Zaf HC.out.r1 hw) hc1 (Kd.Zaf HC.out.r2 hw) hc2 (Kd.Zaf HC.out.r5 hw) hc5 A_1.out);have CA:=Za.mk (fun(w':World) (hw:Below ((w.alloc (.cells #[.slice A0 l0.length c0] 45)).alloc (.cells #[.int .i64 3,.slice A1 vars.length c1,.slice A2 coefs.length c2,.int .i64 op,.int .i64 rhs,.slice A5 rows.length c5,.int .i64 b] 40)).heap.size ((w.alloc (.cells #[.slice A0 l0.length c0] 45)).alloc (.cells #[.int .i64 3,.slice A1 vars.length c1,.slice A2 coefs.length c2,.int .i64 op,.int .i64 rhs,.slice A5 rows.length c5,.int .i64 b] 40)) w')=>Zdb.calls A1 c1 vars q2 w' (Kd.Zaf HC.out.r1 hw) hc1 A_2.out);have BW:=Za.mk (Below.refl ((w.alloc (.cells #[.slice A0 l0.length c0] 45)).alloc (.cells #[.int .i64 3,.slice A1 vars.length c1,.slice A2 coefs.length c2,.int .i64 op,.int .i64 rhs,.slice A5 rows.length c5,.int .i64 b] 40)).heap.size ((w.alloc (.cells #[.slice A0 l0.length c0] 45)).alloc (.cells #[.int .i64 3,.slice A1 vars.length c1,.slice A2 coefs.length c2,.int .i64 op,.int .i64 rhs,.slice A5 rows.length c5,.int .i64 b] 40)));have JU:decide (0<(rows.length:Int))=false:=decide_eq_false (by omega);have hr0n_:decide (0<rows.length)=false:=decide_eq_false (by omega);clear hrow
  cases q1 with
  |false=>
    go_enter Tryz.func34,Tryz.ntmps34
    go_wp2_with (first|(go_at_call 57;go_loud (refine(CP.out _ ?hB).mono ?_;(case hB=>exact mvB BW.out);rintro e w' ⟨rfl,hb⟩;have BW1:=Za.mk (Zae (mvB BW.out) hb);clear BW hb;have BW:=BW1;clear BW1;have hx_:=HC.out.below BW.out;have ed:=hx_.ed;have k0:=hx_.k0;have k1:=hx_.k1;have k2:=hx_.k2;have k3:=hx_.k3;have k4:=hx_.k4;have k5:=hx_.k5;have k6:=hx_.k6;clear hx_))|(go_at_call 58;go_loud (refine(CA.out _ ?hB).mono ?_;(case hB=>exact mvB BW.out);rintro e w' ⟨rfl,hb⟩;have BW1:=Za.mk (Zae (mvB BW.out) hb);clear BW hb;have BW:=BW1;clear BW1;have hx_:=HC.out.below BW.out;have ed:=hx_.ed;have k0:=hx_.k0;have k1:=hx_.k1;have k2:=hx_.k2;have k3:=hx_.k3;have k4:=hx_.k4;have k5:=hx_.k5;have k6:=hx_.k6;clear hx_)))
    go_ret;exact⟨by first|rfl|(simp[*];done)|(simp[*];rfl),Zae HWB.out (mvB BW.out)⟩
  |true=>
    by_cases hq_:3≤vars.length
    · have d1len2_ : decide (3 ≤ (vars.length : Int)) = true := decide_eq_true (by omega)
      have d2len2_:decide (3≤vars.length)=true:=decide_eq_true hq_;clear hq_;go_enter Tryz.func34,Tryz.ntmps34
      go_wp2_with (first|(go_at_call 57;go_loud (refine(CP.out _ ?hB).mono ?_;(case hB=>exact mvB BW.out);rintro e w' ⟨rfl,hb⟩;have BW1:=Za.mk (Zae (mvB BW.out) hb);clear BW hb;have BW:=BW1;clear BW1;have hx_:=HC.out.below BW.out;have ed:=hx_.ed;have k0:=hx_.k0;have k1:=hx_.k1;have k2:=hx_.k2;have k3:=hx_.k3;have k4:=hx_.k4;have k5:=hx_.k5;have k6:=hx_.k6;clear hx_))|(go_at_call 58;go_loud (refine(CA.out _ ?hB).mono ?_;(case hB=>exact mvB BW.out);rintro e w' ⟨rfl,hb⟩;have BW1:=Za.mk (Zae (mvB BW.out) hb);clear BW hb;have BW:=BW1;clear BW1;have hx_:=HC.out.below BW.out;have ed:=hx_.ed;have k0:=hx_.k0;have k1:=hx_.k1;have k2:=hx_.k2;have k3:=hx_.k3;have k4:=hx_.k4;have k5:=hx_.k5;have k6:=hx_.k6;clear hx_)))
      go_ret;exact⟨by first|rfl|(simp[*];done)|(simp[*];rfl),Zae HWB.out (mvB BW.out)⟩
    have d1len2_:decide (3≤(vars.length:Int))=false:=decide_eq_false (by omega);have d2len2_:decide (3≤vars.length)=false:=decide_eq_false hq_;clear hq_;go_enter Tryz.func34,Tryz.ntmps34
    go_wp2_with (first|(go_at_call 57;go_loud (refine(CP.out _ ?hB).mono ?_;(case hB=>exact mvB BW.out);rintro e w' ⟨rfl,hb⟩;have BW1:=Za.mk (Zae (mvB BW.out) hb);clear BW hb;have BW:=BW1;clear BW1;have hx_:=HC.out.below BW.out;have ed:=hx_.ed;have k0:=hx_.k0;have k1:=hx_.k1;have k2:=hx_.k2;have k3:=hx_.k3;have k4:=hx_.k4;have k5:=hx_.k5;have k6:=hx_.k6;clear hx_))|(go_at_call 58;go_loud (refine(CA.out _ ?hB).mono ?_;(case hB=>exact mvB BW.out);rintro e w' ⟨rfl,hb⟩;have BW1:=Za.mk (Zae (mvB BW.out) hb);clear BW hb;have BW:=BW1;clear BW1;have hx_:=HC.out.below BW.out;have ed:=hx_.ed;have k0:=hx_.k0;have k1:=hx_.k1;have k2:=hx_.k2;have k3:=hx_.k3;have k4:=hx_.k4;have k5:=hx_.k5;have k6:=hx_.k6;clear hx_)))
    go_ret;exact⟨by first|rfl|(simp[*];done)|(simp[*];rfl),Zae HWB.out (mvB BW.out)⟩
set_option maxRecDepth 100000 in
theorem right_4 (k : Nat) (A0 : Option Addr) (c0 : Nat) (l0 : List (List S59)) (kd : Int) (A1 : Option Addr) (c1 : Nat) (vars : List Int) (A2 : Option Addr) (c2 : Nat) (coefs : List Int) (op rhs : Int) (A5 : Option Addr) (c5 : Nat) (rows : List (List Int)) (b : Int) (r : Bool) (w : World) (hr0 : Kd.C (Kd.slice 59 k59) w A0 l0.length l0) (hc0 : l0.length ≤ c0) (hr1 : Kd.C (Kd.int .i64) w A1 vars.length vars) (hc1 : vars.length ≤ c1) (hr2 : Kd.C (Kd.int .i64) w A2 coefs.length coefs) (hc2 : coefs.length ≤ c2) (hr5 : Kd.C (Kd.slice 3 (Kd.int .i64)) w A5 rows.length rows) (hc5 : rows.length ≤ c5) (hk : kd = 4) (hrow : rows.length = 0) (h : Zbw.f k l0 kd vars coefs op rhs rows b = some r) :
    Calls Tryz.prog 34 #[.slice A0 l0.length c0,.agg #[.int .i64 kd,.slice A1 vars.length c1,.slice A2 coefs.length c2,.int .i64 op,.int .i64 rhs,.slice A5 rows.length c5,.int .i64 b]] w fun e w'=>e= .returned (.bool r)∧Below w.heap.size w w':=by
  subst hk;have HC:=Za.mk (Zdt A0 c0 l0 4 A1 c1 vars A2 c2 coefs op rhs A5 c5 rows b w hr0 hc0 hr1 hc1 hr2 hc2 hr5 hc5);have hwB:Below w.heap.size w ((w.alloc (.cells #[.slice A0 l0.length c0] 45)).alloc (.cells #[.int .i64 4,.slice A1 vars.length c1,.slice A2 coefs.length c2,.int .i64 op,.int .i64 rhs,.slice A5 rows.length c5,.int .i64 b] 40)):=Zb (Zb (Below.refl _ _) _) _;have HWB:=Za.mk hwB;clear hwB hr0 hr1 hr2 hr5;unfold Zbw.f at h;rw[if_neg (fun h_=>absurd h_.2 (by omega))]at h;rw[if_neg (by decide)]at h;rw[if_neg (by decide)]at h;rw[if_neg (by decide)]at h;rw[if_neg (by decide)]at h;rw[if_pos rfl]at h;by_cases hbr:0≤b∧b<(l0.length:Int);case neg=>rw[if_neg hbr]at h;cases h
  rw[if_pos hbr]at h;obtain⟨q1,hq1,h2_⟩:=Option.bind_eq_some_iff.1 h;clear h;have h:=h2_;clear h2_;have A_1:=Za.mk hq1;clear hq1;obtain⟨q2,hq2,h2_⟩:=Option.bind_eq_some_iff.1 h;clear h;have h:=h2_;clear h2_;have A_2:=Za.mk hq2;clear hq2;obtain⟨q3,hq3,h2_⟩:=Option.bind_eq_some_iff.1 h;clear h;have h:=h2_;clear h2_;have A_3:=Za.mk hq3;clear hq3;obtain rfl:=Option.some.inj h;clear h;obtain⟨hb0,hb1⟩:=hbr;obtain⟨ad,A6,c6,e_,hx6,hl6,hi6⟩:=at_L4 HC.out.rd b hb0 hb1;subst e_;have HL:=Za.mk hl6;have HI:=Za.mk hi6;have HX:=Za.mk hx6;clear hl6 hi6 hx6;have p1_:decide (0≤b)=true:=decide_eq_true hb0;have p2_:decide (b<(l0.length:Int))=true:=decide_eq_true hb1;have CH:=Za.mk (fun(w':World) (hw:Below ((w.alloc (.cells #[.slice (some ad) l0.length c0] 45)).alloc (.cells #[.int .i64 4,.slice A1 vars.length c1,.slice A2 coefs.length c2,.int .i64 op,.int .i64 rhs,.slice A5 rows.length c5,.int .i64 b] 40)).heap.size ((w.alloc (.cells #[.slice (some ad) l0.length c0] 45)).alloc (.cells #[.int .i64 4,.slice A1 vars.length c1,.slice A2 coefs.length c2,.int .i64 op,.int .i64 rhs,.slice A5 rows.length c5,.int .i64 b] 40)) w')=>Zc1.calls k 4 A1 c1 vars A2 c2 coefs op rhs A5 c5 rows b q1 w' (Kd.Zaf HC.out.r1 hw) hc1 (Kd.Zaf HC.out.r2 hw) hc2 (Kd.Zaf HC.out.r5 hw) hc5 A_1.out);have CT:=Za.mk (fun(w':World) (hw:Below ((w.alloc (.cells #[.slice (some ad) l0.length c0] 45)).alloc (.cells #[.int .i64 4,.slice A1 vars.length c1,.slice A2 coefs.length c2,.int .i64 op,.int .i64 rhs,.slice A5 rows.length c5,.int .i64 b] 40)).heap.size ((w.alloc (.cells #[.slice (some ad) l0.length c0] 45)).alloc (.cells #[.int .i64 4,.slice A1 vars.length c1,.slice A2 coefs.length c2,.int .i64 op,.int .i64 rhs,.slice A5 rows.length c5,.int .i64 b] 40)) w')=>Zcd.calls k A6 c6 (Ze l0 b) q2 w' (Kd.Zaf HI.out hw) HL.out A_2.out);have CN:=Za.mk (fun(w':World) (hw:Below ((w.alloc (.cells #[.slice (some ad) l0.length c0] 45)).alloc (.cells #[.int .i64 4,.slice A1 vars.length c1,.slice A2 coefs.length c2,.int .i64 op,.int .i64 rhs,.slice A5 rows.length c5,.int .i64 b] 40)).heap.size ((w.alloc (.cells #[.slice (some ad) l0.length c0] 45)).alloc (.cells #[.int .i64 4,.slice A1 vars.length c1,.slice A2 coefs.length c2,.int .i64 op,.int .i64 rhs,.slice A5 rows.length c5,.int .i64 b] 40)) w')=>slices_Contains_int.calls k A1 c1 vars b q3 w' (Kd.Zaf HC.out.r1 hw) hc1 A_3.out);have BW:=Za.mk (Below.refl ((w.alloc (.cells #[.slice (some ad) l0.length c0] 45)).alloc (.cells #[.int .i64 4,.slice A1 vars.length c1,.slice A2 coefs.length c2,.int .i64 op,.int .i64 rhs,.slice A5 rows.length c5,.int .i64 b] 40)).heap.size ((w.alloc (.cells #[.slice (some ad) l0.length c0] 45)).alloc (.cells #[.int .i64 4,.slice A1 vars.length c1,.slice A2 coefs.length c2,.int .i64 op,.int .i64 rhs,.slice A5 rows.length c5,.int .i64 b] 40)));have JU:decide (0<(rows.length:Int))=false:=decide_eq_false (by omega);have hr0n_:decide (0<rows.length)=false:=decide_eq_false (by omega);clear hrow
  cases q1 with
  |false=>
    go_enter Tryz.func34,Tryz.ntmps34
    go_wp2_with (first|(go_at_call 56;go_loud (refine(CH.out _ ?hB).mono ?_;(case hB=>exact mvB BW.out);rintro e w' ⟨rfl,hb⟩;have BW1:=Za.mk (Zae (mvB BW.out) hb);clear BW hb;have BW:=BW1;clear BW1;have hx_:=HC.out.below BW.out;have ed:=hx_.ed;have k0:=hx_.k0;have k1:=hx_.k1;have k2:=hx_.k2;have k3:=hx_.k3;have k4:=hx_.k4;have k5:=hx_.k5;have k6:=hx_.k6;clear hx_;have hx6:=cellB BW.out HX.out))|(go_at_call 55;go_loud (refine(CT.out _ ?hB).mono ?_;(case hB=>exact mvB BW.out);rintro e w' ⟨rfl,hb⟩;have BW1:=Za.mk (Zae (mvB BW.out) hb);clear BW hb;have BW:=BW1;clear BW1;have hx_:=HC.out.below BW.out;have ed:=hx_.ed;have k0:=hx_.k0;have k1:=hx_.k1;have k2:=hx_.k2;have k3:=hx_.k3;have k4:=hx_.k4;have k5:=hx_.k5;have k6:=hx_.k6;clear hx_;have hx6:=cellB BW.out HX.out))|(go_at_call 62;go_loud (refine(CN.out _ ?hB).mono ?_;(case hB=>exact mvB BW.out);rintro e w' ⟨rfl,⟨nd,rfl⟩⟩)))
    go_ret;exact⟨by first|rfl|(simp[*];done)|(simp[*];rfl),Zae HWB.out (mvB BW.out)⟩
  |true=>
    cases q2 with
    |false=>
      go_enter Tryz.func34,Tryz.ntmps34
      go_wp2_with (first|(go_at_call 56;go_loud (refine(CH.out _ ?hB).mono ?_;(case hB=>exact mvB BW.out);rintro e w' ⟨rfl,hb⟩;have BW1:=Za.mk (Zae (mvB BW.out) hb);clear BW hb;have BW:=BW1;clear BW1;have hx_:=HC.out.below BW.out;have ed:=hx_.ed;have k0:=hx_.k0;have k1:=hx_.k1;have k2:=hx_.k2;have k3:=hx_.k3;have k4:=hx_.k4;have k5:=hx_.k5;have k6:=hx_.k6;clear hx_;have hx6:=cellB BW.out HX.out))|(go_at_call 55;go_loud (refine(CT.out _ ?hB).mono ?_;(case hB=>exact mvB BW.out);rintro e w' ⟨rfl,hb⟩;have BW1:=Za.mk (Zae (mvB BW.out) hb);clear BW hb;have BW:=BW1;clear BW1;have hx_:=HC.out.below BW.out;have ed:=hx_.ed;have k0:=hx_.k0;have k1:=hx_.k1;have k2:=hx_.k2;have k3:=hx_.k3;have k4:=hx_.k4;have k5:=hx_.k5;have k6:=hx_.k6;clear hx_;have hx6:=cellB BW.out HX.out))|(go_at_call 62;go_loud (refine(CN.out _ ?hB).mono ?_;(case hB=>exact mvB BW.out);rintro e w' ⟨rfl,⟨nd,rfl⟩⟩)))
      go_ret;exact⟨by first|rfl|(simp[*];done)|(simp[*];rfl),Zae HWB.out (mvB BW.out)⟩
    |true=>
      go_enter Tryz.func34,Tryz.ntmps34
      go_wp2_with (first|(go_at_call 56;go_loud (refine(CH.out _ ?hB).mono ?_;(case hB=>exact mvB BW.out);rintro e w' ⟨rfl,hb⟩;have BW1:=Za.mk (Zae (mvB BW.out) hb);clear BW hb;have BW:=BW1;clear BW1;have hx_:=HC.out.below BW.out;have ed:=hx_.ed;have k0:=hx_.k0;have k1:=hx_.k1;have k2:=hx_.k2;have k3:=hx_.k3;have k4:=hx_.k4;have k5:=hx_.k5;have k6:=hx_.k6;clear hx_;have hx6:=cellB BW.out HX.out))|(go_at_call 55;go_loud (refine(CT.out _ ?hB).mono ?_;(case hB=>exact mvB BW.out);rintro e w' ⟨rfl,hb⟩;have BW1:=Za.mk (Zae (mvB BW.out) hb);clear BW hb;have BW:=BW1;clear BW1;have hx_:=HC.out.below BW.out;have ed:=hx_.ed;have k0:=hx_.k0;have k1:=hx_.k1;have k2:=hx_.k2;have k3:=hx_.k3;have k4:=hx_.k4;have k5:=hx_.k5;have k6:=hx_.k6;clear hx_;have hx6:=cellB BW.out HX.out))|(go_at_call 62;go_loud (refine(CN.out _ ?hB).mono ?_;(case hB=>exact mvB BW.out);rintro e w' ⟨rfl,⟨nd,rfl⟩⟩)))
      go_ret;exact⟨by first|rfl|(simp[*];done)|(simp[*];rfl),Zae HWB.out (mvB BW.out)⟩
set_option maxRecDepth 100000 in
theorem right_5 (k : Nat) (A0 : Option Addr) (c0 : Nat) (l0 : List (List S59)) (kd : Int) (A1 : Option Addr) (c1 : Nat) (vars : List Int) (A2 : Option Addr) (c2 : Nat) (coefs : List Int) (op rhs : Int) (A5 : Option Addr) (c5 : Nat) (rows : List (List Int)) (b : Int) (r : Bool) (w : World) (hr0 : Kd.C (Kd.slice 59 k59) w A0 l0.length l0) (hc0 : l0.length ≤ c0) (hr1 : Kd.C (Kd.int .i64) w A1 vars.length vars) (hc1 : vars.length ≤ c1) (hr2 : Kd.C (Kd.int .i64) w A2 coefs.length coefs) (hc2 : coefs.length ≤ c2) (hr5 : Kd.C (Kd.slice 3 (Kd.int .i64)) w A5 rows.length rows) (hc5 : rows.length ≤ c5) (hk : kd = 5) (hrow : rows.length = 0) (h : Zbw.f k l0 kd vars coefs op rhs rows b = some r) :
    Calls Tryz.prog 34 #[.slice A0 l0.length c0,.agg #[.int .i64 kd,.slice A1 vars.length c1,.slice A2 coefs.length c2,.int .i64 op,.int .i64 rhs,.slice A5 rows.length c5,.int .i64 b]] w fun e w'=>e= .returned (.bool r)∧Below w.heap.size w w':=by
  subst hk;have HC:=Za.mk (Zdt A0 c0 l0 5 A1 c1 vars A2 c2 coefs op rhs A5 c5 rows b w hr0 hc0 hr1 hc1 hr2 hc2 hr5 hc5);have hwB:Below w.heap.size w ((w.alloc (.cells #[.slice A0 l0.length c0] 45)).alloc (.cells #[.int .i64 5,.slice A1 vars.length c1,.slice A2 coefs.length c2,.int .i64 op,.int .i64 rhs,.slice A5 rows.length c5,.int .i64 b] 40)):=Zb (Zb (Below.refl _ _) _) _;have HWB:=Za.mk hwB;clear hwB hr0 hr1 hr2 hr5;unfold Zbw.f at h;rw[if_neg (fun h_=>absurd h_.2 (by omega))]at h;rw[if_neg (by decide)]at h;rw[if_neg (by decide)]at h;rw[if_neg (by decide)]at h;rw[if_neg (by decide)]at h;rw[if_neg (by decide)]at h;rw[if_pos rfl]at h;obtain⟨q1,hq1,h2_⟩:=Option.bind_eq_some_iff.1 h;clear h;have h:=h2_;clear h2_;have A_1:=Za.mk hq1;clear hq1;obtain⟨q2,hq2,h2_⟩:=Option.bind_eq_some_iff.1 h;clear h;have h:=h2_;clear h2_;have A_2:=Za.mk hq2;clear hq2;obtain rfl:=Option.some.inj h;clear h;have CS:=Za.mk (fun(w':World) (hw:Below ((w.alloc (.cells #[.slice A0 l0.length c0] 45)).alloc (.cells #[.int .i64 5,.slice A1 vars.length c1,.slice A2 coefs.length c2,.int .i64 op,.int .i64 rhs,.slice A5 rows.length c5,.int .i64 b] 40)).heap.size ((w.alloc (.cells #[.slice A0 l0.length c0] 45)).alloc (.cells #[.int .i64 5,.slice A1 vars.length c1,.slice A2 coefs.length c2,.int .i64 op,.int .i64 rhs,.slice A5 rows.length c5,.int .i64 b] 40)) w')=>Zcz.calls k 5 A1 c1 vars A2 c2 coefs op rhs A5 c5 rows b q1 w' (Kd.Zaf HC.out.r1 hw) hc1 (Kd.Zaf HC.out.r2 hw) hc2 (Kd.Zaf HC.out.r5 hw) hc5 A_1.out);have CO:=Za.mk (fun(w':World) (hw:Below ((w.alloc (.cells #[.slice A0 l0.length c0] 45)).alloc (.cells #[.int .i64 5,.slice A1 vars.length c1,.slice A2 coefs.length c2,.int .i64 op,.int .i64 rhs,.slice A5 rows.length c5,.int .i64 b] 40)).heap.size ((w.alloc (.cells #[.slice A0 l0.length c0] 45)).alloc (.cells #[.int .i64 5,.slice A1 vars.length c1,.slice A2 coefs.length c2,.int .i64 op,.int .i64 rhs,.slice A5 rows.length c5,.int .i64 b] 40)) w')=>Zee oddU 63 #[] (enters_of Tryz.func63 (by kernel_rfl) rfl) A2 c2 coefs w' (Kd.Zaf HC.out.r2 hw) (fun k _ q=>oddPred _ _));have CZ:=Za.mk (fun(w':World) (hw:Below ((w.alloc (.cells #[.slice A0 l0.length c0] 45)).alloc (.cells #[.int .i64 5,.slice A1 vars.length c1,.slice A2 coefs.length c2,.int .i64 op,.int .i64 rhs,.slice A5 rows.length c5,.int .i64 b] 40)).heap.size ((w.alloc (.cells #[.slice A0 l0.length c0] 45)).alloc (.cells #[.int .i64 5,.slice A1 vars.length c1,.slice A2 coefs.length c2,.int .i64 op,.int .i64 rhs,.slice A5 rows.length c5,.int .i64 b] 40)) w')=>truths_calls k w' (HC.out.below hw) A1 c1 vars q2 (Kd.Zaf HC.out.r1 hw) hc1 A_2.out)
  generalize coefs.any oddU=q4 at CO ⊢
  generalize (q2.all fun t=>t)=q5 at CZ ⊢
  have BW:=Za.mk (Below.refl ((w.alloc (.cells #[.slice A0 l0.length c0] 45)).alloc (.cells #[.int .i64 5,.slice A1 vars.length c1,.slice A2 coefs.length c2,.int .i64 op,.int .i64 rhs,.slice A5 rows.length c5,.int .i64 b] 40)).heap.size ((w.alloc (.cells #[.slice A0 l0.length c0] 45)).alloc (.cells #[.int .i64 5,.slice A1 vars.length c1,.slice A2 coefs.length c2,.int .i64 op,.int .i64 rhs,.slice A5 rows.length c5,.int .i64 b] 40)));have JU:decide (0<(rows.length:Int))=false:=decide_eq_false (by omega);have hr0n_:decide (0<rows.length)=false:=decide_eq_false (by omega);clear hrow
  cases q1 with
  |false=>
    go_enter Tryz.func34,Tryz.ntmps34
    go_wp2_with (first|(go_at_call 64;go_loud (refine(CS.out _ ?hB).mono ?_;(case hB=>exact mvB BW.out);rintro e w' ⟨rfl,hb⟩;have BW1:=Za.mk (Zae (mvB BW.out) hb);clear BW hb;have BW:=BW1;clear BW1;have hx_:=HC.out.below BW.out;have ed:=hx_.ed;have k0:=hx_.k0;have k1:=hx_.k1;have k2:=hx_.k2;have k3:=hx_.k3;have k4:=hx_.k4;have k5:=hx_.k5;have k6:=hx_.k6;clear hx_))|(go_at_call 33;go_loud (refine(CO.out _ ?hB).mono ?_;(case hB=>exact mvB BW.out);rintro e w' ⟨rfl,nd,rfl⟩))|(go_at_fn 53;go_loud (refine(CZ.out _ ?hB).mono ?_;(case hB=>exact mvB BW.out);rintro e w' ⟨rfl,hb⟩;have BW1:=Za.mk (Zae (mvB BW.out) hb);clear BW hb;have BW:=BW1;clear BW1;have hx_:=HC.out.below BW.out;have ed:=hx_.ed;have k0:=hx_.k0;have k1:=hx_.k1;have k2:=hx_.k2;have k3:=hx_.k3;have k4:=hx_.k4;have k5:=hx_.k5;have k6:=hx_.k6;clear hx_)))
    go_ret;exact⟨by first|rfl|(simp[*];done)|(simp[*];rfl),Zae HWB.out (mvB BW.out)⟩
  |true=>
    by_cases hq_:op=0;rotate_left
    · have d_ : decide (op = 0) = false := decide_eq_false hq_
      have d2_:(op==0)=false:=beq_eq_false_iff_ne.2 hq_;clear hq_;go_enter Tryz.func34,Tryz.ntmps34
      go_wp2_with (first|(go_at_call 64;go_loud (refine(CS.out _ ?hB).mono ?_;(case hB=>exact mvB BW.out);rintro e w' ⟨rfl,hb⟩;have BW1:=Za.mk (Zae (mvB BW.out) hb);clear BW hb;have BW:=BW1;clear BW1;have hx_:=HC.out.below BW.out;have ed:=hx_.ed;have k0:=hx_.k0;have k1:=hx_.k1;have k2:=hx_.k2;have k3:=hx_.k3;have k4:=hx_.k4;have k5:=hx_.k5;have k6:=hx_.k6;clear hx_))|(go_at_call 33;go_loud (refine(CO.out _ ?hB).mono ?_;(case hB=>exact mvB BW.out);rintro e w' ⟨rfl,nd,rfl⟩))|(go_at_fn 53;go_loud (refine(CZ.out _ ?hB).mono ?_;(case hB=>exact mvB BW.out);rintro e w' ⟨rfl,hb⟩;have BW1:=Za.mk (Zae (mvB BW.out) hb);clear BW hb;have BW:=BW1;clear BW1;have hx_:=HC.out.below BW.out;have ed:=hx_.ed;have k0:=hx_.k0;have k1:=hx_.k1;have k2:=hx_.k2;have k3:=hx_.k3;have k4:=hx_.k4;have k5:=hx_.k5;have k6:=hx_.k6;clear hx_)))
      go_ret;exact⟨by first|rfl|(simp[*];done)|(simp[*];rfl),Zae HWB.out (mvB BW.out)⟩
    subst hq_;by_cases hq_:rhs=0;rotate_left
    · have d_ : decide (rhs = 0) = false := decide_eq_false hq_
      have d2_:(rhs==0)=false:=beq_eq_false_iff_ne.2 hq_;clear hq_;go_enter Tryz.func34,Tryz.ntmps34
      go_wp2_with (first|(go_at_call 64;go_loud (refine(CS.out _ ?hB).mono ?_;(case hB=>exact mvB BW.out);rintro e w' ⟨rfl,hb⟩;have BW1:=Za.mk (Zae (mvB BW.out) hb);clear BW hb;have BW:=BW1;clear BW1;have hx_:=HC.out.below BW.out;have ed:=hx_.ed;have k0:=hx_.k0;have k1:=hx_.k1;have k2:=hx_.k2;have k3:=hx_.k3;have k4:=hx_.k4;have k5:=hx_.k5;have k6:=hx_.k6;clear hx_))|(go_at_call 33;go_loud (refine(CO.out _ ?hB).mono ?_;(case hB=>exact mvB BW.out);rintro e w' ⟨rfl,nd,rfl⟩))|(go_at_fn 53;go_loud (refine(CZ.out _ ?hB).mono ?_;(case hB=>exact mvB BW.out);rintro e w' ⟨rfl,hb⟩;have BW1:=Za.mk (Zae (mvB BW.out) hb);clear BW hb;have BW:=BW1;clear BW1;have hx_:=HC.out.below BW.out;have ed:=hx_.ed;have k0:=hx_.k0;have k1:=hx_.k1;have k2:=hx_.k2;have k3:=hx_.k3;have k4:=hx_.k4;have k5:=hx_.k5;have k6:=hx_.k6;clear hx_)))
      go_ret;exact⟨by first|rfl|(simp[*];done)|(simp[*];rfl),Zae HWB.out (mvB BW.out)⟩
    subst hq_;by_cases hq_:b=0;rotate_left
    · have d_ : decide (b = 0) = false := decide_eq_false hq_
      have d2_:(b==0)=false:=beq_eq_false_iff_ne.2 hq_;clear hq_;go_enter Tryz.func34,Tryz.ntmps34
      go_wp2_with (first|(go_at_call 64;go_loud (refine(CS.out _ ?hB).mono ?_;(case hB=>exact mvB BW.out);rintro e w' ⟨rfl,hb⟩;have BW1:=Za.mk (Zae (mvB BW.out) hb);clear BW hb;have BW:=BW1;clear BW1;have hx_:=HC.out.below BW.out;have ed:=hx_.ed;have k0:=hx_.k0;have k1:=hx_.k1;have k2:=hx_.k2;have k3:=hx_.k3;have k4:=hx_.k4;have k5:=hx_.k5;have k6:=hx_.k6;clear hx_))|(go_at_call 33;go_loud (refine(CO.out _ ?hB).mono ?_;(case hB=>exact mvB BW.out);rintro e w' ⟨rfl,nd,rfl⟩))|(go_at_fn 53;go_loud (refine(CZ.out _ ?hB).mono ?_;(case hB=>exact mvB BW.out);rintro e w' ⟨rfl,hb⟩;have BW1:=Za.mk (Zae (mvB BW.out) hb);clear BW hb;have BW:=BW1;clear BW1;have hx_:=HC.out.below BW.out;have ed:=hx_.ed;have k0:=hx_.k0;have k1:=hx_.k1;have k2:=hx_.k2;have k3:=hx_.k3;have k4:=hx_.k4;have k5:=hx_.k5;have k6:=hx_.k6;clear hx_)))
      go_ret;exact⟨by first|rfl|(simp[*];done)|(simp[*];rfl),Zae HWB.out (mvB BW.out)⟩
    subst hq_
    cases q4 with
    |false=>
      go_enter Tryz.func34,Tryz.ntmps34
      go_wp2_with (first|(go_at_call 64;go_loud (refine(CS.out _ ?hB).mono ?_;(case hB=>exact mvB BW.out);rintro e w' ⟨rfl,hb⟩;have BW1:=Za.mk (Zae (mvB BW.out) hb);clear BW hb;have BW:=BW1;clear BW1;have hx_:=HC.out.below BW.out;have ed:=hx_.ed;have k0:=hx_.k0;have k1:=hx_.k1;have k2:=hx_.k2;have k3:=hx_.k3;have k4:=hx_.k4;have k5:=hx_.k5;have k6:=hx_.k6;clear hx_))|(go_at_call 33;go_loud (refine(CO.out _ ?hB).mono ?_;(case hB=>exact mvB BW.out);rintro e w' ⟨rfl,nd,rfl⟩))|(go_at_fn 53;go_loud (refine(CZ.out _ ?hB).mono ?_;(case hB=>exact mvB BW.out);rintro e w' ⟨rfl,hb⟩;have BW1:=Za.mk (Zae (mvB BW.out) hb);clear BW hb;have BW:=BW1;clear BW1;have hx_:=HC.out.below BW.out;have ed:=hx_.ed;have k0:=hx_.k0;have k1:=hx_.k1;have k2:=hx_.k2;have k3:=hx_.k3;have k4:=hx_.k4;have k5:=hx_.k5;have k6:=hx_.k6;clear hx_)))
      refine(CZ.out _ ?hB).mono ?_;case hB=>exact mvB BW.out
      rintro e w' ⟨rfl,hb⟩;have BW1:=Za.mk (Zae (mvB BW.out) hb);clear BW hb;have BW:=BW1;clear BW1;have hx_:=HC.out.below BW.out;have ed:=hx_.ed;have k0:=hx_.k0;have k1:=hx_.k1;have k2:=hx_.k2;have k3:=hx_.k3;have k4:=hx_.k4;have k5:=hx_.k5;have k6:=hx_.k6;clear hx_;go_wp2;go_ret;exact⟨by first|rfl|(simp[*];done)|(simp[*];rfl),Zae HWB.out (mvB BW.out)⟩
    |true=>
      go_enter Tryz.func34,Tryz.ntmps34
      go_wp2_with (first|(go_at_call 64;go_loud (refine(CS.out _ ?hB).mono ?_;(case hB=>exact mvB BW.out);rintro e w' ⟨rfl,hb⟩;have BW1:=Za.mk (Zae (mvB BW.out) hb);clear BW hb;have BW:=BW1;clear BW1;have hx_:=HC.out.below BW.out;have ed:=hx_.ed;have k0:=hx_.k0;have k1:=hx_.k1;have k2:=hx_.k2;have k3:=hx_.k3;have k4:=hx_.k4;have k5:=hx_.k5;have k6:=hx_.k6;clear hx_))|(go_at_call 33;go_loud (refine(CO.out _ ?hB).mono ?_;(case hB=>exact mvB BW.out);rintro e w' ⟨rfl,nd,rfl⟩))|(go_at_fn 53;go_loud (refine(CZ.out _ ?hB).mono ?_;(case hB=>exact mvB BW.out);rintro e w' ⟨rfl,hb⟩;have BW1:=Za.mk (Zae (mvB BW.out) hb);clear BW hb;have BW:=BW1;clear BW1;have hx_:=HC.out.below BW.out;have ed:=hx_.ed;have k0:=hx_.k0;have k1:=hx_.k1;have k2:=hx_.k2;have k3:=hx_.k3;have k4:=hx_.k4;have k5:=hx_.k5;have k6:=hx_.k6;clear hx_)))
      go_ret;exact⟨by first|rfl|(simp[*];done)|(simp[*];rfl),Zae HWB.out (mvB BW.out)⟩
set_option maxRecDepth 100000 in
theorem right_6 (k : Nat) (A0 : Option Addr) (c0 : Nat) (l0 : List (List S59)) (kd : Int) (A1 : Option Addr) (c1 : Nat) (vars : List Int) (A2 : Option Addr) (c2 : Nat) (coefs : List Int) (op rhs : Int) (A5 : Option Addr) (c5 : Nat) (rows : List (List Int)) (b : Int) (r : Bool) (w : World) (hr0 : Kd.C (Kd.slice 59 k59) w A0 l0.length l0) (hc0 : l0.length ≤ c0) (hr1 : Kd.C (Kd.int .i64) w A1 vars.length vars) (hc1 : vars.length ≤ c1) (hr2 : Kd.C (Kd.int .i64) w A2 coefs.length coefs) (hc2 : coefs.length ≤ c2) (hr5 : Kd.C (Kd.slice 3 (Kd.int .i64)) w A5 rows.length rows) (hc5 : rows.length ≤ c5) (hk : kd ≠ 0 ∧ kd ≠ 1 ∧ kd ≠ 2 ∧ kd ≠ 3 ∧ kd ≠ 4 ∧ kd ≠ 5) (hrow : rows.length = 0) (h : Zbw.f k l0 kd vars coefs op rhs rows b = some r) :
    Calls Tryz.prog 34 #[.slice A0 l0.length c0,.agg #[.int .i64 kd,.slice A1 vars.length c1,.slice A2 coefs.length c2,.int .i64 op,.int .i64 rhs,.slice A5 rows.length c5,.int .i64 b]] w fun e w'=>e= .returned (.bool r)∧Below w.heap.size w w':=by
  have HC:=Za.mk (Zdt A0 c0 l0 kd A1 c1 vars A2 c2 coefs op rhs A5 c5 rows b w hr0 hc0 hr1 hc1 hr2 hc2 hr5 hc5);have hwB:Below w.heap.size w ((w.alloc (.cells #[.slice A0 l0.length c0] 45)).alloc (.cells #[.int .i64 kd,.slice A1 vars.length c1,.slice A2 coefs.length c2,.int .i64 op,.int .i64 rhs,.slice A5 rows.length c5,.int .i64 b] 40)):=Zb (Zb (Below.refl _ _) _) _;have HWB:=Za.mk hwB;clear hwB hr0 hr1 hr2 hr5;unfold Zbw.f at h;rw[if_neg (fun h_=>absurd h_.2 (by omega))]at h;obtain⟨n0_,n1_,n2_,n3_,n4_,n5_⟩:=hk;rw[if_neg n0_,if_neg n1_,if_neg n2_,if_neg n3_,if_neg n4_,if_neg n5_]at h;have e0_:(kd==0)=false:=beq_eq_false_iff_ne.2 n0_;have f0_:decide (kd=0)=false:=decide_eq_false n0_;have e1_:(kd==1)=false:=beq_eq_false_iff_ne.2 n1_;have f1_:decide (kd=1)=false:=decide_eq_false n1_;have e2_:(kd==2)=false:=beq_eq_false_iff_ne.2 n2_;have f2_:decide (kd=2)=false:=decide_eq_false n2_;have e3_:(kd==3)=false:=beq_eq_false_iff_ne.2 n3_;have f3_:decide (kd=3)=false:=decide_eq_false n3_;have e4_:(kd==4)=false:=beq_eq_false_iff_ne.2 n4_;have f4_:decide (kd=4)=false:=decide_eq_false n4_;have e5_:(kd==5)=false:=beq_eq_false_iff_ne.2 n5_;have f5_:decide (kd=5)=false:=decide_eq_false n5_;have g2_:(kd !=2)=true:=by simpa using n2_
  obtain⟨q1,hq1,h2_⟩:=Option.bind_eq_some_iff.1 h;clear h;have h:=h2_;clear h2_;have A_1:=Za.mk hq1;clear hq1;obtain rfl:=Option.some.inj h;clear h;have CP:=Za.mk (fun(w':World) (hw:Below ((w.alloc (.cells #[.slice A0 l0.length c0] 45)).alloc (.cells #[.int .i64 kd,.slice A1 vars.length c1,.slice A2 coefs.length c2,.int .i64 op,.int .i64 rhs,.slice A5 rows.length c5,.int .i64 b] 40)).heap.size ((w.alloc (.cells #[.slice A0 l0.length c0] 45)).alloc (.cells #[.int .i64 kd,.slice A1 vars.length c1,.slice A2 coefs.length c2,.int .i64 op,.int .i64 rhs,.slice A5 rows.length c5,.int .i64 b] 40)) w')=>Zc5.calls kd A1 c1 vars A2 c2 coefs op rhs A5 c5 rows b q1 w' (Kd.Zaf HC.out.r1 hw) hc1 (Kd.Zaf HC.out.r2 hw) hc2 (Kd.Zaf HC.out.r5 hw) hc5 A_1.out);have BW:=Za.mk (Below.refl ((w.alloc (.cells #[.slice A0 l0.length c0] 45)).alloc (.cells #[.int .i64 kd,.slice A1 vars.length c1,.slice A2 coefs.length c2,.int .i64 op,.int .i64 rhs,.slice A5 rows.length c5,.int .i64 b] 40)).heap.size ((w.alloc (.cells #[.slice A0 l0.length c0] 45)).alloc (.cells #[.int .i64 kd,.slice A1 vars.length c1,.slice A2 coefs.length c2,.int .i64 op,.int .i64 rhs,.slice A5 rows.length c5,.int .i64 b] 40)));have JU:decide (0<(rows.length:Int))=false:=decide_eq_false (by omega);have hr0n_:decide (0<rows.length)=false:=decide_eq_false (by omega);clear hrow
  cases q1 with
  |false=>
    go_enter Tryz.func34,Tryz.ntmps34
    go_wp2_with (first|(go_at_call 57;go_loud (refine(CP.out _ ?hB).mono ?_;(case hB=>exact mvB BW.out);rintro e w' ⟨rfl,hb⟩;have BW1:=Za.mk (Zae (mvB BW.out) hb);clear BW hb;have BW:=BW1;clear BW1;have hx_:=HC.out.below BW.out;have ed:=hx_.ed;have k0:=hx_.k0;have k1:=hx_.k1;have k2:=hx_.k2;have k3:=hx_.k3;have k4:=hx_.k4;have k5:=hx_.k5;have k6:=hx_.k6;clear hx_)))
    go_ret;exact⟨by first|rfl|(simp[*];done)|(simp[*];rfl),Zae HWB.out (mvB BW.out)⟩
  |true=>
    by_cases hq_:2≤vars.length
    · have d1len3_ : decide (2 ≤ (vars.length : Int)) = true := decide_eq_true (by omega)
      have d2len3_:decide (2≤vars.length)=true:=decide_eq_true hq_;clear hq_;go_enter Tryz.func34,Tryz.ntmps34
      go_wp2_with (first|(go_at_call 57;go_loud (refine(CP.out _ ?hB).mono ?_;(case hB=>exact mvB BW.out);rintro e w' ⟨rfl,hb⟩;have BW1:=Za.mk (Zae (mvB BW.out) hb);clear BW hb;have BW:=BW1;clear BW1;have hx_:=HC.out.below BW.out;have ed:=hx_.ed;have k0:=hx_.k0;have k1:=hx_.k1;have k2:=hx_.k2;have k3:=hx_.k3;have k4:=hx_.k4;have k5:=hx_.k5;have k6:=hx_.k6;clear hx_)))
      go_ret;exact⟨by first|rfl|(simp[*];done)|(simp[*];rfl),Zae HWB.out (mvB BW.out)⟩
    have d1len3_:decide (2≤(vars.length:Int))=false:=decide_eq_false (by omega);have d2len3_:decide (2≤vars.length)=false:=decide_eq_false hq_;clear hq_;go_enter Tryz.func34,Tryz.ntmps34
    go_wp2_with (first|(go_at_call 57;go_loud (refine(CP.out _ ?hB).mono ?_;(case hB=>exact mvB BW.out);rintro e w' ⟨rfl,hb⟩;have BW1:=Za.mk (Zae (mvB BW.out) hb);clear BW hb;have BW:=BW1;clear BW1;have hx_:=HC.out.below BW.out;have ed:=hx_.ed;have k0:=hx_.k0;have k1:=hx_.k1;have k2:=hx_.k2;have k3:=hx_.k3;have k4:=hx_.k4;have k5:=hx_.k5;have k6:=hx_.k6;clear hx_)))
    go_ret;exact⟨by first|rfl|(simp[*];done)|(simp[*];rfl),Zae HWB.out (mvB BW.out)⟩
set_option maxRecDepth 100000 in
theorem right_none (A0 : Option Addr) (c0 : Nat) (l0 : List (List S59)) (kd : Int) (A1 : Option Addr) (c1 : Nat) (vars : List Int) (A2 : Option Addr) (c2 : Nat) (coefs : List Int) (op rhs : Int) (A5 : Option Addr) (c5 : Nat) (rows : List (List Int)) (b : Int) (w : World) (hk : kd ≠ 2) (hrow : 0 < rows.length) :
    Calls Tryz.prog 34 #[.slice A0 l0.length c0,.agg #[.int .i64 kd,.slice A1 vars.length c1,.slice A2 coefs.length c2,.int .i64 op,.int .i64 rhs,.slice A5 rows.length c5,.int .i64 b]] w fun e w'=>e= .returned (.bool false)∧Below w.heap.size w w':=by
  have hwB:Below w.heap.size w ((w.alloc (.cells #[.slice A0 l0.length c0] 45)).alloc (.cells #[.int .i64 kd,.slice A1 vars.length c1,.slice A2 coefs.length c2,.int .i64 op,.int .i64 rhs,.slice A5 rows.length c5,.int .i64 b] 40)):=Zb (Zb (Below.refl _ _) _) _;have HWB:=Za.mk hwB;clear hwB;have e2_:(kd==2)=false:=beq_eq_false_iff_ne.2 hk;have f2_:decide (kd=2)=false:=decide_eq_false hk;have g2_:(kd !=2)=true:=by simpa using hk
  have JU:decide (0<(rows.length:Int))=true:=decide_eq_true (by omega);have hr0n_:decide (0<rows.length)=true:=decide_eq_true (by omega);clear hrow hk;go_enter Tryz.func34,Tryz.ntmps34;go_wp2;go_ret;exact⟨by first|rfl|(simp[*];done),HWB.out⟩
theorem Zbw.calls (k : Nat) (A0 : Option Addr) (c0 : Nat) (l0 : List (List S59)) (kd : Int) (A1 : Option Addr) (c1 : Nat) (vars : List Int) (A2 : Option Addr) (c2 : Nat) (coefs : List Int) (op rhs : Int) (A5 : Option Addr) (c5 : Nat) (rows : List (List Int)) (b : Int) (r : Bool) (w : World) (hr0 : Kd.C (Kd.slice 59 k59) w A0 l0.length l0) (hc0 : l0.length ≤ c0) (hr1 : Kd.C (Kd.int .i64) w A1 vars.length vars) (hc1 : vars.length ≤ c1) (hr2 : Kd.C (Kd.int .i64) w A2 coefs.length coefs) (hc2 : coefs.length ≤ c2) (hr5 : Kd.C (Kd.slice 3 (Kd.int .i64)) w A5 rows.length rows) (hc5 : rows.length ≤ c5) (h : Zbw.f k l0 kd vars coefs op rhs rows b = some r) :
    Calls Tryz.prog 34 #[.slice A0 l0.length c0,.agg #[.int .i64 kd,.slice A1 vars.length c1,.slice A2 coefs.length c2,.int .i64 op,.int .i64 rhs,.slice A5 rows.length c5,.int .i64 b]] w fun e w'=>e= .returned (.bool r)∧Below w.heap.size w w':=by
  by_cases h2:kd≠2∧0<rows.length
  · have h' := h
    unfold Zbw.f at h';rw[if_pos h2]at h';obtain rfl:=Option.some.inj h';exact right_none A0 c0 l0 kd A1 c1 vars A2 c2 coefs op rhs A5 c5 rows b w h2.1 h2.2
  have hrow:kd≠2→rows.length=0:=fun h_=>by
    have:=fun h3=>h2 ⟨h_,h3⟩
    omega
  by_cases k0:kd=0
  · exact right_0 k A0 c0 l0 kd A1 c1 vars A2 c2 coefs op rhs A5 c5 rows b r w hr0 hc0 hr1 hc1 hr2 hc2 hr5 hc5 k0 (hrow (by omega)) h
  by_cases k1:kd=1
  · exact right_1 k A0 c0 l0 kd A1 c1 vars A2 c2 coefs op rhs A5 c5 rows b r w hr0 hc0 hr1 hc1 hr2 hc2 hr5 hc5 k1 (hrow (by omega)) h
  by_cases k2:kd=2
  · exact right_2 k A0 c0 l0 kd A1 c1 vars A2 c2 coefs op rhs A5 c5 rows b r w hr0 hc0 hr1 hc1 hr2 hc2 hr5 hc5 k2 trivial h
  by_cases k3:kd=3
  · exact right_3 k A0 c0 l0 kd A1 c1 vars A2 c2 coefs op rhs A5 c5 rows b r w hr0 hc0 hr1 hc1 hr2 hc2 hr5 hc5 k3 (hrow (by omega)) h
  by_cases k4:kd=4
  · exact right_4 k A0 c0 l0 kd A1 c1 vars A2 c2 coefs op rhs A5 c5 rows b r w hr0 hc0 hr1 hc1 hr2 hc2 hr5 hc5 k4 (hrow (by omega)) h
  by_cases k5:kd=5
  · exact right_5 k A0 c0 l0 kd A1 c1 vars A2 c2 coefs op rhs A5 c5 rows b r w hr0 hc0 hr1 hc1 hr2 hc2 hr5 hc5 k5 (hrow (by omega)) h
  exact right_6 k A0 c0 l0 kd A1 c1 vars A2 c2 coefs op rhs A5 c5 rows b r w hr0 hc0 hr1 hc1 hr2 hc2 hr5 hc5 ⟨k0,k1,k2,k3,k4,k5⟩ (hrow (by omega)) h
theorem Zbw.mono:∀a0 a1 a2 a3 a4 a5 a6 a7 k,LeO (Zbw.f k a0 a1 a2 a3 a4 a5 a6 a7) (Zbw.f (k+1) a0 a1 a2 a3 a4 a5 a6 a7):=by
  intro a0 a1 a2 a3 a4 a5 a6 a7 k;unfold Zbw.f;exact LeO.ite (LeO.refl _) (LeO.ite (LeO.bind (Zc1.mono _ _ _ _ _ _ _ _) (fun _=>LeO.refl _)) (LeO.ite (LeO.refl _) (LeO.ite (LeO.refl _) (LeO.ite (LeO.refl _) (LeO.ite (LeO.ite (LeO.bind (Zc1.mono _ _ _ _ _ _ _ _) (fun _=>LeO.bind (Zcd.mono _ _) (fun _=>LeO.bind (slices_Contains_int.mono _ _ _) (fun _=>LeO.refl _)))) (LeO.refl _)) (LeO.ite (LeO.bind (Zcz.mono _ _ _ _ _ _ _ _) (fun _=>LeO.bind (Zf6 _ _ _) (fun _=>LeO.refl _))) (LeO.refl _)))))))
end Go.Proofs.YtkgjaklnbgdmiaaGreat.P
namespace Go.Proofs.YtkgjaklnbgdmiaaGreat.P
open Go.RowKit Go.Proofs.YtkgjaklnbgdmiaaGreatW.PrintWords Go.Proofs.YtkgjaklnbgdmiaaGreatW.PrintLast Go.Proofs.YtkgjaklnbgdmiaaGreatW.PrintMore
attribute [local go_sem] Zci Zck Zc3 Zc4 Zcb Zcc Zcj Zcl
def Zbo.l0 : Nat → List Int → Int → Int → Option (Bool)
 | 0, _, _, _ => none
 |k+1,x5,x6,x7=>if x7<x6 then(if 0≤x7 then(if x7<(x5.length:Int)then(if(rd x5 x7)<(-4611686018427387904)then(some false)else(if(rd x5 x7)>4611686018427387904 then(some false)else(Zbo.l0 k x5 x6 (wrap64 (x7+1)))))else(none))else(none))else(some true)
def Zbo.f (k:Nat) (l0:List Int):Option (Bool):=Zbo.l0 k l0 (l0.length:Int) 0
set_option maxRecDepth 100000 in
theorem Zbo.calls (k : Nat) (A0 : Option Addr) (c0 : Nat) (l0 : List Int) (r : Bool) (w : World) (hr0 : Kd.C (Kd.int .i64) w A0 l0.length l0) (hc0 : l0.length ≤ c0) (h : Zbo.f k l0 = some r) :
  Calls Tryz.prog 86 #[.slice A0 l0.length c0] w fun e w'=>e= .returned (.bool r)∧Za1 w w':=by
 have HR0:=Za.mk hr0;have HC0:=Za.mk hc0;clear hr0 hc0;have H:(Zbo.l0 k l0 (l0.length:Int) 0)=some r:=h;clear h;have H':=Za.mk H;clear H;go_enter Tryz.func86,Tryz.ntmps86;go_wp2
 go_loopg [7] k (fun kq v7 w'=>∃(mq:Int),v7= .int .i64 mq∧Za (Zbo.l0 kq l0 (l0.length:Int) mq=some r)∧Za (kq≤k)∧Za1 w w')
 case atStart=>exact⟨(0),eS,H',⟨Nat.le_refl _⟩,by repeat(first|exact Za1.refl _|apply Za1.step)⟩
 case round=>
  clear H';obtain⟨mq,rfl,HA,HK1,⟨m1,rfl⟩⟩:=hrel
  cases gk with
  | zero => exact absurd HA.out (by simp [Zbo.l0])
  |succ k1=>
   have H:=HA.out;clear HA;simp only[Zbo.l0]at H;by_cases c2:mq<(l0.length:Int)
   case neg=>
    rw[if_neg c2]at H;have mh:decide (mq<(l0.length:Int))=false:=decide_eq_false c2;clear c2;obtain rfl:=sj H;go_wp2;go_ret;exact⟨eS,by repeat(first|exact Za1.refl _|apply Za1.step)⟩
   rw[if_pos c2]at H;have mh:decide (mq<(l0.length:Int))=true:=decide_eq_true c2;clear c2;obtain⟨gL,H⟩:=ifT H;obtain⟨dV,H⟩:=ifT H;by_cases c5:(rd l0 mq)<(-4611686018427387904)
   case pos=>
    rw[if_pos c5]at H;have dS:decide ((rd l0 mq)<(-4611686018427387904))=true:=decide_eq_true c5;clear c5;obtain rfl:=sj H;have wT:0≤(mq:Int):=odt;have wY:mq<(l0.length:Int):=odt;obtain⟨VK,rfl,Pd⟩:=Kd.Zb0 HR0.out mq wT wY;replace wT:=eq_true wT;replace wY:=eq_true wY;go_wp2;go_ret;exact⟨eS,by repeat(first|exact Za1.refl _|apply Za1.step)⟩
   rw[if_neg c5]at H;have dS:decide ((rd l0 mq)<(-4611686018427387904))=false:=decide_eq_false c5;clear c5;by_cases c6:(rd l0 mq)>4611686018427387904
   case pos=>
    rw[if_pos c6]at H;have jh:decide (4611686018427387904<(rd l0 mq))=true:=decide_eq_true c6;clear c6;obtain rfl:=sj H;have wT:0≤(mq:Int):=odt;have wY:mq<(l0.length:Int):=odt;obtain⟨VK,rfl,Pd⟩:=Kd.Zb0 HR0.out mq wT wY;replace wT:=eq_true wT;replace wY:=eq_true wY;go_wp2;go_ret;exact⟨eS,by repeat(first|exact Za1.refl _|apply Za1.step)⟩
   rw[if_neg c6]at H;have jh:decide (4611686018427387904<(rd l0 mq))=false:=decide_eq_false c6;clear c6;have H':=Za.mk H;clear H;have wT:0≤(mq:Int):=odt;have wY:mq<(l0.length:Int):=odt;obtain⟨VK,rfl,Pd⟩:=Kd.Zb0 HR0.out mq wT wY;replace wT:=eq_true wT;replace wY:=eq_true wY;go_wp2
   go_roundg k1
   case measure=>have:=HK1.out;omega
   case rel=>exact⟨(wrap64 (mq+1)),eS,H',⟨by have:=HK1.out;omega⟩,by repeat(first|exact Za1.refl _|apply Za1.step)⟩
def Zb5.f (k:Nat) (a0:Int):Option (Int × Bool):=(Zbo.f k (([a0]:List Int))).bind fun Ec=>(if Ec=true then(some (a0,true))else(some (0,false)))
set_option maxRecDepth 100000 in
theorem Zb5.calls (k : Nat) (a0 : Int) (r1 : Int) (r2 : Bool) (w : World) (h : Zb5.f k a0 = some (r1, r2)) :
  Calls Tryz.prog 89 #[.int .i64 a0] w fun e w'=>e= .returned (.tuple #[.int .i64 r1,.bool r2])∧Below w.heap.size w w':=by
 have HB:=Za.mk (Below.refl w.heap.size w);have H:((Zbo.f k (([a0]:List Int))).bind fun Ec=>(if Ec=true then(some (a0,true))else(some (0,false))))=some (r1,r2):=h;clear h;obtain⟨ND,I9⟩:∃y_:List Int,y_=(([a0]:List Int)):=⟨_,rfl⟩;replace H:((Zbo.f k ND).bind fun Ec=>(if Ec=true then(some (a0,true))else(some (0,false))))=some (r1,r2):=by first|(rw[I9];with_reducible exact H)|(have H2_:=(Option.bind_some _ _).symm.trans H;rw[I9];with_reducible exact H2_)|(have H2_:=(Option.bind_some _ _).symm.trans H;with_reducible exact H2_)|with_reducible exact H|(rw[I9];exact H)|exact H
 have KW:=Za.mk I9;clear I9;obtain⟨Ec,A2,H⟩:=bnd H;replace H:(if Ec=true then(some (a0,true))else(some (0,false)))=some (r1,r2):=H;by_cases c3:Ec=true
 case pos=>
  subst c3;have H1:(some (a0,true))=some (r1,r2):=by rw[if_pos rfl]at H;exact H
  clear H;have H:=H1;clear H1;simp only[Option.some.injEq,Prod.mk.injEq]at H;obtain⟨rfl,rfl⟩:=H;go_enter Tryz.func89,Tryz.ntmps89
  go_wp2_with (first|((with_reducible refine Zap (N:=5) rfl ?_);refine Kd.Zdf (Kd.int .i64) _ 3 ?hg (N:=5) ?hd (xs:=([a0]:List Int)) (inner:= [.int .i64 a0]) (ok:=fun _=>True) (okp:=fun _=>True) ?hr ?hp (fun _ hk=>hk) trivial (Below.refl _ _) (Nat.le_refl _) (by simp) ?_;(case hd=>rfl);(case hg=>rfl);(case hr=>first|(go_simp;done)|(go_simp;rfl));(case hp=>exact(Reps.one (show Kd.M (Kd.int .i64) _ _ _ a0 [.int .i64 a0]from rfl) (Reps.none _ _)));intro jla w4 ho5 hb hg_ hnew_;clear hg_ hnew_;(first|rw[←KW.out]at ho5|(simp only[Int.reduceToNat]at ho5;rw[←KW.out]at ho5));have Bu:=Za.mk (Kd.Zbp ho5 (Zaj (bM HB.out)));replace HB:=Za.mk (bS HB.out hb);clear hb ho5;obtain⟨Ao6,co6,eo6⟩:=Kd.Za9 Bu.out;subst eo6)|((with_reducible refine Zat (f:=86) rfl ?_);refine gl 6 Tryz.func86 #[.slice Ao6 ND.length co6] ?_;(with_reducible refine(Zbo.calls k _ _ ND true _ (cM ((Kd.Za3 Bu.out).2.2)) ((Kd.Za3 Bu.out).2.1) A2.out).mono ?_);rintro e w' ⟨rfl,⟨nd,rfl⟩⟩;refine⟨_,rfl,?_⟩))
  go_ret2
  exact⟨eR,bM HB.out⟩
 replace c3:=Bool.eq_false_iff.mpr c3;subst c3;replace H:=ifF H;simp only[Option.some.injEq,Prod.mk.injEq]at H;obtain⟨rfl,rfl⟩:=H;go_enter Tryz.func89,Tryz.ntmps89
 go_wp2_with (first|((with_reducible refine Zap (N:=5) rfl ?_);refine Kd.Zdf (Kd.int .i64) _ 3 ?hg (N:=5) ?hd (xs:=([a0]:List Int)) (inner:= [.int .i64 a0]) (ok:=fun _=>True) (okp:=fun _=>True) ?hr ?hp (fun _ hk=>hk) trivial (Below.refl _ _) (Nat.le_refl _) (by simp) ?_;(case hd=>rfl);(case hg=>rfl);(case hr=>first|(go_simp;done)|(go_simp;rfl));(case hp=>exact(Reps.one (show Kd.M (Kd.int .i64) _ _ _ a0 [.int .i64 a0]from rfl) (Reps.none _ _)));intro jla w7 ho8 hb hg_ hnew_;clear hg_ hnew_;(first|rw[←KW.out]at ho8|(simp only[Int.reduceToNat]at ho8;rw[←KW.out]at ho8));have Bu:=Za.mk (Kd.Zbp ho8 (Zaj (bM HB.out)));replace HB:=Za.mk (bS HB.out hb);clear hb ho8;obtain⟨Ao9,co9,eo9⟩:=Kd.Za9 Bu.out;subst eo9)|((with_reducible refine Zat (f:=86) rfl ?_);refine gl 6 Tryz.func86 #[.slice Ao9 ND.length co9] ?_;(with_reducible refine(Zbo.calls k _ _ ND false _ (cM ((Kd.Za3 Bu.out).2.2)) ((Kd.Za3 Bu.out).2.1) A2.out).mono ?_);rintro e w' ⟨rfl,⟨nd,rfl⟩⟩;refine⟨_,rfl,?_⟩))
 go_ret2
 exact⟨eR,bM HB.out⟩
def Zdp.f (k:Nat) (a0:Int) (a1:Int):Option (Int × Bool):=(Zbo.f k (([a0,a1]:List Int))).bind fun Ed=>(if Ed=true then(if a0>0 then(if a1>(wrap64 (4611686018427387904 - a0))then(some (0,false))else(if a0<0 then(if a1<(wrap64 ((-4611686018427387904) - a0))then(some (0,false))else((Zb5.f k (wrap64 (a0+a1))).bind fun oJ=>(some (oJ.1,oJ.2))))else((Zb5.f k (wrap64 (a0+a1))).bind fun oK=>(some (oK.1,oK.2)))))else(if a0<0 then(if a1<(wrap64 ((-4611686018427387904) - a0))then(some (0,false))else((Zb5.f k (wrap64 (a0+a1))).bind fun oL=>(some (oL.1,oL.2))))else((Zb5.f k (wrap64 (a0+a1))).bind fun oM=>(some (oM.1,oM.2)))))else(some (0,false)))
set_option maxRecDepth 100000 in
theorem Zdp.calls (k : Nat) (a0 : Int) (a1 : Int) (r1 : Int) (r2 : Bool) (w : World) (h : Zdp.f k a0 a1 = some (r1, r2)) :
  Calls Tryz.prog 67 #[.int .i64 a0,.int .i64 a1] w fun e w'=>e= .returned (.tuple #[.int .i64 r1,.bool r2])∧Below w.heap.size w w':=by
 have HB:=Za.mk (Below.refl w.heap.size w);have H:((Zbo.f k (([a0,a1]:List Int))).bind fun Ed=>(if Ed=true then(if a0>0 then(if a1>(wrap64 (4611686018427387904 - a0))then(some (0,false))else(if a0<0 then(if a1<(wrap64 ((-4611686018427387904) - a0))then(some (0,false))else((Zb5.f k (wrap64 (a0+a1))).bind fun oJ=>(some (oJ.1,oJ.2))))else((Zb5.f k (wrap64 (a0+a1))).bind fun oK=>(some (oK.1,oK.2)))))else(if a0<0 then(if a1<(wrap64 ((-4611686018427387904) - a0))then(some (0,false))else((Zb5.f k (wrap64 (a0+a1))).bind fun oL=>(some (oL.1,oL.2))))else((Zb5.f k (wrap64 (a0+a1))).bind fun oM=>(some (oM.1,oM.2)))))else(some (0,false))))=some (r1,r2):=h;clear h;obtain⟨pg,IA⟩:∃y_:List Int,y_=(([a0,a1]:List Int)):=⟨_,rfl⟩;replace H:((Zbo.f k pg).bind fun Ed=>(if Ed=true then(if a0>0 then(if a1>(wrap64 (4611686018427387904 - a0))then(some (0,false))else(if a0<0 then(if a1<(wrap64 ((-4611686018427387904) - a0))then(some (0,false))else((Zb5.f k (wrap64 (a0+a1))).bind fun oJ=>(some (oJ.1,oJ.2))))else((Zb5.f k (wrap64 (a0+a1))).bind fun oK=>(some (oK.1,oK.2)))))else(if a0<0 then(if a1<(wrap64 ((-4611686018427387904) - a0))then(some (0,false))else((Zb5.f k (wrap64 (a0+a1))).bind fun oL=>(some (oL.1,oL.2))))else((Zb5.f k (wrap64 (a0+a1))).bind fun oM=>(some (oM.1,oM.2)))))else(some (0,false))))=some (r1,r2):=by first|(rw[IA];with_reducible exact H)|(have H2_:=(Option.bind_some _ _).symm.trans H;rw[IA];with_reducible exact H2_)|(have H2_:=(Option.bind_some _ _).symm.trans H;with_reducible exact H2_)|with_reducible exact H|(rw[IA];exact H)|exact H
 have mP:=Za.mk IA;clear IA;obtain⟨Ed,A3,H⟩:=bnd H;replace H:(if Ed=true then(if a0>0 then(if a1>(wrap64 (4611686018427387904 - a0))then(some (0,false))else(if a0<0 then(if a1<(wrap64 ((-4611686018427387904) - a0))then(some (0,false))else((Zb5.f k (wrap64 (a0+a1))).bind fun oJ=>(some (oJ.1,oJ.2))))else((Zb5.f k (wrap64 (a0+a1))).bind fun oK=>(some (oK.1,oK.2)))))else(if a0<0 then(if a1<(wrap64 ((-4611686018427387904) - a0))then(some (0,false))else((Zb5.f k (wrap64 (a0+a1))).bind fun oL=>(some (oL.1,oL.2))))else((Zb5.f k (wrap64 (a0+a1))).bind fun oM=>(some (oM.1,oM.2)))))else(some (0,false)))=some (r1,r2):=H;by_cases c4:Ed=true
 case neg=>
  replace c4:=Bool.eq_false_iff.mpr c4;subst c4;replace H:=ifF H;simp only[Option.some.injEq,Prod.mk.injEq]at H;obtain⟨rfl,rfl⟩:=H;go_enter Tryz.func67,Tryz.ntmps67
  go_wp2_with (first|((with_reducible refine Zap (N:=8) rfl ?_);refine Kd.Zdf (Kd.int .i64) _ 3 ?hg (N:=8) ?hd (xs:=([a0,a1]:List Int)) (inner:= [.int .i64 a0,.int .i64 a1]) (ok:=fun _=>True) (okp:=fun _=>True) ?hr ?hp (fun _ hk=>hk) trivial (Below.refl _ _) (Nat.le_refl _) (by simp) ?_;(case hd=>rfl);(case hg=>rfl);(case hr=>first|(go_simp;done)|(go_simp;rfl));(case hp=>exact(Reps.one (show Kd.M (Kd.int .i64) _ _ _ a0 [.int .i64 a0]from rfl) (Reps.one (show Kd.M (Kd.int .i64) _ _ _ a1 [.int .i64 a1]from rfl) (Reps.none _ _))));intro G7 w40 MW hb hg_ hnew_;clear hg_ hnew_;(first|rw[←mP.out]at MW|(simp only[Int.reduceToNat]at MW;rw[←mP.out]at MW));have gu:=Za.mk (Kd.Zbp MW (Zaj (bM HB.out)));replace HB:=Za.mk (bS HB.out hb);clear hb MW;obtain⟨hLa,hTa,ira⟩:=Kd.Za9 gu.out;subst ira)|((with_reducible refine Zat (f:=86) rfl ?_);refine gl 9 Tryz.func86 #[.slice hLa pg.length hTa] ?_;(with_reducible refine(Zbo.calls k _ _ pg false _ (cM ((Kd.Za3 gu.out).2.2)) ((Kd.Za3 gu.out).2.1) A3.out).mono ?_);rintro e w' ⟨rfl,⟨nd,rfl⟩⟩;refine⟨_,rfl,?_⟩))
  go_ret2
  exact⟨eR,bM HB.out⟩
 subst c4;have H1:(if a0>0 then(if a1>(wrap64 (4611686018427387904 - a0))then(some (0,false))else(if a0<0 then(if a1<(wrap64 ((-4611686018427387904) - a0))then(some (0,false))else((Zb5.f k (wrap64 (a0+a1))).bind fun oJ=>(some (oJ.1,oJ.2))))else((Zb5.f k (wrap64 (a0+a1))).bind fun oK=>(some (oK.1,oK.2)))))else(if a0<0 then(if a1<(wrap64 ((-4611686018427387904) - a0))then(some (0,false))else((Zb5.f k (wrap64 (a0+a1))).bind fun oL=>(some (oL.1,oL.2))))else((Zb5.f k (wrap64 (a0+a1))).bind fun oM=>(some (oM.1,oM.2)))))=some (r1,r2):=by rw[if_pos rfl]at H;exact H
 clear H;have H:=H1;clear H1;by_cases c5:a0>0
 case neg=>
  rw[if_neg c5]at H;have dS:decide (0<a0)=false:=decide_eq_false c5;clear c5;by_cases c25:a0<0
  case neg=>
   rw[if_neg c25]at H;have Ey:decide (a0<0)=false:=decide_eq_false c25;clear c25;obtain⟨⟨bia,bja⟩,A35,H⟩:=bnd H;replace H:(some (bia,bja))=some (r1,r2):=H;simp only[Option.some.injEq,Prod.mk.injEq]at H;obtain⟨rfl,rfl⟩:=H;go_enter Tryz.func67,Tryz.ntmps67
   go_wp2_with (first|((with_reducible refine Zap (N:=8) rfl ?_);refine Kd.Zdf (Kd.int .i64) _ 3 ?hg (N:=8) ?hd (xs:=([a0,a1]:List Int)) (inner:= [.int .i64 a0,.int .i64 a1]) (ok:=fun _=>True) (okp:=fun _=>True) ?hr ?hp (fun _ hk=>hk) trivial (Below.refl _ _) (Nat.le_refl _) (by simp) ?_;(case hd=>rfl);(case hg=>rfl);(case hr=>first|(go_simp;done)|(go_simp;rfl));(case hp=>exact(Reps.one (show Kd.M (Kd.int .i64) _ _ _ a0 [.int .i64 a0]from rfl) (Reps.one (show Kd.M (Kd.int .i64) _ _ _ a1 [.int .i64 a1]from rfl) (Reps.none _ _))));intro G7 w36 MV hb hg_ hnew_;clear hg_ hnew_;(first|rw[←mP.out]at MV|(simp only[Int.reduceToNat]at MV;rw[←mP.out]at MV));have gu:=Za.mk (Kd.Zbp MV (Zaj (bM HB.out)));replace HB:=Za.mk (bS HB.out hb);clear hb MV;obtain⟨Bn,BI,FL⟩:=Kd.Za9 gu.out;subst FL)|((with_reducible refine Zat (f:=86) rfl ?_);refine gl 9 Tryz.func86 #[.slice Bn pg.length BI] ?_;(with_reducible refine(Zbo.calls k _ _ pg true _ (cM ((Kd.Za3 gu.out).2.2)) ((Kd.Za3 gu.out).2.1) A3.out).mono ?_);rintro e w' ⟨rfl,⟨nd,rfl⟩⟩;refine⟨_,rfl,?_⟩)|((with_reducible refine Zat (f:=89) rfl ?_);refine gl 34 Tryz.func89 #[.int .i64 (wrap64 (a0+a1))] ?_;(with_reducible refine(Zb5.calls k (wrap64 (a0+a1)) bia bja _ A35.out).mono ?_);rintro e w39 ⟨rfl,hb⟩;refine⟨_,rfl,?_⟩;replace HB:=Za.mk (bS HB.out hb);clear gu;(try clear hb);(try clear hb2);(try clear hk);(try clear hi)))
   go_ret2
   exact⟨eR,bM HB.out⟩
  rw[if_pos c25]at H;have Ey:decide (a0<0)=true:=decide_eq_true c25;clear c25;by_cases c26:a1<(wrap64 ((-4611686018427387904) - a0))
  case pos=>
   rw[if_pos c26]at H;have H9:decide (a1<(wrap64 ((-4611686018427387904) - a0)))=true:=decide_eq_true c26;clear c26;simp only[Option.some.injEq,Prod.mk.injEq]at H;obtain⟨rfl,rfl⟩:=H;go_enter Tryz.func67,Tryz.ntmps67
   go_wp2_with (first|((with_reducible refine Zap (N:=8) rfl ?_);refine Kd.Zdf (Kd.int .i64) _ 3 ?hg (N:=8) ?hd (xs:=([a0,a1]:List Int)) (inner:= [.int .i64 a0,.int .i64 a1]) (ok:=fun _=>True) (okp:=fun _=>True) ?hr ?hp (fun _ hk=>hk) trivial (Below.refl _ _) (Nat.le_refl _) (by simp) ?_;(case hd=>rfl);(case hg=>rfl);(case hr=>first|(go_simp;done)|(go_simp;rfl));(case hp=>exact(Reps.one (show Kd.M (Kd.int .i64) _ _ _ a0 [.int .i64 a0]from rfl) (Reps.one (show Kd.M (Kd.int .i64) _ _ _ a1 [.int .i64 a1]from rfl) (Reps.none _ _))));intro G7 w27 MS hb hg_ hnew_;clear hg_ hnew_;(first|rw[←mP.out]at MS|(simp only[Int.reduceToNat]at MS;rw[←mP.out]at MS));have gu:=Za.mk (Kd.Zbp MS (Zaj (bM HB.out)));replace HB:=Za.mk (bS HB.out hb);clear hb MS;obtain⟨hJa,hSa,ipa⟩:=Kd.Za9 gu.out;subst ipa)|((with_reducible refine Zat (f:=86) rfl ?_);refine gl 9 Tryz.func86 #[.slice hJa pg.length hSa] ?_;(with_reducible refine(Zbo.calls k _ _ pg true _ (cM ((Kd.Za3 gu.out).2.2)) ((Kd.Za3 gu.out).2.1) A3.out).mono ?_);rintro e w' ⟨rfl,⟨nd,rfl⟩⟩;refine⟨_,rfl,?_⟩))
   go_ret2
   exact⟨eR,bM HB.out⟩
  rw[if_neg c26]at H;have H9:decide (a1<(wrap64 ((-4611686018427387904) - a0)))=false:=decide_eq_false c26;clear c26;obtain⟨⟨bga,bha⟩,A30,H⟩:=bnd H;replace H:(some (bga,bha))=some (r1,r2):=H;simp only[Option.some.injEq,Prod.mk.injEq]at H;obtain⟨rfl,rfl⟩:=H;go_enter Tryz.func67,Tryz.ntmps67
  go_wp2_with (first|((with_reducible refine Zap (N:=8) rfl ?_);refine Kd.Zdf (Kd.int .i64) _ 3 ?hg (N:=8) ?hd (xs:=([a0,a1]:List Int)) (inner:= [.int .i64 a0,.int .i64 a1]) (ok:=fun _=>True) (okp:=fun _=>True) ?hr ?hp (fun _ hk=>hk) trivial (Below.refl _ _) (Nat.le_refl _) (by simp) ?_;(case hd=>rfl);(case hg=>rfl);(case hr=>first|(go_simp;done)|(go_simp;rfl));(case hp=>exact(Reps.one (show Kd.M (Kd.int .i64) _ _ _ a0 [.int .i64 a0]from rfl) (Reps.one (show Kd.M (Kd.int .i64) _ _ _ a1 [.int .i64 a1]from rfl) (Reps.none _ _))));intro G7 w31 MU hb hg_ hnew_;clear hg_ hnew_;(first|rw[←mP.out]at MU|(simp only[Int.reduceToNat]at MU;rw[←mP.out]at MU));have gu:=Za.mk (Kd.Zbp MU (Zaj (bM HB.out)));replace HB:=Za.mk (bS HB.out hb);clear hb MU;obtain⟨YQ,ama,Uf⟩:=Kd.Za9 gu.out;subst Uf)|((with_reducible refine Zat (f:=86) rfl ?_);refine gl 9 Tryz.func86 #[.slice YQ pg.length ama] ?_;(with_reducible refine(Zbo.calls k _ _ pg true _ (cM ((Kd.Za3 gu.out).2.2)) ((Kd.Za3 gu.out).2.1) A3.out).mono ?_);rintro e w' ⟨rfl,⟨nd,rfl⟩⟩;refine⟨_,rfl,?_⟩)|((with_reducible refine Zat (f:=89) rfl ?_);refine gl 34 Tryz.func89 #[.int .i64 (wrap64 (a0+a1))] ?_;(with_reducible refine(Zb5.calls k (wrap64 (a0+a1)) bga bha _ A30.out).mono ?_);rintro e w34 ⟨rfl,hb⟩;refine⟨_,rfl,?_⟩;replace HB:=Za.mk (bS HB.out hb);clear gu;(try clear hb);(try clear hb2);(try clear hk);(try clear hi)))
  go_ret2
  exact⟨eR,bM HB.out⟩
 rw[if_pos c5]at H;have dS:decide (0<a0)=true:=decide_eq_true c5;clear c5;by_cases c6:a1>(wrap64 (4611686018427387904 - a0))
 case pos=>
  rw[if_pos c6]at H;have jh:decide ((wrap64 (4611686018427387904 - a0))<a1)=true:=decide_eq_true c6;clear c6;simp only[Option.some.injEq,Prod.mk.injEq]at H;obtain⟨rfl,rfl⟩:=H;go_enter Tryz.func67,Tryz.ntmps67
  go_wp2_with (first|((with_reducible refine Zap (N:=8) rfl ?_);refine Kd.Zdf (Kd.int .i64) _ 3 ?hg (N:=8) ?hd (xs:=([a0,a1]:List Int)) (inner:= [.int .i64 a0,.int .i64 a1]) (ok:=fun _=>True) (okp:=fun _=>True) ?hr ?hp (fun _ hk=>hk) trivial (Below.refl _ _) (Nat.le_refl _) (by simp) ?_;(case hd=>rfl);(case hg=>rfl);(case hr=>first|(go_simp;done)|(go_simp;rfl));(case hp=>exact(Reps.one (show Kd.M (Kd.int .i64) _ _ _ a0 [.int .i64 a0]from rfl) (Reps.one (show Kd.M (Kd.int .i64) _ _ _ a1 [.int .i64 a1]from rfl) (Reps.none _ _))));intro G7 w7 ho8 hb hg_ hnew_;clear hg_ hnew_;(first|rw[←mP.out]at ho8|(simp only[Int.reduceToNat]at ho8;rw[←mP.out]at ho8));have gu:=Za.mk (Kd.Zbp ho8 (Zaj (bM HB.out)));replace HB:=Za.mk (bS HB.out hb);clear hb ho8;obtain⟨Ao9,co9,eo9⟩:=Kd.Za9 gu.out;subst eo9)|((with_reducible refine Zat (f:=86) rfl ?_);refine gl 9 Tryz.func86 #[.slice Ao9 pg.length co9] ?_;(with_reducible refine(Zbo.calls k _ _ pg true _ (cM ((Kd.Za3 gu.out).2.2)) ((Kd.Za3 gu.out).2.1) A3.out).mono ?_);rintro e w' ⟨rfl,⟨nd,rfl⟩⟩;refine⟨_,rfl,?_⟩))
  go_ret2
  exact⟨eR,bM HB.out⟩
 rw[if_neg c6]at H;have jh:decide ((wrap64 (4611686018427387904 - a0))<a1)=false:=decide_eq_false c6;clear c6;by_cases c10:a0<0
 case neg=>
  rw[if_neg c10]at H;have qP:decide (a0<0)=false:=decide_eq_false c10;clear c10;obtain⟨⟨bea,bfa⟩,A20,H⟩:=bnd H;replace H:(some (bea,bfa))=some (r1,r2):=H;simp only[Option.some.injEq,Prod.mk.injEq]at H;obtain⟨rfl,rfl⟩:=H;go_enter Tryz.func67,Tryz.ntmps67
  go_wp2_with (first|((with_reducible refine Zap (N:=8) rfl ?_);refine Kd.Zdf (Kd.int .i64) _ 3 ?hg (N:=8) ?hd (xs:=([a0,a1]:List Int)) (inner:= [.int .i64 a0,.int .i64 a1]) (ok:=fun _=>True) (okp:=fun _=>True) ?hr ?hp (fun _ hk=>hk) trivial (Below.refl _ _) (Nat.le_refl _) (by simp) ?_;(case hd=>rfl);(case hg=>rfl);(case hr=>first|(go_simp;done)|(go_simp;rfl));(case hp=>exact(Reps.one (show Kd.M (Kd.int .i64) _ _ _ a0 [.int .i64 a0]from rfl) (Reps.one (show Kd.M (Kd.int .i64) _ _ _ a1 [.int .i64 a1]from rfl) (Reps.none _ _))));intro G7 w21 MR hb hg_ hnew_;clear hg_ hnew_;(first|rw[←mP.out]at MR|(simp only[Int.reduceToNat]at MR;rw[←mP.out]at MR));have gu:=Za.mk (Kd.Zbp MR (Zaj (bM HB.out)));replace HB:=Za.mk (bS HB.out hb);clear hb MR;obtain⟨jF,jG,MK⟩:=Kd.Za9 gu.out;subst MK)|((with_reducible refine Zat (f:=86) rfl ?_);refine gl 9 Tryz.func86 #[.slice jF pg.length jG] ?_;(with_reducible refine(Zbo.calls k _ _ pg true _ (cM ((Kd.Za3 gu.out).2.2)) ((Kd.Za3 gu.out).2.1) A3.out).mono ?_);rintro e w' ⟨rfl,⟨nd,rfl⟩⟩;refine⟨_,rfl,?_⟩)|((with_reducible refine Zat (f:=89) rfl ?_);refine gl 34 Tryz.func89 #[.int .i64 (wrap64 (a0+a1))] ?_;(with_reducible refine(Zb5.calls k (wrap64 (a0+a1)) bea bfa _ A20.out).mono ?_);rintro e w24 ⟨rfl,hb⟩;refine⟨_,rfl,?_⟩;replace HB:=Za.mk (bS HB.out hb);clear gu;(try clear hb);(try clear hb2);(try clear hk);(try clear hi)))
  go_ret2
  exact⟨eR,bM HB.out⟩
 rw[if_pos c10]at H;have qP:decide (a0<0)=true:=decide_eq_true c10;clear c10;by_cases c11:a1<(wrap64 ((-4611686018427387904) - a0))
 case pos=>
  rw[if_pos c11]at H;have qQ:decide (a1<(wrap64 ((-4611686018427387904) - a0)))=true:=decide_eq_true c11;clear c11;simp only[Option.some.injEq,Prod.mk.injEq]at H;obtain⟨rfl,rfl⟩:=H;go_enter Tryz.func67,Tryz.ntmps67
  go_wp2_with (first|((with_reducible refine Zap (N:=8) rfl ?_);refine Kd.Zdf (Kd.int .i64) _ 3 ?hg (N:=8) ?hd (xs:=([a0,a1]:List Int)) (inner:= [.int .i64 a0,.int .i64 a1]) (ok:=fun _=>True) (okp:=fun _=>True) ?hr ?hp (fun _ hk=>hk) trivial (Below.refl _ _) (Nat.le_refl _) (by simp) ?_;(case hd=>rfl);(case hg=>rfl);(case hr=>first|(go_simp;done)|(go_simp;rfl));(case hp=>exact(Reps.one (show Kd.M (Kd.int .i64) _ _ _ a0 [.int .i64 a0]from rfl) (Reps.one (show Kd.M (Kd.int .i64) _ _ _ a1 [.int .i64 a1]from rfl) (Reps.none _ _))));intro G7 w12 uT hb hg_ hnew_;clear hg_ hnew_;(first|rw[←mP.out]at uT|(simp only[Int.reduceToNat]at uT;rw[←mP.out]at uT));have gu:=Za.mk (Kd.Zbp uT (Zaj (bM HB.out)));replace HB:=Za.mk (bS HB.out hb);clear hb uT;obtain⟨eu,eB,wQ⟩:=Kd.Za9 gu.out;subst wQ)|((with_reducible refine Zat (f:=86) rfl ?_);refine gl 9 Tryz.func86 #[.slice eu pg.length eB] ?_;(with_reducible refine(Zbo.calls k _ _ pg true _ (cM ((Kd.Za3 gu.out).2.2)) ((Kd.Za3 gu.out).2.1) A3.out).mono ?_);rintro e w' ⟨rfl,⟨nd,rfl⟩⟩;refine⟨_,rfl,?_⟩))
  go_ret2
  exact⟨eR,bM HB.out⟩
 rw[if_neg c11]at H;have qQ:decide (a1<(wrap64 ((-4611686018427387904) - a0)))=false:=decide_eq_false c11;clear c11;obtain⟨⟨bca,bda⟩,A15,H⟩:=bnd H;replace H:(some (bca,bda))=some (r1,r2):=H;simp only[Option.some.injEq,Prod.mk.injEq]at H;obtain⟨rfl,rfl⟩:=H;go_enter Tryz.func67,Tryz.ntmps67
 go_wp2_with (first|((with_reducible refine Zap (N:=8) rfl ?_);refine Kd.Zdf (Kd.int .i64) _ 3 ?hg (N:=8) ?hd (xs:=([a0,a1]:List Int)) (inner:= [.int .i64 a0,.int .i64 a1]) (ok:=fun _=>True) (okp:=fun _=>True) ?hr ?hp (fun _ hk=>hk) trivial (Below.refl _ _) (Nat.le_refl _) (by simp) ?_;(case hd=>rfl);(case hg=>rfl);(case hr=>first|(go_simp;done)|(go_simp;rfl));(case hp=>exact(Reps.one (show Kd.M (Kd.int .i64) _ _ _ a0 [.int .i64 a0]from rfl) (Reps.one (show Kd.M (Kd.int .i64) _ _ _ a1 [.int .i64 a1]from rfl) (Reps.none _ _))));intro G7 w16 MP hb hg_ hnew_;clear hg_ hnew_;(first|rw[←mP.out]at MP|(simp only[Int.reduceToNat]at MP;rw[←mP.out]at MP));have gu:=Za.mk (Kd.Zbp MP (Zaj (bM HB.out)));replace HB:=Za.mk (bS HB.out hb);clear hb MP;obtain⟨gT,gW,DY⟩:=Kd.Za9 gu.out;subst DY)|((with_reducible refine Zat (f:=86) rfl ?_);refine gl 9 Tryz.func86 #[.slice gT pg.length gW] ?_;(with_reducible refine(Zbo.calls k _ _ pg true _ (cM ((Kd.Za3 gu.out).2.2)) ((Kd.Za3 gu.out).2.1) A3.out).mono ?_);rintro e w' ⟨rfl,⟨nd,rfl⟩⟩;refine⟨_,rfl,?_⟩)|((with_reducible refine Zat (f:=89) rfl ?_);refine gl 34 Tryz.func89 #[.int .i64 (wrap64 (a0+a1))] ?_;(with_reducible refine(Zb5.calls k (wrap64 (a0+a1)) bca bda _ A15.out).mono ?_);rintro e w19 ⟨rfl,hb⟩;refine⟨_,rfl,?_⟩;replace HB:=Za.mk (bS HB.out hb);clear gu;(try clear hb);(try clear hb2);(try clear hk);(try clear hi)))
 go_ret2
 exact⟨eR,bM HB.out⟩
def Ze2.f (k:Nat) (a0:Int) (a1:Int):Option (Int × Bool):=(Zbo.f k (([a0,a1]:List Int))).bind fun Ee=>(if Ee=true then((Zdp.f k a0 (wrap64 (-a1))).bind fun oN=>(some (oN.1,oN.2)))else(some (0,false)))
set_option maxRecDepth 100000 in
theorem Ze2.calls (k : Nat) (a0 : Int) (a1 : Int) (r1 : Int) (r2 : Bool) (w : World) (h : Ze2.f k a0 a1 = some (r1, r2)) :
  Calls Tryz.prog 85 #[.int .i64 a0,.int .i64 a1] w fun e w'=>e= .returned (.tuple #[.int .i64 r1,.bool r2])∧Below w.heap.size w w':=by
 have HB:=Za.mk (Below.refl w.heap.size w);have H:((Zbo.f k (([a0,a1]:List Int))).bind fun Ee=>(if Ee=true then((Zdp.f k a0 (wrap64 (-a1))).bind fun oN=>(some (oN.1,oN.2)))else(some (0,false))))=some (r1,r2):=h;clear h;obtain⟨NE,IB⟩:∃y_:List Int,y_=(([a0,a1]:List Int)):=⟨_,rfl⟩;replace H:((Zbo.f k NE).bind fun Ee=>(if Ee=true then((Zdp.f k a0 (wrap64 (-a1))).bind fun oN=>(some (oN.1,oN.2)))else(some (0,false))))=some (r1,r2):=by first|(rw[IB];with_reducible exact H)|(have H2_:=(Option.bind_some _ _).symm.trans H;rw[IB];with_reducible exact H2_)|(have H2_:=(Option.bind_some _ _).symm.trans H;with_reducible exact H2_)|with_reducible exact H|(rw[IB];exact H)|exact H
 have KX:=Za.mk IB;clear IB;obtain⟨Ee,A3,H⟩:=bnd H;replace H:(if Ee=true then((Zdp.f k a0 (wrap64 (-a1))).bind fun oN=>(some (oN.1,oN.2)))else(some (0,false)))=some (r1,r2):=H;by_cases c4:Ee=true
 case neg=>
  replace c4:=Bool.eq_false_iff.mpr c4;subst c4;replace H:=ifF H;simp only[Option.some.injEq,Prod.mk.injEq]at H;obtain⟨rfl,rfl⟩:=H;go_enter Tryz.func85,Tryz.ntmps85
  go_wp2_with (first|((with_reducible refine Zap (N:=8) rfl ?_);refine Kd.Zdf (Kd.int .i64) _ 3 ?hg (N:=8) ?hd (xs:=([a0,a1]:List Int)) (inner:= [.int .i64 a0,.int .i64 a1]) (ok:=fun _=>True) (okp:=fun _=>True) ?hr ?hp (fun _ hk=>hk) trivial (Below.refl _ _) (Nat.le_refl _) (by simp) ?_;(case hd=>rfl);(case hg=>rfl);(case hr=>first|(go_simp;done)|(go_simp;rfl));(case hp=>exact(Reps.one (show Kd.M (Kd.int .i64) _ _ _ a0 [.int .i64 a0]from rfl) (Reps.one (show Kd.M (Kd.int .i64) _ _ _ a1 [.int .i64 a1]from rfl) (Reps.none _ _))));intro jma w10 nQ hb hg_ hnew_;clear hg_ hnew_;(first|rw[←KX.out]at nQ|(simp only[Int.reduceToNat]at nQ;rw[←KX.out]at nQ));have xu:=Za.mk (Kd.Zbp nQ (Zaj (bM HB.out)));replace HB:=Za.mk (bS HB.out hb);clear hb nQ;obtain⟨lm,lw,BM⟩:=Kd.Za9 xu.out;subst BM)|((with_reducible refine Zat (f:=86) rfl ?_);refine gl 9 Tryz.func86 #[.slice lm NE.length lw] ?_;(with_reducible refine(Zbo.calls k _ _ NE false _ (cM ((Kd.Za3 xu.out).2.2)) ((Kd.Za3 xu.out).2.1) A3.out).mono ?_);rintro e w' ⟨rfl,⟨nd,rfl⟩⟩;refine⟨_,rfl,?_⟩))
  go_ret2
  exact⟨eR,bM HB.out⟩
 subst c4;have H1:((Zdp.f k a0 (wrap64 (-a1))).bind fun oN=>(some (oN.1,oN.2)))=some (r1,r2):=by rw[if_pos rfl]at H;exact H
 clear H;have H:=H1;clear H1;obtain⟨⟨bka,bla⟩,A5,H⟩:=bnd H;replace H:(some (bka,bla))=some (r1,r2):=H;simp only[Option.some.injEq,Prod.mk.injEq]at H;obtain⟨rfl,rfl⟩:=H;go_enter Tryz.func85,Tryz.ntmps85
 go_wp2_with (first|((with_reducible refine Zap (N:=8) rfl ?_);refine Kd.Zdf (Kd.int .i64) _ 3 ?hg (N:=8) ?hd (xs:=([a0,a1]:List Int)) (inner:= [.int .i64 a0,.int .i64 a1]) (ok:=fun _=>True) (okp:=fun _=>True) ?hr ?hp (fun _ hk=>hk) trivial (Below.refl _ _) (Nat.le_refl _) (by simp) ?_;(case hd=>rfl);(case hg=>rfl);(case hr=>first|(go_simp;done)|(go_simp;rfl));(case hp=>exact(Reps.one (show Kd.M (Kd.int .i64) _ _ _ a0 [.int .i64 a0]from rfl) (Reps.one (show Kd.M (Kd.int .i64) _ _ _ a1 [.int .i64 a1]from rfl) (Reps.none _ _))));intro jma w6 ho7 hb hg_ hnew_;clear hg_ hnew_;(first|rw[←KX.out]at ho7|(simp only[Int.reduceToNat]at ho7;rw[←KX.out]at ho7));have xu:=Za.mk (Kd.Zbp ho7 (Zaj (bM HB.out)));replace HB:=Za.mk (bS HB.out hb);clear hb ho7;obtain⟨Ao8,co8,eo8⟩:=Kd.Za9 xu.out;subst eo8)|((with_reducible refine Zat (f:=86) rfl ?_);refine gl 9 Tryz.func86 #[.slice Ao8 NE.length co8] ?_;(with_reducible refine(Zbo.calls k _ _ NE true _ (cM ((Kd.Za3 xu.out).2.2)) ((Kd.Za3 xu.out).2.1) A3.out).mono ?_);rintro e w' ⟨rfl,⟨nd,rfl⟩⟩;refine⟨_,rfl,?_⟩)|((with_reducible refine Zat (f:=67) rfl ?_);refine gl 14 Tryz.func67 #[.int .i64 a0,.int .i64 (wrap64 (-a1))] ?_;(with_reducible refine(Zdp.calls k a0 (wrap64 (-a1)) bka bla _ A5.out).mono ?_);rintro e w9 ⟨rfl,hb⟩;refine⟨_,rfl,?_⟩;replace HB:=Za.mk (bS HB.out hb);clear xu;(try clear hb);(try clear hb2);(try clear hk);(try clear hi)))
 go_ret2
 exact⟨eR,bM HB.out⟩
def Zdd.f (k:Nat) (a0:Int):Option (Int × Bool):=if a0<0 then((Ze2.f k 0 a0).bind fun Hu=>(some (Hu.1,Hu.2)))else((Zdp.f k 0 a0).bind fun Hw=>(some (Hw.1,Hw.2)))
set_option maxRecDepth 100000 in
theorem Zdd.calls (k : Nat) (a0 : Int) (r1 : Int) (r2 : Bool) (w : World) (h : Zdd.f k a0 = some (r1, r2)) :
  Calls Tryz.prog 65 #[.int .i64 a0] w fun e w'=>e= .returned (.tuple #[.int .i64 r1,.bool r2])∧Below w.heap.size w w':=by
 have HB:=Za.mk (Below.refl w.heap.size w);have H:(if a0<0 then((Ze2.f k 0 a0).bind fun Hu=>(some (Hu.1,Hu.2)))else((Zdp.f k 0 a0).bind fun Hw=>(some (Hw.1,Hw.2))))=some (r1,r2):=h;clear h;by_cases c2:a0<0
 case pos=>
  rw[if_pos c2]at H;have mh:decide (a0<0)=true:=decide_eq_true c2;clear c2;obtain⟨⟨bma,bna⟩,A3,H⟩:=bnd H;replace H:(some (bma,bna))=some (r1,r2):=H;simp only[Option.some.injEq,Prod.mk.injEq]at H;obtain⟨rfl,rfl⟩:=H;go_enter Tryz.func65,Tryz.ntmps65
  go_wp2_with (first|((with_reducible refine Zat (f:=85) rfl ?_);refine gl 7 Tryz.func85 #[.int .i64 0,.int .i64 a0] ?_;(with_reducible refine(Ze2.calls k 0 a0 bma bna _ A3.out).mono ?_);rintro e w4 ⟨rfl,hb⟩;refine⟨_,rfl,?_⟩;replace HB:=Za.mk (bS HB.out hb);(try clear hb);(try clear hb2);(try clear hk);(try clear hi)))
  go_ret2
  exact⟨eR,bM HB.out⟩
 rw[if_neg c2]at H;have mh:decide (a0<0)=false:=decide_eq_false c2;clear c2;obtain⟨⟨boa,bpa⟩,A5,H⟩:=bnd H;replace H:(some (boa,bpa))=some (r1,r2):=H;simp only[Option.some.injEq,Prod.mk.injEq]at H;obtain⟨rfl,rfl⟩:=H;go_enter Tryz.func65,Tryz.ntmps65
 go_wp2_with (first|((with_reducible refine Zat (f:=67) rfl ?_);refine gl 11 Tryz.func67 #[.int .i64 0,.int .i64 a0] ?_;(with_reducible refine(Zdp.calls k 0 a0 boa bpa _ A5.out).mono ?_);rintro e w6 ⟨rfl,hb⟩;refine⟨_,rfl,?_⟩;replace HB:=Za.mk (bS HB.out hb);(try clear hb);(try clear hb2);(try clear hk);(try clear hi)))
 go_ret2
 exact⟨eR,bM HB.out⟩
def bits_Mul64.f (a0:Int) (a1:Int):Option (Int × Int):=some (IntKind.u64.wrap ((IntKind.u64.wrap ((IntKind.u64.wrap ((a0 / 4294967296)*(a1 / 4294967296)))+((IntKind.u64.wrap ((IntKind.u64.wrap ((a0 / 4294967296)*(Go.bits .and .u64 a1 4294967295)))+((IntKind.u64.wrap ((Go.bits .and .u64 a0 4294967295)*(Go.bits .and .u64 a1 4294967295))) / 4294967296))) / 4294967296)))+((IntKind.u64.wrap ((Go.bits .and .u64 (IntKind.u64.wrap ((IntKind.u64.wrap ((a0 / 4294967296)*(Go.bits .and .u64 a1 4294967295)))+((IntKind.u64.wrap ((Go.bits .and .u64 a0 4294967295)*(Go.bits .and .u64 a1 4294967295))) / 4294967296))) 4294967295)+(IntKind.u64.wrap ((Go.bits .and .u64 a0 4294967295)*(a1 / 4294967296))))) / 4294967296)),IntKind.u64.wrap (a0*a1))
set_option maxRecDepth 100000 in
theorem bits_Mul64.calls (a0 : Int) (a1 : Int) (r1 : Int) (r2 : Int) (w : World) (h : bits_Mul64.f a0 a1 = some (r1, r2)) :
  Calls Tryz.prog 87 #[.int .u64 a0,.int .u64 a1] w fun e w'=>e= .returned (.tuple #[.int .u64 r1,.int .u64 r2])∧Za1 w w':=by
 have H:(some (IntKind.u64.wrap ((IntKind.u64.wrap ((IntKind.u64.wrap ((a0 / 4294967296)*(a1 / 4294967296)))+((IntKind.u64.wrap ((IntKind.u64.wrap ((a0 / 4294967296)*(Go.bits .and .u64 a1 4294967295)))+((IntKind.u64.wrap ((Go.bits .and .u64 a0 4294967295)*(Go.bits .and .u64 a1 4294967295))) / 4294967296))) / 4294967296)))+((IntKind.u64.wrap ((Go.bits .and .u64 (IntKind.u64.wrap ((IntKind.u64.wrap ((a0 / 4294967296)*(Go.bits .and .u64 a1 4294967295)))+((IntKind.u64.wrap ((Go.bits .and .u64 a0 4294967295)*(Go.bits .and .u64 a1 4294967295))) / 4294967296))) 4294967295)+(IntKind.u64.wrap ((Go.bits .and .u64 a0 4294967295)*(a1 / 4294967296))))) / 4294967296)),IntKind.u64.wrap (a0*a1)))=some (r1,r2):=h;clear h;simp only[Option.some.injEq,Prod.mk.injEq]at H;obtain⟨rfl,rfl⟩:=H;go_enter Tryz.func87,Tryz.ntmps87;go_wp2
 go_ret2
 exact⟨eS,by repeat(first|exact Za1.refl _|apply Za1.step)⟩
def Zcr.f (a0:Int):Option (Int):=if a0<0 then(some (IntKind.u64.wrap (-(IntKind.u64.wrap (a0)))))else(some (IntKind.u64.wrap (a0)))
set_option maxRecDepth 100000 in
theorem Zcr.calls (a0 : Int) (r : Int) (w : World) (h : Zcr.f a0 = some r) :
  Calls Tryz.prog 88 #[.int .i64 a0] w fun e w'=>e= .returned (.int .u64 r)∧Za1 w w':=by
 have H:(if a0<0 then(some (IntKind.u64.wrap (-(IntKind.u64.wrap (a0)))))else(some (IntKind.u64.wrap (a0))))=some r:=h;clear h;by_cases c2:a0<0
 case pos=>
  rw[if_pos c2]at H;have mh:decide (a0<0)=true:=decide_eq_true c2;clear c2;obtain rfl:=sj H;go_enter Tryz.func88,Tryz.ntmps88;go_wp2;go_ret;exact⟨eS,by repeat(first|exact Za1.refl _|apply Za1.step)⟩
 rw[if_neg c2]at H;have mh:decide (a0<0)=false:=decide_eq_false c2;clear c2;obtain rfl:=sj H;go_enter Tryz.func88,Tryz.ntmps88;go_wp2;go_ret;exact⟨eS,by repeat(first|exact Za1.refl _|apply Za1.step)⟩
def Zc.j0 : Nat → Int → Int → Int → Bool → Option (Int × Bool)
 | 0, _, _, _, _ => none
 |k+1,x0,x1,x7,x26=>if x26=true then(some (0,false))else(if((decide (x0<0)) !=(decide (x1<0)))=true then(some (wrap64 (-(wrap64 (x7))),true))else(some (wrap64 (x7),true)))
def Zc.f (k:Nat) (a0:Int) (a1:Int):Option (Int × Bool):=(Zbo.f k (([a0,a1]:List Int))).bind fun Ef=>(if Ef=true then((Zcr.f a0).bind fun rz=>((Zcr.f a1).bind fun qD=>((bits_Mul64.f rz qD).bind fun gD=>(if gD.1=0 then(Zc.j0 k a0 a1 gD.2 (decide (gD.2>4611686018427387904)))else(Zc.j0 k a0 a1 gD.2 true)))))else(some (0,false)))
set_option maxRecDepth 100000 in
theorem Zc.calls (k : Nat) (a0 : Int) (a1 : Int) (r1 : Int) (r2 : Bool) (w : World) (h : Zc.f k a0 a1 = some (r1, r2)) :
  Calls Tryz.prog 66 #[.int .i64 a0,.int .i64 a1] w fun e w'=>e= .returned (.tuple #[.int .i64 r1,.bool r2])∧Below w.heap.size w w':=by
 have HB:=Za.mk (Below.refl w.heap.size w);have H:((Zbo.f k (([a0,a1]:List Int))).bind fun Ef=>(if Ef=true then((Zcr.f a0).bind fun rz=>((Zcr.f a1).bind fun qD=>((bits_Mul64.f rz qD).bind fun gD=>(if gD.1=0 then(Zc.j0 k a0 a1 gD.2 (decide (gD.2>4611686018427387904)))else(Zc.j0 k a0 a1 gD.2 true)))))else(some (0,false))))=some (r1,r2):=h;clear h;obtain⟨NF,IC⟩:∃y_:List Int,y_=(([a0,a1]:List Int)):=⟨_,rfl⟩;replace H:((Zbo.f k NF).bind fun Ef=>(if Ef=true then((Zcr.f a0).bind fun rz=>((Zcr.f a1).bind fun qD=>((bits_Mul64.f rz qD).bind fun gD=>(if gD.1=0 then(Zc.j0 k a0 a1 gD.2 (decide (gD.2>4611686018427387904)))else(Zc.j0 k a0 a1 gD.2 true)))))else(some (0,false))))=some (r1,r2):=by first|(rw[IC];with_reducible exact H)|(have H2_:=(Option.bind_some _ _).symm.trans H;rw[IC];with_reducible exact H2_)|(have H2_:=(Option.bind_some _ _).symm.trans H;with_reducible exact H2_)|with_reducible exact H|(rw[IC];exact H)|exact H
 have KY:=Za.mk IC;clear IC;obtain⟨Ef,A3,H⟩:=bnd H;replace H:(if Ef=true then((Zcr.f a0).bind fun rz=>((Zcr.f a1).bind fun qD=>((bits_Mul64.f rz qD).bind fun gD=>(if gD.1=0 then(Zc.j0 k a0 a1 gD.2 (decide (gD.2>4611686018427387904)))else(Zc.j0 k a0 a1 gD.2 true)))))else(some (0,false)))=some (r1,r2):=H;by_cases c4:Ef=true
 case neg=>
  replace c4:=Bool.eq_false_iff.mpr c4;subst c4;replace H:=ifF H;simp only[Option.some.injEq,Prod.mk.injEq]at H;obtain⟨rfl,rfl⟩:=H;go_enter Tryz.func66,Tryz.ntmps66
  go_wp2_with (first|((with_reducible refine Zap (N:=10) rfl ?_);refine Kd.Zdf (Kd.int .i64) _ 3 ?hg (N:=10) ?hd (xs:=([a0,a1]:List Int)) (inner:= [.int .i64 a0,.int .i64 a1]) (ok:=fun _=>True) (okp:=fun _=>True) ?hr ?hp (fun _ hk=>hk) trivial (Below.refl _ _) (Nat.le_refl _) (by simp) ?_;(case hd=>rfl);(case hg=>rfl);(case hr=>first|(go_simp;done)|(go_simp;rfl));(case hp=>exact(Reps.one (show Kd.M (Kd.int .i64) _ _ _ a0 [.int .i64 a0]from rfl) (Reps.one (show Kd.M (Kd.int .i64) _ _ _ a1 [.int .i64 a1]from rfl) (Reps.none _ _))));intro jna w15 MO hb hg_ hnew_;clear hg_ hnew_;(first|rw[←KY.out]at MO|(simp only[Int.reduceToNat]at MO;rw[←KY.out]at MO));have Bv:=Za.mk (Kd.Zbp MO (Zaj (bM HB.out)));replace HB:=Za.mk (bS HB.out hb);clear hb MO;obtain⟨fe,eQ,wR⟩:=Kd.Za9 Bv.out;subst wR)|((with_reducible refine Zat (f:=86) rfl ?_);refine gl 11 Tryz.func86 #[.slice fe NF.length eQ] ?_;(with_reducible refine(Zbo.calls k _ _ NF false _ (cM ((Kd.Za3 Bv.out).2.2)) ((Kd.Za3 Bv.out).2.1) A3.out).mono ?_);rintro e w' ⟨rfl,⟨nd,rfl⟩⟩;refine⟨_,rfl,?_⟩))
  go_ret2
  exact⟨eR,bM HB.out⟩
 subst c4;have H1:((Zcr.f a0).bind fun rz=>((Zcr.f a1).bind fun qD=>((bits_Mul64.f rz qD).bind fun gD=>(if gD.1=0 then(Zc.j0 k a0 a1 gD.2 (decide (gD.2>4611686018427387904)))else(Zc.j0 k a0 a1 gD.2 true)))))=some (r1,r2):=by rw[if_pos rfl]at H;exact H
 clear H;have H:=H1;clear H1;obtain⟨rz,A5,H⟩:=bnd H;replace H:((Zcr.f a1).bind fun qD=>((bits_Mul64.f rz qD).bind fun gD=>(if gD.1=0 then(Zc.j0 k a0 a1 gD.2 (decide (gD.2>4611686018427387904)))else(Zc.j0 k a0 a1 gD.2 true))))=some (r1,r2):=H;obtain⟨qD,A6,H⟩:=bnd H;replace H:((bits_Mul64.f rz qD).bind fun gD=>(if gD.1=0 then(Zc.j0 k a0 a1 gD.2 (decide (gD.2>4611686018427387904)))else(Zc.j0 k a0 a1 gD.2 true)))=some (r1,r2):=H;obtain⟨⟨G5,Kt⟩,A7,H⟩:=bnd H;replace H:(if G5=0 then(Zc.j0 k a0 a1 Kt (decide (Kt>4611686018427387904)))else(Zc.j0 k a0 a1 Kt true))=some (r1,r2):=H;have HC8:=Za.mk H;clear H;go_enter Tryz.func66,Tryz.ntmps66
 go_upto_region 4 with (first|((with_reducible refine Zap (N:=10) rfl ?_);refine Kd.Zdf (Kd.int .i64) _ 3 ?hg (N:=10) ?hd (xs:=([a0,a1]:List Int)) (inner:= [.int .i64 a0,.int .i64 a1]) (ok:=fun _=>True) (okp:=fun _=>True) ?hr ?hp (fun _ hk=>hk) trivial (Below.refl _ _) (Nat.le_refl _) (by simp) ?_;(case hd=>rfl);(case hg=>rfl);(case hr=>first|(go_simp;done)|(go_simp;rfl));(case hp=>exact(Reps.one (show Kd.M (Kd.int .i64) _ _ _ a0 [.int .i64 a0]from rfl) (Reps.one (show Kd.M (Kd.int .i64) _ _ _ a1 [.int .i64 a1]from rfl) (Reps.none _ _))));intro jna w9 oW hb hg_ hnew_;clear hg_ hnew_;(first|rw[←KY.out]at oW|(simp only[Int.reduceToNat]at oW;rw[←KY.out]at oW));have Bv:=Za.mk (Kd.Zbp oW (Zaj (bM HB.out)));replace HB:=Za.mk (bS HB.out hb);clear hb oW;obtain⟨M0,M8,FI⟩:=Kd.Za9 Bv.out;subst FI)|((with_reducible refine Zat (f:=86) rfl ?_);refine gl 11 Tryz.func86 #[.slice M0 NF.length M8] ?_;(with_reducible refine(Zbo.calls k _ _ NF true _ (cM ((Kd.Za3 Bv.out).2.2)) ((Kd.Za3 Bv.out).2.1) A3.out).mono ?_);rintro e w' ⟨rfl,⟨nd,rfl⟩⟩;refine⟨_,rfl,?_⟩)|((with_reducible refine Zat (f:=88) rfl ?_);refine gl 15 Tryz.func88 #[.int .i64 a0] ?_;(with_reducible refine(Zcr.calls a0 rz _ A5.out).mono ?_);rintro e w' ⟨rfl,⟨nd,rfl⟩⟩;refine⟨_,rfl,?_⟩)|((with_reducible refine Zat (f:=88) rfl ?_);refine gl 17 Tryz.func88 #[.int .i64 a1] ?_;(with_reducible refine(Zcr.calls a1 qD _ A6.out).mono ?_);rintro e w' ⟨rfl,⟨nd,rfl⟩⟩;refine⟨_,rfl,?_⟩)|((with_reducible refine Zat (f:=87) rfl ?_);refine gl 18 Tryz.func87 #[.int .u64 rz,.int .u64 qD] ?_;(with_reducible refine(bits_Mul64.calls rz qD G5 Kt _ A7.out).mono ?_);rintro e w' ⟨rfl,⟨nd,rfl⟩⟩;refine⟨_,rfl,?_⟩))
 (try simp only[Act.put,List.setIfInBounds_toArray,List.set_cons_zero,List.set_cons_succ])
 go_cut [26] (fun v26 wc=>∃(kq:Nat) (Lj:Bool),v26= .bool Lj∧Za (Zc.j0 kq a0 a1 Kt Lj=some (r1,r2))∧Za (kq≤k)∧Za (Below w.heap.size w wc))
 case first=>
  have H:=HC8.out;clear HC8;by_cases c12:G5=0
  case neg=>
   rw[if_neg c12]at H;have ll:(G5==0)=false:=beq_eq_false_iff_ne.mpr c12;have Ew:(G5 !=0)=true:=bne_iff_ne.mpr c12
   (first|rw[ll]|(simp only[Zdk,Zdn];rw[ll])|skip)
   have H':=Za.mk H;clear H;go_wp2
   go_meet
   case rel=>exact⟨_,(true),eS,H',⟨by first|omega|exact Nat.le_refl _⟩,⟨bM HB.out⟩⟩
  rw[if_pos c12]at H;have ll:(G5==0)=true:=beq_iff_eq.mpr c12;have Ew:(G5 !=0)=false:=bne_eq_false_iff_eq.mpr c12;clear c12
  (first|rw[ll]|(simp only[Zdk,Zdn];rw[ll])|skip)
  have H':=Za.mk H;clear H;go_wp2
  go_meet
  case rel=>exact⟨_,(decide (Kt>4611686018427387904)),eS,H',⟨by first|omega|exact Nat.le_refl _⟩,⟨bM HB.out⟩⟩
 case rest=>
  clear HC8;try clear c1
  try clear p2
  try clear c4
  try clear c6
  try clear c8
  try clear c12
  try clear ll
  try clear Ew
  obtain⟨kq,Lj,rfl,HA,HJ7,HB⟩:=hcut
  cases kq with
  | zero => exact absurd HA.out (by simp [Zc.j0])
  |succ kj7=>
   have H:=HA.out;clear HA;simp only[Zc.j0]at H;by_cases c13:Lj=true
   case pos=>
    subst c13;have H1:(some (0,false))=some (r1,r2):=by rw[if_pos rfl]at H;exact H
    clear H;have H:=H1;clear H1;simp only[Option.some.injEq,Prod.mk.injEq]at H;obtain⟨rfl,rfl⟩:=H;go_wp2
    go_ret2
    exact⟨eR,bM HB.out⟩
   replace c13:=Bool.eq_false_iff.mpr c13;subst c13;replace H:=ifF H;by_cases c14:((decide (a0<0)) !=(decide (a1<0)))=true
   case neg=>
    rw[if_neg c14]at H;have nN:((decide (a0<0)) !=(decide (a1<0)))=false:=by simpa using c14
    (try(have dia:decide ((decide (a0<0))=(decide (a1<0)))=true:=by simpa using c14))
    (try(have dja:((decide (a0<0))==(decide (a1<0)))=true:=by simpa using c14))
    clear c14;simp only[Option.some.injEq,Prod.mk.injEq]at H;obtain⟨rfl,rfl⟩:=H;go_wp2
    go_ret2
    exact⟨eR,bM HB.out⟩
   rw[if_pos c14]at H;have nN:((decide (a0<0)) !=(decide (a1<0)))=true:=c14
   (try(have dia:decide ((decide (a0<0))=(decide (a1<0)))=false:=by simpa using c14))
   (try(have dja:((decide (a0<0))==(decide (a1<0)))=false:=by simpa using c14))
   (try(have lja:¬((decide (a0<0))=(decide (a1<0))):=by simpa using c14))
   clear c14;simp only[Option.some.injEq,Prod.mk.injEq]at H;obtain⟨rfl,rfl⟩:=H;go_wp2
   go_ret2
   exact⟨eR,bM HB.out⟩
def Zco.l0 : Nat → Int → Bool → List Int → Int → Int → Option (Bool)
 | 0, _, _, _, _, _ => none
 |k+1,x5,x6,x16,x17,x18=>if x18<x17 then(if 0≤x18 then(if x18<(x16.length:Int)then((Zdd.f k (rd x16 x18)).bind fun VN=>(if VN.2=true then((Zc.f k VN.1 1048576).bind fun VO=>(if VO.2=true then(if x6=true then((Zdp.f k x5 VO.1).bind fun VP=>(Zco.l0 k VP.1 VP.2 x16 x17 (wrap64 (x18+1))))else(some true))else(some true)))else(some true)))else(none))else(none))else(some (!x6))
def Zco.f (k:Nat) (l0:List Int) (a1:Int):Option (Bool):=(Zdd.f k a1).bind fun Hy=>(Zco.l0 k Hy.1 Hy.2 l0 (l0.length:Int) 0)
set_option maxRecDepth 100000 in
theorem Zco.calls (k : Nat) (A0 : Option Addr) (c0 : Nat) (l0 : List Int) (a1 : Int) (r : Bool) (w : World) (hr0 : Kd.C (Kd.int .i64) w A0 l0.length l0) (hc0 : l0.length ≤ c0) (h : Zco.f k l0 a1 = some r) :
  Calls Tryz.prog 35 #[.slice A0 l0.length c0,.int .i64 a1] w fun e w'=>e= .returned (.bool r)∧Below w.heap.size w w':=by
 have HR0:=Za.mk hr0;have HC0:=Za.mk hc0;clear hr0 hc0;have HB:=Za.mk (Below.refl w.heap.size w);have H:((Zdd.f k a1).bind fun Hy=>(Zco.l0 k Hy.1 Hy.2 l0 (l0.length:Int) 0))=some r:=h;clear h;obtain⟨⟨bqa,bra⟩,A3,H⟩:=bnd H;try dsimp only at H
 have H':=Za.mk H;clear H;go_enter Tryz.func35,Tryz.ntmps35
 go_wp2_with (first|((with_reducible refine Zat (f:=65) rfl ?_);refine gl 13 Tryz.func65 #[.int .i64 a1] ?_;(with_reducible refine(Zdd.calls k a1 bqa bra _ A3.out).mono ?_);rintro e w4 ⟨rfl,hb⟩;refine⟨_,rfl,?_⟩;replace HB:=Za.mk (bS HB.out hb);(try clear hb);(try clear hb2);(try clear hk);(try clear hi)))
 go_loopg [5,6,18] k (fun kq v5 v6 v18 w'=>∃(aH:Int) (Ra:Bool) (jd:Int),v5= .int .i64 aH∧v6= .bool Ra∧v18= .int .i64 jd∧Za (Zco.l0 kq aH Ra l0 (l0.length:Int) jd=some r)∧Za (kq≤k)∧Za (Below w.heap.size w w'))
 case atStart=>exact⟨(bqa),(bra),(0),eS,eS,eS,H',⟨Nat.le_refl _⟩,⟨bM HB.out⟩⟩
 case round=>
  clear H';try clear p2
  try clear c3
  obtain⟨aH,Ra,jd,rfl,rfl,rfl,HA,HK1,HB⟩:=hrel
  cases gk with
  | zero => exact absurd HA.out (by simp [Zco.l0])
  |succ k1=>
   have H:=HA.out;clear HA;simp only[Zco.l0]at H;by_cases c5:jd<(l0.length:Int)
   case neg=>
    rw[if_neg c5]at H;have dS:decide (jd<(l0.length:Int))=false:=decide_eq_false c5;clear c5;obtain rfl:=sj H;go_wp2;go_ret;exact⟨eR,bM HB.out⟩
   rw[if_pos c5]at H;have dS:decide (jd<(l0.length:Int))=true:=decide_eq_true c5;clear c5;obtain⟨jh,H⟩:=ifT H;obtain⟨mV,H⟩:=ifT H;obtain⟨⟨yH,jga⟩,A8,H⟩:=bnd H;try dsimp only at H
   by_cases c9:jga=true
   case neg=>
    replace c9:=Bool.eq_false_iff.mpr c9;subst c9;replace H:=ifF H;obtain rfl:=sj H;have rf:0≤(jd:Int):=odt;have ru:jd<(l0.length:Int):=odt;obtain⟨Qm,rfl,mY⟩:=Kd.Zb0 HR0.out jd rf ru;replace mY:=hB HB.out mY;replace rf:=eq_true rf;replace ru:=eq_true ru
    go_wp2_with (first|((with_reducible refine Zat (f:=65) rfl ?_);refine gl 24 Tryz.func65 #[.int .i64 (rd l0 jd)] ?_;(with_reducible refine(Zdd.calls k1 (rd l0 jd) yH false _ A8.out).mono ?_);rintro e w21 ⟨rfl,hb⟩;refine⟨_,rfl,?_⟩;replace HB:=Za.mk (bS HB.out hb);(try clear hb);(try clear hb2);(try clear hk);(try clear hi)))
    go_ret;exact⟨eR,bM HB.out⟩
   subst c9;rw[if_pos rfl]at H;obtain⟨⟨Na,jha⟩,A10,H⟩:=bnd H;try dsimp only at H
   by_cases c11:jha=true
   case neg=>
    replace c11:=Bool.eq_false_iff.mpr c11;subst c11;replace H:=ifF H;obtain rfl:=sj H;have rf:0≤(jd:Int):=odt;have ru:jd<(l0.length:Int):=odt;obtain⟨Qm,rfl,mY⟩:=Kd.Zb0 HR0.out jd rf ru;replace mY:=hB HB.out mY;replace rf:=eq_true rf;replace ru:=eq_true ru
    go_wp2_with (first|((with_reducible refine Zat (f:=65) rfl ?_);refine gl 24 Tryz.func65 #[.int .i64 (rd l0 jd)] ?_;(with_reducible refine(Zdd.calls k1 (rd l0 jd) yH true _ A8.out).mono ?_);rintro e w19 ⟨rfl,hb⟩;refine⟨_,rfl,?_⟩;replace HB:=Za.mk (bS HB.out hb);(try clear hb);(try clear hb2);(try clear hk);(try clear hi))|((with_reducible refine Zat (f:=66) rfl ?_);refine gl 30 Tryz.func66 #[.int .i64 yH,.int .i64 1048576] ?_;(with_reducible refine(Zc.calls k1 yH 1048576 Na false _ A10.out).mono ?_);rintro e w20 ⟨rfl,hb⟩;refine⟨_,rfl,?_⟩;replace HB:=Za.mk (bS HB.out hb);(try clear hb);(try clear hb2);(try clear hk);(try clear hi)))
    go_ret;exact⟨eR,bM HB.out⟩
   subst c11;rw[if_pos rfl]at H;by_cases c12:Ra=true
   case neg=>
    replace c12:=Bool.eq_false_iff.mpr c12;subst c12;replace H:=ifF H;obtain rfl:=sj H;have rf:0≤(jd:Int):=odt;have ru:jd<(l0.length:Int):=odt;obtain⟨Qm,rfl,mY⟩:=Kd.Zb0 HR0.out jd rf ru;replace mY:=hB HB.out mY;replace rf:=eq_true rf;replace ru:=eq_true ru
    go_wp2_with (first|((with_reducible refine Zat (f:=65) rfl ?_);refine gl 24 Tryz.func65 #[.int .i64 (rd l0 jd)] ?_;(with_reducible refine(Zdd.calls k1 (rd l0 jd) yH true _ A8.out).mono ?_);rintro e w17 ⟨rfl,hb⟩;refine⟨_,rfl,?_⟩;replace HB:=Za.mk (bS HB.out hb);(try clear hb);(try clear hb2);(try clear hk);(try clear hi))|((with_reducible refine Zat (f:=66) rfl ?_);refine gl 30 Tryz.func66 #[.int .i64 yH,.int .i64 1048576] ?_;(with_reducible refine(Zc.calls k1 yH 1048576 Na true _ A10.out).mono ?_);rintro e w18 ⟨rfl,hb⟩;refine⟨_,rfl,?_⟩;replace HB:=Za.mk (bS HB.out hb);(try clear hb);(try clear hb2);(try clear hk);(try clear hi)))
    go_ret;exact⟨eR,bM HB.out⟩
   subst c12;rw[if_pos rfl]at H;obtain⟨⟨bsa,bta⟩,A13,H⟩:=bnd H;try dsimp only at H
   have H':=Za.mk H;clear H;have rf:0≤(jd:Int):=odt;have ru:jd<(l0.length:Int):=odt;obtain⟨Qm,rfl,mY⟩:=Kd.Zb0 HR0.out jd rf ru;replace mY:=hB HB.out mY;replace rf:=eq_true rf;replace ru:=eq_true ru
   go_wp2_with (first|((with_reducible refine Zat (f:=65) rfl ?_);refine gl 24 Tryz.func65 #[.int .i64 (rd l0 jd)] ?_;(with_reducible refine(Zdd.calls k1 (rd l0 jd) yH true _ A8.out).mono ?_);rintro e w14 ⟨rfl,hb⟩;refine⟨_,rfl,?_⟩;replace HB:=Za.mk (bS HB.out hb);(try clear hb);(try clear hb2);(try clear hk);(try clear hi))|((with_reducible refine Zat (f:=66) rfl ?_);refine gl 30 Tryz.func66 #[.int .i64 yH,.int .i64 1048576] ?_;(with_reducible refine(Zc.calls k1 yH 1048576 Na true _ A10.out).mono ?_);rintro e w15 ⟨rfl,hb⟩;refine⟨_,rfl,?_⟩;replace HB:=Za.mk (bS HB.out hb);(try clear hb);(try clear hb2);(try clear hk);(try clear hi))|((with_reducible refine Zat (f:=67) rfl ?_);refine gl 42 Tryz.func67 #[.int .i64 aH,.int .i64 Na] ?_;(with_reducible refine(Zdp.calls k1 aH Na bsa bta _ A13.out).mono ?_);rintro e w16 ⟨rfl,hb⟩;refine⟨_,rfl,?_⟩;replace HB:=Za.mk (bS HB.out hb);(try clear hb);(try clear hb2);(try clear hk);(try clear hi)))
   go_roundg k1
   case measure=>have:=HK1.out;omega
   case rel=>exact⟨(bsa),(bta),(wrap64 (jd+1)),eS,eS,eS,H',⟨by have:=HK1.out;omega⟩,⟨bM HB.out⟩⟩
end Go.Proofs.YtkgjaklnbgdmiaaGreat.P
/- model.Con: may a constraint be? -/
namespace Go.Proofs.YtkgjaklnbgdmiaaGreat.P
open Go.RowKit Go.Shelf Go.Proofs.YtkgjaklnbgdmiaaGreatW.PrintWords Go.Proofs.YtkgjaklnbgdmiaaGreatW.PrintLast Go.Proofs.YtkgjaklnbgdmiaaGreatW.PrintMore
def Zdl.f (k:Nat) (l0:List (List S59)) (kd:Int) (vars coefs:List Int) (op rhs:Int) (rows:List (List Int)) (b:Int):Option Int:=
  if kd<0∨7≤kd then some 44
  else if vars.any (awayV l0.length)=true then some 43
  else if kd=4∧awayV l0.length b=true then some 43
  else(Zbw.f k l0 kd vars coefs op rhs rows b).bind fun r=>if r=false then some 44 else(Zco.f k coefs rhs).bind fun g=>some (if g=true then 45 else 0)
set_option maxRecDepth 100000 in
theorem Zdl.calls (k : Nat) (A0 : Option Addr) (c0 : Nat) (l0 : List (List S59)) (kd : Int) (A1 : Option Addr) (c1 : Nat) (vars : List Int) (A2 : Option Addr) (c2 : Nat) (coefs : List Int) (op rhs : Int) (A5 : Option Addr) (c5 : Nat) (rows : List (List Int)) (b : Int) (r : Int) (w : World) (hr0 : Kd.C (Kd.slice 59 k59) w A0 l0.length l0) (hc0 : l0.length ≤ c0) (hr1 : Kd.C (Kd.int .i64) w A1 vars.length vars) (hc1 : vars.length ≤ c1) (hr2 : Kd.C (Kd.int .i64) w A2 coefs.length coefs) (hc2 : coefs.length ≤ c2) (hr5 : Kd.C (Kd.slice 3 (Kd.int .i64)) w A5 rows.length rows) (hc5 : rows.length ≤ c5) (h : Zdl.f k l0 kd vars coefs op rhs rows b = some r) :
    Calls Tryz.prog 14 #[.slice A0 l0.length c0,.agg #[.int .i64 kd,.slice A1 vars.length c1,.slice A2 coefs.length c2,.int .i64 op,.int .i64 rhs,.slice A5 rows.length c5,.int .i64 b]] w fun e w'=>e= .returned (.int .i64 r)∧Below w.heap.size w w':=by
  have HC:=Za.mk (Zdt A0 c0 l0 kd A1 c1 vars A2 c2 coefs op rhs A5 c5 rows b w hr0 hc0 hr1 hc1 hr2 hc2 hr5 hc5);have hwB:Below w.heap.size w ((w.alloc (.cells #[.slice A0 l0.length c0] 45)).alloc (.cells #[.int .i64 kd,.slice A1 vars.length c1,.slice A2 coefs.length c2,.int .i64 op,.int .i64 rhs,.slice A5 rows.length c5,.int .i64 b] 40)):=Zb (Zb (Below.refl _ _) _) _;have HWB:=Za.mk hwB;clear hwB hr0 hr1 hr2 hr5;have CC:=Za.mk (fun(w':World) (hw:Below ((w.alloc (.cells #[.slice A0 l0.length c0] 45)).alloc (.cells #[.int .i64 kd,.slice A1 vars.length c1,.slice A2 coefs.length c2,.int .i64 op,.int .i64 rhs,.slice A5 rows.length c5,.int .i64 b] 40)).heap.size ((w.alloc (.cells #[.slice A0 l0.length c0] 45)).alloc (.cells #[.int .i64 kd,.slice A1 vars.length c1,.slice A2 coefs.length c2,.int .i64 op,.int .i64 rhs,.slice A5 rows.length c5,.int .i64 b] 40)) w')=>Zee (awayV l0.length) 32 #[.pointer (some ⟨w.heap.size,0,none⟩)] (enters_of Tryz.func32 (by kernel_rfl) rfl) A1 c1 vars w' (Kd.Zaf HC.out.r1 hw) (fun k _ q=>awayPred _ _ A0 l0.length c0 _ ((HC.out.below (Zae hw (Zb7 (Below.refl _ _) q))).ed)));have CB:=Za.mk (fun(w':World) (hw:Below ((w.alloc (.cells #[.slice A0 l0.length c0] 45)).alloc (.cells #[.int .i64 kd,.slice A1 vars.length c1,.slice A2 coefs.length c2,.int .i64 op,.int .i64 rhs,.slice A5 rows.length c5,.int .i64 b] 40)).heap.size ((w.alloc (.cells #[.slice A0 l0.length c0] 45)).alloc (.cells #[.int .i64 kd,.slice A1 vars.length c1,.slice A2 coefs.length c2,.int .i64 op,.int .i64 rhs,.slice A5 rows.length c5,.int .i64 b] 40)) w')=>awayPred b w.heap.size A0 l0.length c0 w' ((HC.out.below hw).ed));have CR:=Za.mk (fun(w':World) (hw:Below ((w.alloc (.cells #[.slice A0 l0.length c0] 45)).alloc (.cells #[.int .i64 kd,.slice A1 vars.length c1,.slice A2 coefs.length c2,.int .i64 op,.int .i64 rhs,.slice A5 rows.length c5,.int .i64 b] 40)).heap.size ((w.alloc (.cells #[.slice A0 l0.length c0] 45)).alloc (.cells #[.int .i64 kd,.slice A1 vars.length c1,.slice A2 coefs.length c2,.int .i64 op,.int .i64 rhs,.slice A5 rows.length c5,.int .i64 b] 40)) w') (q:Bool) (hq:Zbw.f k l0 kd vars coefs op rhs rows b=some q)=>Zbw.calls k A0 c0 l0 kd A1 c1 vars A2 c2 coefs op rhs A5 c5 rows b q w' (Kd.Zaf HC.out.rd hw) hc0 (Kd.Zaf HC.out.r1 hw) hc1 (Kd.Zaf HC.out.r2 hw) hc2 (Kd.Zaf HC.out.r5 hw) hc5 hq);have CG:=Za.mk (fun(w':World) (hw:Below ((w.alloc (.cells #[.slice A0 l0.length c0] 45)).alloc (.cells #[.int .i64 kd,.slice A1 vars.length c1,.slice A2 coefs.length c2,.int .i64 op,.int .i64 rhs,.slice A5 rows.length c5,.int .i64 b] 40)).heap.size ((w.alloc (.cells #[.slice A0 l0.length c0] 45)).alloc (.cells #[.int .i64 kd,.slice A1 vars.length c1,.slice A2 coefs.length c2,.int .i64 op,.int .i64 rhs,.slice A5 rows.length c5,.int .i64 b] 40)) w') (q:Bool) (hq:Zco.f k coefs rhs=some q)=>Zco.calls k A2 c2 coefs rhs q w' (Kd.Zaf HC.out.r2 hw) hc2 hq);have BW:=Za.mk (Below.refl ((w.alloc (.cells #[.slice A0 l0.length c0] 45)).alloc (.cells #[.int .i64 kd,.slice A1 vars.length c1,.slice A2 coefs.length c2,.int .i64 op,.int .i64 rhs,.slice A5 rows.length c5,.int .i64 b] 40)).heap.size ((w.alloc (.cells #[.slice A0 l0.length c0] 45)).alloc (.cells #[.int .i64 kd,.slice A1 vars.length c1,.slice A2 coefs.length c2,.int .i64 op,.int .i64 rhs,.slice A5 rows.length c5,.int .i64 b] 40)));unfold Zdl.f at h;by_cases n0:kd<0
  · rw [if_pos (Or.inl n0)] at h; obtain rfl := Option.some.inj h; clear h
    have d0_:decide (kd<0)=true:=decide_eq_true n0;clear n0;go_enter Tryz.func14,Tryz.ntmps14;go_wp2;go_ret;exact⟨by first|rfl|(simp[*];done)|(simp[*];rfl),Zae HWB.out (mvB BW.out)⟩
  have d0_:decide (kd<0)=false:=decide_eq_false n0;by_cases n7:7≤kd
  · rw [if_pos (Or.inr n7)] at h; obtain rfl := Option.some.inj h; clear h
    have d7_:decide (7≤kd)=true:=decide_eq_true n7;clear n0 n7;go_enter Tryz.func14,Tryz.ntmps14;go_wp2;go_ret;exact⟨by first|rfl|(simp[*];done)|(simp[*];rfl),Zae HWB.out (mvB BW.out)⟩
  have d7_:decide (7≤kd)=false:=decide_eq_false n7;rw[if_neg (fun h_=>h_.elim n0 n7)]at h;clear n0 n7
  generalize hav:vars.any (awayV l0.length)=av at CC h
  have HAV:=Za.mk hav;clear hav
  cases av with
  |true=>
    rw[if_pos rfl]at h;obtain rfl:=Option.some.inj h;clear h;go_enter Tryz.func14,Tryz.ntmps14
    go_wp2_with (first|(go_at_call 33;go_loud (refine(CC.out _ ?hB).mono ?_;(case hB=>exact mvB BW.out);rintro e w' ⟨rfl,nd,rfl⟩)))
    go_ret;exact⟨by first|rfl|(simp[*];done)|(simp[*];rfl),Zae HWB.out (mvB BW.out)⟩
  |false=>
    rw[if_neg (by decide)]at h;by_cases n4:kd=4;rotate_left
    · rw [if_neg (fun h_ => n4 h_.1)] at h
      have d4_:decide (kd=4)=false:=decide_eq_false n4;have e4_:(kd==4)=false:=beq_eq_false_iff_ne.2 n4;clear n4;obtain⟨q,hq,h2_⟩:=Option.bind_eq_some_iff.1 h;clear h;have h:=h2_;clear h2_;have HR:=Za.mk hq;clear hq
      cases q with
      |false=>
        rw[if_pos rfl]at h;obtain rfl:=Option.some.inj h;clear h;go_enter Tryz.func14,Tryz.ntmps14
        go_wp2_with (first|(go_at_call 33;go_loud (refine(CC.out _ ?hB).mono ?_;(case hB=>exact mvB BW.out);rintro e w' ⟨rfl,nd,rfl⟩))|(go_at_call 34;go_loud (refine(CR.out _ ?hB _ HR.out).mono ?_;(case hB=>exact mvB BW.out);rintro e w' ⟨rfl,hb⟩;have BW1:=Za.mk (Zae (mvB BW.out) hb);clear BW hb;have BW:=BW1;clear BW1;have hx_:=HC.out.below BW.out;have ed:=hx_.ed;have k0:=hx_.k0;have k1:=hx_.k1;have k2:=hx_.k2;have k3:=hx_.k3;have k4:=hx_.k4;have k5:=hx_.k5;have k6:=hx_.k6;clear hx_)))
        go_ret;exact⟨by first|rfl|(simp[*];done)|(simp[*];rfl),Zae HWB.out (mvB BW.out)⟩
      |true=>
        rw[if_neg (by decide)]at h;obtain⟨g,hg,h2_⟩:=Option.bind_eq_some_iff.1 h;clear h;have h:=h2_;clear h2_;have HG:=Za.mk hg;clear hg;obtain rfl:=Option.some.inj h;clear h
        cases g with
        |false=>
          go_enter Tryz.func14,Tryz.ntmps14
          go_wp2_with (first|(go_at_call 33;go_loud (refine(CC.out _ ?hB).mono ?_;(case hB=>exact mvB BW.out);rintro e w' ⟨rfl,nd,rfl⟩))|(go_at_call 34;go_loud (refine(CR.out _ ?hB _ HR.out).mono ?_;(case hB=>exact mvB BW.out);rintro e w' ⟨rfl,hb⟩;have BW1:=Za.mk (Zae (mvB BW.out) hb);clear BW hb;have BW:=BW1;clear BW1;have hx_:=HC.out.below BW.out;have ed:=hx_.ed;have k0:=hx_.k0;have k1:=hx_.k1;have k2:=hx_.k2;have k3:=hx_.k3;have k4:=hx_.k4;have k5:=hx_.k5;have k6:=hx_.k6;clear hx_))|(go_at_call 35;go_loud (refine(CG.out _ ?hB _ HG.out).mono ?_;(case hB=>exact mvB BW.out);rintro e w' ⟨rfl,hb⟩;have BW1:=Za.mk (Zae (mvB BW.out) hb);clear BW hb;have BW:=BW1;clear BW1;have hx_:=HC.out.below BW.out;have ed:=hx_.ed;have k0:=hx_.k0;have k1:=hx_.k1;have k2:=hx_.k2;have k3:=hx_.k3;have k4:=hx_.k4;have k5:=hx_.k5;have k6:=hx_.k6;clear hx_)))
          go_ret;exact⟨by first|rfl|(simp[*];done)|(simp[*];rfl),Zae HWB.out (mvB BW.out)⟩
        |true=>
          go_enter Tryz.func14,Tryz.ntmps14
          go_wp2_with (first|(go_at_call 33;go_loud (refine(CC.out _ ?hB).mono ?_;(case hB=>exact mvB BW.out);rintro e w' ⟨rfl,nd,rfl⟩))|(go_at_call 34;go_loud (refine(CR.out _ ?hB _ HR.out).mono ?_;(case hB=>exact mvB BW.out);rintro e w' ⟨rfl,hb⟩;have BW1:=Za.mk (Zae (mvB BW.out) hb);clear BW hb;have BW:=BW1;clear BW1;have hx_:=HC.out.below BW.out;have ed:=hx_.ed;have k0:=hx_.k0;have k1:=hx_.k1;have k2:=hx_.k2;have k3:=hx_.k3;have k4:=hx_.k4;have k5:=hx_.k5;have k6:=hx_.k6;clear hx_))|(go_at_call 35;go_loud (refine(CG.out _ ?hB _ HG.out).mono ?_;(case hB=>exact mvB BW.out);rintro e w' ⟨rfl,hb⟩;have BW1:=Za.mk (Zae (mvB BW.out) hb);clear BW hb;have BW:=BW1;clear BW1;have hx_:=HC.out.below BW.out;have ed:=hx_.ed;have k0:=hx_.k0;have k1:=hx_.k1;have k2:=hx_.k2;have k3:=hx_.k3;have k4:=hx_.k4;have k5:=hx_.k5;have k6:=hx_.k6;clear hx_)))
          go_ret;exact⟨by first|rfl|(simp[*];done)|(simp[*];rfl),Zae HWB.out (mvB BW.out)⟩
    subst n4
    generalize hab:awayV l0.length b=ab at CB h
    have HAB:=Za.mk hab;clear hab
    cases ab with
    |true=>
      rw[if_pos ⟨rfl,rfl⟩]at h;obtain rfl:=Option.some.inj h;clear h;go_enter Tryz.func14,Tryz.ntmps14
      go_wp2_with (first|(go_at_call 33;go_loud (refine(CC.out _ ?hB).mono ?_;(case hB=>exact mvB BW.out);rintro e w' ⟨rfl,nd,rfl⟩)))
      refine(CB.out _ ?hB).mono ?_;case hB=>exact mvB BW.out
      rintro e w' ⟨rfl,nd2,rfl⟩;go_wp2;go_ret;exact⟨by first|rfl|(simp[*];done)|(simp[*];rfl),Zae HWB.out (mvB BW.out)⟩
    |false=>
      rw[if_neg (fun h_=>absurd h_.2 (by decide))]at h;obtain⟨q,hq,h2_⟩:=Option.bind_eq_some_iff.1 h;clear h;have h:=h2_;clear h2_;have HR:=Za.mk hq;clear hq
      cases q with
      |false=>
        rw[if_pos rfl]at h;obtain rfl:=Option.some.inj h;clear h;go_enter Tryz.func14,Tryz.ntmps14
        go_wp2_with (first|(go_at_call 33;go_loud (refine(CC.out _ ?hB).mono ?_;(case hB=>exact mvB BW.out);rintro e w' ⟨rfl,nd,rfl⟩))|(go_at_call 34;go_loud (refine(CR.out _ ?hB _ HR.out).mono ?_;(case hB=>exact mvB BW.out);rintro e w' ⟨rfl,hb⟩;have BW1:=Za.mk (Zae (mvB BW.out) hb);clear BW hb;have BW:=BW1;clear BW1;have hx_:=HC.out.below BW.out;have ed:=hx_.ed;have k0:=hx_.k0;have k1:=hx_.k1;have k2:=hx_.k2;have k3:=hx_.k3;have k4:=hx_.k4;have k5:=hx_.k5;have k6:=hx_.k6;clear hx_)))
        refine(CB.out _ ?hB).mono ?_;case hB=>exact mvB BW.out
        rintro e w' ⟨rfl,nd2,rfl⟩
        go_wp2_with (first|(go_at_call 34;go_loud (refine(CR.out _ ?hB _ HR.out).mono ?_;(case hB=>exact mvB BW.out);rintro e w' ⟨rfl,hb⟩;have BW1:=Za.mk (Zae (mvB BW.out) hb);clear BW hb;have BW:=BW1;clear BW1;have hx_:=HC.out.below BW.out;have ed:=hx_.ed;have k0:=hx_.k0;have k1:=hx_.k1;have k2:=hx_.k2;have k3:=hx_.k3;have k4:=hx_.k4;have k5:=hx_.k5;have k6:=hx_.k6;clear hx_))|(go_at_call 35;go_loud (refine(CG.out _ ?hB _ HG.out).mono ?_;(case hB=>exact mvB BW.out);rintro e w' ⟨rfl,hb⟩;have BW1:=Za.mk (Zae (mvB BW.out) hb);clear BW hb;have BW:=BW1;clear BW1;have hx_:=HC.out.below BW.out;have ed:=hx_.ed;have k0:=hx_.k0;have k1:=hx_.k1;have k2:=hx_.k2;have k3:=hx_.k3;have k4:=hx_.k4;have k5:=hx_.k5;have k6:=hx_.k6;clear hx_)))
        go_ret;exact⟨by first|rfl|(simp[*];done)|(simp[*];rfl),Zae HWB.out (mvB BW.out)⟩
      |true=>
        rw[if_neg (by decide)]at h;obtain⟨g,hg,h2_⟩:=Option.bind_eq_some_iff.1 h;clear h;have h:=h2_;clear h2_;have HG:=Za.mk hg;clear hg;obtain rfl:=Option.some.inj h;clear h
        cases g with
        |false=>
          go_enter Tryz.func14,Tryz.ntmps14
          go_wp2_with (first|(go_at_call 33;go_loud (refine(CC.out _ ?hB).mono ?_;(case hB=>exact mvB BW.out);rintro e w' ⟨rfl,nd,rfl⟩))|(go_at_call 34;go_loud (refine(CR.out _ ?hB _ HR.out).mono ?_;(case hB=>exact mvB BW.out);rintro e w' ⟨rfl,hb⟩;have BW1:=Za.mk (Zae (mvB BW.out) hb);clear BW hb;have BW:=BW1;clear BW1;have hx_:=HC.out.below BW.out;have ed:=hx_.ed;have k0:=hx_.k0;have k1:=hx_.k1;have k2:=hx_.k2;have k3:=hx_.k3;have k4:=hx_.k4;have k5:=hx_.k5;have k6:=hx_.k6;clear hx_))|(go_at_call 35;go_loud (refine(CG.out _ ?hB _ HG.out).mono ?_;(case hB=>exact mvB BW.out);rintro e w' ⟨rfl,hb⟩;have BW1:=Za.mk (Zae (mvB BW.out) hb);clear BW hb;have BW:=BW1;clear BW1;have hx_:=HC.out.below BW.out;have ed:=hx_.ed;have k0:=hx_.k0;have k1:=hx_.k1;have k2:=hx_.k2;have k3:=hx_.k3;have k4:=hx_.k4;have k5:=hx_.k5;have k6:=hx_.k6;clear hx_)))
          refine(CB.out _ ?hB).mono ?_;case hB=>exact mvB BW.out
          rintro e w' ⟨rfl,nd2,rfl⟩
          go_wp2_with (first|(go_at_call 34;go_loud (refine(CR.out _ ?hB _ HR.out).mono ?_;(case hB=>exact mvB BW.out);rintro e w' ⟨rfl,hb⟩;have BW1:=Za.mk (Zae (mvB BW.out) hb);clear BW hb;have BW:=BW1;clear BW1;have hx_:=HC.out.below BW.out;have ed:=hx_.ed;have k0:=hx_.k0;have k1:=hx_.k1;have k2:=hx_.k2;have k3:=hx_.k3;have k4:=hx_.k4;have k5:=hx_.k5;have k6:=hx_.k6;clear hx_))|(go_at_call 35;go_loud (refine(CG.out _ ?hB _ HG.out).mono ?_;(case hB=>exact mvB BW.out);rintro e w' ⟨rfl,hb⟩;have BW1:=Za.mk (Zae (mvB BW.out) hb);clear BW hb;have BW:=BW1;clear BW1;have hx_:=HC.out.below BW.out;have ed:=hx_.ed;have k0:=hx_.k0;have k1:=hx_.k1;have k2:=hx_.k2;have k3:=hx_.k3;have k4:=hx_.k4;have k5:=hx_.k5;have k6:=hx_.k6;clear hx_)))
          go_ret;exact⟨by first|rfl|(simp[*];done)|(simp[*];rfl),Zae HWB.out (mvB BW.out)⟩
        |true=>
          go_enter Tryz.func14,Tryz.ntmps14
          go_wp2_with (first|(go_at_call 33;go_loud (refine(CC.out _ ?hB).mono ?_;(case hB=>exact mvB BW.out);rintro e w' ⟨rfl,nd,rfl⟩))|(go_at_call 34;go_loud (refine(CR.out _ ?hB _ HR.out).mono ?_;(case hB=>exact mvB BW.out);rintro e w' ⟨rfl,hb⟩;have BW1:=Za.mk (Zae (mvB BW.out) hb);clear BW hb;have BW:=BW1;clear BW1;have hx_:=HC.out.below BW.out;have ed:=hx_.ed;have k0:=hx_.k0;have k1:=hx_.k1;have k2:=hx_.k2;have k3:=hx_.k3;have k4:=hx_.k4;have k5:=hx_.k5;have k6:=hx_.k6;clear hx_))|(go_at_call 35;go_loud (refine(CG.out _ ?hB _ HG.out).mono ?_;(case hB=>exact mvB BW.out);rintro e w' ⟨rfl,hb⟩;have BW1:=Za.mk (Zae (mvB BW.out) hb);clear BW hb;have BW:=BW1;clear BW1;have hx_:=HC.out.below BW.out;have ed:=hx_.ed;have k0:=hx_.k0;have k1:=hx_.k1;have k2:=hx_.k2;have k3:=hx_.k3;have k4:=hx_.k4;have k5:=hx_.k5;have k6:=hx_.k6;clear hx_)))
          refine(CB.out _ ?hB).mono ?_;case hB=>exact mvB BW.out
          rintro e w' ⟨rfl,nd2,rfl⟩
          go_wp2_with (first|(go_at_call 34;go_loud (refine(CR.out _ ?hB _ HR.out).mono ?_;(case hB=>exact mvB BW.out);rintro e w' ⟨rfl,hb⟩;have BW1:=Za.mk (Zae (mvB BW.out) hb);clear BW hb;have BW:=BW1;clear BW1;have hx_:=HC.out.below BW.out;have ed:=hx_.ed;have k0:=hx_.k0;have k1:=hx_.k1;have k2:=hx_.k2;have k3:=hx_.k3;have k4:=hx_.k4;have k5:=hx_.k5;have k6:=hx_.k6;clear hx_))|(go_at_call 35;go_loud (refine(CG.out _ ?hB _ HG.out).mono ?_;(case hB=>exact mvB BW.out);rintro e w' ⟨rfl,hb⟩;have BW1:=Za.mk (Zae (mvB BW.out) hb);clear BW hb;have BW:=BW1;clear BW1;have hx_:=HC.out.below BW.out;have ed:=hx_.ed;have k0:=hx_.k0;have k1:=hx_.k1;have k2:=hx_.k2;have k3:=hx_.k3;have k4:=hx_.k4;have k5:=hx_.k5;have k6:=hx_.k6;clear hx_)))
          go_ret;exact⟨by first|rfl|(simp[*];done)|(simp[*];rfl),Zae HWB.out (mvB BW.out)⟩
end Go.Proofs.YtkgjaklnbgdmiaaGreat.P
namespace Go.Proofs.YtkgjaklnbgdmiaaGreat.P
open Go.RowKit Go.Proofs.YtkgjaklnbgdmiaaGreatW.PrintWords Go.Proofs.YtkgjaklnbgdmiaaGreatW.PrintLast Go.Proofs.YtkgjaklnbgdmiaaGreatW.PrintMore
attribute [local go_sem] Zci Zck Zc3 Zc4 Zcb Zcc Zcj Zcl
def Zdh.l0 : Nat → Int → List (S59) → Int → Int → Option (Int)
 | 0, _, _, _, _ => none
 |k+1,x3,x6,x7,x8=>if x8<x7 then(if 0≤x8 then(if x8<(x6.length:Int)then(Zdh.l0 k (wrap64 (x3+(wrap64 ((wrap64 (((Zba x6 x8).f1) - ((Zba x6 x8).f0)))+1)))) x6 x7 (wrap64 (x8+1)))else(none))else(none))else(some x3)
def Zdh.f (k:Nat) (l0:List (S59)):Option (Int):=Zdh.l0 k 0 l0 (l0.length:Int) 0
set_option maxRecDepth 100000 in
theorem Zdh.calls (k : Nat) (A0 : Option Addr) (c0 : Nat) (l0 : List (S59)) (r : Int) (w : World) (hr0 : Kd.C k59 w A0 l0.length l0) (hc0 : l0.length ≤ c0) (h : Zdh.f k l0 = some r) :
  Calls Tryz.prog 30 #[.slice A0 l0.length c0] w fun e w'=>e= .returned (.int .i64 r)∧Below w.heap.size w w':=by
 have hu59:=Tryz.underlying59;have HR0:=Za.mk hr0;have HC0:=Za.mk hc0;clear hr0 hc0;have HB:=Za.mk (Below.refl w.heap.size w);have H:(Zdh.l0 k 0 l0 (l0.length:Int) 0)=some r:=h;clear h;have H':=Za.mk H;clear H;go_enter Tryz.func30,Tryz.ntmps30;go_wp2
 go_loopg [3,8] k (fun kq v3 v8 w'=>∃(ah:Int) (jK:Int),v3= .int .i64 ah∧v8= .int .i64 jK∧Za (Zdh.l0 kq ah l0 (l0.length:Int) jK=some r)∧Za (kq≤k)∧Za (Below w.heap.size w w'))
 case atStart=>exact⟨(0),(0),eS,eS,H',⟨Nat.le_refl _⟩,⟨bM HB.out⟩⟩
 case round=>
  clear H';obtain⟨ah,jK,rfl,rfl,HA,HK1,HB⟩:=hrel
  cases gk with
  | zero => exact absurd HA.out (by simp [Zdh.l0])
  |succ k1=>
   have H:=HA.out;clear HA;simp only[Zdh.l0]at H;by_cases c2:jK<(l0.length:Int)
   case neg=>
    rw[if_neg c2]at H;have mh:decide (jK<(l0.length:Int))=false:=decide_eq_false c2;clear c2;obtain rfl:=sj H;go_wp2;go_ret;exact⟨eR,bM HB.out⟩
   rw[if_pos c2]at H;have mh:decide (jK<(l0.length:Int))=true:=decide_eq_true c2;clear c2;obtain⟨gL,H⟩:=ifT H;obtain⟨dV,H⟩:=ifT H;have H':=Za.mk H;clear H;have t9a:(0≤(jK:Int))=True:=teq;have tEa:(jK<(l0.length:Int))=True:=teq;obtain⟨lda,rfl,OW,OX⟩:=Zd0 HR0.out jK odt odt;replace OW:=hB HB.out OW;replace OX:=hB HB.out OX
   go_wp2_with (first|((with_reducible refine Zap (N:=5) rfl ?_);refine bx 5 #[.int .i64 0,.int .i64 0] 59 ?_;intro dAa hg w5 hbox hb;have bIa:=Za.mk (hbox);have kDa:=Za.mk ((gE hg HB.out:w.heap.size≤dAa));replace HB:=Za.mk (bS HB.out hb);clear hb hbox hg;obtain⟨nH,nI,nE,nG⟩:=cz2 bIa.out))
   go_roundg k1
   case measure=>have:=HK1.out;omega
   case rel=>exact⟨(wrap64 (ah+(wrap64 ((wrap64 (((Zba l0 jK).f1) - ((Zba l0 jK).f0)))+1)))),(wrap64 (jK+1)),eS,eS,H',⟨by have:=HK1.out;omega⟩,⟨bM HB.out⟩⟩
def Zcv.f (a0:Int):Option (Bool):=if a0≥(-1048576)then(some (decide (a0≤1048576)))else(some false)
set_option maxRecDepth 100000 in
theorem Zcv.calls (a0 : Int) (r : Bool) (w : World) (h : Zcv.f a0 = some r) :
  Calls Tryz.prog 51 #[.int .i64 a0] w fun e w'=>e= .returned (.bool r)∧Za1 w w':=by
 have H:(if a0≥(-1048576)then(some (decide (a0≤1048576)))else(some false))=some r:=h;clear h;by_cases c2:a0≥(-1048576)
 case pos=>
  rw[if_pos c2]at H;have mh:decide ((-1048576)≤a0)=true:=decide_eq_true c2;clear c2;obtain rfl:=sj H;go_enter Tryz.func51,Tryz.ntmps51;go_wp2;go_ret;exact⟨eS,by repeat(first|exact Za1.refl _|apply Za1.step)⟩
 rw[if_neg c2]at H;have mh:decide ((-1048576)≤a0)=false:=decide_eq_false c2;clear c2;obtain rfl:=sj H;go_enter Tryz.func51,Tryz.ntmps51;go_wp2;go_ret;exact⟨eS,by repeat(first|exact Za1.refl _|apply Za1.step)⟩
end Go.Proofs.YtkgjaklnbgdmiaaGreat.P
/- secateur/dom.right: over a list of ranges. -/
namespace Go.Proofs.YtkgjaklnbgdmiaaGreat.P
open Go.RowKit Go.Proofs.YtkgjaklnbgdmiaaGreatW.PrintWords Go.Proofs.YtkgjaklnbgdmiaaGreatW.PrintLast Go.Proofs.YtkgjaklnbgdmiaaGreatW.PrintMore
def Zcf.l0 : Nat → List (S59) → List (S59) → Int → Int → Option (Bool)
 | 0, _, _, _, _ => none
 |k+1,x0,x5,x6,x7=>if x7<x6 then(if 0≤x7 then(if x7<(x5.length:Int)then((Zcv.f ((Zba x5 x7).f0)).bind fun ta=>(if ta=true then((Zcv.f ((Zba x5 x7).f1)).bind fun tb=>(if tb=true then(if((Zba x5 x7).f0)>((Zba x5 x7).f1)then(some false)else(if x7>0 then(if 0≤(wrap64 (x7 - 1))then(if(wrap64 (x7 - 1))<(x0.length:Int)then(if((Zba x5 x7).f0)<(wrap64 (((Zba x0 (wrap64 (x7 - 1))).f1)+2))then(some false)else(Zcf.l0 k x0 x5 x6 (wrap64 (x7+1))))else(none))else(none))else(Zcf.l0 k x0 x5 x6 (wrap64 (x7+1)))))else(some false)))else(some false)))else(none))else(none))else(some true)
def Zcf.f (k:Nat) (l0:List (S59)):Option (Bool):=Zcf.l0 k l0 l0 (l0.length:Int) 0
set_option maxRecDepth 100000 in
theorem Zcf.calls (k : Nat) (A0 : Option Addr) (c0 : Nat) (l0 : List (S59)) (r : Bool) (w : World) (hr0 : Kd.C k59 w A0 l0.length l0) (hc0 : l0.length ≤ c0) (h : Zcf.f k l0 = some r) :
  Calls Tryz.prog 29 #[.slice A0 l0.length c0] w fun e w'=>e= .returned (.bool r)∧Below w.heap.size w w':=by
 have hu:=Tryz.underlying59;have HR0:=Za.mk hr0;clear hr0 hc0;have HB:=Za.mk (Below.refl w.heap.size w);have H':=Za.mk (show Zcf.l0 k l0 l0 (l0.length:Int) 0=some r from h);clear h;go_enter Tryz.func29,Tryz.ntmps29;go_wp2
 go_loopg [7] k (fun kq v7 w'=>∃(x:Int),v7= .int .i64 x∧Za (Zcf.l0 kq l0 l0 (l0.length:Int) x=some r)∧Za (kq≤k)∧Za (Below w.heap.size w w'))
 case atStart=>exact⟨0,rfl,H',⟨Nat.le_refl _⟩,⟨mvB HB.out⟩⟩
 case round=>
  clear H' HB;obtain⟨x,rfl,HA,HK1,HB⟩:=hrel
  cases gk with
  | zero => exact absurd HA.out (by simp [Zcf.l0])
  |succ k1=>
   have H:=HA.out;clear HA;simp only[Zcf.l0]at H;by_cases c2:x<(l0.length:Int);rotate_left
   ·rw [if_neg c2] at H
    have p1_:decide (x<(l0.length:Int))=false:=decide_eq_false c2;clear c2;obtain rfl:=Option.some.inj H;clear H;go_wp2;go_ret;exact⟨rfl,mvB HB.out⟩
   rw[if_pos c2]at H;have p1_:decide (x<(l0.length:Int))=true:=decide_eq_true c2;by_cases c3:0≤x;rotate_left
   ·rw [if_neg c3] at H
    exact absurd H (by simp)
   rw[if_pos c3]at H;rw[if_pos c2]at H;have p2_:decide (0≤x)=true:=decide_eq_true c3;obtain⟨ad,e_,hx0,hx1⟩:=Zd0 (Kd.Zaf HR0.out HB.out) x c3 c2;cases e_;replace c2:=eq_true c2;replace c3:=eq_true c3
   generalize (Zba l0 x).f0=a at hx0 H
   generalize (Zba l0 x).f1=b at hx1 H
   obtain⟨va,hva,H2_⟩:=Option.bind_eq_some_iff.1 H;clear H;have H:=H2_;clear H2_;have HVa:=Za.mk hva;clear hva
   cases va with
   |false=>
    rw[if_neg Bool.false_ne_true]at H;obtain rfl:=Option.some.inj H;clear H
    go_wp2_with (first|((with_reducible refine Zap (N:=4) rfl ?_);refine Zb8 ?hg (N:=4) ?hd (cs:=#[.int .i64 0,.int .i64 0]) (t:=59) ?hr ?_;(case hd=>rfl);(case hg=>rfl);(case hr=>first|(go_simp;done)|(go_simp;rfl));intro g4 hg4 w9 hbox hb;have BX:=Za.mk hbox;have ow:w9.cell? ⟨g4,0,none⟩=some (.int .i64 0):=(Zah hbox 0).trans rfl;have oz:w9.cell? ⟨g4,1,none⟩=some (.int .i64 0):=(Zah hbox 1).trans rfl;have o5:=Zam hbox 0;have o6:=Zam hbox 1;have BV:=Za.mk (Zae (mvB (Below.refl wr.heap.size wr)) hb);have HG4:Za (wr.heap.size≤g4):=⟨by rw[hg4];exact(mvB (Below.refl wr.heap.size wr)).size⟩;clear hbox hb hg4))
    have BXq:=Za.mk (Zas (cs':=#[.int .i64 a,.int .i64 b]) (Zas (cs':=#[.int .i64 a,.int .i64 0]) BX.out 0 (.int .i64 a) rfl) 1 (.int .i64 b) rfl);have BVq:=Za.mk (show Below wr.heap.size wr ((w9.setCell ⟨g4,0,none⟩ (.int .i64 a)).setCell ⟨g4,1,none⟩ (.int .i64 b))from Zax (Zax BV.out HG4.out) HG4.out);clear ow oz o5 o6
    generalize ((w9.setCell ⟨g4,0,none⟩ (.int .i64 a)).setCell ⟨g4,1,none⟩ (.int .i64 b))=wq at BXq BVq ⊢
    have hq0:wq.cell? ⟨g4,0,none⟩=some (.int .i64 a):=(Zah BXq.out 0).trans rfl;have hq1:wq.cell? ⟨g4,1,none⟩=some (.int .i64 b):=(Zah BXq.out 1).trans rfl;clear hx0 hx1;have HCa:Za (∀n,Calls Tryz.prog 51 #[.int .i64 a] (wq.drewN n) fun e w''=>e= .returned (.bool false)∧∃m,w''=wq.drewN m):=⟨fun n=>Calls.quiet_of ((Zcv.calls a _ _ HVa.out).mono fun e w' h_=>⟨h_.1,h_.2.out⟩)⟩
    go_quiet (with_reducible exact HCa.out _)
    go_wp2;go_ret;exact⟨rfl,mvB (Zae HB.out BVq.out)⟩
   |true=>
    rw[if_pos rfl]at H;obtain⟨vb,hvb,H2_⟩:=Option.bind_eq_some_iff.1 H;clear H;have H:=H2_;clear H2_;have HVb:=Za.mk hvb;clear hvb
    cases vb with
    |false=>
     rw[if_neg Bool.false_ne_true]at H;obtain rfl:=Option.some.inj H;clear H
     go_wp2_with (first|((with_reducible refine Zap (N:=4) rfl ?_);refine Zb8 ?hg (N:=4) ?hd (cs:=#[.int .i64 0,.int .i64 0]) (t:=59) ?hr ?_;(case hd=>rfl);(case hg=>rfl);(case hr=>first|(go_simp;done)|(go_simp;rfl));intro g4 hg4 w9 hbox hb;have BX:=Za.mk hbox;have ow:w9.cell? ⟨g4,0,none⟩=some (.int .i64 0):=(Zah hbox 0).trans rfl;have oz:w9.cell? ⟨g4,1,none⟩=some (.int .i64 0):=(Zah hbox 1).trans rfl;have o5:=Zam hbox 0;have o6:=Zam hbox 1;have BV:=Za.mk (Zae (mvB (Below.refl wr.heap.size wr)) hb);have HG4:Za (wr.heap.size≤g4):=⟨by rw[hg4];exact(mvB (Below.refl wr.heap.size wr)).size⟩;clear hbox hb hg4))
     have BXq:=Za.mk (Zas (cs':=#[.int .i64 a,.int .i64 b]) (Zas (cs':=#[.int .i64 a,.int .i64 0]) BX.out 0 (.int .i64 a) rfl) 1 (.int .i64 b) rfl);have BVq:=Za.mk (show Below wr.heap.size wr ((w9.setCell ⟨g4,0,none⟩ (.int .i64 a)).setCell ⟨g4,1,none⟩ (.int .i64 b))from Zax (Zax BV.out HG4.out) HG4.out);clear ow oz o5 o6
     generalize ((w9.setCell ⟨g4,0,none⟩ (.int .i64 a)).setCell ⟨g4,1,none⟩ (.int .i64 b))=wq at BXq BVq ⊢
     have hq0:wq.cell? ⟨g4,0,none⟩=some (.int .i64 a):=(Zah BXq.out 0).trans rfl;have hq1:wq.cell? ⟨g4,1,none⟩=some (.int .i64 b):=(Zah BXq.out 1).trans rfl;clear hx0 hx1;have HCa:Za (∀n,Calls Tryz.prog 51 #[.int .i64 a] (wq.drewN n) fun e w''=>e= .returned (.bool true)∧∃m,w''=wq.drewN m):=⟨fun n=>Calls.quiet_of ((Zcv.calls a _ _ HVa.out).mono fun e w' h_=>⟨h_.1,h_.2.out⟩)⟩;have HCb:Za (∀n,Calls Tryz.prog 51 #[.int .i64 b] (wq.drewN n) fun e w''=>e= .returned (.bool false)∧∃m,w''=wq.drewN m):=⟨fun n=>Calls.quiet_of ((Zcv.calls b _ _ HVb.out).mono fun e w' h_=>⟨h_.1,h_.2.out⟩)⟩
     go_quiet (first|with_reducible exact HCa.out _|with_reducible exact HCb.out _)
     go_wp2;go_ret;exact⟨rfl,mvB (Zae HB.out BVq.out)⟩
    |true=>
     rw[if_pos rfl]at H;by_cases c9:a>b
     ·rw [if_pos c9] at H
      have d9_:decide (b<a)=true:=decide_eq_true c9;clear c9;obtain rfl:=Option.some.inj H;clear H
      go_wp2_with (first|((with_reducible refine Zap (N:=4) rfl ?_);refine Zb8 ?hg (N:=4) ?hd (cs:=#[.int .i64 0,.int .i64 0]) (t:=59) ?hr ?_;(case hd=>rfl);(case hg=>rfl);(case hr=>first|(go_simp;done)|(go_simp;rfl));intro g4 hg4 w9 hbox hb;have BX:=Za.mk hbox;have ow:w9.cell? ⟨g4,0,none⟩=some (.int .i64 0):=(Zah hbox 0).trans rfl;have oz:w9.cell? ⟨g4,1,none⟩=some (.int .i64 0):=(Zah hbox 1).trans rfl;have o5:=Zam hbox 0;have o6:=Zam hbox 1;have BV:=Za.mk (Zae (mvB (Below.refl wr.heap.size wr)) hb);have HG4:Za (wr.heap.size≤g4):=⟨by rw[hg4];exact(mvB (Below.refl wr.heap.size wr)).size⟩;clear hbox hb hg4))
      have BXq:=Za.mk (Zas (cs':=#[.int .i64 a,.int .i64 b]) (Zas (cs':=#[.int .i64 a,.int .i64 0]) BX.out 0 (.int .i64 a) rfl) 1 (.int .i64 b) rfl);have BVq:=Za.mk (show Below wr.heap.size wr ((w9.setCell ⟨g4,0,none⟩ (.int .i64 a)).setCell ⟨g4,1,none⟩ (.int .i64 b))from Zax (Zax BV.out HG4.out) HG4.out);clear ow oz o5 o6
      generalize ((w9.setCell ⟨g4,0,none⟩ (.int .i64 a)).setCell ⟨g4,1,none⟩ (.int .i64 b))=wq at BXq BVq ⊢
      have hq0:wq.cell? ⟨g4,0,none⟩=some (.int .i64 a):=(Zah BXq.out 0).trans rfl;have hq1:wq.cell? ⟨g4,1,none⟩=some (.int .i64 b):=(Zah BXq.out 1).trans rfl;clear hx0 hx1;have HCa:Za (∀n,Calls Tryz.prog 51 #[.int .i64 a] (wq.drewN n) fun e w''=>e= .returned (.bool true)∧∃m,w''=wq.drewN m):=⟨fun n=>Calls.quiet_of ((Zcv.calls a _ _ HVa.out).mono fun e w' h_=>⟨h_.1,h_.2.out⟩)⟩;have HCb:Za (∀n,Calls Tryz.prog 51 #[.int .i64 b] (wq.drewN n) fun e w''=>e= .returned (.bool true)∧∃m,w''=wq.drewN m):=⟨fun n=>Calls.quiet_of ((Zcv.calls b _ _ HVb.out).mono fun e w' h_=>⟨h_.1,h_.2.out⟩)⟩
      go_quiet (first|with_reducible exact HCa.out _|with_reducible exact HCb.out _)
      go_wp2;go_ret;exact⟨rfl,mvB (Zae HB.out BVq.out)⟩
     rw[if_neg c9]at H;have d9_:decide (b<a)=false:=decide_eq_false c9;clear c9;by_cases c10:x>0;rotate_left
     ·rw [if_neg c10] at H
      have d10_:decide (0<x)=false:=decide_eq_false c10;clear c10;have H':=Za.mk H;clear H
      go_wp2_with (first|((with_reducible refine Zap (N:=4) rfl ?_);refine Zb8 ?hg (N:=4) ?hd (cs:=#[.int .i64 0,.int .i64 0]) (t:=59) ?hr ?_;(case hd=>rfl);(case hg=>rfl);(case hr=>first|(go_simp;done)|(go_simp;rfl));intro g4 hg4 w9 hbox hb;have BX:=Za.mk hbox;have ow:w9.cell? ⟨g4,0,none⟩=some (.int .i64 0):=(Zah hbox 0).trans rfl;have oz:w9.cell? ⟨g4,1,none⟩=some (.int .i64 0):=(Zah hbox 1).trans rfl;have o5:=Zam hbox 0;have o6:=Zam hbox 1;have BV:=Za.mk (Zae (mvB (Below.refl wr.heap.size wr)) hb);have HG4:Za (wr.heap.size≤g4):=⟨by rw[hg4];exact(mvB (Below.refl wr.heap.size wr)).size⟩;clear hbox hb hg4))
      have BXq:=Za.mk (Zas (cs':=#[.int .i64 a,.int .i64 b]) (Zas (cs':=#[.int .i64 a,.int .i64 0]) BX.out 0 (.int .i64 a) rfl) 1 (.int .i64 b) rfl);have BVq:=Za.mk (show Below wr.heap.size wr ((w9.setCell ⟨g4,0,none⟩ (.int .i64 a)).setCell ⟨g4,1,none⟩ (.int .i64 b))from Zax (Zax BV.out HG4.out) HG4.out);clear ow oz o5 o6
      generalize ((w9.setCell ⟨g4,0,none⟩ (.int .i64 a)).setCell ⟨g4,1,none⟩ (.int .i64 b))=wq at BXq BVq ⊢
      have hq0:wq.cell? ⟨g4,0,none⟩=some (.int .i64 a):=(Zah BXq.out 0).trans rfl;have hq1:wq.cell? ⟨g4,1,none⟩=some (.int .i64 b):=(Zah BXq.out 1).trans rfl;clear hx0 hx1;have HCa:Za (∀n,Calls Tryz.prog 51 #[.int .i64 a] (wq.drewN n) fun e w''=>e= .returned (.bool true)∧∃m,w''=wq.drewN m):=⟨fun n=>Calls.quiet_of ((Zcv.calls a _ _ HVa.out).mono fun e w' h_=>⟨h_.1,h_.2.out⟩)⟩;have HCb:Za (∀n,Calls Tryz.prog 51 #[.int .i64 b] (wq.drewN n) fun e w''=>e= .returned (.bool true)∧∃m,w''=wq.drewN m):=⟨fun n=>Calls.quiet_of ((Zcv.calls b _ _ HVb.out).mono fun e w' h_=>⟨h_.1,h_.2.out⟩)⟩
      go_quiet (first|with_reducible exact HCa.out _|with_reducible exact HCb.out _)
      go_wp2
      go_roundg k1
      case measure=>exact Nat.lt_succ_self _
      case rel=>exact⟨_,(by first|rfl|(simp;done)|(simp[*];done)),H',⟨by have:=HK1.out;omega⟩,⟨mvB (Zae HB.out BVq.out)⟩⟩
     rw[if_pos c10]at H;have d10_:decide (0<x)=true:=decide_eq_true c10;clear c10;obtain⟨j,hj⟩:∃j_:Int,wrap64 (x - 1)=j_:=⟨_,rfl⟩;rw[hj]at H;have hjw:IntKind.i64.wrap (x - 1)=j:=(Zdk _).trans hj;clear hj;by_cases c11:0≤j;case neg=>rw[if_neg c11]at H;exact absurd H (by simp)
     rw[if_pos c11]at H;by_cases c12:j<(l0.length:Int);case neg=>rw[if_neg c12]at H;exact absurd H (by simp)
     rw[if_pos c12]at H;obtain⟨ad2,e2_,hy0,hy1⟩:=Zd0 (Kd.Zaf HR0.out HB.out) j c11 c12;obtain rfl:ad=ad2:=(by injection e2_);clear e2_;have d11_:decide (0≤j)=true:=decide_eq_true c11;have d12_:decide (j<(l0.length:Int))=true:=decide_eq_true c12;replace c11:=eq_true c11;replace c12:=eq_true c12
     generalize (Zba l0 j).f1=q at hy1 H
     obtain⟨g,hg⟩:∃g_:Int,wrap64 (q+2)=g_:=⟨_,rfl⟩;rw[hg]at H;have hgw:IntKind.i64.wrap (q+2)=g:=(Zdk _).trans hg;clear hg;by_cases c13:a<g
     ·rw [if_pos c13] at H
      have d13_:decide (a<g)=true:=decide_eq_true c13;clear c13;obtain rfl:=Option.some.inj H;clear H
      go_wp2_with (first|((with_reducible refine Zap (N:=4) rfl ?_);refine Zb8 ?hg (N:=4) ?hd (cs:=#[.int .i64 0,.int .i64 0]) (t:=59) ?hr ?_;(case hd=>rfl);(case hg=>rfl);(case hr=>first|(go_simp;done)|(go_simp;rfl));intro g4 hg4 w9 hbox hb;have BX:=Za.mk hbox;have ow:w9.cell? ⟨g4,0,none⟩=some (.int .i64 0):=(Zah hbox 0).trans rfl;have oz:w9.cell? ⟨g4,1,none⟩=some (.int .i64 0):=(Zah hbox 1).trans rfl;have o5:=Zam hbox 0;have o6:=Zam hbox 1;have BV:=Za.mk (Zae (mvB (Below.refl wr.heap.size wr)) hb);have HG4:Za (wr.heap.size≤g4):=⟨by rw[hg4];exact(mvB (Below.refl wr.heap.size wr)).size⟩;clear hbox hb hg4))
      have BXq:=Za.mk (Zas (cs':=#[.int .i64 a,.int .i64 b]) (Zas (cs':=#[.int .i64 a,.int .i64 0]) BX.out 0 (.int .i64 a) rfl) 1 (.int .i64 b) rfl);have BVq:=Za.mk (show Below wr.heap.size wr ((w9.setCell ⟨g4,0,none⟩ (.int .i64 a)).setCell ⟨g4,1,none⟩ (.int .i64 b))from Zax (Zax BV.out HG4.out) HG4.out);clear ow oz o5 o6
      generalize ((w9.setCell ⟨g4,0,none⟩ (.int .i64 a)).setCell ⟨g4,1,none⟩ (.int .i64 b))=wq at BXq BVq ⊢
      have hq0:wq.cell? ⟨g4,0,none⟩=some (.int .i64 a):=(Zah BXq.out 0).trans rfl;have hq1:wq.cell? ⟨g4,1,none⟩=some (.int .i64 b):=(Zah BXq.out 1).trans rfl;have hq2:=(BVq.out.cell (World.block_lt_of_cell? wr _ hy1)).trans hy1;clear hy0 hy1 hx0 hx1;have HCa:Za (∀n,Calls Tryz.prog 51 #[.int .i64 a] (wq.drewN n) fun e w''=>e= .returned (.bool true)∧∃m,w''=wq.drewN m):=⟨fun n=>Calls.quiet_of ((Zcv.calls a _ _ HVa.out).mono fun e w' h_=>⟨h_.1,h_.2.out⟩)⟩;have HCb:Za (∀n,Calls Tryz.prog 51 #[.int .i64 b] (wq.drewN n) fun e w''=>e= .returned (.bool true)∧∃m,w''=wq.drewN m):=⟨fun n=>Calls.quiet_of ((Zcv.calls b _ _ HVb.out).mono fun e w' h_=>⟨h_.1,h_.2.out⟩)⟩
      go_quiet (first|with_reducible exact HCa.out _|with_reducible exact HCb.out _)
      go_wp2;go_ret;exact⟨rfl,mvB (Zae HB.out BVq.out)⟩
     rw[if_neg c13]at H;have d13_:decide (a<g)=false:=decide_eq_false c13;clear c13;have H':=Za.mk H;clear H
     go_wp2_with (first|((with_reducible refine Zap (N:=4) rfl ?_);refine Zb8 ?hg (N:=4) ?hd (cs:=#[.int .i64 0,.int .i64 0]) (t:=59) ?hr ?_;(case hd=>rfl);(case hg=>rfl);(case hr=>first|(go_simp;done)|(go_simp;rfl));intro g4 hg4 w9 hbox hb;have BX:=Za.mk hbox;have ow:w9.cell? ⟨g4,0,none⟩=some (.int .i64 0):=(Zah hbox 0).trans rfl;have oz:w9.cell? ⟨g4,1,none⟩=some (.int .i64 0):=(Zah hbox 1).trans rfl;have o5:=Zam hbox 0;have o6:=Zam hbox 1;have BV:=Za.mk (Zae (mvB (Below.refl wr.heap.size wr)) hb);have HG4:Za (wr.heap.size≤g4):=⟨by rw[hg4];exact(mvB (Below.refl wr.heap.size wr)).size⟩;clear hbox hb hg4))
     have BXq:=Za.mk (Zas (cs':=#[.int .i64 a,.int .i64 b]) (Zas (cs':=#[.int .i64 a,.int .i64 0]) BX.out 0 (.int .i64 a) rfl) 1 (.int .i64 b) rfl);have BVq:=Za.mk (show Below wr.heap.size wr ((w9.setCell ⟨g4,0,none⟩ (.int .i64 a)).setCell ⟨g4,1,none⟩ (.int .i64 b))from Zax (Zax BV.out HG4.out) HG4.out);clear ow oz o5 o6
     generalize ((w9.setCell ⟨g4,0,none⟩ (.int .i64 a)).setCell ⟨g4,1,none⟩ (.int .i64 b))=wq at BXq BVq ⊢
     have hq0:wq.cell? ⟨g4,0,none⟩=some (.int .i64 a):=(Zah BXq.out 0).trans rfl;have hq1:wq.cell? ⟨g4,1,none⟩=some (.int .i64 b):=(Zah BXq.out 1).trans rfl;have hq2:=(BVq.out.cell (World.block_lt_of_cell? wr _ hy1)).trans hy1;clear hy0 hy1 hx0 hx1;have HCa:Za (∀n,Calls Tryz.prog 51 #[.int .i64 a] (wq.drewN n) fun e w''=>e= .returned (.bool true)∧∃m,w''=wq.drewN m):=⟨fun n=>Calls.quiet_of ((Zcv.calls a _ _ HVa.out).mono fun e w' h_=>⟨h_.1,h_.2.out⟩)⟩;have HCb:Za (∀n,Calls Tryz.prog 51 #[.int .i64 b] (wq.drewN n) fun e w''=>e= .returned (.bool true)∧∃m,w''=wq.drewN m):=⟨fun n=>Calls.quiet_of ((Zcv.calls b _ _ HVb.out).mono fun e w' h_=>⟨h_.1,h_.2.out⟩)⟩
     go_quiet (first|with_reducible exact HCa.out _|with_reducible exact HCb.out _)
     go_wp2
     go_roundg k1
     case measure=>exact Nat.lt_succ_self _
     case rel=>exact⟨_,(by first|rfl|(simp;done)|(simp[*];done)),H',⟨by have:=HK1.out;omega⟩,⟨mvB (Zae HB.out BVq.out)⟩⟩
end Go.Proofs.YtkgjaklnbgdmiaaGreat.P
namespace Go.Proofs.YtkgjaklnbgdmiaaGreat.P
open Go.RowKit Go.Proofs.YtkgjaklnbgdmiaaGreatW.PrintWords Go.Proofs.YtkgjaklnbgdmiaaGreatW.PrintLast Go.Proofs.YtkgjaklnbgdmiaaGreatW.PrintMore
attribute [local go_sem] Zci Zck Zc3 Zc4 Zcb Zcc Zcj Zcl
def Zer.f (k:Nat) (l0:List (S59)):Option (Int):=(Zcf.f k l0).bind fun MX=>(if MX=true then((Zdh.f k l0).bind fun t232=>(if t232>4096 then(some 2)else(some 0)))else(some 20))
set_option maxRecDepth 100000 in
theorem Zer.calls (k : Nat) (A0 : Option Addr) (c0 : Nat) (l0 : List (S59)) (r : Int) (w : World) (hr0 : Kd.C k59 w A0 l0.length l0) (hc0 : l0.length ≤ c0) (h : Zer.f k l0 = some r) :
  Calls Tryz.prog 12 #[.slice A0 l0.length c0] w fun e w'=>e= .returned (.int .i64 r)∧Below w.heap.size w w':=by
 have HR0:=Za.mk hr0;have HC0:=Za.mk hc0;clear hr0 hc0;have HB:=Za.mk (Below.refl w.heap.size w);have H:((Zcf.f k l0).bind fun MX=>(if MX=true then((Zdh.f k l0).bind fun t232=>(if t232>4096 then(some 2)else(some 0)))else(some 20)))=some r:=h;clear h;obtain⟨MX,A2,H⟩:=bnd H;try dsimp only at H
 by_cases c3:MX=true
 case neg=>
  replace c3:=Bool.eq_false_iff.mpr c3;subst c3;replace H:=ifF H;obtain rfl:=sj H;go_enter Tryz.func12,Tryz.ntmps12
  go_wp2_with (first|((with_reducible refine Zat (f:=29) rfl ?_);refine gl 5 Tryz.func29 #[.slice A0 l0.length c0] ?_;(with_reducible refine(Zcf.calls k _ _ l0 false _ (cM HR0.out) HC0.out A2.out).mono ?_);rintro e w10 ⟨rfl,hb⟩;refine⟨_,rfl,?_⟩;replace HB:=Za.mk (bS HB.out hb);(try clear hb);(try clear hb2);(try clear hk);(try clear hi)))
  go_ret;exact⟨eR,bM HB.out⟩
 subst c3;rw[if_pos rfl]at H;obtain⟨t232,A4,H⟩:=bnd H;try dsimp only at H
 by_cases c5:t232>4096
 case neg=>
  rw[if_neg c5]at H;have dS:decide (4096<t232)=false:=decide_eq_false c5;clear c5;obtain rfl:=sj H;go_enter Tryz.func12,Tryz.ntmps12
  go_wp2_with (first|((with_reducible refine Zat (f:=29) rfl ?_);refine gl 5 Tryz.func29 #[.slice A0 l0.length c0] ?_;(with_reducible refine(Zcf.calls k _ _ l0 true _ (cM HR0.out) HC0.out A2.out).mono ?_);rintro e w8 ⟨rfl,hb⟩;refine⟨_,rfl,?_⟩;replace HB:=Za.mk (bS HB.out hb);(try clear hb);(try clear hb2);(try clear hk);(try clear hi))|((with_reducible refine Zat (f:=30) rfl ?_);refine gl 9 Tryz.func30 #[.slice A0 l0.length c0] ?_;(with_reducible refine(Zdh.calls k _ _ l0 t232 _ (cM (Kd.Zaf HR0.out HB.out)) HC0.out A4.out).mono ?_);rintro e w9 ⟨rfl,hb⟩;refine⟨_,rfl,?_⟩;replace HB:=Za.mk (bS HB.out hb);(try clear hb);(try clear hb2);(try clear hk);(try clear hi)))
  go_ret;exact⟨eR,bM HB.out⟩
 rw[if_pos c5]at H;have dS:decide (4096<t232)=true:=decide_eq_true c5;clear c5;obtain rfl:=sj H;go_enter Tryz.func12,Tryz.ntmps12
 go_wp2_with (first|((with_reducible refine Zat (f:=29) rfl ?_);refine gl 5 Tryz.func29 #[.slice A0 l0.length c0] ?_;(with_reducible refine(Zcf.calls k _ _ l0 true _ (cM HR0.out) HC0.out A2.out).mono ?_);rintro e w6 ⟨rfl,hb⟩;refine⟨_,rfl,?_⟩;replace HB:=Za.mk (bS HB.out hb);(try clear hb);(try clear hb2);(try clear hk);(try clear hi))|((with_reducible refine Zat (f:=30) rfl ?_);refine gl 9 Tryz.func30 #[.slice A0 l0.length c0] ?_;(with_reducible refine(Zdh.calls k _ _ l0 t232 _ (cM (Kd.Zaf HR0.out HB.out)) HC0.out A4.out).mono ?_);rintro e w7 ⟨rfl,hb⟩;refine⟨_,rfl,?_⟩;replace HB:=Za.mk (bS HB.out hb);(try clear hb);(try clear hb2);(try clear hk);(try clear hi)))
 go_ret;exact⟨eR,bM HB.out⟩
def Zei.f (k:Nat) (l0:List (List (S59))) (aN:Int) (ay:List Int) (aX:List Int):Option (Int):=if aN=0 then(if(ay.length:Int)>0 then(some 44)else(if(aX.length:Int)>0 then(some 44)else(some 0)))else(if aN=1 then((Zdl.f k l0 0 ay aX 0 0 ([]:List (List Int)) 0).bind fun Nh=>(some Nh))else(if aN=2 then((Zdl.f k l0 0 ay aX 0 0 ([]:List (List Int)) 0).bind fun Nl=>(some Nl))else(some 44)))
set_option maxRecDepth 100000 in
theorem Zei.calls (k : Nat) (A0 : Option Addr) (c0 : Nat) (l0 : List (List (S59))) (aN : Int) (eF : Option Addr) (dU : Nat) (ay : List Int) (fG : Option Addr) (fH : Nat) (aX : List Int) (r : Int) (w : World) (hr0 : Kd.C (Kd.slice 59 k59) w A0 l0.length l0) (hc0 : l0.length ≤ c0) (lD : Kd.C (Kd.int .i64) w eF ay.length ay) (l9 : ay.length ≤ dU) (mO : Kd.C (Kd.int .i64) w fG aX.length aX) (mM : aX.length ≤ fH) (h : Zei.f k l0 aN ay aX = some r) :
  Calls Tryz.prog 15 #[.slice A0 l0.length c0,.agg #[.int .i64 aN,.slice eF ay.length dU,.slice fG aX.length fH]] w fun e w'=>e= .returned (.int .i64 r)∧Below w.heap.size w w':=by
 have hu26:=Tryz.underlying26;have hu40:=Tryz.underlying40;have HR0:=Za.mk hr0;have HC0:=Za.mk hc0;clear hr0 hc0;have gz:=Za.mk lD;have iE:=Za.mk l9;clear lD l9;have gM:=Za.mk mO;have iW:=Za.mk mM;clear mO mM;have HB:=Za.mk (Below.refl w.heap.size w);have H:(if aN=0 then(if(ay.length:Int)>0 then(some 44)else(if(aX.length:Int)>0 then(some 44)else(some 0)))else(if aN=1 then((Zdl.f k l0 0 ay aX 0 0 ([]:List (List Int)) 0).bind fun Nh=>(some Nh))else(if aN=2 then((Zdl.f k l0 0 ay aX 0 0 ([]:List (List Int)) 0).bind fun Nl=>(some Nl))else(some 44))))=some r:=h;clear h;by_cases c3:aN=0
 case pos=>
  rw[if_pos c3]at H;have gL:(aN==0)=true:=beq_iff_eq.mpr c3;have lV:(aN !=0)=false:=bne_eq_false_iff_eq.mpr c3;clear c3;by_cases c4:(ay.length:Int)>0
  case pos=>
   rw[if_pos c4]at H;have dV:decide (0<(ay.length:Int))=true:=decide_eq_true c4;have um:decide (0<ay.length)=true:=decide_eq_true (by omega);clear c4;obtain rfl:=sj H;go_enter Tryz.func15,Tryz.ntmps15
   go_wp2_with (first|((with_reducible refine Zap (N:=3) rfl ?_);(try(refine Zb9 (by rfl) ?_;dsimp only));refine bx 3 #[.int .i64 aN,.slice eF ay.length dU,.slice fG aX.length fH] 26 ?_;intro sO hg w5 hbox hb;have p8:=Za.mk (hbox);have GU:=Za.mk ((gE hg HB.out:w.heap.size≤sO));replace HB:=Za.mk (bS HB.out hb);clear hb hbox hg;obtain⟨nH,nI,nW,nE,nG,nV⟩:=cz3 p8.out))
   go_ret;exact⟨eR,bM HB.out⟩
  rw[if_neg c4]at H;have dV:decide (0<(ay.length:Int))=false:=decide_eq_false c4;have um:decide (0<ay.length)=false:=decide_eq_false (by omega);clear c4;by_cases c7:(aX.length:Int)>0
  case neg=>
   rw[if_neg c7]at H;have mV:decide (0<(aX.length:Int))=false:=decide_eq_false c7;have FH:decide (0<aX.length)=false:=decide_eq_false (by omega);clear c7;obtain rfl:=sj H;go_enter Tryz.func15,Tryz.ntmps15
   go_wp2_with (first|((with_reducible refine Zap (N:=3) rfl ?_);(try(refine Zb9 (by rfl) ?_;dsimp only));refine bx 3 #[.int .i64 aN,.slice eF ay.length dU,.slice fG aX.length fH] 26 ?_;intro sO hg w10 hbox hb;have p8:=Za.mk (hbox);have GU:=Za.mk ((gE hg HB.out:w.heap.size≤sO));replace HB:=Za.mk (bS HB.out hb);clear hb hbox hg;obtain⟨LV,LW,RN,Lp,Lr,Rb⟩:=cz3 p8.out))
   go_ret;exact⟨eR,bM HB.out⟩
  rw[if_pos c7]at H;have mV:decide (0<(aX.length:Int))=true:=decide_eq_true c7;have FH:decide (0<aX.length)=true:=decide_eq_true (by omega);clear c7;obtain rfl:=sj H;go_enter Tryz.func15,Tryz.ntmps15
  go_wp2_with (first|((with_reducible refine Zap (N:=3) rfl ?_);(try(refine Zb9 (by rfl) ?_;dsimp only));refine bx 3 #[.int .i64 aN,.slice eF ay.length dU,.slice fG aX.length fH] 26 ?_;intro sO hg w8 hbox hb;have p8:=Za.mk (hbox);have GU:=Za.mk ((gE hg HB.out:w.heap.size≤sO));replace HB:=Za.mk (bS HB.out hb);clear hb hbox hg;obtain⟨KE,KF,KG,K8,K9,KA⟩:=cz3 p8.out))
  go_ret;exact⟨eR,bM HB.out⟩
 rw[if_neg c3]at H;have gL:(aN==0)=false:=beq_eq_false_iff_ne.mpr c3;have lV:(aN !=0)=true:=bne_iff_ne.mpr c3;by_cases c12:aN=1
 case pos=>
  rw[if_pos c12]at H;have ll:(aN==1)=true:=beq_iff_eq.mpr c12;have Ew:(aN !=1)=false:=bne_eq_false_iff_eq.mpr c12;clear c12;obtain⟨Nh,A13,H⟩:=bnd H;try dsimp only at H
  obtain rfl:=sj H;go_enter Tryz.func15,Tryz.ntmps15
  go_wp2_with (first|((with_reducible refine Zap (N:=3) rfl ?_);(try(refine Zb9 (by rfl) ?_;dsimp only));refine bx 3 #[.int .i64 aN,.slice eF ay.length dU,.slice fG aX.length fH] 26 ?_;intro sO hg w14 hbox hb;have p8:=Za.mk (hbox);have GU:=Za.mk ((gE hg HB.out:w.heap.size≤sO));replace HB:=Za.mk (bS HB.out hb);clear hb hbox hg;obtain⟨yn,yo,yt,xP,xQ,xR⟩:=cz3 p8.out)|((with_reducible refine Zat (f:=14) rfl ?_);refine gl 28 Tryz.func14 #[.slice A0 l0.length c0,.agg #[.int .i64 0,.slice eF ay.length dU,.slice fG aX.length fH,.int .i64 0,.int .i64 0,.slice none 0 0,.int .i64 0]] ?_;(refine(Zdl.calls k _ _ l0 0 _ _ ay _ _ aX 0 0 _ _ ([]:List (List Int)) 0 Nh _ ?side1 ?side2 ?side3 ?side4 ?side5 ?side6 ?side7 ?side8 A13.out).mono ?_);(case side1=>repeat(first|exact(Kd.Zaf HR0.out HB.out)|(with_reducible refine Kd.C_alloc ?_ _)|(with_reducible refine Kd.Zcm ?_ _)|(with_reducible refine Kd.C_drew ?_)));(case side2=>exact HC0.out);(case side3=>repeat(first|exact(Kd.Zaf gz.out HB.out)|(with_reducible refine Kd.C_alloc ?_ _)|(with_reducible refine Kd.Zcm ?_ _)|(with_reducible refine Kd.C_drew ?_)));(case side4=>exact iE.out);(case side5=>repeat(first|exact(Kd.Zaf gM.out HB.out)|(with_reducible refine Kd.C_alloc ?_ _)|(with_reducible refine Kd.Zcm ?_ _)|(with_reducible refine Kd.C_drew ?_)));(case side6=>exact iW.out);(case side7=>exact Kd.C_nil _ _);(case side8=>exact Nat.le_refl _);rintro e w16 ⟨rfl,hb⟩;refine⟨_,rfl,?_⟩;replace HB:=Za.mk (bS HB.out hb);clear p8;(try clear hb);(try clear hb2);(try clear hk);(try clear hi)))
  go_ret;exact⟨eR,bM HB.out⟩
 rw[if_neg c12]at H;have ll:(aN==1)=false:=beq_eq_false_iff_ne.mpr c12;have Ew:(aN !=1)=true:=bne_iff_ne.mpr c12;by_cases c17:aN=2
 case neg=>
  rw[if_neg c17]at H;have Ex:(aN==2)=false:=beq_eq_false_iff_ne.mpr c17;have QD:(aN !=2)=true:=bne_iff_ne.mpr c17;obtain rfl:=sj H;go_enter Tryz.func15,Tryz.ntmps15
  go_wp2_with (first|((with_reducible refine Zap (N:=3) rfl ?_);(try(refine Zb9 (by rfl) ?_;dsimp only));refine bx 3 #[.int .i64 aN,.slice eF ay.length dU,.slice fG aX.length fH] 26 ?_;intro sO hg w22 hbox hb;have p8:=Za.mk (hbox);have GU:=Za.mk ((gE hg HB.out:w.heap.size≤sO));replace HB:=Za.mk (bS HB.out hb);clear hb hbox hg;obtain⟨Me,Mf,Mg,L6,L9,LA⟩:=cz3 p8.out))
  go_ret;exact⟨eR,bM HB.out⟩
 rw[if_pos c17]at H;have Ex:(aN==2)=true:=beq_iff_eq.mpr c17;have QD:(aN !=2)=false:=bne_eq_false_iff_eq.mpr c17;clear c17;obtain⟨Nl,A18,H⟩:=bnd H;try dsimp only at H
 obtain rfl:=sj H;go_enter Tryz.func15,Tryz.ntmps15
 go_wp2_with (first|((with_reducible refine Zap (N:=3) rfl ?_);(try(refine Zb9 (by rfl) ?_;dsimp only));refine bx 3 #[.int .i64 aN,.slice eF ay.length dU,.slice fG aX.length fH] 26 ?_;intro sO hg w19 hbox hb;have p8:=Za.mk (hbox);have GU:=Za.mk ((gE hg HB.out:w.heap.size≤sO));replace HB:=Za.mk (bS HB.out hb);clear hb hbox hg;obtain⟨uO,uP,yx,uH,uI,xV⟩:=cz3 p8.out)|((with_reducible refine Zat (f:=14) rfl ?_);refine gl 28 Tryz.func14 #[.slice A0 l0.length c0,.agg #[.int .i64 0,.slice eF ay.length dU,.slice fG aX.length fH,.int .i64 0,.int .i64 0,.slice none 0 0,.int .i64 0]] ?_;(refine(Zdl.calls k _ _ l0 0 _ _ ay _ _ aX 0 0 _ _ ([]:List (List Int)) 0 Nl _ ?side1 ?side2 ?side3 ?side4 ?side5 ?side6 ?side7 ?side8 A18.out).mono ?_);(case side1=>repeat(first|exact(Kd.Zaf HR0.out HB.out)|(with_reducible refine Kd.C_alloc ?_ _)|(with_reducible refine Kd.Zcm ?_ _)|(with_reducible refine Kd.C_drew ?_)));(case side2=>exact HC0.out);(case side3=>repeat(first|exact(Kd.Zaf gz.out HB.out)|(with_reducible refine Kd.C_alloc ?_ _)|(with_reducible refine Kd.Zcm ?_ _)|(with_reducible refine Kd.C_drew ?_)));(case side4=>exact iE.out);(case side5=>repeat(first|exact(Kd.Zaf gM.out HB.out)|(with_reducible refine Kd.C_alloc ?_ _)|(with_reducible refine Kd.Zcm ?_ _)|(with_reducible refine Kd.C_drew ?_)));(case side6=>exact iW.out);(case side7=>exact Kd.C_nil _ _);(case side8=>exact Nat.le_refl _);rintro e w21 ⟨rfl,hb⟩;refine⟨_,rfl,?_⟩;replace HB:=Za.mk (bS HB.out hb);clear p8;(try clear hb);(try clear hb2);(try clear hk);(try clear hi)))
 go_ret;exact⟨eR,bM HB.out⟩
end Go.Proofs.YtkgjaklnbgdmiaaGreat.P
