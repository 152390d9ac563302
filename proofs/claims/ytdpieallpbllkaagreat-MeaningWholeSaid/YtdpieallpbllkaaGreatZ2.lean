/- Proved: what each function of the program that the statements of this seat reach comes to, for whatever memory and arguments it is called with (on condition that its plain text tells a result). -/
import Derived.Test.YtdpieallpbllkaaGreatZ1
import Derived.Deep.RegionHeld3
import Derived.Deep.DrawnRows
/- model.right: is a constraint's row kept? -/
set_option linter.unusedSimpArgs false
set_option linter.unusedVariables false
set_option maxHeartbeats 8000000
namespace Go.Proofs.YtdpieallpbllkaaGreat.P
open Go.RowKit Go.Shelf Go.Proofs.YtdpieallpbllkaaGreatW.PrintWords Go.Proofs.YtdpieallpbllkaaGreatW.PrintLast Go.Proofs.YtdpieallpbllkaaGreatW.PrintMore
def truthOf (k:Nat) (l0:List (List S82)) (v:Int):Bool:=(Zct.f k (l0.getD v.toNat [])).getD false
theorem Zhp (k : Nat) (l0 : List (List S82)) : ∀ (l : List Int) (ts : List Bool), truthsL k l0 l = some ts → l.all (truthOf k l0) = ts.all fun t => t
  | [],ts,h=>by
    obtain rfl:=Option.some.inj h
    rfl
  |v::vs,ts,h=>by
    unfold truthsL at h
    split at h
    case isFalse=>cases h
    case isTrue h1=>
      obtain⟨m,hm,h⟩:=Option.bind_eq_some_iff.1 h;obtain⟨ms',hms,h⟩:=Option.bind_eq_some_iff.1 h;obtain rfl:=Option.some.inj h;rw[List.all_cons,List.all_cons,Zhp k l0 vs ms' hms];unfold truthOf;rw[hm]
      rfl
section
variable {bd bc:Nat} {A0:Option Addr} {c0:Nat} {l0:List (List S82)} {kd:Int} {A1:Option Addr} {c1:Nat} {vars:List Int} {A2:Option Addr} {c2:Nat} {coefs:List Int} {op rhs:Int} {A5:Option Addr} {c5:Nat} {rows:List (List Int)} {b:Int}
theorem truths_calls (k : Nat) (W : World) (h : ConAt W bd bc A0 c0 l0 kd A1 c1 vars A2 c2 coefs op rhs A5 c5 rows b) (A : Option Addr) (c : Nat) (l : List Int) (ts : List Bool) (hr : Kd.C (Kd.int .i64) W A l.length l) (hc : l.length ≤ c) (ht : truthsL k l0 l = some ts) :
    Calls Tryz.prog 119 #[.slice A l.length c,.pointer (some ⟨bd,0,none⟩)] W fun e w'=>e= .returned (.bool (ts.all fun t=>t))∧Below W.heap.size W w':=by
  rw[←Zhp k l0 l ts ht];have hany:(l.any fun v=> !truthOf k l0 v)= !(l.all (truthOf k l0)):=by rw[List.not_all_eq_any_not]
  obtain⟨hlen,hget⟩:=Zhq k l0 l ts ht
  have cC := fun (w : World) (hw : Below W.heap.size W w) => Zgf (fun v => !truthOf k l0 v) 120 #[.pointer (some ⟨bd, 0, none⟩)] (enters_of Tryz.func120 (by kernel_rfl) rfl) A c l w (Kd.Zac hr hw) (fun i hi w2 hw2 => by
    have e:rd l (i:Int)=l[i]:=by simp[rd,List.getD_eq_getElem?_getD,List.getElem?_eq_getElem hi]
    obtain⟨g1,g2,g3⟩:=hget i hi;have:=truthPred k w2 (h.below (Zae hw hw2)) (rd l (i:Int)) (by rw[e];exact g1) (by rw[e];exact g2) (truthOf k l0 (rd l (i:Int))) (by rw[e];unfold truthOf;rw[g3];rfl)
    exact this)
  simp only[hany]at cC;have CC:=Za.mk cC;clear cC h hr hany hget hlen ht
  generalize l.all (truthOf k l0)=r at CC ⊢
  obtain⟨wo,rfl⟩:∃wo:World,wo=W:=⟨_,rfl⟩;go_enter Tryz.func119,Tryz.ntmps119
  go_wp2_with (go_at_call 109;go_loud (refine(CC.out _ ?hB).mono ?_;(case hB=>first|exact Below.refl _ _|exact Zcb (Below.refl _ _) _|exact Zd6 (Below.refl _ _));rintro e w' ⟨rfl,hb⟩))
  go_ret;exact⟨by simp,hb⟩
end
def Zb8.f (k:Nat) (l0:List (List S82)) (kd:Int) (vars coefs:List Int) (op rhs:Int) (rows:List (List Int)) (b:Int):Option Bool:=
  if kd≠2∧0<rows.length then some false
  else if kd=0 then(Zdk.f k kd vars coefs op rhs rows b).bind fun h=>some (h && decide (b=0))
  else if kd=1 then(Zdn.f kd vars coefs op rhs rows b).bind fun p=>(Zdp.f vars).bind fun a=>some (p && (decide (0<vars.length) && a))
  else if kd=2 then(Zdn.f kd vars coefs op rhs rows b).bind fun p=>(Zdp.f vars).bind fun a=>some (p && (decide (0<vars.length) && (a && (decide (rows.length≤1024) && !(rows.any fun l=> !rowOk vars l)))))
  else if kd=3 then(Zdn.f kd vars coefs op rhs rows b).bind fun p=>(Zdp.f vars).bind fun a=>some (p && (decide (3≤vars.length) && a))
  else if kd=4 then if 0≤b∧b<(l0.length:Int)then(Zdk.f k kd vars coefs op rhs rows b).bind fun h=>(Zct.f k (l0.getD b.toNat [])).bind fun t=>(slices_Contains_int.f k vars b).bind fun c=>some (h && (t && !c))else none
  else if kd=5 then(Zdi.f k kd vars coefs op rhs rows b).bind fun s=>(truthsL k l0 vars).bind fun ts=>some (s && (decide (op=0) && (decide (rhs=0) && (decide (b=0) && (!(coefs.any oddU) && ts.all fun t=>t)))))
  else(Zdn.f kd vars coefs op rhs rows b).bind fun p=>some (p && (decide (2≤vars.length) && decide ((vars.length:Int)%2=0)))
theorem Zgp (k : Nat) (l0 : List (List S82)) : ∀ l, LeO (truthsL k l0 l) (truthsL (k + 1) l0 l)
  | [] => LeO.refl _
  |v::vs=>by
    unfold truthsL;exact LeO.ite (LeO.bind (Zct.mono _ _) (fun _=>LeO.bind (Zgp k l0 vs) (fun _=>LeO.refl _))) (LeO.refl _)
theorem Zd3 (A0 : Option Addr) (c0 : Nat) (l0 : List (List S82)) (kd : Int) (A1 : Option Addr) (c1 : Nat) (vars : List Int) (A2 : Option Addr) (c2 : Nat) (coefs : List Int) (op rhs : Int) (A5 : Option Addr) (c5 : Nat) (rows : List (List Int)) (b : Int) (w : World) (hr0 : Kd.C (Kd.slice 82 k82) w A0 l0.length l0) (hc0 : l0.length ≤ c0) (hr1 : Kd.C (Kd.int .i64) w A1 vars.length vars) (hc1 : vars.length ≤ c1) (hr2 : Kd.C (Kd.int .i64) w A2 coefs.length coefs) (hc2 : coefs.length ≤ c2) (hr5 : Kd.C (Kd.slice 3 (Kd.int .i64)) w A5 rows.length rows) (hc5 : rows.length ≤ c5) :
    ConAt ((w.alloc (.cells #[.slice A0 l0.length c0] 43)).alloc (.cells #[.int .i64 kd,.slice A1 vars.length c1,.slice A2 coefs.length c2,.int .i64 op,.int .i64 rhs,.slice A5 rows.length c5,.int .i64 b] 36)) w.heap.size (w.heap.size+1) A0 c0 l0 kd A1 c1 vars A2 c2 coefs op rhs A5 c5 rows b:=by
  have hb:Below w.heap.size w ((w.alloc (.cells #[.slice A0 l0.length c0] 43)).alloc (.cells #[.int .i64 kd,.slice A1 vars.length c1,.slice A2 coefs.length c2,.int .i64 op,.int .i64 rhs,.slice A5 rows.length c5,.int .i64 b] 36)):=Zbi (Zbi (Below.refl _ _) _) _;exact⟨by simp,by simp,by simp,by simp,by simp,by simp,by simp,by simp,Kd.Zac hr0 hb,Kd.Zac hr1 hb,Kd.Zac hr2 hb,Kd.Zac hr5 hb,hc0,hc1,hc2,hc5⟩
set_option maxRecDepth 100000 in
theorem right_0 (k : Nat) (A0 : Option Addr) (c0 : Nat) (l0 : List (List S82)) (kd : Int) (A1 : Option Addr) (c1 : Nat) (vars : List Int) (A2 : Option Addr) (c2 : Nat) (coefs : List Int) (op rhs : Int) (A5 : Option Addr) (c5 : Nat) (rows : List (List Int)) (b : Int) (r : Bool) (w : World) (hr0 : Kd.C (Kd.slice 82 k82) w A0 l0.length l0) (hc0 : l0.length ≤ c0) (hr1 : Kd.C (Kd.int .i64) w A1 vars.length vars) (hc1 : vars.length ≤ c1) (hr2 : Kd.C (Kd.int .i64) w A2 coefs.length coefs) (hc2 : coefs.length ≤ c2) (hr5 : Kd.C (Kd.slice 3 (Kd.int .i64)) w A5 rows.length rows) (hc5 : rows.length ≤ c5) (hk : kd = 0) (hrow : rows.length = 0) (h : Zb8.f k l0 kd vars coefs op rhs rows b = some r) :
    Calls Tryz.prog 110 #[.slice A0 l0.length c0,.agg #[.int .i64 kd,.slice A1 vars.length c1,.slice A2 coefs.length c2,.int .i64 op,.int .i64 rhs,.slice A5 rows.length c5,.int .i64 b]] w fun e w'=>e= .returned (.bool r)∧Below w.heap.size w w':=by
  subst hk;have HC:=Za.mk (Zd3 A0 c0 l0 0 A1 c1 vars A2 c2 coefs op rhs A5 c5 rows b w hr0 hc0 hr1 hc1 hr2 hc2 hr5 hc5);have hwB:Below w.heap.size w ((w.alloc (.cells #[.slice A0 l0.length c0] 43)).alloc (.cells #[.int .i64 0,.slice A1 vars.length c1,.slice A2 coefs.length c2,.int .i64 op,.int .i64 rhs,.slice A5 rows.length c5,.int .i64 b] 36)):=Zbi (Zbi (Below.refl _ _) _) _;have HWB:=Za.mk hwB;clear hwB hr0 hr1 hr2 hr5;unfold Zb8.f at h;rw[if_neg (fun h_=>absurd h_.2 (by omega))]at h;rw[if_pos rfl]at h;obtain⟨q1,hq1,h2_⟩:=Option.bind_eq_some_iff.1 h;clear h;have h:=h2_;clear h2_;have A_1:=Za.mk hq1;clear hq1;obtain rfl:=Option.some.inj h;clear h;have CH:=Za.mk (fun(w':World) (hw:Below ((w.alloc (.cells #[.slice A0 l0.length c0] 43)).alloc (.cells #[.int .i64 0,.slice A1 vars.length c1,.slice A2 coefs.length c2,.int .i64 op,.int .i64 rhs,.slice A5 rows.length c5,.int .i64 b] 36)).heap.size ((w.alloc (.cells #[.slice A0 l0.length c0] 43)).alloc (.cells #[.int .i64 0,.slice A1 vars.length c1,.slice A2 coefs.length c2,.int .i64 op,.int .i64 rhs,.slice A5 rows.length c5,.int .i64 b] 36)) w')=>Zdk.calls k 0 A1 c1 vars A2 c2 coefs op rhs A5 c5 rows b q1 w' (Kd.Zac HC.out.r1 hw) hc1 (Kd.Zac HC.out.r2 hw) hc2 (Kd.Zac HC.out.r5 hw) hc5 A_1.out);have BW:=Za.mk (Below.refl ((w.alloc (.cells #[.slice A0 l0.length c0] 43)).alloc (.cells #[.int .i64 0,.slice A1 vars.length c1,.slice A2 coefs.length c2,.int .i64 op,.int .i64 rhs,.slice A5 rows.length c5,.int .i64 b] 36)).heap.size ((w.alloc (.cells #[.slice A0 l0.length c0] 43)).alloc (.cells #[.int .i64 0,.slice A1 vars.length c1,.slice A2 coefs.length c2,.int .i64 op,.int .i64 rhs,.slice A5 rows.length c5,.int .i64 b] 36)));have EW:decide (0<(rows.length:Int))=false:=decide_eq_false (by omega);have hr0n_:decide (0<rows.length)=false:=decide_eq_false (by omega);clear hrow
  cases q1 with
  |false=>
    go_enter Tryz.func110,Tryz.ntmps110
    go_wp2_with (first|(go_at_call 122;go_loud (refine(CH.out _ ?hB).mono ?_;(case hB=>exact mvB BW.out);rintro e w' ⟨rfl,hb⟩;have BW1:=Za.mk (Zae (mvB BW.out) hb);clear BW hb;have BW:=BW1;clear BW1;have hx_:=HC.out.below BW.out;have ed:=hx_.ed;have k0:=hx_.k0;have k1:=hx_.k1;have k2:=hx_.k2;have k3:=hx_.k3;have k4:=hx_.k4;have k5:=hx_.k5;have k6:=hx_.k6;clear hx_)))
    go_ret;exact⟨by first|rfl|(simp[*];done)|(simp[*];rfl),Zae HWB.out (mvB BW.out)⟩
  |true=>
    go_enter Tryz.func110,Tryz.ntmps110
    go_wp2_with (first|(go_at_call 122;go_loud (refine(CH.out _ ?hB).mono ?_;(case hB=>exact mvB BW.out);rintro e w' ⟨rfl,hb⟩;have BW1:=Za.mk (Zae (mvB BW.out) hb);clear BW hb;have BW:=BW1;clear BW1;have hx_:=HC.out.below BW.out;have ed:=hx_.ed;have k0:=hx_.k0;have k1:=hx_.k1;have k2:=hx_.k2;have k3:=hx_.k3;have k4:=hx_.k4;have k5:=hx_.k5;have k6:=hx_.k6;clear hx_)))
    go_ret;exact⟨by first|rfl|(simp[*];done)|(simp[*];rfl),Zae HWB.out (mvB BW.out)⟩
set_option maxRecDepth 100000 in
theorem right_1 (k : Nat) (A0 : Option Addr) (c0 : Nat) (l0 : List (List S82)) (kd : Int) (A1 : Option Addr) (c1 : Nat) (vars : List Int) (A2 : Option Addr) (c2 : Nat) (coefs : List Int) (op rhs : Int) (A5 : Option Addr) (c5 : Nat) (rows : List (List Int)) (b : Int) (r : Bool) (w : World) (hr0 : Kd.C (Kd.slice 82 k82) w A0 l0.length l0) (hc0 : l0.length ≤ c0) (hr1 : Kd.C (Kd.int .i64) w A1 vars.length vars) (hc1 : vars.length ≤ c1) (hr2 : Kd.C (Kd.int .i64) w A2 coefs.length coefs) (hc2 : coefs.length ≤ c2) (hr5 : Kd.C (Kd.slice 3 (Kd.int .i64)) w A5 rows.length rows) (hc5 : rows.length ≤ c5) (hk : kd = 1) (hrow : rows.length = 0) (h : Zb8.f k l0 kd vars coefs op rhs rows b = some r) :
    Calls Tryz.prog 110 #[.slice A0 l0.length c0,.agg #[.int .i64 kd,.slice A1 vars.length c1,.slice A2 coefs.length c2,.int .i64 op,.int .i64 rhs,.slice A5 rows.length c5,.int .i64 b]] w fun e w'=>e= .returned (.bool r)∧Below w.heap.size w w':=by
  subst hk;have HC:=Za.mk (Zd3 A0 c0 l0 1 A1 c1 vars A2 c2 coefs op rhs A5 c5 rows b w hr0 hc0 hr1 hc1 hr2 hc2 hr5 hc5);have hwB:Below w.heap.size w ((w.alloc (.cells #[.slice A0 l0.length c0] 43)).alloc (.cells #[.int .i64 1,.slice A1 vars.length c1,.slice A2 coefs.length c2,.int .i64 op,.int .i64 rhs,.slice A5 rows.length c5,.int .i64 b] 36)):=Zbi (Zbi (Below.refl _ _) _) _;have HWB:=Za.mk hwB;clear hwB hr0 hr1 hr2 hr5;unfold Zb8.f at h;rw[if_neg (fun h_=>absurd h_.2 (by omega))]at h;rw[if_neg (by decide)]at h;rw[if_pos rfl]at h;obtain⟨q1,hq1,h2_⟩:=Option.bind_eq_some_iff.1 h;clear h;have h:=h2_;clear h2_;have A_1:=Za.mk hq1;clear hq1;obtain⟨q2,hq2,h2_⟩:=Option.bind_eq_some_iff.1 h;clear h;have h:=h2_;clear h2_;have A_2:=Za.mk hq2;clear hq2;obtain rfl:=Option.some.inj h;clear h;have CP:=Za.mk (fun(w':World) (hw:Below ((w.alloc (.cells #[.slice A0 l0.length c0] 43)).alloc (.cells #[.int .i64 1,.slice A1 vars.length c1,.slice A2 coefs.length c2,.int .i64 op,.int .i64 rhs,.slice A5 rows.length c5,.int .i64 b] 36)).heap.size ((w.alloc (.cells #[.slice A0 l0.length c0] 43)).alloc (.cells #[.int .i64 1,.slice A1 vars.length c1,.slice A2 coefs.length c2,.int .i64 op,.int .i64 rhs,.slice A5 rows.length c5,.int .i64 b] 36)) w')=>Zdn.calls 1 A1 c1 vars A2 c2 coefs op rhs A5 c5 rows b q1 w' (Kd.Zac HC.out.r1 hw) hc1 (Kd.Zac HC.out.r2 hw) hc2 (Kd.Zac HC.out.r5 hw) hc5 A_1.out);have CA:=Za.mk (fun(w':World) (hw:Below ((w.alloc (.cells #[.slice A0 l0.length c0] 43)).alloc (.cells #[.int .i64 1,.slice A1 vars.length c1,.slice A2 coefs.length c2,.int .i64 op,.int .i64 rhs,.slice A5 rows.length c5,.int .i64 b] 36)).heap.size ((w.alloc (.cells #[.slice A0 l0.length c0] 43)).alloc (.cells #[.int .i64 1,.slice A1 vars.length c1,.slice A2 coefs.length c2,.int .i64 op,.int .i64 rhs,.slice A5 rows.length c5,.int .i64 b] 36)) w')=>Zdp.calls A1 c1 vars q2 w' (Kd.Zac HC.out.r1 hw) hc1 A_2.out);have BW:=Za.mk (Below.refl ((w.alloc (.cells #[.slice A0 l0.length c0] 43)).alloc (.cells #[.int .i64 1,.slice A1 vars.length c1,.slice A2 coefs.length c2,.int .i64 op,.int .i64 rhs,.slice A5 rows.length c5,.int .i64 b] 36)).heap.size ((w.alloc (.cells #[.slice A0 l0.length c0] 43)).alloc (.cells #[.int .i64 1,.slice A1 vars.length c1,.slice A2 coefs.length c2,.int .i64 op,.int .i64 rhs,.slice A5 rows.length c5,.int .i64 b] 36)));have EW:decide (0<(rows.length:Int))=false:=decide_eq_false (by omega);have hr0n_:decide (0<rows.length)=false:=decide_eq_false (by omega);clear hrow
  cases q1 with
  |false=>
    go_enter Tryz.func110,Tryz.ntmps110
    go_wp2_with (first|(go_at_call 123;go_loud (refine(CP.out _ ?hB).mono ?_;(case hB=>exact mvB BW.out);rintro e w' ⟨rfl,hb⟩;have BW1:=Za.mk (Zae (mvB BW.out) hb);clear BW hb;have BW:=BW1;clear BW1;have hx_:=HC.out.below BW.out;have ed:=hx_.ed;have k0:=hx_.k0;have k1:=hx_.k1;have k2:=hx_.k2;have k3:=hx_.k3;have k4:=hx_.k4;have k5:=hx_.k5;have k6:=hx_.k6;clear hx_))|(go_at_call 124;go_loud (refine(CA.out _ ?hB).mono ?_;(case hB=>exact mvB BW.out);rintro e w' ⟨rfl,hb⟩;have BW1:=Za.mk (Zae (mvB BW.out) hb);clear BW hb;have BW:=BW1;clear BW1;have hx_:=HC.out.below BW.out;have ed:=hx_.ed;have k0:=hx_.k0;have k1:=hx_.k1;have k2:=hx_.k2;have k3:=hx_.k3;have k4:=hx_.k4;have k5:=hx_.k5;have k6:=hx_.k6;clear hx_)))
    go_ret;exact⟨by first|rfl|(simp[*];done)|(simp[*];rfl),Zae HWB.out (mvB BW.out)⟩
  |true=>
    by_cases hq_:0<vars.length
    · have d1len0_ : decide (0 < (vars.length : Int)) = true := decide_eq_true (by omega)
      have d2len0_:decide (0<vars.length)=true:=decide_eq_true hq_;clear hq_;go_enter Tryz.func110,Tryz.ntmps110
      go_wp2_with (first|(go_at_call 123;go_loud (refine(CP.out _ ?hB).mono ?_;(case hB=>exact mvB BW.out);rintro e w' ⟨rfl,hb⟩;have BW1:=Za.mk (Zae (mvB BW.out) hb);clear BW hb;have BW:=BW1;clear BW1;have hx_:=HC.out.below BW.out;have ed:=hx_.ed;have k0:=hx_.k0;have k1:=hx_.k1;have k2:=hx_.k2;have k3:=hx_.k3;have k4:=hx_.k4;have k5:=hx_.k5;have k6:=hx_.k6;clear hx_))|(go_at_call 124;go_loud (refine(CA.out _ ?hB).mono ?_;(case hB=>exact mvB BW.out);rintro e w' ⟨rfl,hb⟩;have BW1:=Za.mk (Zae (mvB BW.out) hb);clear BW hb;have BW:=BW1;clear BW1;have hx_:=HC.out.below BW.out;have ed:=hx_.ed;have k0:=hx_.k0;have k1:=hx_.k1;have k2:=hx_.k2;have k3:=hx_.k3;have k4:=hx_.k4;have k5:=hx_.k5;have k6:=hx_.k6;clear hx_)))
      go_ret;exact⟨by first|rfl|(simp[*];done)|(simp[*];rfl),Zae HWB.out (mvB BW.out)⟩
    have d1len0_:decide (0<(vars.length:Int))=false:=decide_eq_false (by omega);have d2len0_:decide (0<vars.length)=false:=decide_eq_false hq_;clear hq_;go_enter Tryz.func110,Tryz.ntmps110
    go_wp2_with (first|(go_at_call 123;go_loud (refine(CP.out _ ?hB).mono ?_;(case hB=>exact mvB BW.out);rintro e w' ⟨rfl,hb⟩;have BW1:=Za.mk (Zae (mvB BW.out) hb);clear BW hb;have BW:=BW1;clear BW1;have hx_:=HC.out.below BW.out;have ed:=hx_.ed;have k0:=hx_.k0;have k1:=hx_.k1;have k2:=hx_.k2;have k3:=hx_.k3;have k4:=hx_.k4;have k5:=hx_.k5;have k6:=hx_.k6;clear hx_))|(go_at_call 124;go_loud (refine(CA.out _ ?hB).mono ?_;(case hB=>exact mvB BW.out);rintro e w' ⟨rfl,hb⟩;have BW1:=Za.mk (Zae (mvB BW.out) hb);clear BW hb;have BW:=BW1;clear BW1;have hx_:=HC.out.below BW.out;have ed:=hx_.ed;have k0:=hx_.k0;have k1:=hx_.k1;have k2:=hx_.k2;have k3:=hx_.k3;have k4:=hx_.k4;have k5:=hx_.k5;have k6:=hx_.k6;clear hx_)))
    go_ret;exact⟨by first|rfl|(simp[*];done)|(simp[*];rfl),Zae HWB.out (mvB BW.out)⟩
set_option maxRecDepth 100000 in
theorem right_2 (k : Nat) (A0 : Option Addr) (c0 : Nat) (l0 : List (List S82)) (kd : Int) (A1 : Option Addr) (c1 : Nat) (vars : List Int) (A2 : Option Addr) (c2 : Nat) (coefs : List Int) (op rhs : Int) (A5 : Option Addr) (c5 : Nat) (rows : List (List Int)) (b : Int) (r : Bool) (w : World) (hr0 : Kd.C (Kd.slice 82 k82) w A0 l0.length l0) (hc0 : l0.length ≤ c0) (hr1 : Kd.C (Kd.int .i64) w A1 vars.length vars) (hc1 : vars.length ≤ c1) (hr2 : Kd.C (Kd.int .i64) w A2 coefs.length coefs) (hc2 : coefs.length ≤ c2) (hr5 : Kd.C (Kd.slice 3 (Kd.int .i64)) w A5 rows.length rows) (hc5 : rows.length ≤ c5) (hk : kd = 2) (hrow : True) (h : Zb8.f k l0 kd vars coefs op rhs rows b = some r) :
    Calls Tryz.prog 110 #[.slice A0 l0.length c0,.agg #[.int .i64 kd,.slice A1 vars.length c1,.slice A2 coefs.length c2,.int .i64 op,.int .i64 rhs,.slice A5 rows.length c5,.int .i64 b]] w fun e w'=>e= .returned (.bool r)∧Below w.heap.size w w':=by
  subst hk;have HC:=Za.mk (Zd3 A0 c0 l0 2 A1 c1 vars A2 c2 coefs op rhs A5 c5 rows b w hr0 hc0 hr1 hc1 hr2 hc2 hr5 hc5);have hwB:Below w.heap.size w ((w.alloc (.cells #[.slice A0 l0.length c0] 43)).alloc (.cells #[.int .i64 2,.slice A1 vars.length c1,.slice A2 coefs.length c2,.int .i64 op,.int .i64 rhs,.slice A5 rows.length c5,.int .i64 b] 36)):=Zbi (Zbi (Below.refl _ _) _) _;have HWB:=Za.mk hwB;clear hwB hr0 hr1 hr2 hr5;unfold Zb8.f at h;rw[if_neg (fun h_=>h_.1 rfl)]at h;rw[if_neg (by decide)]at h;rw[if_neg (by decide)]at h;rw[if_pos rfl]at h;obtain⟨q1,hq1,h2_⟩:=Option.bind_eq_some_iff.1 h;clear h;have h:=h2_;clear h2_;have A_1:=Za.mk hq1;clear hq1;obtain⟨q2,hq2,h2_⟩:=Option.bind_eq_some_iff.1 h;clear h;have h:=h2_;clear h2_;have A_2:=Za.mk hq2;clear hq2;obtain rfl:=Option.some.inj h;clear h;have CP:=Za.mk (fun(w':World) (hw:Below ((w.alloc (.cells #[.slice A0 l0.length c0] 43)).alloc (.cells #[.int .i64 2,.slice A1 vars.length c1,.slice A2 coefs.length c2,.int .i64 op,.int .i64 rhs,.slice A5 rows.length c5,.int .i64 b] 36)).heap.size ((w.alloc (.cells #[.slice A0 l0.length c0] 43)).alloc (.cells #[.int .i64 2,.slice A1 vars.length c1,.slice A2 coefs.length c2,.int .i64 op,.int .i64 rhs,.slice A5 rows.length c5,.int .i64 b] 36)) w')=>Zdn.calls 2 A1 c1 vars A2 c2 coefs op rhs A5 c5 rows b q1 w' (Kd.Zac HC.out.r1 hw) hc1 (Kd.Zac HC.out.r2 hw) hc2 (Kd.Zac HC.out.r5 hw) hc5 A_1.out);have CA:=Za.mk (fun(w':World) (hw:Below ((w.alloc (.cells #[.slice A0 l0.length c0] 43)).alloc (.cells #[.int .i64 2,.slice A1 vars.length c1,.slice A2 coefs.length c2,.int .i64 op,.int .i64 rhs,.slice A5 rows.length c5,.int .i64 b] 36)).heap.size ((w.alloc (.cells #[.slice A0 l0.length c0] 43)).alloc (.cells #[.int .i64 2,.slice A1 vars.length c1,.slice A2 coefs.length c2,.int .i64 op,.int .i64 rhs,.slice A5 rows.length c5,.int .i64 b] 36)) w')=>Zdp.calls A1 c1 vars q2 w' (Kd.Zac HC.out.r1 hw) hc1 A_2.out);have CR:=Za.mk (fun(w':World) (hw:Below ((w.alloc (.cells #[.slice A0 l0.length c0] 43)).alloc (.cells #[.int .i64 2,.slice A1 vars.length c1,.slice A2 coefs.length c2,.int .i64 op,.int .i64 rhs,.slice A5 rows.length c5,.int .i64 b] 36)).heap.size ((w.alloc (.cells #[.slice A0 l0.length c0] 43)).alloc (.cells #[.int .i64 2,.slice A1 vars.length c1,.slice A2 coefs.length c2,.int .i64 op,.int .i64 rhs,.slice A5 rows.length c5,.int .i64 b] 36)) w')=>Zfk (fun l=> !rowOk vars l) 125 #[.pointer (some ⟨w.heap.size+1,0,none⟩)] (enters_of Tryz.func125 (by kernel_rfl) rfl) A5 c5 rows w' (Kd.Zac HC.out.r5 hw) (fun x Ax cx _ w2 hw2 hrx hcx=>rowBad w2 (HC.out.below (Zae hw hw2)) Ax cx x hrx hcx))
  generalize (rows.any fun l=> !rowOk vars l)=q4 at CR ⊢
  have BW:=Za.mk (Below.refl ((w.alloc (.cells #[.slice A0 l0.length c0] 43)).alloc (.cells #[.int .i64 2,.slice A1 vars.length c1,.slice A2 coefs.length c2,.int .i64 op,.int .i64 rhs,.slice A5 rows.length c5,.int .i64 b] 36)).heap.size ((w.alloc (.cells #[.slice A0 l0.length c0] 43)).alloc (.cells #[.int .i64 2,.slice A1 vars.length c1,.slice A2 coefs.length c2,.int .i64 op,.int .i64 rhs,.slice A5 rows.length c5,.int .i64 b] 36)));clear hrow
  cases q1 with
  |false=>
    go_enter Tryz.func110,Tryz.ntmps110
    go_wp2_with (first|(go_at_call 123;go_loud (refine(CP.out _ ?hB).mono ?_;(case hB=>exact mvB BW.out);rintro e w' ⟨rfl,hb⟩;have BW1:=Za.mk (Zae (mvB BW.out) hb);clear BW hb;have BW:=BW1;clear BW1;have hx_:=HC.out.below BW.out;have ed:=hx_.ed;have k0:=hx_.k0;have k1:=hx_.k1;have k2:=hx_.k2;have k3:=hx_.k3;have k4:=hx_.k4;have k5:=hx_.k5;have k6:=hx_.k6;clear hx_))|(go_at_call 124;go_loud (refine(CA.out _ ?hB).mono ?_;(case hB=>exact mvB BW.out);rintro e w' ⟨rfl,hb⟩;have BW1:=Za.mk (Zae (mvB BW.out) hb);clear BW hb;have BW:=BW1;clear BW1;have hx_:=HC.out.below BW.out;have ed:=hx_.ed;have k0:=hx_.k0;have k1:=hx_.k1;have k2:=hx_.k2;have k3:=hx_.k3;have k4:=hx_.k4;have k5:=hx_.k5;have k6:=hx_.k6;clear hx_))|(go_at_call 35;go_loud (refine(CR.out _ ?hB).mono ?_;(case hB=>exact mvB BW.out);rintro e w' ⟨rfl,hb⟩;have BW1:=Za.mk (Zae (mvB BW.out) hb);clear BW hb;have BW:=BW1;clear BW1;have hx_:=HC.out.below BW.out;have ed:=hx_.ed;have k0:=hx_.k0;have k1:=hx_.k1;have k2:=hx_.k2;have k3:=hx_.k3;have k4:=hx_.k4;have k5:=hx_.k5;have k6:=hx_.k6;clear hx_)))
    go_ret;exact⟨by first|rfl|(simp[*];done)|(simp[*];rfl),Zae HWB.out (mvB BW.out)⟩
  |true=>
    by_cases hq_:0<vars.length;rotate_left
    · have d1len0_ : decide (0 < (vars.length : Int)) = false := decide_eq_false (by omega)
      have d2len0_:decide (0<vars.length)=false:=decide_eq_false hq_;clear hq_;go_enter Tryz.func110,Tryz.ntmps110
      go_wp2_with (first|(go_at_call 123;go_loud (refine(CP.out _ ?hB).mono ?_;(case hB=>exact mvB BW.out);rintro e w' ⟨rfl,hb⟩;have BW1:=Za.mk (Zae (mvB BW.out) hb);clear BW hb;have BW:=BW1;clear BW1;have hx_:=HC.out.below BW.out;have ed:=hx_.ed;have k0:=hx_.k0;have k1:=hx_.k1;have k2:=hx_.k2;have k3:=hx_.k3;have k4:=hx_.k4;have k5:=hx_.k5;have k6:=hx_.k6;clear hx_))|(go_at_call 124;go_loud (refine(CA.out _ ?hB).mono ?_;(case hB=>exact mvB BW.out);rintro e w' ⟨rfl,hb⟩;have BW1:=Za.mk (Zae (mvB BW.out) hb);clear BW hb;have BW:=BW1;clear BW1;have hx_:=HC.out.below BW.out;have ed:=hx_.ed;have k0:=hx_.k0;have k1:=hx_.k1;have k2:=hx_.k2;have k3:=hx_.k3;have k4:=hx_.k4;have k5:=hx_.k5;have k6:=hx_.k6;clear hx_))|(go_at_call 35;go_loud (refine(CR.out _ ?hB).mono ?_;(case hB=>exact mvB BW.out);rintro e w' ⟨rfl,hb⟩;have BW1:=Za.mk (Zae (mvB BW.out) hb);clear BW hb;have BW:=BW1;clear BW1;have hx_:=HC.out.below BW.out;have ed:=hx_.ed;have k0:=hx_.k0;have k1:=hx_.k1;have k2:=hx_.k2;have k3:=hx_.k3;have k4:=hx_.k4;have k5:=hx_.k5;have k6:=hx_.k6;clear hx_)))
      go_ret;exact⟨by first|rfl|(simp[*];done)|(simp[*];rfl),Zae HWB.out (mvB BW.out)⟩
    have d1len0_:decide (0<(vars.length:Int))=true:=decide_eq_true (by omega);have d2len0_:decide (0<vars.length)=true:=decide_eq_true hq_;clear hq_
    cases q2 with
    |false=>
      go_enter Tryz.func110,Tryz.ntmps110
      go_wp2_with (first|(go_at_call 123;go_loud (refine(CP.out _ ?hB).mono ?_;(case hB=>exact mvB BW.out);rintro e w' ⟨rfl,hb⟩;have BW1:=Za.mk (Zae (mvB BW.out) hb);clear BW hb;have BW:=BW1;clear BW1;have hx_:=HC.out.below BW.out;have ed:=hx_.ed;have k0:=hx_.k0;have k1:=hx_.k1;have k2:=hx_.k2;have k3:=hx_.k3;have k4:=hx_.k4;have k5:=hx_.k5;have k6:=hx_.k6;clear hx_))|(go_at_call 124;go_loud (refine(CA.out _ ?hB).mono ?_;(case hB=>exact mvB BW.out);rintro e w' ⟨rfl,hb⟩;have BW1:=Za.mk (Zae (mvB BW.out) hb);clear BW hb;have BW:=BW1;clear BW1;have hx_:=HC.out.below BW.out;have ed:=hx_.ed;have k0:=hx_.k0;have k1:=hx_.k1;have k2:=hx_.k2;have k3:=hx_.k3;have k4:=hx_.k4;have k5:=hx_.k5;have k6:=hx_.k6;clear hx_))|(go_at_call 35;go_loud (refine(CR.out _ ?hB).mono ?_;(case hB=>exact mvB BW.out);rintro e w' ⟨rfl,hb⟩;have BW1:=Za.mk (Zae (mvB BW.out) hb);clear BW hb;have BW:=BW1;clear BW1;have hx_:=HC.out.below BW.out;have ed:=hx_.ed;have k0:=hx_.k0;have k1:=hx_.k1;have k2:=hx_.k2;have k3:=hx_.k3;have k4:=hx_.k4;have k5:=hx_.k5;have k6:=hx_.k6;clear hx_)))
      go_ret;exact⟨by first|rfl|(simp[*];done)|(simp[*];rfl),Zae HWB.out (mvB BW.out)⟩
    |true=>
      by_cases hq_:rows.length≤1024
      · have d1len1_ : decide ((rows.length : Int) ≤ 1024) = true := decide_eq_true (by omega)
        have d2len1_:decide (rows.length≤1024)=true:=decide_eq_true hq_;clear hq_;go_enter Tryz.func110,Tryz.ntmps110
        go_wp2_with (first|(go_at_call 123;go_loud (refine(CP.out _ ?hB).mono ?_;(case hB=>exact mvB BW.out);rintro e w' ⟨rfl,hb⟩;have BW1:=Za.mk (Zae (mvB BW.out) hb);clear BW hb;have BW:=BW1;clear BW1;have hx_:=HC.out.below BW.out;have ed:=hx_.ed;have k0:=hx_.k0;have k1:=hx_.k1;have k2:=hx_.k2;have k3:=hx_.k3;have k4:=hx_.k4;have k5:=hx_.k5;have k6:=hx_.k6;clear hx_))|(go_at_call 124;go_loud (refine(CA.out _ ?hB).mono ?_;(case hB=>exact mvB BW.out);rintro e w' ⟨rfl,hb⟩;have BW1:=Za.mk (Zae (mvB BW.out) hb);clear BW hb;have BW:=BW1;clear BW1;have hx_:=HC.out.below BW.out;have ed:=hx_.ed;have k0:=hx_.k0;have k1:=hx_.k1;have k2:=hx_.k2;have k3:=hx_.k3;have k4:=hx_.k4;have k5:=hx_.k5;have k6:=hx_.k6;clear hx_))|(go_at_call 35;go_loud (refine(CR.out _ ?hB).mono ?_;(case hB=>exact mvB BW.out);rintro e w' ⟨rfl,hb⟩;have BW1:=Za.mk (Zae (mvB BW.out) hb);clear BW hb;have BW:=BW1;clear BW1;have hx_:=HC.out.below BW.out;have ed:=hx_.ed;have k0:=hx_.k0;have k1:=hx_.k1;have k2:=hx_.k2;have k3:=hx_.k3;have k4:=hx_.k4;have k5:=hx_.k5;have k6:=hx_.k6;clear hx_)))
        go_ret;exact⟨by first|rfl|(simp[*];done)|(simp[*];rfl),Zae HWB.out (mvB BW.out)⟩
      have d1len1_:decide ((rows.length:Int)≤1024)=false:=decide_eq_false (by omega);have d2len1_:decide (rows.length≤1024)=false:=decide_eq_false hq_;clear hq_;go_enter Tryz.func110,Tryz.ntmps110
      go_wp2_with (first|(go_at_call 123;go_loud (refine(CP.out _ ?hB).mono ?_;(case hB=>exact mvB BW.out);rintro e w' ⟨rfl,hb⟩;have BW1:=Za.mk (Zae (mvB BW.out) hb);clear BW hb;have BW:=BW1;clear BW1;have hx_:=HC.out.below BW.out;have ed:=hx_.ed;have k0:=hx_.k0;have k1:=hx_.k1;have k2:=hx_.k2;have k3:=hx_.k3;have k4:=hx_.k4;have k5:=hx_.k5;have k6:=hx_.k6;clear hx_))|(go_at_call 124;go_loud (refine(CA.out _ ?hB).mono ?_;(case hB=>exact mvB BW.out);rintro e w' ⟨rfl,hb⟩;have BW1:=Za.mk (Zae (mvB BW.out) hb);clear BW hb;have BW:=BW1;clear BW1;have hx_:=HC.out.below BW.out;have ed:=hx_.ed;have k0:=hx_.k0;have k1:=hx_.k1;have k2:=hx_.k2;have k3:=hx_.k3;have k4:=hx_.k4;have k5:=hx_.k5;have k6:=hx_.k6;clear hx_))|(go_at_call 35;go_loud (refine(CR.out _ ?hB).mono ?_;(case hB=>exact mvB BW.out);rintro e w' ⟨rfl,hb⟩;have BW1:=Za.mk (Zae (mvB BW.out) hb);clear BW hb;have BW:=BW1;clear BW1;have hx_:=HC.out.below BW.out;have ed:=hx_.ed;have k0:=hx_.k0;have k1:=hx_.k1;have k2:=hx_.k2;have k3:=hx_.k3;have k4:=hx_.k4;have k5:=hx_.k5;have k6:=hx_.k6;clear hx_)))
      go_ret;exact⟨by first|rfl|(simp[*];done)|(simp[*];rfl),Zae HWB.out (mvB BW.out)⟩
set_option maxRecDepth 100000 in
theorem right_3 (k : Nat) (A0 : Option Addr) (c0 : Nat) (l0 : List (List S82)) (kd : Int) (A1 : Option Addr) (c1 : Nat) (vars : List Int) (A2 : Option Addr) (c2 : Nat) (coefs : List Int) (op rhs : Int) (A5 : Option Addr) (c5 : Nat) (rows : List (List Int)) (b : Int) (r : Bool) (w : World) (hr0 : Kd.C (Kd.slice 82 k82) w A0 l0.length l0) (hc0 : l0.length ≤ c0) (hr1 : Kd.C (Kd.int .i64) w A1 vars.length vars) (hc1 : vars.length ≤ c1) (hr2 : Kd.C (Kd.int .i64) w A2 coefs.length coefs) (hc2 : coefs.length ≤ c2) (hr5 : Kd.C (Kd.slice 3 (Kd.int .i64)) w A5 rows.length rows) (hc5 : rows.length ≤ c5) (hk : kd = 3) (hrow : rows.length = 0) (h : Zb8.f k l0 kd vars coefs op rhs rows b = some r) :
    Calls Tryz.prog 110 #[.slice A0 l0.length c0,.agg #[.int .i64 kd,.slice A1 vars.length c1,.slice A2 coefs.length c2,.int .i64 op,.int .i64 rhs,.slice A5 rows.length c5,.int .i64 b]] w fun e w'=>e= .returned (.bool r)∧Below w.heap.size w w':=by
  subst hk;have HC:=Za.mk (Zd3 A0 c0 l0 3 A1 c1 vars A2 c2 coefs op rhs A5 c5 rows b w hr0 hc0 hr1 hc1 hr2 hc2 hr5 hc5);have hwB:Below w.heap.size w ((w.alloc (.cells #[.slice A0 l0.length c0] 43)).alloc (.cells #[.int .i64 3,.slice A1 vars.length c1,.slice A2 coefs.length c2,.int .i64 op,.int .i64 rhs,.slice A5 rows.length c5,.int .i64 b] 36)):=Zbi (Zbi (Below.refl _ _) _) _;have HWB:=Za.mk hwB;clear hwB hr0 hr1 hr2 hr5;unfold Zb8.f at h;rw[if_neg (fun h_=>absurd h_.2 (by omega))]at h;rw[if_neg (by decide)]at h;rw[if_neg (by decide)]at h;rw[if_neg (by decide)]at h;rw[if_pos rfl]at h;obtain⟨q1,hq1,h2_⟩:=Option.bind_eq_some_iff.1 h;clear h;have h:=h2_;clear h2_;have A_1:=Za.mk hq1;clear hq1;obtain⟨q2,hq2,h2_⟩:=Option.bind_eq_some_iff.1 h;clear h;have h:=h2_;clear h2_;have A_2:=Za.mk hq2;clear hq2;obtain rfl:=Option.some.inj h;clear h;have CP:=Za.mk (fun(w':World) (hw:Below ((w.alloc (.cells #[.slice A0 l0.length c0] 43)).alloc (.cells #[.int .i64 3,.slice A1 vars.length c1,.slice A2 coefs.length c2,.int .i64 op,.int .i64 rhs,.slice A5 rows.length c5,.int .i64 b] 36)).heap.size ((w.alloc (.cells #[.slice A0 l0.length c0] 43)).alloc (.cells #[.int .i64 3,.slice A1 vars.length c1,.slice A2 coefs.length c2,.int .i64 op,.int .i64 rhs,.slice A5 rows.length c5,.int .i64 b] 36)) w')=>Zdn.calls 3 A1 c1 vars A2 c2 coefs op rhs A5 c5 rows b q1 w' (Kd.Zac HC.out.r1 hw) hc1 (Kd.Zac HC.out.r2 hw) hc2 (Kd.Zac HC.out.r5 hw) hc5 A_1.out);have CA:=Za.mk (fun(w':World) (hw:Below ((w.alloc (.cells #[.slice A0 l0.length c0] 43)).alloc (.cells #[.int .i64 3,.slice A1 vars.length c1,.slice A2 coefs.length c2,.int .i64 op,.int .i64 rhs,.slice A5 rows.length c5,.int .i64 b] 36)).heap.size ((w.alloc (.cells #[.slice A0 l0.length c0] 43)).alloc (.cells #[.int .i64 3,.slice A1 vars.length c1,.slice A2 coefs.length c2,.int .i64 op,.int .i64 rhs,.slice A5 rows.length c5,.int .i64 b] 36)) w')=>Zdp.calls A1 c1 vars q2 w' (Kd.Zac HC.out.r1 hw) hc1 A_2.out);have BW:=Za.mk (Below.refl ((w.alloc (.cells #[.slice A0 l0.length c0] 43)).alloc (.cells #[.int .i64 3,.slice A1 vars.length c1,.slice A2 coefs.length c2,.int .i64 op,.int .i64 rhs,.slice A5 rows.length c5,.int .i64 b] 36)).heap.size ((w.alloc (.cells #[.slice A0 l0.length c0] 43)).alloc (.cells #[.int .i64 3,.slice A1 vars.length c1,.slice A2 coefs.length c2,.int .i64 op,.int .i64 rhs,.slice A5 rows.length c5,.int .i64 b] 36)));have EW:decide (0<(rows.length:Int))=false:=decide_eq_false (by omega);have hr0n_:decide (0<rows.length)=false:=decide_eq_false (by omega);clear hrow
  cases q1 with
  |false=>
    go_enter Tryz.func110,Tryz.ntmps110
    go_wp2_with (first|(go_at_call 123;go_loud (refine(CP.out _ ?hB).mono ?_;(case hB=>exact mvB BW.out);rintro e w' ⟨rfl,hb⟩;have BW1:=Za.mk (Zae (mvB BW.out) hb);clear BW hb;have BW:=BW1;clear BW1;have hx_:=HC.out.below BW.out;have ed:=hx_.ed;have k0:=hx_.k0;have k1:=hx_.k1;have k2:=hx_.k2;have k3:=hx_.k3;have k4:=hx_.k4;have k5:=hx_.k5;have k6:=hx_.k6;clear hx_))|(go_at_call 124;go_loud (refine(CA.out _ ?hB).mono ?_;(case hB=>exact mvB BW.out);rintro e w' ⟨rfl,hb⟩;have BW1:=Za.mk (Zae (mvB BW.out) hb);clear BW hb;have BW:=BW1;clear BW1;have hx_:=HC.out.below BW.out;have ed:=hx_.ed;have k0:=hx_.k0;have k1:=hx_.k1;have k2:=hx_.k2;have k3:=hx_.k3;have k4:=hx_.k4;have k5:=hx_.k5;have k6:=hx_.k6;clear hx_)))
    go_ret;exact⟨by first|rfl|(simp[*];done)|(simp[*];rfl),Zae HWB.out (mvB BW.out)⟩
  |true=>
    by_cases hq_:3≤vars.length
    · have d1len2_ : decide (3 ≤ (vars.length : Int)) = true := decide_eq_true (by omega)
      have d2len2_:decide (3≤vars.length)=true:=decide_eq_true hq_;clear hq_;go_enter Tryz.func110,Tryz.ntmps110
      go_wp2_with (first|(go_at_call 123;go_loud (refine(CP.out _ ?hB).mono ?_;(case hB=>exact mvB BW.out);rintro e w' ⟨rfl,hb⟩;have BW1:=Za.mk (Zae (mvB BW.out) hb);clear BW hb;have BW:=BW1;clear BW1;have hx_:=HC.out.below BW.out;have ed:=hx_.ed;have k0:=hx_.k0;have k1:=hx_.k1;have k2:=hx_.k2;have k3:=hx_.k3;have k4:=hx_.k4;have k5:=hx_.k5;have k6:=hx_.k6;clear hx_))|(go_at_call 124;go_loud (refine(CA.out _ ?hB).mono ?_;(case hB=>exact mvB BW.out);rintro e w' ⟨rfl,hb⟩;have BW1:=Za.mk (Zae (mvB BW.out) hb);clear BW hb;have BW:=BW1;clear BW1;have hx_:=HC.out.below BW.out;have ed:=hx_.ed;have k0:=hx_.k0;have k1:=hx_.k1;have k2:=hx_.k2;have k3:=hx_.k3;have k4:=hx_.k4;have k5:=hx_.k5;have k6:=hx_.k6;clear hx_)))
      go_ret;exact⟨by first|rfl|(simp[*];done)|(simp[*];rfl),Zae HWB.out (mvB BW.out)⟩
    have d1len2_:decide (3≤(vars.length:Int))=false:=decide_eq_false (by omega);have d2len2_:decide (3≤vars.length)=false:=decide_eq_false hq_;clear hq_;go_enter Tryz.func110,Tryz.ntmps110
    go_wp2_with (first|(go_at_call 123;go_loud (refine(CP.out _ ?hB).mono ?_;(case hB=>exact mvB BW.out);rintro e w' ⟨rfl,hb⟩;have BW1:=Za.mk (Zae (mvB BW.out) hb);clear BW hb;have BW:=BW1;clear BW1;have hx_:=HC.out.below BW.out;have ed:=hx_.ed;have k0:=hx_.k0;have k1:=hx_.k1;have k2:=hx_.k2;have k3:=hx_.k3;have k4:=hx_.k4;have k5:=hx_.k5;have k6:=hx_.k6;clear hx_))|(go_at_call 124;go_loud (refine(CA.out _ ?hB).mono ?_;(case hB=>exact mvB BW.out);rintro e w' ⟨rfl,hb⟩;have BW1:=Za.mk (Zae (mvB BW.out) hb);clear BW hb;have BW:=BW1;clear BW1;have hx_:=HC.out.below BW.out;have ed:=hx_.ed;have k0:=hx_.k0;have k1:=hx_.k1;have k2:=hx_.k2;have k3:=hx_.k3;have k4:=hx_.k4;have k5:=hx_.k5;have k6:=hx_.k6;clear hx_)))
    go_ret;exact⟨by first|rfl|(simp[*];done)|(simp[*];rfl),Zae HWB.out (mvB BW.out)⟩
set_option maxRecDepth 100000 in
theorem right_4 (k : Nat) (A0 : Option Addr) (c0 : Nat) (l0 : List (List S82)) (kd : Int) (A1 : Option Addr) (c1 : Nat) (vars : List Int) (A2 : Option Addr) (c2 : Nat) (coefs : List Int) (op rhs : Int) (A5 : Option Addr) (c5 : Nat) (rows : List (List Int)) (b : Int) (r : Bool) (w : World) (hr0 : Kd.C (Kd.slice 82 k82) w A0 l0.length l0) (hc0 : l0.length ≤ c0) (hr1 : Kd.C (Kd.int .i64) w A1 vars.length vars) (hc1 : vars.length ≤ c1) (hr2 : Kd.C (Kd.int .i64) w A2 coefs.length coefs) (hc2 : coefs.length ≤ c2) (hr5 : Kd.C (Kd.slice 3 (Kd.int .i64)) w A5 rows.length rows) (hc5 : rows.length ≤ c5) (hk : kd = 4) (hrow : rows.length = 0) (h : Zb8.f k l0 kd vars coefs op rhs rows b = some r) :
    Calls Tryz.prog 110 #[.slice A0 l0.length c0,.agg #[.int .i64 kd,.slice A1 vars.length c1,.slice A2 coefs.length c2,.int .i64 op,.int .i64 rhs,.slice A5 rows.length c5,.int .i64 b]] w fun e w'=>e= .returned (.bool r)∧Below w.heap.size w w':=by
  subst hk;have HC:=Za.mk (Zd3 A0 c0 l0 4 A1 c1 vars A2 c2 coefs op rhs A5 c5 rows b w hr0 hc0 hr1 hc1 hr2 hc2 hr5 hc5);have hwB:Below w.heap.size w ((w.alloc (.cells #[.slice A0 l0.length c0] 43)).alloc (.cells #[.int .i64 4,.slice A1 vars.length c1,.slice A2 coefs.length c2,.int .i64 op,.int .i64 rhs,.slice A5 rows.length c5,.int .i64 b] 36)):=Zbi (Zbi (Below.refl _ _) _) _;have HWB:=Za.mk hwB;clear hwB hr0 hr1 hr2 hr5;unfold Zb8.f at h;rw[if_neg (fun h_=>absurd h_.2 (by omega))]at h;rw[if_neg (by decide)]at h;rw[if_neg (by decide)]at h;rw[if_neg (by decide)]at h;rw[if_neg (by decide)]at h;rw[if_pos rfl]at h;by_cases hbr:0≤b∧b<(l0.length:Int);case neg=>rw[if_neg hbr]at h;cases h
  rw[if_pos hbr]at h;obtain⟨q1,hq1,h2_⟩:=Option.bind_eq_some_iff.1 h;clear h;have h:=h2_;clear h2_;have A_1:=Za.mk hq1;clear hq1;obtain⟨q2,hq2,h2_⟩:=Option.bind_eq_some_iff.1 h;clear h;have h:=h2_;clear h2_;have A_2:=Za.mk hq2;clear hq2;obtain⟨q3,hq3,h2_⟩:=Option.bind_eq_some_iff.1 h;clear h;have h:=h2_;clear h2_;have A_3:=Za.mk hq3;clear hq3;obtain rfl:=Option.some.inj h;clear h;obtain⟨hb0,hb1⟩:=hbr;obtain⟨ad,A6,c6,e_,hx6,hl6,hi6⟩:=Zfv HC.out.rd b hb0 hb1;subst e_;have HL:=Za.mk hl6;have HI:=Za.mk hi6;have HX:=Za.mk hx6;clear hl6 hi6 hx6;have p1_:decide (0≤b)=true:=decide_eq_true hb0;have p2_:decide (b<(l0.length:Int))=true:=decide_eq_true hb1;have CH:=Za.mk (fun(w':World) (hw:Below ((w.alloc (.cells #[.slice (some ad) l0.length c0] 43)).alloc (.cells #[.int .i64 4,.slice A1 vars.length c1,.slice A2 coefs.length c2,.int .i64 op,.int .i64 rhs,.slice A5 rows.length c5,.int .i64 b] 36)).heap.size ((w.alloc (.cells #[.slice (some ad) l0.length c0] 43)).alloc (.cells #[.int .i64 4,.slice A1 vars.length c1,.slice A2 coefs.length c2,.int .i64 op,.int .i64 rhs,.slice A5 rows.length c5,.int .i64 b] 36)) w')=>Zdk.calls k 4 A1 c1 vars A2 c2 coefs op rhs A5 c5 rows b q1 w' (Kd.Zac HC.out.r1 hw) hc1 (Kd.Zac HC.out.r2 hw) hc2 (Kd.Zac HC.out.r5 hw) hc5 A_1.out);have CT:=Za.mk (fun(w':World) (hw:Below ((w.alloc (.cells #[.slice (some ad) l0.length c0] 43)).alloc (.cells #[.int .i64 4,.slice A1 vars.length c1,.slice A2 coefs.length c2,.int .i64 op,.int .i64 rhs,.slice A5 rows.length c5,.int .i64 b] 36)).heap.size ((w.alloc (.cells #[.slice (some ad) l0.length c0] 43)).alloc (.cells #[.int .i64 4,.slice A1 vars.length c1,.slice A2 coefs.length c2,.int .i64 op,.int .i64 rhs,.slice A5 rows.length c5,.int .i64 b] 36)) w')=>Zct.calls k A6 c6 (Zdo l0 b) q2 w' (Kd.Zac HI.out hw) HL.out A_2.out);have CN:=Za.mk (fun(w':World) (hw:Below ((w.alloc (.cells #[.slice (some ad) l0.length c0] 43)).alloc (.cells #[.int .i64 4,.slice A1 vars.length c1,.slice A2 coefs.length c2,.int .i64 op,.int .i64 rhs,.slice A5 rows.length c5,.int .i64 b] 36)).heap.size ((w.alloc (.cells #[.slice (some ad) l0.length c0] 43)).alloc (.cells #[.int .i64 4,.slice A1 vars.length c1,.slice A2 coefs.length c2,.int .i64 op,.int .i64 rhs,.slice A5 rows.length c5,.int .i64 b] 36)) w')=>slices_Contains_int.calls k A1 c1 vars b q3 w' (Kd.Zac HC.out.r1 hw) hc1 A_3.out);have BW:=Za.mk (Below.refl ((w.alloc (.cells #[.slice (some ad) l0.length c0] 43)).alloc (.cells #[.int .i64 4,.slice A1 vars.length c1,.slice A2 coefs.length c2,.int .i64 op,.int .i64 rhs,.slice A5 rows.length c5,.int .i64 b] 36)).heap.size ((w.alloc (.cells #[.slice (some ad) l0.length c0] 43)).alloc (.cells #[.int .i64 4,.slice A1 vars.length c1,.slice A2 coefs.length c2,.int .i64 op,.int .i64 rhs,.slice A5 rows.length c5,.int .i64 b] 36)));have EW:decide (0<(rows.length:Int))=false:=decide_eq_false (by omega);have hr0n_:decide (0<rows.length)=false:=decide_eq_false (by omega);clear hrow
  cases q1 with
  |false=>
    go_enter Tryz.func110,Tryz.ntmps110
    go_wp2_with (first|(go_at_call 122;go_loud (refine(CH.out _ ?hB).mono ?_;(case hB=>exact mvB BW.out);rintro e w' ⟨rfl,hb⟩;have BW1:=Za.mk (Zae (mvB BW.out) hb);clear BW hb;have BW:=BW1;clear BW1;have hx_:=HC.out.below BW.out;have ed:=hx_.ed;have k0:=hx_.k0;have k1:=hx_.k1;have k2:=hx_.k2;have k3:=hx_.k3;have k4:=hx_.k4;have k5:=hx_.k5;have k6:=hx_.k6;clear hx_;have hx6:=cellB BW.out HX.out))|(go_at_call 121;go_loud (refine(CT.out _ ?hB).mono ?_;(case hB=>exact mvB BW.out);rintro e w' ⟨rfl,hb⟩;have BW1:=Za.mk (Zae (mvB BW.out) hb);clear BW hb;have BW:=BW1;clear BW1;have hx_:=HC.out.below BW.out;have ed:=hx_.ed;have k0:=hx_.k0;have k1:=hx_.k1;have k2:=hx_.k2;have k3:=hx_.k3;have k4:=hx_.k4;have k5:=hx_.k5;have k6:=hx_.k6;clear hx_;have hx6:=cellB BW.out HX.out))|(go_at_call 127;go_loud (refine(CN.out _ ?hB).mono ?_;(case hB=>exact mvB BW.out);rintro e w' ⟨rfl,⟨nd,rfl⟩⟩)))
    go_ret;exact⟨by first|rfl|(simp[*];done)|(simp[*];rfl),Zae HWB.out (mvB BW.out)⟩
  |true=>
    cases q2 with
    |false=>
      go_enter Tryz.func110,Tryz.ntmps110
      go_wp2_with (first|(go_at_call 122;go_loud (refine(CH.out _ ?hB).mono ?_;(case hB=>exact mvB BW.out);rintro e w' ⟨rfl,hb⟩;have BW1:=Za.mk (Zae (mvB BW.out) hb);clear BW hb;have BW:=BW1;clear BW1;have hx_:=HC.out.below BW.out;have ed:=hx_.ed;have k0:=hx_.k0;have k1:=hx_.k1;have k2:=hx_.k2;have k3:=hx_.k3;have k4:=hx_.k4;have k5:=hx_.k5;have k6:=hx_.k6;clear hx_;have hx6:=cellB BW.out HX.out))|(go_at_call 121;go_loud (refine(CT.out _ ?hB).mono ?_;(case hB=>exact mvB BW.out);rintro e w' ⟨rfl,hb⟩;have BW1:=Za.mk (Zae (mvB BW.out) hb);clear BW hb;have BW:=BW1;clear BW1;have hx_:=HC.out.below BW.out;have ed:=hx_.ed;have k0:=hx_.k0;have k1:=hx_.k1;have k2:=hx_.k2;have k3:=hx_.k3;have k4:=hx_.k4;have k5:=hx_.k5;have k6:=hx_.k6;clear hx_;have hx6:=cellB BW.out HX.out))|(go_at_call 127;go_loud (refine(CN.out _ ?hB).mono ?_;(case hB=>exact mvB BW.out);rintro e w' ⟨rfl,⟨nd,rfl⟩⟩)))
      go_ret;exact⟨by first|rfl|(simp[*];done)|(simp[*];rfl),Zae HWB.out (mvB BW.out)⟩
    |true=>
      go_enter Tryz.func110,Tryz.ntmps110
      go_wp2_with (first|(go_at_call 122;go_loud (refine(CH.out _ ?hB).mono ?_;(case hB=>exact mvB BW.out);rintro e w' ⟨rfl,hb⟩;have BW1:=Za.mk (Zae (mvB BW.out) hb);clear BW hb;have BW:=BW1;clear BW1;have hx_:=HC.out.below BW.out;have ed:=hx_.ed;have k0:=hx_.k0;have k1:=hx_.k1;have k2:=hx_.k2;have k3:=hx_.k3;have k4:=hx_.k4;have k5:=hx_.k5;have k6:=hx_.k6;clear hx_;have hx6:=cellB BW.out HX.out))|(go_at_call 121;go_loud (refine(CT.out _ ?hB).mono ?_;(case hB=>exact mvB BW.out);rintro e w' ⟨rfl,hb⟩;have BW1:=Za.mk (Zae (mvB BW.out) hb);clear BW hb;have BW:=BW1;clear BW1;have hx_:=HC.out.below BW.out;have ed:=hx_.ed;have k0:=hx_.k0;have k1:=hx_.k1;have k2:=hx_.k2;have k3:=hx_.k3;have k4:=hx_.k4;have k5:=hx_.k5;have k6:=hx_.k6;clear hx_;have hx6:=cellB BW.out HX.out))|(go_at_call 127;go_loud (refine(CN.out _ ?hB).mono ?_;(case hB=>exact mvB BW.out);rintro e w' ⟨rfl,⟨nd,rfl⟩⟩)))
      go_ret;exact⟨by first|rfl|(simp[*];done)|(simp[*];rfl),Zae HWB.out (mvB BW.out)⟩
set_option maxRecDepth 100000 in
theorem right_5 (k : Nat) (A0 : Option Addr) (c0 : Nat) (l0 : List (List S82)) (kd : Int) (A1 : Option Addr) (c1 : Nat) (vars : List Int) (A2 : Option Addr) (c2 : Nat) (coefs : List Int) (op rhs : Int) (A5 : Option Addr) (c5 : Nat) (rows : List (List Int)) (b : Int) (r : Bool) (w : World) (hr0 : Kd.C (Kd.slice 82 k82) w A0 l0.length l0) (hc0 : l0.length ≤ c0) (hr1 : Kd.C (Kd.int .i64) w A1 vars.length vars) (hc1 : vars.length ≤ c1) (hr2 : Kd.C (Kd.int .i64) w A2 coefs.length coefs) (hc2 : coefs.length ≤ c2) (hr5 : Kd.C (Kd.slice 3 (Kd.int .i64)) w A5 rows.length rows) (hc5 : rows.length ≤ c5) (hk : kd = 5) (hrow : rows.length = 0) (h : Zb8.f k l0 kd vars coefs op rhs rows b = some r) :
    Calls Tryz.prog 110 #[.slice A0 l0.length c0,.agg #[.int .i64 kd,.slice A1 vars.length c1,.slice A2 coefs.length c2,.int .i64 op,.int .i64 rhs,.slice A5 rows.length c5,.int .i64 b]] w fun e w'=>e= .returned (.bool r)∧Below w.heap.size w w':=by
  subst hk;have HC:=Za.mk (Zd3 A0 c0 l0 5 A1 c1 vars A2 c2 coefs op rhs A5 c5 rows b w hr0 hc0 hr1 hc1 hr2 hc2 hr5 hc5);have hwB:Below w.heap.size w ((w.alloc (.cells #[.slice A0 l0.length c0] 43)).alloc (.cells #[.int .i64 5,.slice A1 vars.length c1,.slice A2 coefs.length c2,.int .i64 op,.int .i64 rhs,.slice A5 rows.length c5,.int .i64 b] 36)):=Zbi (Zbi (Below.refl _ _) _) _;have HWB:=Za.mk hwB;clear hwB hr0 hr1 hr2 hr5;unfold Zb8.f at h;rw[if_neg (fun h_=>absurd h_.2 (by omega))]at h;rw[if_neg (by decide)]at h;rw[if_neg (by decide)]at h;rw[if_neg (by decide)]at h;rw[if_neg (by decide)]at h;rw[if_neg (by decide)]at h;rw[if_pos rfl]at h;obtain⟨q1,hq1,h2_⟩:=Option.bind_eq_some_iff.1 h;clear h;have h:=h2_;clear h2_;have A_1:=Za.mk hq1;clear hq1;obtain⟨q2,hq2,h2_⟩:=Option.bind_eq_some_iff.1 h;clear h;have h:=h2_;clear h2_;have A_2:=Za.mk hq2;clear hq2;obtain rfl:=Option.some.inj h;clear h;have CS:=Za.mk (fun(w':World) (hw:Below ((w.alloc (.cells #[.slice A0 l0.length c0] 43)).alloc (.cells #[.int .i64 5,.slice A1 vars.length c1,.slice A2 coefs.length c2,.int .i64 op,.int .i64 rhs,.slice A5 rows.length c5,.int .i64 b] 36)).heap.size ((w.alloc (.cells #[.slice A0 l0.length c0] 43)).alloc (.cells #[.int .i64 5,.slice A1 vars.length c1,.slice A2 coefs.length c2,.int .i64 op,.int .i64 rhs,.slice A5 rows.length c5,.int .i64 b] 36)) w')=>Zdi.calls k 5 A1 c1 vars A2 c2 coefs op rhs A5 c5 rows b q1 w' (Kd.Zac HC.out.r1 hw) hc1 (Kd.Zac HC.out.r2 hw) hc2 (Kd.Zac HC.out.r5 hw) hc5 A_1.out);have CO:=Za.mk (fun(w':World) (hw:Below ((w.alloc (.cells #[.slice A0 l0.length c0] 43)).alloc (.cells #[.int .i64 5,.slice A1 vars.length c1,.slice A2 coefs.length c2,.int .i64 op,.int .i64 rhs,.slice A5 rows.length c5,.int .i64 b] 36)).heap.size ((w.alloc (.cells #[.slice A0 l0.length c0] 43)).alloc (.cells #[.int .i64 5,.slice A1 vars.length c1,.slice A2 coefs.length c2,.int .i64 op,.int .i64 rhs,.slice A5 rows.length c5,.int .i64 b] 36)) w')=>Zeu oddU 128 #[] (enters_of Tryz.func128 (by kernel_rfl) rfl) A2 c2 coefs w' (Kd.Zac HC.out.r2 hw) (fun k _ q=>oddPred _ _));have CZ:=Za.mk (fun(w':World) (hw:Below ((w.alloc (.cells #[.slice A0 l0.length c0] 43)).alloc (.cells #[.int .i64 5,.slice A1 vars.length c1,.slice A2 coefs.length c2,.int .i64 op,.int .i64 rhs,.slice A5 rows.length c5,.int .i64 b] 36)).heap.size ((w.alloc (.cells #[.slice A0 l0.length c0] 43)).alloc (.cells #[.int .i64 5,.slice A1 vars.length c1,.slice A2 coefs.length c2,.int .i64 op,.int .i64 rhs,.slice A5 rows.length c5,.int .i64 b] 36)) w')=>truths_calls k w' (HC.out.below hw) A1 c1 vars q2 (Kd.Zac HC.out.r1 hw) hc1 A_2.out)
  generalize coefs.any oddU=q4 at CO ⊢
  generalize (q2.all fun t=>t)=q5 at CZ ⊢
  have BW:=Za.mk (Below.refl ((w.alloc (.cells #[.slice A0 l0.length c0] 43)).alloc (.cells #[.int .i64 5,.slice A1 vars.length c1,.slice A2 coefs.length c2,.int .i64 op,.int .i64 rhs,.slice A5 rows.length c5,.int .i64 b] 36)).heap.size ((w.alloc (.cells #[.slice A0 l0.length c0] 43)).alloc (.cells #[.int .i64 5,.slice A1 vars.length c1,.slice A2 coefs.length c2,.int .i64 op,.int .i64 rhs,.slice A5 rows.length c5,.int .i64 b] 36)));have EW:decide (0<(rows.length:Int))=false:=decide_eq_false (by omega);have hr0n_:decide (0<rows.length)=false:=decide_eq_false (by omega);clear hrow
  cases q1 with
  |false=>
    go_enter Tryz.func110,Tryz.ntmps110
    go_wp2_with (first|(go_at_call 129;go_loud (refine(CS.out _ ?hB).mono ?_;(case hB=>exact mvB BW.out);rintro e w' ⟨rfl,hb⟩;have BW1:=Za.mk (Zae (mvB BW.out) hb);clear BW hb;have BW:=BW1;clear BW1;have hx_:=HC.out.below BW.out;have ed:=hx_.ed;have k0:=hx_.k0;have k1:=hx_.k1;have k2:=hx_.k2;have k3:=hx_.k3;have k4:=hx_.k4;have k5:=hx_.k5;have k6:=hx_.k6;clear hx_))|(go_at_call 109;go_loud (refine(CO.out _ ?hB).mono ?_;(case hB=>exact mvB BW.out);rintro e w' ⟨rfl,nd,rfl⟩))|(go_at_fn 119;go_loud (refine(CZ.out _ ?hB).mono ?_;(case hB=>exact mvB BW.out);rintro e w' ⟨rfl,hb⟩;have BW1:=Za.mk (Zae (mvB BW.out) hb);clear BW hb;have BW:=BW1;clear BW1;have hx_:=HC.out.below BW.out;have ed:=hx_.ed;have k0:=hx_.k0;have k1:=hx_.k1;have k2:=hx_.k2;have k3:=hx_.k3;have k4:=hx_.k4;have k5:=hx_.k5;have k6:=hx_.k6;clear hx_)))
    go_ret;exact⟨by first|rfl|(simp[*];done)|(simp[*];rfl),Zae HWB.out (mvB BW.out)⟩
  |true=>
    by_cases hq_:op=0;rotate_left
    · have d_ : decide (op = 0) = false := decide_eq_false hq_
      have d2_:(op==0)=false:=beq_eq_false_iff_ne.2 hq_;clear hq_;go_enter Tryz.func110,Tryz.ntmps110
      go_wp2_with (first|(go_at_call 129;go_loud (refine(CS.out _ ?hB).mono ?_;(case hB=>exact mvB BW.out);rintro e w' ⟨rfl,hb⟩;have BW1:=Za.mk (Zae (mvB BW.out) hb);clear BW hb;have BW:=BW1;clear BW1;have hx_:=HC.out.below BW.out;have ed:=hx_.ed;have k0:=hx_.k0;have k1:=hx_.k1;have k2:=hx_.k2;have k3:=hx_.k3;have k4:=hx_.k4;have k5:=hx_.k5;have k6:=hx_.k6;clear hx_))|(go_at_call 109;go_loud (refine(CO.out _ ?hB).mono ?_;(case hB=>exact mvB BW.out);rintro e w' ⟨rfl,nd,rfl⟩))|(go_at_fn 119;go_loud (refine(CZ.out _ ?hB).mono ?_;(case hB=>exact mvB BW.out);rintro e w' ⟨rfl,hb⟩;have BW1:=Za.mk (Zae (mvB BW.out) hb);clear BW hb;have BW:=BW1;clear BW1;have hx_:=HC.out.below BW.out;have ed:=hx_.ed;have k0:=hx_.k0;have k1:=hx_.k1;have k2:=hx_.k2;have k3:=hx_.k3;have k4:=hx_.k4;have k5:=hx_.k5;have k6:=hx_.k6;clear hx_)))
      go_ret;exact⟨by first|rfl|(simp[*];done)|(simp[*];rfl),Zae HWB.out (mvB BW.out)⟩
    subst hq_;by_cases hq_:rhs=0;rotate_left
    · have d_ : decide (rhs = 0) = false := decide_eq_false hq_
      have d2_:(rhs==0)=false:=beq_eq_false_iff_ne.2 hq_;clear hq_;go_enter Tryz.func110,Tryz.ntmps110
      go_wp2_with (first|(go_at_call 129;go_loud (refine(CS.out _ ?hB).mono ?_;(case hB=>exact mvB BW.out);rintro e w' ⟨rfl,hb⟩;have BW1:=Za.mk (Zae (mvB BW.out) hb);clear BW hb;have BW:=BW1;clear BW1;have hx_:=HC.out.below BW.out;have ed:=hx_.ed;have k0:=hx_.k0;have k1:=hx_.k1;have k2:=hx_.k2;have k3:=hx_.k3;have k4:=hx_.k4;have k5:=hx_.k5;have k6:=hx_.k6;clear hx_))|(go_at_call 109;go_loud (refine(CO.out _ ?hB).mono ?_;(case hB=>exact mvB BW.out);rintro e w' ⟨rfl,nd,rfl⟩))|(go_at_fn 119;go_loud (refine(CZ.out _ ?hB).mono ?_;(case hB=>exact mvB BW.out);rintro e w' ⟨rfl,hb⟩;have BW1:=Za.mk (Zae (mvB BW.out) hb);clear BW hb;have BW:=BW1;clear BW1;have hx_:=HC.out.below BW.out;have ed:=hx_.ed;have k0:=hx_.k0;have k1:=hx_.k1;have k2:=hx_.k2;have k3:=hx_.k3;have k4:=hx_.k4;have k5:=hx_.k5;have k6:=hx_.k6;clear hx_)))
      go_ret;exact⟨by first|rfl|(simp[*];done)|(simp[*];rfl),Zae HWB.out (mvB BW.out)⟩
    subst hq_;by_cases hq_:b=0;rotate_left
    · have d_ : decide (b = 0) = false := decide_eq_false hq_
      have d2_:(b==0)=false:=beq_eq_false_iff_ne.2 hq_;clear hq_;go_enter Tryz.func110,Tryz.ntmps110
      go_wp2_with (first|(go_at_call 129;go_loud (refine(CS.out _ ?hB).mono ?_;(case hB=>exact mvB BW.out);rintro e w' ⟨rfl,hb⟩;have BW1:=Za.mk (Zae (mvB BW.out) hb);clear BW hb;have BW:=BW1;clear BW1;have hx_:=HC.out.below BW.out;have ed:=hx_.ed;have k0:=hx_.k0;have k1:=hx_.k1;have k2:=hx_.k2;have k3:=hx_.k3;have k4:=hx_.k4;have k5:=hx_.k5;have k6:=hx_.k6;clear hx_))|(go_at_call 109;go_loud (refine(CO.out _ ?hB).mono ?_;(case hB=>exact mvB BW.out);rintro e w' ⟨rfl,nd,rfl⟩))|(go_at_fn 119;go_loud (refine(CZ.out _ ?hB).mono ?_;(case hB=>exact mvB BW.out);rintro e w' ⟨rfl,hb⟩;have BW1:=Za.mk (Zae (mvB BW.out) hb);clear BW hb;have BW:=BW1;clear BW1;have hx_:=HC.out.below BW.out;have ed:=hx_.ed;have k0:=hx_.k0;have k1:=hx_.k1;have k2:=hx_.k2;have k3:=hx_.k3;have k4:=hx_.k4;have k5:=hx_.k5;have k6:=hx_.k6;clear hx_)))
      go_ret;exact⟨by first|rfl|(simp[*];done)|(simp[*];rfl),Zae HWB.out (mvB BW.out)⟩
    subst hq_
    cases q4 with
    |false=>
      go_enter Tryz.func110,Tryz.ntmps110
      go_wp2_with (first|(go_at_call 129;go_loud (refine(CS.out _ ?hB).mono ?_;(case hB=>exact mvB BW.out);rintro e w' ⟨rfl,hb⟩;have BW1:=Za.mk (Zae (mvB BW.out) hb);clear BW hb;have BW:=BW1;clear BW1;have hx_:=HC.out.below BW.out;have ed:=hx_.ed;have k0:=hx_.k0;have k1:=hx_.k1;have k2:=hx_.k2;have k3:=hx_.k3;have k4:=hx_.k4;have k5:=hx_.k5;have k6:=hx_.k6;clear hx_))|(go_at_call 109;go_loud (refine(CO.out _ ?hB).mono ?_;(case hB=>exact mvB BW.out);rintro e w' ⟨rfl,nd,rfl⟩))|(go_at_fn 119;go_loud (refine(CZ.out _ ?hB).mono ?_;(case hB=>exact mvB BW.out);rintro e w' ⟨rfl,hb⟩;have BW1:=Za.mk (Zae (mvB BW.out) hb);clear BW hb;have BW:=BW1;clear BW1;have hx_:=HC.out.below BW.out;have ed:=hx_.ed;have k0:=hx_.k0;have k1:=hx_.k1;have k2:=hx_.k2;have k3:=hx_.k3;have k4:=hx_.k4;have k5:=hx_.k5;have k6:=hx_.k6;clear hx_)))
      refine(CZ.out _ ?hB).mono ?_;case hB=>exact mvB BW.out
      rintro e w' ⟨rfl,hb⟩;have BW1:=Za.mk (Zae (mvB BW.out) hb);clear BW hb;have BW:=BW1;clear BW1;have hx_:=HC.out.below BW.out;have ed:=hx_.ed;have k0:=hx_.k0;have k1:=hx_.k1;have k2:=hx_.k2;have k3:=hx_.k3;have k4:=hx_.k4;have k5:=hx_.k5;have k6:=hx_.k6;clear hx_;go_wp2;go_ret;exact⟨by first|rfl|(simp[*];done)|(simp[*];rfl),Zae HWB.out (mvB BW.out)⟩
    |true=>
      go_enter Tryz.func110,Tryz.ntmps110
      go_wp2_with (first|(go_at_call 129;go_loud (refine(CS.out _ ?hB).mono ?_;(case hB=>exact mvB BW.out);rintro e w' ⟨rfl,hb⟩;have BW1:=Za.mk (Zae (mvB BW.out) hb);clear BW hb;have BW:=BW1;clear BW1;have hx_:=HC.out.below BW.out;have ed:=hx_.ed;have k0:=hx_.k0;have k1:=hx_.k1;have k2:=hx_.k2;have k3:=hx_.k3;have k4:=hx_.k4;have k5:=hx_.k5;have k6:=hx_.k6;clear hx_))|(go_at_call 109;go_loud (refine(CO.out _ ?hB).mono ?_;(case hB=>exact mvB BW.out);rintro e w' ⟨rfl,nd,rfl⟩))|(go_at_fn 119;go_loud (refine(CZ.out _ ?hB).mono ?_;(case hB=>exact mvB BW.out);rintro e w' ⟨rfl,hb⟩;have BW1:=Za.mk (Zae (mvB BW.out) hb);clear BW hb;have BW:=BW1;clear BW1;have hx_:=HC.out.below BW.out;have ed:=hx_.ed;have k0:=hx_.k0;have k1:=hx_.k1;have k2:=hx_.k2;have k3:=hx_.k3;have k4:=hx_.k4;have k5:=hx_.k5;have k6:=hx_.k6;clear hx_)))
      go_ret;exact⟨by first|rfl|(simp[*];done)|(simp[*];rfl),Zae HWB.out (mvB BW.out)⟩
set_option maxRecDepth 100000 in
theorem right_6 (k : Nat) (A0 : Option Addr) (c0 : Nat) (l0 : List (List S82)) (kd : Int) (A1 : Option Addr) (c1 : Nat) (vars : List Int) (A2 : Option Addr) (c2 : Nat) (coefs : List Int) (op rhs : Int) (A5 : Option Addr) (c5 : Nat) (rows : List (List Int)) (b : Int) (r : Bool) (w : World) (hr0 : Kd.C (Kd.slice 82 k82) w A0 l0.length l0) (hc0 : l0.length ≤ c0) (hr1 : Kd.C (Kd.int .i64) w A1 vars.length vars) (hc1 : vars.length ≤ c1) (hr2 : Kd.C (Kd.int .i64) w A2 coefs.length coefs) (hc2 : coefs.length ≤ c2) (hr5 : Kd.C (Kd.slice 3 (Kd.int .i64)) w A5 rows.length rows) (hc5 : rows.length ≤ c5) (hk : kd ≠ 0 ∧ kd ≠ 1 ∧ kd ≠ 2 ∧ kd ≠ 3 ∧ kd ≠ 4 ∧ kd ≠ 5) (hrow : rows.length = 0) (h : Zb8.f k l0 kd vars coefs op rhs rows b = some r) :
    Calls Tryz.prog 110 #[.slice A0 l0.length c0,.agg #[.int .i64 kd,.slice A1 vars.length c1,.slice A2 coefs.length c2,.int .i64 op,.int .i64 rhs,.slice A5 rows.length c5,.int .i64 b]] w fun e w'=>e= .returned (.bool r)∧Below w.heap.size w w':=by
  have HC:=Za.mk (Zd3 A0 c0 l0 kd A1 c1 vars A2 c2 coefs op rhs A5 c5 rows b w hr0 hc0 hr1 hc1 hr2 hc2 hr5 hc5);have hwB:Below w.heap.size w ((w.alloc (.cells #[.slice A0 l0.length c0] 43)).alloc (.cells #[.int .i64 kd,.slice A1 vars.length c1,.slice A2 coefs.length c2,.int .i64 op,.int .i64 rhs,.slice A5 rows.length c5,.int .i64 b] 36)):=Zbi (Zbi (Below.refl _ _) _) _;have HWB:=Za.mk hwB;clear hwB hr0 hr1 hr2 hr5;unfold Zb8.f at h;rw[if_neg (fun h_=>absurd h_.2 (by omega))]at h;obtain⟨n0_,n1_,n2_,n3_,n4_,n5_⟩:=hk;rw[if_neg n0_,if_neg n1_,if_neg n2_,if_neg n3_,if_neg n4_,if_neg n5_]at h;have e0_:(kd==0)=false:=beq_eq_false_iff_ne.2 n0_;have f0_:decide (kd=0)=false:=decide_eq_false n0_;have e1_:(kd==1)=false:=beq_eq_false_iff_ne.2 n1_;have f1_:decide (kd=1)=false:=decide_eq_false n1_;have e2_:(kd==2)=false:=beq_eq_false_iff_ne.2 n2_;have f2_:decide (kd=2)=false:=decide_eq_false n2_;have e3_:(kd==3)=false:=beq_eq_false_iff_ne.2 n3_;have f3_:decide (kd=3)=false:=decide_eq_false n3_;have e4_:(kd==4)=false:=beq_eq_false_iff_ne.2 n4_;have f4_:decide (kd=4)=false:=decide_eq_false n4_;have e5_:(kd==5)=false:=beq_eq_false_iff_ne.2 n5_;have f5_:decide (kd=5)=false:=decide_eq_false n5_;have g2_:(kd !=2)=true:=by simpa using n2_
  obtain⟨q1,hq1,h2_⟩:=Option.bind_eq_some_iff.1 h;clear h;have h:=h2_;clear h2_;have A_1:=Za.mk hq1;clear hq1;obtain rfl:=Option.some.inj h;clear h;have CP:=Za.mk (fun(w':World) (hw:Below ((w.alloc (.cells #[.slice A0 l0.length c0] 43)).alloc (.cells #[.int .i64 kd,.slice A1 vars.length c1,.slice A2 coefs.length c2,.int .i64 op,.int .i64 rhs,.slice A5 rows.length c5,.int .i64 b] 36)).heap.size ((w.alloc (.cells #[.slice A0 l0.length c0] 43)).alloc (.cells #[.int .i64 kd,.slice A1 vars.length c1,.slice A2 coefs.length c2,.int .i64 op,.int .i64 rhs,.slice A5 rows.length c5,.int .i64 b] 36)) w')=>Zdn.calls kd A1 c1 vars A2 c2 coefs op rhs A5 c5 rows b q1 w' (Kd.Zac HC.out.r1 hw) hc1 (Kd.Zac HC.out.r2 hw) hc2 (Kd.Zac HC.out.r5 hw) hc5 A_1.out);have BW:=Za.mk (Below.refl ((w.alloc (.cells #[.slice A0 l0.length c0] 43)).alloc (.cells #[.int .i64 kd,.slice A1 vars.length c1,.slice A2 coefs.length c2,.int .i64 op,.int .i64 rhs,.slice A5 rows.length c5,.int .i64 b] 36)).heap.size ((w.alloc (.cells #[.slice A0 l0.length c0] 43)).alloc (.cells #[.int .i64 kd,.slice A1 vars.length c1,.slice A2 coefs.length c2,.int .i64 op,.int .i64 rhs,.slice A5 rows.length c5,.int .i64 b] 36)));have EW:decide (0<(rows.length:Int))=false:=decide_eq_false (by omega);have hr0n_:decide (0<rows.length)=false:=decide_eq_false (by omega);clear hrow
  cases q1 with
  |false=>
    go_enter Tryz.func110,Tryz.ntmps110
    go_wp2_with (first|(go_at_call 123;go_loud (refine(CP.out _ ?hB).mono ?_;(case hB=>exact mvB BW.out);rintro e w' ⟨rfl,hb⟩;have BW1:=Za.mk (Zae (mvB BW.out) hb);clear BW hb;have BW:=BW1;clear BW1;have hx_:=HC.out.below BW.out;have ed:=hx_.ed;have k0:=hx_.k0;have k1:=hx_.k1;have k2:=hx_.k2;have k3:=hx_.k3;have k4:=hx_.k4;have k5:=hx_.k5;have k6:=hx_.k6;clear hx_)))
    go_ret;exact⟨by first|rfl|(simp[*];done)|(simp[*];rfl),Zae HWB.out (mvB BW.out)⟩
  |true=>
    by_cases hq_:2≤vars.length
    · have d1len3_ : decide (2 ≤ (vars.length : Int)) = true := decide_eq_true (by omega)
      have d2len3_:decide (2≤vars.length)=true:=decide_eq_true hq_;clear hq_;go_enter Tryz.func110,Tryz.ntmps110
      go_wp2_with (first|(go_at_call 123;go_loud (refine(CP.out _ ?hB).mono ?_;(case hB=>exact mvB BW.out);rintro e w' ⟨rfl,hb⟩;have BW1:=Za.mk (Zae (mvB BW.out) hb);clear BW hb;have BW:=BW1;clear BW1;have hx_:=HC.out.below BW.out;have ed:=hx_.ed;have k0:=hx_.k0;have k1:=hx_.k1;have k2:=hx_.k2;have k3:=hx_.k3;have k4:=hx_.k4;have k5:=hx_.k5;have k6:=hx_.k6;clear hx_)))
      go_ret;exact⟨by first|rfl|(simp[*];done)|(simp[*];rfl),Zae HWB.out (mvB BW.out)⟩
    have d1len3_:decide (2≤(vars.length:Int))=false:=decide_eq_false (by omega);have d2len3_:decide (2≤vars.length)=false:=decide_eq_false hq_;clear hq_;go_enter Tryz.func110,Tryz.ntmps110
    go_wp2_with (first|(go_at_call 123;go_loud (refine(CP.out _ ?hB).mono ?_;(case hB=>exact mvB BW.out);rintro e w' ⟨rfl,hb⟩;have BW1:=Za.mk (Zae (mvB BW.out) hb);clear BW hb;have BW:=BW1;clear BW1;have hx_:=HC.out.below BW.out;have ed:=hx_.ed;have k0:=hx_.k0;have k1:=hx_.k1;have k2:=hx_.k2;have k3:=hx_.k3;have k4:=hx_.k4;have k5:=hx_.k5;have k6:=hx_.k6;clear hx_)))
    go_ret;exact⟨by first|rfl|(simp[*];done)|(simp[*];rfl),Zae HWB.out (mvB BW.out)⟩
set_option maxRecDepth 100000 in
theorem right_none (A0 : Option Addr) (c0 : Nat) (l0 : List (List S82)) (kd : Int) (A1 : Option Addr) (c1 : Nat) (vars : List Int) (A2 : Option Addr) (c2 : Nat) (coefs : List Int) (op rhs : Int) (A5 : Option Addr) (c5 : Nat) (rows : List (List Int)) (b : Int) (w : World) (hk : kd ≠ 2) (hrow : 0 < rows.length) :
    Calls Tryz.prog 110 #[.slice A0 l0.length c0,.agg #[.int .i64 kd,.slice A1 vars.length c1,.slice A2 coefs.length c2,.int .i64 op,.int .i64 rhs,.slice A5 rows.length c5,.int .i64 b]] w fun e w'=>e= .returned (.bool false)∧Below w.heap.size w w':=by
  have hwB:Below w.heap.size w ((w.alloc (.cells #[.slice A0 l0.length c0] 43)).alloc (.cells #[.int .i64 kd,.slice A1 vars.length c1,.slice A2 coefs.length c2,.int .i64 op,.int .i64 rhs,.slice A5 rows.length c5,.int .i64 b] 36)):=Zbi (Zbi (Below.refl _ _) _) _;have HWB:=Za.mk hwB;clear hwB;have e2_:(kd==2)=false:=beq_eq_false_iff_ne.2 hk;have f2_:decide (kd=2)=false:=decide_eq_false hk;have g2_:(kd !=2)=true:=by simpa using hk
  have EW:decide (0<(rows.length:Int))=true:=decide_eq_true (by omega);have hr0n_:decide (0<rows.length)=true:=decide_eq_true (by omega);clear hrow hk;go_enter Tryz.func110,Tryz.ntmps110;go_wp2;go_ret;exact⟨by first|rfl|(simp[*];done),HWB.out⟩
theorem Zb8.calls (k : Nat) (A0 : Option Addr) (c0 : Nat) (l0 : List (List S82)) (kd : Int) (A1 : Option Addr) (c1 : Nat) (vars : List Int) (A2 : Option Addr) (c2 : Nat) (coefs : List Int) (op rhs : Int) (A5 : Option Addr) (c5 : Nat) (rows : List (List Int)) (b : Int) (r : Bool) (w : World) (hr0 : Kd.C (Kd.slice 82 k82) w A0 l0.length l0) (hc0 : l0.length ≤ c0) (hr1 : Kd.C (Kd.int .i64) w A1 vars.length vars) (hc1 : vars.length ≤ c1) (hr2 : Kd.C (Kd.int .i64) w A2 coefs.length coefs) (hc2 : coefs.length ≤ c2) (hr5 : Kd.C (Kd.slice 3 (Kd.int .i64)) w A5 rows.length rows) (hc5 : rows.length ≤ c5) (h : Zb8.f k l0 kd vars coefs op rhs rows b = some r) :
    Calls Tryz.prog 110 #[.slice A0 l0.length c0,.agg #[.int .i64 kd,.slice A1 vars.length c1,.slice A2 coefs.length c2,.int .i64 op,.int .i64 rhs,.slice A5 rows.length c5,.int .i64 b]] w fun e w'=>e= .returned (.bool r)∧Below w.heap.size w w':=by
  by_cases h2:kd≠2∧0<rows.length
  · have h' := h
    unfold Zb8.f at h';rw[if_pos h2]at h';obtain rfl:=Option.some.inj h';exact right_none A0 c0 l0 kd A1 c1 vars A2 c2 coefs op rhs A5 c5 rows b w h2.1 h2.2
  have hrow:kd≠2→rows.length=0:=fun h_=>by
    have:=fun h3=>h2 ⟨h_,h3⟩
    omega
  by_cases k0:kd=0
  · exact right_0 k A0 c0 l0 kd A1 c1 vars A2 c2 coefs op rhs A5 c5 rows b r w hr0 hc0 hr1 hc1 hr2 hc2 hr5 hc5 k0 (hrow (by omega)) h
  by_cases k1:kd=1
  · exact right_1 k A0 c0 l0 kd A1 c1 vars A2 c2 coefs op rhs A5 c5 rows b r w hr0 hc0 hr1 hc1 hr2 hc2 hr5 hc5 k1 (hrow (by omega)) h
  by_cases k2:kd=2
  · exact right_2 k A0 c0 l0 kd A1 c1 vars A2 c2 coefs op rhs A5 c5 rows b r w hr0 hc0 hr1 hc1 hr2 hc2 hr5 hc5 k2 trivial h
  by_cases k3:kd=3
  · exact right_3 k A0 c0 l0 kd A1 c1 vars A2 c2 coefs op rhs A5 c5 rows b r w hr0 hc0 hr1 hc1 hr2 hc2 hr5 hc5 k3 (hrow (by omega)) h
  by_cases k4:kd=4
  · exact right_4 k A0 c0 l0 kd A1 c1 vars A2 c2 coefs op rhs A5 c5 rows b r w hr0 hc0 hr1 hc1 hr2 hc2 hr5 hc5 k4 (hrow (by omega)) h
  by_cases k5:kd=5
  · exact right_5 k A0 c0 l0 kd A1 c1 vars A2 c2 coefs op rhs A5 c5 rows b r w hr0 hc0 hr1 hc1 hr2 hc2 hr5 hc5 k5 (hrow (by omega)) h
  exact right_6 k A0 c0 l0 kd A1 c1 vars A2 c2 coefs op rhs A5 c5 rows b r w hr0 hc0 hr1 hc1 hr2 hc2 hr5 hc5 ⟨k0,k1,k2,k3,k4,k5⟩ (hrow (by omega)) h
theorem Zb8.mono:∀a0 a1 a2 a3 a4 a5 a6 a7 k,LeO (Zb8.f k a0 a1 a2 a3 a4 a5 a6 a7) (Zb8.f (k+1) a0 a1 a2 a3 a4 a5 a6 a7):=by
  intro a0 a1 a2 a3 a4 a5 a6 a7 k;unfold Zb8.f;exact LeO.ite (LeO.refl _) (LeO.ite (LeO.bind (Zdk.mono _ _ _ _ _ _ _ _) (fun _=>LeO.refl _)) (LeO.ite (LeO.refl _) (LeO.ite (LeO.refl _) (LeO.ite (LeO.refl _) (LeO.ite (LeO.ite (LeO.bind (Zdk.mono _ _ _ _ _ _ _ _) (fun _=>LeO.bind (Zct.mono _ _) (fun _=>LeO.bind (slices_Contains_int.mono _ _ _) (fun _=>LeO.refl _)))) (LeO.refl _)) (LeO.ite (LeO.bind (Zdi.mono _ _ _ _ _ _ _ _) (fun _=>LeO.bind (Zgp _ _ _) (fun _=>LeO.refl _))) (LeO.refl _)))))))
end Go.Proofs.YtdpieallpbllkaaGreat.P
/- model.Con: may a constraint be? -/
namespace Go.Proofs.YtdpieallpbllkaaGreat.P
open Go.RowKit Go.Shelf Go.Proofs.YtdpieallpbllkaaGreatW.PrintWords Go.Proofs.YtdpieallpbllkaaGreatW.PrintLast Go.Proofs.YtdpieallpbllkaaGreatW.PrintMore
def Zc3.f (k:Nat) (l0:List (List S82)) (kd:Int) (vars coefs:List Int) (op rhs:Int) (rows:List (List Int)) (b:Int):Option Int:=
  if kd<0∨7≤kd then some 44
  else if vars.any (awayV l0.length)=true then some 43
  else if kd=4∧awayV l0.length b=true then some 43
  else(Zb8.f k l0 kd vars coefs op rhs rows b).bind fun r=>if r=false then some 44 else(Zcf.f k coefs rhs).bind fun g=>some (if g=true then 45 else 0)
theorem Zc3.mono:∀a0 a1 a2 a3 a4 a5 a6 a7 k,LeO (Zc3.f k a0 a1 a2 a3 a4 a5 a6 a7) (Zc3.f (k+1) a0 a1 a2 a3 a4 a5 a6 a7):=by
  intro a0 a1 a2 a3 a4 a5 a6 a7 k;unfold Zc3.f;exact LeO.ite (LeO.refl _) (LeO.ite (LeO.refl _) (LeO.ite (LeO.refl _) (LeO.bind (Zb8.mono _ _ _ _ _ _ _ _ _) (fun _=>LeO.ite (LeO.refl _) (LeO.bind (Zcf.mono _ _ _) (fun _=>LeO.refl _))))))
set_option maxRecDepth 100000 in
theorem Zc3.calls (k : Nat) (A0 : Option Addr) (c0 : Nat) (l0 : List (List S82)) (kd : Int) (A1 : Option Addr) (c1 : Nat) (vars : List Int) (A2 : Option Addr) (c2 : Nat) (coefs : List Int) (op rhs : Int) (A5 : Option Addr) (c5 : Nat) (rows : List (List Int)) (b : Int) (r : Int) (w : World) (hr0 : Kd.C (Kd.slice 82 k82) w A0 l0.length l0) (hc0 : l0.length ≤ c0) (hr1 : Kd.C (Kd.int .i64) w A1 vars.length vars) (hc1 : vars.length ≤ c1) (hr2 : Kd.C (Kd.int .i64) w A2 coefs.length coefs) (hc2 : coefs.length ≤ c2) (hr5 : Kd.C (Kd.slice 3 (Kd.int .i64)) w A5 rows.length rows) (hc5 : rows.length ≤ c5) (h : Zc3.f k l0 kd vars coefs op rhs rows b = some r) :
    Calls Tryz.prog 79 #[.slice A0 l0.length c0,.agg #[.int .i64 kd,.slice A1 vars.length c1,.slice A2 coefs.length c2,.int .i64 op,.int .i64 rhs,.slice A5 rows.length c5,.int .i64 b]] w fun e w'=>e= .returned (.int .i64 r)∧Below w.heap.size w w':=by
  have HC:=Za.mk (Zd3 A0 c0 l0 kd A1 c1 vars A2 c2 coefs op rhs A5 c5 rows b w hr0 hc0 hr1 hc1 hr2 hc2 hr5 hc5);have hwB:Below w.heap.size w ((w.alloc (.cells #[.slice A0 l0.length c0] 43)).alloc (.cells #[.int .i64 kd,.slice A1 vars.length c1,.slice A2 coefs.length c2,.int .i64 op,.int .i64 rhs,.slice A5 rows.length c5,.int .i64 b] 36)):=Zbi (Zbi (Below.refl _ _) _) _;have HWB:=Za.mk hwB;clear hwB hr0 hr1 hr2 hr5;have CC:=Za.mk (fun(w':World) (hw:Below ((w.alloc (.cells #[.slice A0 l0.length c0] 43)).alloc (.cells #[.int .i64 kd,.slice A1 vars.length c1,.slice A2 coefs.length c2,.int .i64 op,.int .i64 rhs,.slice A5 rows.length c5,.int .i64 b] 36)).heap.size ((w.alloc (.cells #[.slice A0 l0.length c0] 43)).alloc (.cells #[.int .i64 kd,.slice A1 vars.length c1,.slice A2 coefs.length c2,.int .i64 op,.int .i64 rhs,.slice A5 rows.length c5,.int .i64 b] 36)) w')=>Zeu (awayV l0.length) 108 #[.pointer (some ⟨w.heap.size,0,none⟩)] (enters_of Tryz.func108 (by kernel_rfl) rfl) A1 c1 vars w' (Kd.Zac HC.out.r1 hw) (fun k _ q=>awayPred _ _ A0 l0.length c0 _ ((HC.out.below (Zae hw (Zcb (Below.refl _ _) q))).ed)));have CB:=Za.mk (fun(w':World) (hw:Below ((w.alloc (.cells #[.slice A0 l0.length c0] 43)).alloc (.cells #[.int .i64 kd,.slice A1 vars.length c1,.slice A2 coefs.length c2,.int .i64 op,.int .i64 rhs,.slice A5 rows.length c5,.int .i64 b] 36)).heap.size ((w.alloc (.cells #[.slice A0 l0.length c0] 43)).alloc (.cells #[.int .i64 kd,.slice A1 vars.length c1,.slice A2 coefs.length c2,.int .i64 op,.int .i64 rhs,.slice A5 rows.length c5,.int .i64 b] 36)) w')=>awayPred b w.heap.size A0 l0.length c0 w' ((HC.out.below hw).ed));have CR:=Za.mk (fun(w':World) (hw:Below ((w.alloc (.cells #[.slice A0 l0.length c0] 43)).alloc (.cells #[.int .i64 kd,.slice A1 vars.length c1,.slice A2 coefs.length c2,.int .i64 op,.int .i64 rhs,.slice A5 rows.length c5,.int .i64 b] 36)).heap.size ((w.alloc (.cells #[.slice A0 l0.length c0] 43)).alloc (.cells #[.int .i64 kd,.slice A1 vars.length c1,.slice A2 coefs.length c2,.int .i64 op,.int .i64 rhs,.slice A5 rows.length c5,.int .i64 b] 36)) w') (q:Bool) (hq:Zb8.f k l0 kd vars coefs op rhs rows b=some q)=>Zb8.calls k A0 c0 l0 kd A1 c1 vars A2 c2 coefs op rhs A5 c5 rows b q w' (Kd.Zac HC.out.rd hw) hc0 (Kd.Zac HC.out.r1 hw) hc1 (Kd.Zac HC.out.r2 hw) hc2 (Kd.Zac HC.out.r5 hw) hc5 hq);have CG:=Za.mk (fun(w':World) (hw:Below ((w.alloc (.cells #[.slice A0 l0.length c0] 43)).alloc (.cells #[.int .i64 kd,.slice A1 vars.length c1,.slice A2 coefs.length c2,.int .i64 op,.int .i64 rhs,.slice A5 rows.length c5,.int .i64 b] 36)).heap.size ((w.alloc (.cells #[.slice A0 l0.length c0] 43)).alloc (.cells #[.int .i64 kd,.slice A1 vars.length c1,.slice A2 coefs.length c2,.int .i64 op,.int .i64 rhs,.slice A5 rows.length c5,.int .i64 b] 36)) w') (q:Bool) (hq:Zcf.f k coefs rhs=some q)=>Zcf.calls k A2 c2 coefs rhs q w' (Kd.Zac HC.out.r2 hw) hc2 hq);have BW:=Za.mk (Below.refl ((w.alloc (.cells #[.slice A0 l0.length c0] 43)).alloc (.cells #[.int .i64 kd,.slice A1 vars.length c1,.slice A2 coefs.length c2,.int .i64 op,.int .i64 rhs,.slice A5 rows.length c5,.int .i64 b] 36)).heap.size ((w.alloc (.cells #[.slice A0 l0.length c0] 43)).alloc (.cells #[.int .i64 kd,.slice A1 vars.length c1,.slice A2 coefs.length c2,.int .i64 op,.int .i64 rhs,.slice A5 rows.length c5,.int .i64 b] 36)));unfold Zc3.f at h;by_cases n0:kd<0
  · rw [if_pos (Or.inl n0)] at h; obtain rfl := Option.some.inj h; clear h
    have d0_:decide (kd<0)=true:=decide_eq_true n0;clear n0;go_enter Tryz.func79,Tryz.ntmps79;go_wp2;go_ret;exact⟨by first|rfl|(simp[*];done)|(simp[*];rfl),Zae HWB.out (mvB BW.out)⟩
  have d0_:decide (kd<0)=false:=decide_eq_false n0;by_cases n7:7≤kd
  · rw [if_pos (Or.inr n7)] at h; obtain rfl := Option.some.inj h; clear h
    have d7_:decide (7≤kd)=true:=decide_eq_true n7;clear n0 n7;go_enter Tryz.func79,Tryz.ntmps79;go_wp2;go_ret;exact⟨by first|rfl|(simp[*];done)|(simp[*];rfl),Zae HWB.out (mvB BW.out)⟩
  have d7_:decide (7≤kd)=false:=decide_eq_false n7;rw[if_neg (fun h_=>h_.elim n0 n7)]at h;clear n0 n7
  generalize hav:vars.any (awayV l0.length)=av at CC h
  have HAV:=Za.mk hav;clear hav
  cases av with
  |true=>
    rw[if_pos rfl]at h;obtain rfl:=Option.some.inj h;clear h;go_enter Tryz.func79,Tryz.ntmps79
    go_wp2_with (first|(go_at_call 109;go_loud (refine(CC.out _ ?hB).mono ?_;(case hB=>exact mvB BW.out);rintro e w' ⟨rfl,nd,rfl⟩)))
    go_ret;exact⟨by first|rfl|(simp[*];done)|(simp[*];rfl),Zae HWB.out (mvB BW.out)⟩
  |false=>
    rw[if_neg (by decide)]at h;by_cases n4:kd=4;rotate_left
    · rw [if_neg (fun h_ => n4 h_.1)] at h
      have d4_:decide (kd=4)=false:=decide_eq_false n4;have e4_:(kd==4)=false:=beq_eq_false_iff_ne.2 n4;clear n4;obtain⟨q,hq,h2_⟩:=Option.bind_eq_some_iff.1 h;clear h;have h:=h2_;clear h2_;have HR:=Za.mk hq;clear hq
      cases q with
      |false=>
        rw[if_pos rfl]at h;obtain rfl:=Option.some.inj h;clear h;go_enter Tryz.func79,Tryz.ntmps79
        go_wp2_with (first|(go_at_call 109;go_loud (refine(CC.out _ ?hB).mono ?_;(case hB=>exact mvB BW.out);rintro e w' ⟨rfl,nd,rfl⟩))|(go_at_call 110;go_loud (refine(CR.out _ ?hB _ HR.out).mono ?_;(case hB=>exact mvB BW.out);rintro e w' ⟨rfl,hb⟩;have BW1:=Za.mk (Zae (mvB BW.out) hb);clear BW hb;have BW:=BW1;clear BW1;have hx_:=HC.out.below BW.out;have ed:=hx_.ed;have k0:=hx_.k0;have k1:=hx_.k1;have k2:=hx_.k2;have k3:=hx_.k3;have k4:=hx_.k4;have k5:=hx_.k5;have k6:=hx_.k6;clear hx_)))
        go_ret;exact⟨by first|rfl|(simp[*];done)|(simp[*];rfl),Zae HWB.out (mvB BW.out)⟩
      |true=>
        rw[if_neg (by decide)]at h;obtain⟨g,hg,h2_⟩:=Option.bind_eq_some_iff.1 h;clear h;have h:=h2_;clear h2_;have HG:=Za.mk hg;clear hg;obtain rfl:=Option.some.inj h;clear h
        cases g with
        |false=>
          go_enter Tryz.func79,Tryz.ntmps79
          go_wp2_with (first|(go_at_call 109;go_loud (refine(CC.out _ ?hB).mono ?_;(case hB=>exact mvB BW.out);rintro e w' ⟨rfl,nd,rfl⟩))|(go_at_call 110;go_loud (refine(CR.out _ ?hB _ HR.out).mono ?_;(case hB=>exact mvB BW.out);rintro e w' ⟨rfl,hb⟩;have BW1:=Za.mk (Zae (mvB BW.out) hb);clear BW hb;have BW:=BW1;clear BW1;have hx_:=HC.out.below BW.out;have ed:=hx_.ed;have k0:=hx_.k0;have k1:=hx_.k1;have k2:=hx_.k2;have k3:=hx_.k3;have k4:=hx_.k4;have k5:=hx_.k5;have k6:=hx_.k6;clear hx_))|(go_at_call 111;go_loud (refine(CG.out _ ?hB _ HG.out).mono ?_;(case hB=>exact mvB BW.out);rintro e w' ⟨rfl,hb⟩;have BW1:=Za.mk (Zae (mvB BW.out) hb);clear BW hb;have BW:=BW1;clear BW1;have hx_:=HC.out.below BW.out;have ed:=hx_.ed;have k0:=hx_.k0;have k1:=hx_.k1;have k2:=hx_.k2;have k3:=hx_.k3;have k4:=hx_.k4;have k5:=hx_.k5;have k6:=hx_.k6;clear hx_)))
          go_ret;exact⟨by first|rfl|(simp[*];done)|(simp[*];rfl),Zae HWB.out (mvB BW.out)⟩
        |true=>
          go_enter Tryz.func79,Tryz.ntmps79
          go_wp2_with (first|(go_at_call 109;go_loud (refine(CC.out _ ?hB).mono ?_;(case hB=>exact mvB BW.out);rintro e w' ⟨rfl,nd,rfl⟩))|(go_at_call 110;go_loud (refine(CR.out _ ?hB _ HR.out).mono ?_;(case hB=>exact mvB BW.out);rintro e w' ⟨rfl,hb⟩;have BW1:=Za.mk (Zae (mvB BW.out) hb);clear BW hb;have BW:=BW1;clear BW1;have hx_:=HC.out.below BW.out;have ed:=hx_.ed;have k0:=hx_.k0;have k1:=hx_.k1;have k2:=hx_.k2;have k3:=hx_.k3;have k4:=hx_.k4;have k5:=hx_.k5;have k6:=hx_.k6;clear hx_))|(go_at_call 111;go_loud (refine(CG.out _ ?hB _ HG.out).mono ?_;(case hB=>exact mvB BW.out);rintro e w' ⟨rfl,hb⟩;have BW1:=Za.mk (Zae (mvB BW.out) hb);clear BW hb;have BW:=BW1;clear BW1;have hx_:=HC.out.below BW.out;have ed:=hx_.ed;have k0:=hx_.k0;have k1:=hx_.k1;have k2:=hx_.k2;have k3:=hx_.k3;have k4:=hx_.k4;have k5:=hx_.k5;have k6:=hx_.k6;clear hx_)))
          go_ret;exact⟨by first|rfl|(simp[*];done)|(simp[*];rfl),Zae HWB.out (mvB BW.out)⟩
    subst n4
    generalize hab:awayV l0.length b=ab at CB h
    have HAB:=Za.mk hab;clear hab
    cases ab with
    |true=>
      rw[if_pos ⟨rfl,rfl⟩]at h;obtain rfl:=Option.some.inj h;clear h;go_enter Tryz.func79,Tryz.ntmps79
      go_wp2_with (first|(go_at_call 109;go_loud (refine(CC.out _ ?hB).mono ?_;(case hB=>exact mvB BW.out);rintro e w' ⟨rfl,nd,rfl⟩)))
      refine(CB.out _ ?hB).mono ?_;case hB=>exact mvB BW.out
      rintro e w' ⟨rfl,nd2,rfl⟩;go_wp2;go_ret;exact⟨by first|rfl|(simp[*];done)|(simp[*];rfl),Zae HWB.out (mvB BW.out)⟩
    |false=>
      rw[if_neg (fun h_=>absurd h_.2 (by decide))]at h;obtain⟨q,hq,h2_⟩:=Option.bind_eq_some_iff.1 h;clear h;have h:=h2_;clear h2_;have HR:=Za.mk hq;clear hq
      cases q with
      |false=>
        rw[if_pos rfl]at h;obtain rfl:=Option.some.inj h;clear h;go_enter Tryz.func79,Tryz.ntmps79
        go_wp2_with (first|(go_at_call 109;go_loud (refine(CC.out _ ?hB).mono ?_;(case hB=>exact mvB BW.out);rintro e w' ⟨rfl,nd,rfl⟩))|(go_at_call 110;go_loud (refine(CR.out _ ?hB _ HR.out).mono ?_;(case hB=>exact mvB BW.out);rintro e w' ⟨rfl,hb⟩;have BW1:=Za.mk (Zae (mvB BW.out) hb);clear BW hb;have BW:=BW1;clear BW1;have hx_:=HC.out.below BW.out;have ed:=hx_.ed;have k0:=hx_.k0;have k1:=hx_.k1;have k2:=hx_.k2;have k3:=hx_.k3;have k4:=hx_.k4;have k5:=hx_.k5;have k6:=hx_.k6;clear hx_)))
        refine(CB.out _ ?hB).mono ?_;case hB=>exact mvB BW.out
        rintro e w' ⟨rfl,nd2,rfl⟩
        go_wp2_with (first|(go_at_call 110;go_loud (refine(CR.out _ ?hB _ HR.out).mono ?_;(case hB=>exact mvB BW.out);rintro e w' ⟨rfl,hb⟩;have BW1:=Za.mk (Zae (mvB BW.out) hb);clear BW hb;have BW:=BW1;clear BW1;have hx_:=HC.out.below BW.out;have ed:=hx_.ed;have k0:=hx_.k0;have k1:=hx_.k1;have k2:=hx_.k2;have k3:=hx_.k3;have k4:=hx_.k4;have k5:=hx_.k5;have k6:=hx_.k6;clear hx_))|(go_at_call 111;go_loud (refine(CG.out _ ?hB _ HG.out).mono ?_;(case hB=>exact mvB BW.out);rintro e w' ⟨rfl,hb⟩;have BW1:=Za.mk (Zae (mvB BW.out) hb);clear BW hb;have BW:=BW1;clear BW1;have hx_:=HC.out.below BW.out;have ed:=hx_.ed;have k0:=hx_.k0;have k1:=hx_.k1;have k2:=hx_.k2;have k3:=hx_.k3;have k4:=hx_.k4;have k5:=hx_.k5;have k6:=hx_.k6;clear hx_)))
        go_ret;exact⟨by first|rfl|(simp[*];done)|(simp[*];rfl),Zae HWB.out (mvB BW.out)⟩
      |true=>
        rw[if_neg (by decide)]at h;obtain⟨g,hg,h2_⟩:=Option.bind_eq_some_iff.1 h;clear h;have h:=h2_;clear h2_;have HG:=Za.mk hg;clear hg;obtain rfl:=Option.some.inj h;clear h
        cases g with
        |false=>
          go_enter Tryz.func79,Tryz.ntmps79
          go_wp2_with (first|(go_at_call 109;go_loud (refine(CC.out _ ?hB).mono ?_;(case hB=>exact mvB BW.out);rintro e w' ⟨rfl,nd,rfl⟩))|(go_at_call 110;go_loud (refine(CR.out _ ?hB _ HR.out).mono ?_;(case hB=>exact mvB BW.out);rintro e w' ⟨rfl,hb⟩;have BW1:=Za.mk (Zae (mvB BW.out) hb);clear BW hb;have BW:=BW1;clear BW1;have hx_:=HC.out.below BW.out;have ed:=hx_.ed;have k0:=hx_.k0;have k1:=hx_.k1;have k2:=hx_.k2;have k3:=hx_.k3;have k4:=hx_.k4;have k5:=hx_.k5;have k6:=hx_.k6;clear hx_))|(go_at_call 111;go_loud (refine(CG.out _ ?hB _ HG.out).mono ?_;(case hB=>exact mvB BW.out);rintro e w' ⟨rfl,hb⟩;have BW1:=Za.mk (Zae (mvB BW.out) hb);clear BW hb;have BW:=BW1;clear BW1;have hx_:=HC.out.below BW.out;have ed:=hx_.ed;have k0:=hx_.k0;have k1:=hx_.k1;have k2:=hx_.k2;have k3:=hx_.k3;have k4:=hx_.k4;have k5:=hx_.k5;have k6:=hx_.k6;clear hx_)))
          refine(CB.out _ ?hB).mono ?_;case hB=>exact mvB BW.out
          rintro e w' ⟨rfl,nd2,rfl⟩
          go_wp2_with (first|(go_at_call 110;go_loud (refine(CR.out _ ?hB _ HR.out).mono ?_;(case hB=>exact mvB BW.out);rintro e w' ⟨rfl,hb⟩;have BW1:=Za.mk (Zae (mvB BW.out) hb);clear BW hb;have BW:=BW1;clear BW1;have hx_:=HC.out.below BW.out;have ed:=hx_.ed;have k0:=hx_.k0;have k1:=hx_.k1;have k2:=hx_.k2;have k3:=hx_.k3;have k4:=hx_.k4;have k5:=hx_.k5;have k6:=hx_.k6;clear hx_))|(go_at_call 111;go_loud (refine(CG.out _ ?hB _ HG.out).mono ?_;(case hB=>exact mvB BW.out);rintro e w' ⟨rfl,hb⟩;have BW1:=Za.mk (Zae (mvB BW.out) hb);clear BW hb;have BW:=BW1;clear BW1;have hx_:=HC.out.below BW.out;have ed:=hx_.ed;have k0:=hx_.k0;have k1:=hx_.k1;have k2:=hx_.k2;have k3:=hx_.k3;have k4:=hx_.k4;have k5:=hx_.k5;have k6:=hx_.k6;clear hx_)))
          go_ret;exact⟨by first|rfl|(simp[*];done)|(simp[*];rfl),Zae HWB.out (mvB BW.out)⟩
        |true=>
          go_enter Tryz.func79,Tryz.ntmps79
          go_wp2_with (first|(go_at_call 109;go_loud (refine(CC.out _ ?hB).mono ?_;(case hB=>exact mvB BW.out);rintro e w' ⟨rfl,nd,rfl⟩))|(go_at_call 110;go_loud (refine(CR.out _ ?hB _ HR.out).mono ?_;(case hB=>exact mvB BW.out);rintro e w' ⟨rfl,hb⟩;have BW1:=Za.mk (Zae (mvB BW.out) hb);clear BW hb;have BW:=BW1;clear BW1;have hx_:=HC.out.below BW.out;have ed:=hx_.ed;have k0:=hx_.k0;have k1:=hx_.k1;have k2:=hx_.k2;have k3:=hx_.k3;have k4:=hx_.k4;have k5:=hx_.k5;have k6:=hx_.k6;clear hx_))|(go_at_call 111;go_loud (refine(CG.out _ ?hB _ HG.out).mono ?_;(case hB=>exact mvB BW.out);rintro e w' ⟨rfl,hb⟩;have BW1:=Za.mk (Zae (mvB BW.out) hb);clear BW hb;have BW:=BW1;clear BW1;have hx_:=HC.out.below BW.out;have ed:=hx_.ed;have k0:=hx_.k0;have k1:=hx_.k1;have k2:=hx_.k2;have k3:=hx_.k3;have k4:=hx_.k4;have k5:=hx_.k5;have k6:=hx_.k6;clear hx_)))
          refine(CB.out _ ?hB).mono ?_;case hB=>exact mvB BW.out
          rintro e w' ⟨rfl,nd2,rfl⟩
          go_wp2_with (first|(go_at_call 110;go_loud (refine(CR.out _ ?hB _ HR.out).mono ?_;(case hB=>exact mvB BW.out);rintro e w' ⟨rfl,hb⟩;have BW1:=Za.mk (Zae (mvB BW.out) hb);clear BW hb;have BW:=BW1;clear BW1;have hx_:=HC.out.below BW.out;have ed:=hx_.ed;have k0:=hx_.k0;have k1:=hx_.k1;have k2:=hx_.k2;have k3:=hx_.k3;have k4:=hx_.k4;have k5:=hx_.k5;have k6:=hx_.k6;clear hx_))|(go_at_call 111;go_loud (refine(CG.out _ ?hB _ HG.out).mono ?_;(case hB=>exact mvB BW.out);rintro e w' ⟨rfl,hb⟩;have BW1:=Za.mk (Zae (mvB BW.out) hb);clear BW hb;have BW:=BW1;clear BW1;have hx_:=HC.out.below BW.out;have ed:=hx_.ed;have k0:=hx_.k0;have k1:=hx_.k1;have k2:=hx_.k2;have k3:=hx_.k3;have k4:=hx_.k4;have k5:=hx_.k5;have k6:=hx_.k6;clear hx_)))
          go_ret;exact⟨by first|rfl|(simp[*];done)|(simp[*];rfl),Zae HWB.out (mvB BW.out)⟩
end Go.Proofs.YtdpieallpbllkaaGreat.P
/- Plain: the values of ranges, at most so many of them (what dom.all goes over). -/
namespace Go.Proofs.YtdpieallpbllkaaGreat.P
open Go.RowKit Go.Proofs.YtdpieallpbllkaaGreatW.PrintWords Go.Proofs.YtdpieallpbllkaaGreatW.PrintLast Go.Proofs.YtdpieallpbllkaaGreatW.PrintMore
def upTo : Nat → Int → Int → List Int
  | 0, _, _ => []
  |r+1,v,hi=>if v≤hi then v::upTo r (v+1) hi else []
def niceD (d:List S82):Bool:=d.all fun x=>decide (-1048576≤x.f0∧x.f0≤1048576∧ -1048576≤x.f1∧x.f1≤1048576)
end Go.Proofs.YtdpieallpbllkaaGreat.P
/- Plain: domains as lists of ranges. A domain is told by its values: two good lists of ranges with the same values are one. -/
namespace Go.Proofs.YtdpieallpbllkaaGreat.P
open Go.RowKit Go.Proofs.YtdpieallpbllkaaGreatW.PrintWords Go.Proofs.YtdpieallpbllkaaGreatW.PrintLast Go.Proofs.YtdpieallpbllkaaGreatW.PrintMore
abbrev Rg:=S82
abbrev rg (d:List Rg) (i:Int):Rg:=Zbk d i
theorem Rg.ext' {x y:Rg} (h0:x.f0=y.f0) (h1:x.f1=y.f1):x=y:=by cases x;cases y;simp at*;exact⟨h0,h1⟩
theorem Zfe (d:List Rg) (n:Nat) (h:n<d.length):rg d (n:Int)=d[n]:=by simp[rg,Zbk,List.getD_eq_getElem?_getD,List.getElem?_eq_getElem h]
def Gd (V : Int) : Int → List Rg → Prop
  | _, [] => True
  |b,x::d=>b≤x.f0∧x.f0≤x.f1∧x.f1≤V∧Gd V (x.f1+2) d
def Va (d:List Rg) (v:Int):Prop:=∃x ∈ d,x.f0≤v∧v≤x.f1
@[simp] theorem Va_nil (v : Int) : Va [] v ↔ False := by simp [Va]
@[simp] theorem Zc5 (x : Rg) (d : List Rg) (v : Int) : Va (x :: d) v ↔ (x.f0 ≤ v ∧ v ≤ x.f1) ∨ Va d v := by simp [Va]
theorem Va_append (d e:List Rg) (v:Int):Va (d++e) v↔Va d v∨Va e v:=by
  induction d with
  | nil => simp
  |cons x d ih=>simp[ih,or_assoc]
theorem Gd.mono {V b c:Int} {d:List Rg} (h:Gd V b d) (hc:c≤b):Gd V c d:=by
  cases d with
  | nil => trivial
  |cons x d=>obtain⟨h1,h2,h3,h4⟩:=h;exact⟨by omega,h2,h3,h4⟩
theorem Gd.ge {V : Int} : ∀ {b : Int} {d : List Rg} {v : Int}, Gd V b d → Va d v → b ≤ v
  | _, [], _, _, h => absurd h (by simp)
  |b,x::d,v,⟨h1,h2,h3,h4⟩,h=>by
    rcases(Zc5 x d v).1 h with h|h
    · omega
    have:=Gd.ge h4 h;omega
theorem Gd.le {V : Int} : ∀ {b : Int} {d : List Rg} {v : Int}, Gd V b d → Va d v → v ≤ V
  | _, [], _, _, h => absurd h (by simp)
  |b,x::d,v,⟨h1,h2,h3,h4⟩,h=>by
    rcases(Zc5 x d v).1 h with h|h
    · omega
    exact Gd.le h4 h
theorem Gd.ext {V : Int} : ∀ {b c : Int} {d e : List Rg}, Gd V b d → Gd V c e → (∀ v, Va d v ↔ Va e v) → d = e
  | _, _, [], [], _, _, _ => rfl
  | _, _, [], y :: e, _, ⟨_, h2, _, _⟩, h => absurd ((h y.f0).2 ((Zc5 _ _ _).2 (.inl ⟨Int.le_refl _, h2⟩))) (by simp)
  | _, _, x :: d, [], ⟨_, h2, _, _⟩, _, h => absurd ((h x.f0).1 ((Zc5 _ _ _).2 (.inl ⟨Int.le_refl _, h2⟩))) (by simp)
  |b,c,x::d,y::e,⟨h1,h2,h3,h4⟩,⟨k1,k2,k3,k4⟩,h=>by
    have gx:∀v,Va (x::d) v→x.f0≤v:=fun v hv=>Gd.ge (V:=V) (b:=x.f0) (d:=x::d) ⟨Int.le_refl _,h2,h3,h4⟩ hv
    have gy:∀v,Va (y::e) v→y.f0≤v:=fun v hv=>Gd.ge (V:=V) (b:=y.f0) (d:=y::e) ⟨Int.le_refl _,k2,k3,k4⟩ hv
    have a1:=gy _ ((h x.f0).1 ((Zc5 _ _ _).2 (.inl ⟨Int.le_refl _,h2⟩)));have a2:=gx _ ((h y.f0).2 ((Zc5 _ _ _).2 (.inl ⟨Int.le_refl _,k2⟩)));have e0:x.f0=y.f0:=by omega
    have no1:¬x.f1<y.f1:=fun hlt=>by
      have:=(h (x.f1+1)).2 ((Zc5 _ _ _).2 (.inl ⟨by omega,by omega⟩))
      rcases(Zc5 _ _ _).1 this with h|h
      · omega
      have:=Gd.ge h4 h;omega
    have no2:¬y.f1<x.f1:=fun hlt=>by
      have:=(h (y.f1+1)).1 ((Zc5 _ _ _).2 (.inl ⟨by omega,by omega⟩))
      rcases(Zc5 _ _ _).1 this with h|h
      · omega
      have:=Gd.ge k4 h;omega
    have e1:x.f1=y.f1:=by omega
    obtain rfl:=Rg.ext' e0 e1
    congr 1
    refine Gd.ext h4 k4 (fun v=>⟨fun hv=> ?_,fun hv=> ?_⟩)
    · have hg := Gd.ge h4 hv
      rcases(Zc5 _ _ _).1 ((h v).1 ((Zc5 _ _ _).2 (.inr hv)))with h|h
      · omega
      exact h
    have hg:=Gd.ge k4 hv
    rcases(Zc5 _ _ _).1 ((h v).2 ((Zc5 _ _ _).2 (.inr hv)))with h|h
    · omega
    exact h
def endB (b:Int) (d:List Rg):Int:=(d.getLast?.map fun x=>x.f1+2).getD b
theorem Zf1 (b:Int) (d:List Rg) (x:Rg):endB b (d++ [x])=x.f1+2:=by simp[endB]
theorem endB_cons (b:Int) (x:Rg) (d:List Rg):endB b (x::d)=endB (x.f1+2) d:=by
  cases d with
  | nil => simp [endB]
  |cons y d=>simp[endB,List.getLast?_cons]
theorem Gd_append (V : Int) : ∀ (b : Int) (d e : List Rg), Gd V b (d ++ e) ↔ Gd V b d ∧ Gd V (endB b d) e
  | b, [], e => by simp [Gd, endB]
  |b,x::d,e=>by
    rw[List.cons_append,Gd,Gd,Gd_append V (x.f1+2) d e,endB_cons]
    simp[and_assoc]
theorem Gd_snoc {V b:Int} {d:List Rg} {x:Rg} :Gd V b (d++ [x])↔Gd V b d∧endB b d≤x.f0∧x.f0≤x.f1∧x.f1≤V:=by
  rw[Gd_append]
  simp[Gd]
theorem Gd.lt_end {V : Int} : ∀ {b : Int} {d : List Rg} {v : Int}, Gd V b d → Va d v → v + 2 ≤ endB b d
  | _, [], _, _, h => absurd h (by simp)
  |b,x::d,v,⟨h1,h2,h3,h4⟩,h=>by
    rw[endB_cons]
    have h5:x.f1+2≤endB (x.f1+2) d:=by
      cases d with
      | nil => simp [endB]
      |cons y d=>
        obtain⟨k1,k2,k3,k4⟩:=h4;have:=Gd.lt_end (V:=V) (b:=x.f1+2) (d:=y::d) (v:=y.f1) ⟨k1,k2,k3,k4⟩ ((Zc5 _ _ _).2 (.inl ⟨k2,Int.le_refl _⟩))
        omega
    rcases(Zc5 _ _ _).1 h with h|h
    · omega
    exact Gd.lt_end h4 h
theorem Gd.end_ge {V b:Int} {d:List Rg} (h:Gd V b d):b≤endB b d:=by
  cases d with
  | nil => simp [endB]
  |cons y d=>
    obtain⟨k1,k2,k3,k4⟩:=h;have:=Gd.lt_end (V:=V) (b:=b) (d:=y::d) (v:=y.f1) ⟨k1,k2,k3,k4⟩ ((Zc5 _ _ _).2 (.inl ⟨k2,Int.le_refl _⟩))
    omega
def vals : List Rg → List Int
  | [] => []
  |x::d=>upTo (x.f1+1 - x.f0).toNat x.f0 x.f1++vals d
theorem Zfh : ∀ (r : Nat) (v hi z : Int), z ∈ upTo r v hi ↔ v ≤ z ∧ z ≤ hi ∧ z < v + r
  | 0, v, hi, z => by simp [upTo]; omega
  |r+1,v,hi,z=>by
    unfold upTo
    split
    · rw [List.mem_cons, Zfh r (v + 1) hi z]
      omega
    simp
    omega
theorem upTo_ss : ∀ (r : Nat) (v hi : Int), SS (upTo r v hi)
  | 0, v, hi => by simp [upTo]
  |r+1,v,hi=>by
    unfold upTo
    split
    · refine List.pairwise_cons.2 ⟨fun z hz => ?_, upTo_ss r (v + 1) hi⟩
      have:=(Zfh r (v+1) hi z).1 hz
      omega
    exact List.Pairwise.nil
theorem Zf7 : ∀ (r : Nat) (v hi : Int), ((upTo r v hi).length : Int) = min (r : Int) (max 0 (hi + 1 - v))
  | 0, v, hi => by simp [upTo]; omega
  |r+1,v,hi=>by
    unfold upTo
    split
    · have := Zf7 r (v + 1) hi
      simp
      omega
    simp
    omega
theorem Zex (z : Int) : ∀ d, z ∈ vals d ↔ Va d z
  | [] => by simp [vals]
  |x::d=>by
    rw[vals,List.mem_append,Zex z d,Zc5,Zfh];have:(x.f0≤z∧z≤x.f1∧z<x.f0+((x.f1+1 - x.f0).toNat:Int))↔(x.f0≤z∧z≤x.f1):=by omega
    rw[this]
theorem Zfr {V : Int} : ∀ {b : Int} {d : List Rg}, Gd V b d → SS (vals d)
  | _, [], _ => List.Pairwise.nil
  |b,x::d,⟨h1,h2,h3,h4⟩=>by
    rw[vals];refine List.pairwise_append.2 ⟨upTo_ss _ _ _,Zfr h4,fun y hy z hz=> ?_⟩;have:=(Zfh _ _ _ _).1 hy;have:=Gd.ge h4 ((Zex z d).1 hz)
    omega
theorem Zdz {V b:Int} {d:List Rg} (h:Gd V b d):((vals d).length:Int)≤max 0 (V+1 - b):=
  ss_length (Zfr h) (fun x hx=>⟨Gd.ge h ((Zex x d).1 hx),Gd.le h ((Zex x d).1 hx)⟩)
theorem Zdv {V : Int} : ∀ {b : Int} {d : List Rg}, Gd V b d → d.length ≤ (vals d).length
  | _, [], _ => by simp
  |b,x::d,⟨h1,h2,h3,h4⟩=>by
    have h5:=Zdv h4;have h6:=Zf7 (x.f1+1 - x.f0).toNat x.f0 x.f1;rw[vals]
    simp
    omega
def pack : List Int → List Rg
  | [] => []
  |x::l=>match pack l with
    | [] => [⟨x, x⟩]
    |r::rs=>if r.f0=x+1 then⟨x,r.f1⟩::rs else⟨x,x⟩::r::rs
theorem pack_good {V : Int} : ∀ {b : Int} {l : List Int}, SS l → (∀ x ∈ l, b ≤ x ∧ x ≤ V) → Gd V b (pack l) ∧ ∀ v, Va (pack l) v ↔ v ∈ l
  | b, [], _, _ => ⟨trivial, fun v => by simp [pack]⟩
  |b,x::l,h,hb=>by
    obtain⟨hx,hl⟩:=List.pairwise_cons.1 h;obtain⟨g,m⟩:=pack_good (V:=V) (b:=x+1) hl (fun y hy=>⟨by have:=hx y hy;omega,(hb y (List.mem_cons_of_mem _ hy)).2⟩);obtain⟨b1,b2⟩:=hb x List.mem_cons_self;unfold pack
    cases hp:pack l with
    |nil=>
      rw[hp]at m;refine⟨⟨b1,Int.le_refl _,b2,trivial⟩,fun v=> ?_⟩;have:=m v
      simp at this
      simp[this]
      omega
    |cons r rs=>
      rw[hp]at g m;obtain⟨g1,g2,g3,g4⟩:=g;dsimp only
      split
      · rename_i e
        refine⟨⟨b1,by show x≤r.f1;omega,g3,g4⟩,fun v=> ?_⟩;have:=m v;rw[List.mem_cons,←this,Zc5,Zc5];dsimp only
        constructor
        · rintro (h | h)
          · by_cases e2 : v = x
            · exact .inl e2
            exact .inr (.inl ⟨by omega,h.2⟩)
          exact .inr (.inr h)
        rintro(h|h|h)
        · exact .inl ⟨by omega,by omega⟩
        · exact .inl ⟨by omega,h.2⟩
        exact .inr h
      rename_i e
      refine⟨⟨b1,Int.le_refl _,b2,by show x+2≤r.f0;omega,g2,g3,g4⟩,fun v=> ?_⟩;have:=m v;rw[List.mem_cons,←this,Zc5];dsimp only
      constructor
      · rintro (h | h)
        · exact .inl (by omega)
        exact .inr h
      rintro(h|h)
      · exact .inl ⟨by omega,by omega⟩
      exact .inr h
theorem pack_eq {V b:Int} {d:List Rg} {l:List Int} (hd:Gd V b d) (hl:SS l) (h:∀v,Va d v↔v ∈ l):d=pack l:=by
  obtain⟨g,m⟩:=pack_good (V:=V) (b:=b) hl (fun x hx=>⟨Gd.ge hd ((h x).2 hx),Gd.le hd ((h x).2 hx)⟩);exact Gd.ext hd g (fun v=>(h v).trans (m v).symm)
theorem upTo_enough {r:Nat} {v hi:Int} (h:hi+1 - v≤r):upTo r v hi=upTo (hi+1 - v).toNat v hi:=
  SS.ext (upTo_ss _ _ _) (upTo_ss _ _ _) (fun z=>by rw[Zfh,Zfh];omega)
end Go.Proofs.YtdpieallpbllkaaGreat.P
namespace Go.Proofs.YtdpieallpbllkaaGreat.P
open Go.RowKit Go.Proofs.YtdpieallpbllkaaGreatW.PrintWords Go.Proofs.YtdpieallpbllkaaGreatW.PrintLast Go.Proofs.YtdpieallpbllkaaGreatW.PrintMore
attribute [local go_sem] Zcw Zcy Zdg Zdh Zco Zcp Zcx Zcz
def Zbl.l0 : Nat → List Int → Int → Int → Option (Bool)
 | 0, _, _, _ => none
 |k+1,x0,x1,x5=>if x5<(x0.length:Int)then(if 0≤x5 then(if(rd x0 x5)=x1 then(some true)else(Zbl.l0 k x0 x1 (wrap64 (x5+1))))else(none))else(some false)
def Zbl.f (k:Nat) (l0:List Int) (a1:Int):Option (Bool):=Zbl.l0 k l0 a1 0
set_option maxRecDepth 100000 in
theorem Zbl.calls (k : Nat) (A0 : Option Addr) (c0 : Nat) (l0 : List Int) (a1 : Int) (r : Bool) (w : World) (hr0 : Kd.C (Kd.int .i64) w A0 l0.length l0) (hc0 : l0.length ≤ c0) (h : Zbl.f k l0 a1 = some r) :
  Calls Tryz.prog 49 #[.slice A0 l0.length c0,.int .i64 a1] w fun e w'=>e= .returned (.bool r)∧Zav w w':=by
 have HR0:=Za.mk hr0;have HC0:=Za.mk hc0;clear hr0 hc0;have H:(Zbl.l0 k l0 a1 0)=some r:=h;clear h;have H':=Za.mk H;clear H;go_enter Tryz.func49,Tryz.ntmps49;go_wp2
 go_loopg [5] k (fun kq v5 w'=>∃(ax:Int),v5= .int .i64 ax∧Za (Zbl.l0 kq l0 a1 ax=some r)∧Za (kq≤k)∧Zav w w')
 case atStart=>exact⟨(0),eS,H',⟨Nat.le_refl _⟩,by repeat(first|exact Zav.refl _|apply Zav.step)⟩
 case round=>
  clear H';try clear p2
  obtain⟨ax,rfl,HA,HK1,⟨m1,rfl⟩⟩:=hrel
  cases gk with
  | zero => exact absurd HA.out (by simp [Zbl.l0])
  |succ k1=>
   have H:=HA.out;clear HA;simp only[Zbl.l0]at H;by_cases c3:ax<(l0.length:Int)
   case neg=>
    rw[if_neg c3]at H;have fB:decide (ax<(l0.length:Int))=false:=decide_eq_false c3;clear c3;obtain rfl:=sj H;go_wp2;go_ret;exact⟨eS,by repeat(first|exact Zav.refl _|apply Zav.step)⟩
   rw[if_pos c3]at H;have fB:decide (ax<(l0.length:Int))=true:=decide_eq_true c3;clear c3;obtain⟨dC,H⟩:=ifT H;by_cases c5:(rd l0 ax)=a1
   case pos=>
    rw[if_pos c5]at H;have dw:((rd l0 ax)==a1)=true:=beq_iff_eq.mpr c5;have lq:((rd l0 ax) !=a1)=false:=bne_eq_false_iff_eq.mpr c5;clear c5;obtain rfl:=sj H;have zK:0≤(ax:Int):=odt;have Ae:ax<(l0.length:Int):=odt;obtain⟨X8,rfl,TS⟩:=Kd.Zb1 HR0.out ax zK Ae;replace zK:=eq_true zK;replace Ae:=eq_true Ae;go_wp2;go_ret;exact⟨eS,by repeat(first|exact Zav.refl _|apply Zav.step)⟩
   rw[if_neg c5]at H;have dw:((rd l0 ax)==a1)=false:=beq_eq_false_iff_ne.mpr c5;have lq:((rd l0 ax) !=a1)=true:=bne_iff_ne.mpr c5;have H':=Za.mk H;clear H;have zK:0≤(ax:Int):=odt;have Ae:ax<(l0.length:Int):=odt;obtain⟨X8,rfl,TS⟩:=Kd.Zb1 HR0.out ax zK Ae;replace zK:=eq_true zK;replace Ae:=eq_true Ae;go_wp2
   go_roundg k1
   case measure=>have:=HK1.out;omega
   case rel=>exact⟨(wrap64 (ax+1)),eS,H',⟨by have:=HK1.out;omega⟩,by repeat(first|exact Zav.refl _|apply Zav.step)⟩
def Zas.l0 : Nat → List Int → List Int → Int → Option (Bool)
 | 0, _, _, _ => none
 |k+1,x0,x1,x5=>if x5<(x0.length:Int)then(if 0≤x5 then(if x5<(x1.length:Int)then(if(rd x0 x5)=(rd x1 x5)then(Zas.l0 k x0 x1 (wrap64 (x5+1)))else(some false))else(none))else(none))else(some true)
def Zas.f (k:Nat) (l0:List Int) (l1:List Int):Option (Bool):=if(l0.length:Int)=(l1.length:Int)then(Zas.l0 k l0 l1 0)else(some false)
theorem Zas.Zc9 : ∀ k, (∀ y0 y1 y2, LeO (Zas.l0 k y0 y1 y2) (Zas.l0 (k + 1) y0 y1 y2))
 | 0 => fun _ _ _ r h => by simp [Zas.l0] at h
 |k+1=>by
  have ih0:=Zas.Zc9 k;intro y0 y1 y2;unfold Zas.l0
  repeat' first
  | (with_reducible exact ih0 _ _ _)
  | (with_reducible exact LeO.refl _)
  | (with_reducible exact LeO.none _)
  | (with_reducible refine LeO.ite ?_ ?_)
  |(with_reducible refine LeO.bind ?_ (fun _=> ?_))
theorem Zas.mono:∀a0 a1 k,LeO (Zas.f k a0 a1) (Zas.f (k+1) a0 a1):=by
 intro a0 a1 k;have ih0:=Zas.Zc9 k;unfold Zas.f
 repeat' first
   | (with_reducible exact ih0 _ _ _)
   | (with_reducible exact LeO.refl _)
   | (with_reducible exact LeO.none _)
   | (with_reducible refine LeO.ite ?_ ?_)
   |(with_reducible refine LeO.bind ?_ (fun _=> ?_))
set_option maxRecDepth 100000 in
theorem Zas.calls (k : Nat) (A0 : Option Addr) (c0 : Nat) (l0 : List Int) (A1 : Option Addr) (c1 : Nat) (l1 : List Int) (r : Bool) (w : World) (hr0 : Kd.C (Kd.int .i64) w A0 l0.length l0) (hc0 : l0.length ≤ c0) (hr1 : Kd.C (Kd.int .i64) w A1 l1.length l1) (hc1 : l1.length ≤ c1) (h : Zas.f k l0 l1 = some r) :
  Calls Tryz.prog 27 #[.slice A0 l0.length c0,.slice A1 l1.length c1] w fun e w'=>e= .returned (.bool r)∧Zav w w':=by
 have HR0:=Za.mk hr0;have HC0:=Za.mk hc0;clear hr0 hc0;have HR1:=Za.mk hr1;have HC1:=Za.mk hc1;clear hr1 hc1;have H:(if(l0.length:Int)=(l1.length:Int)then(Zas.l0 k l0 l1 0)else(some false))=some r:=h;clear h;by_cases c3:(l0.length:Int)=(l1.length:Int)
 case neg=>
  rw[if_neg c3]at H;have fB:((l0.length:Int)==(l1.length:Int))=false:=beq_eq_false_iff_ne.mpr c3;have jY:((l0.length:Int) !=(l1.length:Int))=true:=bne_iff_ne.mpr c3;have qD:(l0.length==l1.length)=false:=by first|simpa using c3|(simp at c3 ⊢;omega)
  obtain rfl:=sj H;go_enter Tryz.func27,Tryz.ntmps27;go_wp2
  repeat(go_quiet (fail);try go_wp2)
  go_ret;exact⟨eS,by repeat(first|exact Zav.refl _|apply Zav.step)⟩
 rw[if_pos c3]at H;have fB:((l0.length:Int)==(l1.length:Int))=true:=beq_iff_eq.mpr c3;have jY:((l0.length:Int) !=(l1.length:Int))=false:=bne_eq_false_iff_eq.mpr c3;have qD:(l0.length==l1.length)=true:=by first|simpa using c3|(simp at c3 ⊢;omega)
 clear c3;have H':=Za.mk H;clear H;go_enter Tryz.func27,Tryz.ntmps27;go_wp2
 repeat(go_quiet (fail);try go_wp2)
 go_loopg [5] k (fun kq v5 w'=>∃(ax:Int),v5= .int .i64 ax∧Za (Zas.l0 kq l0 l1 ax=some r)∧Za (kq≤k)∧Zav w w')
 case atStart=>exact⟨(0),eS,H',⟨Nat.le_refl _⟩,by repeat(first|exact Zav.refl _|apply Zav.step)⟩
 case round=>
  clear H';try clear c1
  try clear c2
  try clear p2
  try clear c3
  try clear fB
  try clear jY
  try clear qD
  obtain⟨ax,rfl,HA,HK1,⟨m1,rfl⟩⟩:=hrel
  cases gk with
  | zero => exact absurd HA.out (by simp [Zas.l0])
  |succ k1=>
   have H:=HA.out;clear HA;simp only[Zas.l0]at H;by_cases c4:ax<(l0.length:Int)
   case neg=>
    rw[if_neg c4]at H;have dC:decide (ax<(l0.length:Int))=false:=decide_eq_false c4;clear c4;obtain rfl:=sj H;go_wp2
    repeat(go_quiet (fail);try go_wp2)
    go_ret;exact⟨eS,by repeat(first|exact Zav.refl _|apply Zav.step)⟩
   rw[if_pos c4]at H;have dC:decide (ax<(l0.length:Int))=true:=decide_eq_true c4;clear c4;obtain⟨dw,H⟩:=ifT H;obtain⟨iF,H⟩:=ifT H;by_cases c7:(rd l0 ax)=(rd l1 ax)
   case neg=>
    rw[if_neg c7]at H;have nu:((rd l0 ax)==(rd l1 ax))=false:=beq_eq_false_iff_ne.mpr c7;have LP:((rd l0 ax) !=(rd l1 ax))=true:=bne_iff_ne.mpr c7;obtain rfl:=sj H;have Aa:0≤(ax:Int):=odt;have Ay:ax<(l0.length:Int):=odt;obtain⟨XM,rfl,Uf⟩:=Kd.Zb1 HR0.out ax Aa Ay;replace Aa:=eq_true Aa;replace Ay:=eq_true Ay;have Ab:0≤(ax:Int):=odt;have Az:ax<(l1.length:Int):=odt;obtain⟨XN,rfl,Ug⟩:=Kd.Zb1 HR1.out ax Ab Az;replace Ab:=eq_true Ab;replace Az:=eq_true Az;go_wp2
    repeat(go_quiet (fail);try go_wp2)
    go_ret;exact⟨eS,by repeat(first|exact Zav.refl _|apply Zav.step)⟩
   rw[if_pos c7]at H;have nu:((rd l0 ax)==(rd l1 ax))=true:=beq_iff_eq.mpr c7;have LP:((rd l0 ax) !=(rd l1 ax))=false:=bne_eq_false_iff_eq.mpr c7;clear c7;have H':=Za.mk H;clear H;have Aa:0≤(ax:Int):=odt;have Ay:ax<(l0.length:Int):=odt;obtain⟨XM,rfl,Uf⟩:=Kd.Zb1 HR0.out ax Aa Ay;replace Aa:=eq_true Aa;replace Ay:=eq_true Ay;have Ab:0≤(ax:Int):=odt;have Az:ax<(l1.length:Int):=odt;obtain⟨XN,rfl,Ug⟩:=Kd.Zb1 HR1.out ax Ab Az;replace Ab:=eq_true Ab;replace Az:=eq_true Az;go_wp2
   repeat(go_quiet (fail);try go_wp2)
   go_roundg k1
   case measure=>have:=HK1.out;omega
   case rel=>exact⟨(wrap64 (ax+1)),eS,H',⟨by have:=HK1.out;omega⟩,by repeat(first|exact Zav.refl _|apply Zav.step)⟩
end Go.Proofs.YtdpieallpbllkaaGreat.P
/- The document's comparisons of lists of numbers. -/
namespace Go.Proofs.YtdpieallpbllkaaGreat.P
open Go.RowKit Go.Proofs.YtdpieallpbllkaaGreatW.PrintWords Go.Proofs.YtdpieallpbllkaaGreatW.PrintLast Go.Proofs.YtdpieallpbllkaaGreatW.PrintMore
theorem drop_nil' {α:Type} {l:List α} {n:Nat} (h:n+0=l.length):l.drop n= []:=List.drop_eq_nil_iff.2 (by omega)
theorem ref_Has_l (l:List Int) (v:Int) (hl:l.length<4611686018427387904):∀(m n:Nat),n+m=l.length→Ev (fun k=>Zbl.l0 k l v (n:Int)) (decide (v ∈ l.drop n)):=by
  intro m
  induction m with
  |zero=>
    intro n h;rw[drop_nil' h];exact Ev.step (G:=fun _=>some false) (fun k=>by rw[Zbl.l0,if_neg (by omega)]) (Ev.const (by simp))
  |succ m ih=>
    intro n h;have hn:n<l.length:=by omega
    have hm:v ∈ l.drop n↔v=l[n]∨v ∈ l.drop (n+1):=by rw[List.drop_eq_getElem_cons hn,List.mem_cons]
    by_cases e:l[n]=v
    · exact Ev.step (G:=fun _=>some true) (fun k=>by rw[Zbl.l0,if_pos (by omega),if_pos (by omega),Zc2 l n hn,if_pos e]) (Ev.const (by rw[decide_eq_true (hm.2 (.inl e.symm))]))
    have e2:decide (v ∈ l.drop n)=decide (v ∈ l.drop (n+1)):=decide_eq_decide.2 (hm.trans ⟨fun h=>h.elim (fun h=>absurd h.symm e) id,.inr⟩);rw[e2];exact Ev.step (fun k=>by rw[Zbl.l0,if_pos (by omega),if_pos (by omega),Zc2 l n hn,if_neg e,w1 (by omega)]) (ih (n+1) (by omega))
theorem ref_Has (l:List Int) (v:Int) (hl:l.length<4611686018427387904):Ev (fun k=>Zbl.f k l v) (decide (v ∈ l)):=ref_Has_l l v hl l.length 0 (by omega)
theorem ref_Nums_l (l m:List Int) (hl:l.length<4611686018427387904) (hm:l.length=m.length):∀(r n:Nat),n+r=l.length→Ev (fun k=>Zas.l0 k l m (n:Int)) (decide (l.drop n=m.drop n)):=by
  intro r
  induction r with
  |zero=>
    intro n h;rw[drop_nil' h,drop_nil' (l:=m) (by omega)];exact Ev.step (G:=fun _=>some true) (fun k=>by rw[Zas.l0,if_neg (by omega)]) (Ev.const (by simp))
  |succ r ih=>
    intro n h;have hn:n<l.length:=by omega
    have hn2:n<m.length:=by omega
    have hm:l.drop n=m.drop n↔l[n]=m[n]∧l.drop (n+1)=m.drop (n+1):=by rw[List.drop_eq_getElem_cons hn,List.drop_eq_getElem_cons hn2,List.cons.injEq]
    by_cases e:l[n]=m[n];rotate_left
    · exact Ev.step (G:=fun _=>some false) (fun k=>by rw[Zas.l0,if_pos (by omega),if_pos (by omega),if_pos (by omega),Zc2 l n hn,Zc2 m n hn2,if_neg e]) (Ev.const (by rw[decide_eq_false (fun h=>e (hm.1 h).1)]))
    have e2:decide (l.drop n=m.drop n)=decide (l.drop (n+1)=m.drop (n+1)):=decide_eq_decide.2 (hm.trans ⟨And.right,fun h=>⟨e,h⟩⟩);rw[e2];exact Ev.step (fun k=>by rw[Zas.l0,if_pos (by omega),if_pos (by omega),if_pos (by omega),Zc2 l n hn,Zc2 m n hn2,if_pos e,w1 (by omega)]) (ih (n+1) (by omega))
theorem ref_Nums (l m:List Int) (hl:l.length<4611686018427387904):Ev (fun k=>Zas.f k l m) (decide (l=m)):=by
  by_cases h:l.length=m.length
  · exact Ev.eq (fun k=>by rw[Zas.f,if_pos (by omega)];rfl) (ref_Nums_l l m hl h l.length 0 (by omega))
  exact Ev.eq (G:=fun _=>some false) (fun k=>by rw[Zas.f,if_neg (by omega)]) (Ev.const (by simp;intro e;exact h (by rw[e])))
end Go.Proofs.YtdpieallpbllkaaGreat.P
/- Plain: what is in the first one alone, and truths (the seats that have no Cut and no Join). -/
namespace Go.Proofs.YtdpieallpbllkaaGreat.P
open Go.RowKit Go.Proofs.YtdpieallpbllkaaGreatW.PrintWords Go.Proofs.YtdpieallpbllkaaGreatW.PrintLast Go.Proofs.YtdpieallpbllkaaGreatW.PrintMore
theorem Gd.drop {V : Int} : ∀ {b : Int} {d : List Rg} (n : Nat), Gd V b d → Gd V b (d.drop n)
  | _, [], n, h => by simp [Gd]
  | b, x :: d, 0, h => h
  |b,x::d,n+1,⟨h1,h2,h3,h4⟩=>(Gd.drop n h4).mono (by omega)
def DomOf (r:List Rg) (q:Int→Prop):Prop:=Gd 1048576 (-1048576) r∧∀v,Va r v↔q v
theorem DomOf.eq {r s:List Rg} {q q':Int→Prop} (h:DomOf r q) (k:DomOf s q') (e:∀v,q v↔q' v):r=s:=Gd.ext h.1 k.1 (fun v=>(h.2 v).trans ((e v).trans (k.2 v).symm))
theorem DomOf.len {r:List Rg} {q:Int→Prop} (h:DomOf r q):r.length≤2097153:=by
  have h1:=Zdv h.1;have h2:=Zdz h.1
  omega
theorem Gd.at {V b:Int} {d:List Rg} (h:Gd V b d) {n:Nat} (hn:n<d.length):b≤d[n].f0∧d[n].f0≤d[n].f1∧d[n].f1≤V∧Gd V (d[n].f1+2) (d.drop (n+1)):=by
  have hg:=h.drop n;rw[List.drop_eq_getElem_cons hn]at hg;exact hg
theorem Va_drop {d:List Rg} {n:Nat} (hn:n<d.length) (v:Int):Va (d.drop n) v↔(d[n].f0≤v∧v≤d[n].f1)∨Va (d.drop (n+1)) v:=by rw[List.drop_eq_getElem_cons hn,Zc5]
theorem Minus_l1 (a b : List Rg) (ha : Gd 1048576 (-1048576) a) (hb : Gd 1048576 (-1048576) b) (hla : a.length ≤ 2097153) (hlb : b.length ≤ 2097153) (i : Nat) (hi : i < a.length)
    (next : ∀ out : List Rg, out.length ≤ (i + 1) * (b.length + 1) → Gd 1048576 (-1048576) out → endB (-1048576) out ≤ a[i].f1 + 2 →
      ∃ r, Ev (fun k => Zb.l0 k b out a (a.length : Int) ((i + 1 : Nat) : Int)) r ∧ DomOf r (fun v => Va out v ∨ (Va (a.drop (i + 1)) v ∧ ¬ Va b v))) : ∀ (m j : Nat) (lo : Int) (out : List Rg), j + m = b.length → out.length ≤ i * (b.length + 1) + j →
    Gd 1048576 (-1048576) out→endB (-1048576) out≤lo→a[i].f0≤lo→lo≤1048577→endB (-1048576) out≤a[i].f1+2→(lo≤a[i].f1∨∀v,Va (b.drop j) v→a[i].f1<v)→
    ∃r,Ev (fun k=>Zb.l1 k b out a (a.length:Int) (i:Int) b (b.length:Int) (j:Int) lo a[i].f1) r∧DomOf r (fun v=>Va out v∨((lo≤v∧v≤a[i].f1)∧¬Va (b.drop j) v)∨(Va (a.drop (i+1)) v∧¬Va b v)):=by
  obtain⟨x1,x2,x3,x4⟩:=ha.at hi;have hmul:(i+1)*(b.length+1)=i*(b.length+1)+(b.length+1):=by rw[Nat.add_mul,Nat.one_mul]
  have hbig:i*(b.length+1)≤2097153*2097154:=Nat.mul_le_mul (by omega) (by omega);intro m
  induction m with
  |zero=>
    intro j lo out h ho hg he hlo hlo2 he2 hor;have e1:b.drop j= []:=drop_nil' h;by_cases hle:lo≤a[i].f1
    · obtain ⟨r, hr, hD⟩ := next (out ++ [⟨lo, a[i].f1⟩]) (by simp; omega) (Gd_snoc.2 ⟨hg, he, hle, x3⟩) (by rw [Zf1]; exact Int.le_refl _)
      refine⟨r,Ev.step (fun k=>by rw[Zb.l1,if_neg (by omega),if_pos hle,if_pos (by omega),w1 (by omega)]) hr,hD.1,fun v=> ?_⟩;have hv:=hD.2 v;dsimp only at hv ⊢;rw[hv,Va_append,Zc5,e1]
      simp[or_assoc]
    obtain⟨r,hr,hD⟩:=next out (by omega) hg he2;refine⟨r,Ev.step (fun k=>by rw[Zb.l1,if_neg (by omega),if_neg hle,w1 (by omega)]) hr,hD.1,fun v=> ?_⟩;have hv:=hD.2 v;dsimp only at hv ⊢;rw[hv]
    constructor
    · rintro (h | h)
      · exact .inl h
      exact .inr (.inr h)
    rintro(h|⟨h,_⟩|h)
    · exact .inl h
    · omega
    exact .inr h
  |succ m ih=>
    intro j lo out h ho hg he hlo hlo2 he2 hor;have hj:j<b.length:=by omega
    obtain⟨y1,y2,y3,y4⟩:=hb.at hj;have hyb:=show Zbk b (j:Int)=b[j]from Zfe b j hj
    have hvb:=Va_drop hj
    have skip:(b[j].f1<lo∨b[j].f0>a[i].f1)→(∃r,Ev (fun k=>Zb.l1 k b out a (a.length:Int) (i:Int) b (b.length:Int) ((j+1:Nat):Int) lo a[i].f1) r∧DomOf r (fun v=>Va out v∨((lo≤v∧v≤a[i].f1)∧¬Va (b.drop j) v)∨(Va (a.drop (i+1)) v∧¬Va b v))):=fun hs=>by
      obtain⟨r,hr,hD⟩:=ih (j+1) lo out (by omega) (by omega) hg he hlo hlo2 he2 (hor.imp_right (fun hh v hv=>hh v ((hvb v).2 (.inr hv))));refine⟨r,hr,hD.1,fun v=> ?_⟩;have hv:=hD.2 v;dsimp only at hv ⊢;rw[hv,hvb v]
      constructor
      · rintro (h | ⟨h1, h2⟩ | h)
        · exact .inl h
        · exact .inr (.inl ⟨h1,fun h3=>h3.elim (fun h3=>by omega) h2⟩)
        exact .inr (.inr h)
      rintro(h|⟨h1,h2⟩|h)
      · exact .inl h
      · exact .inr (.inl ⟨h1,fun h3=>h2 (.inr h3)⟩)
      exact .inr (.inr h)
    by_cases c1:b[j].f1<lo
    · obtain ⟨r, hr, hD⟩ := skip (.inl c1)
      refine⟨r,?_,hD⟩;refine Ev.step (fun k=>by rw[Zb.l1,if_pos (by omega),if_pos (by omega),if_pos (by omega),hyb,if_pos c1]) ?_;exact Ev.step (fun k=>by rw[Zb.j2,if_pos rfl,w1 (by omega)]) hr
    by_cases c2:b[j].f0>a[i].f1
    · obtain ⟨r, hr, hD⟩ := skip (.inr c2)
      refine⟨r,?_,hD⟩;refine Ev.step (fun k=>by rw[Zb.l1,if_pos (by omega),if_pos (by omega),if_pos (by omega),hyb,if_neg c1]) ?_;exact Ev.step (fun k=>by rw[Zb.j2,if_pos (decide_eq_true c2),w1 (by omega)]) hr
    have hle:lo≤a[i].f1:=by
      rcases hor with h|h
      · exact h
      have:=h b[j].f0 ((hvb _).2 (.inl ⟨Int.le_refl _,y2⟩));omega
    have hlater:b[j].f1+1≤a[i].f1∨∀v,Va (b.drop (j+1)) v→a[i].f1<v:=by
      by_cases hh:b[j].f1+1≤a[i].f1
      · exact .inl hh
      exact .inr (fun v hv=>by have:=y4.ge hv;omega)
    have common:∀v,lo≤v→v≤a[i].f1→(¬((b[j].f0≤v∧v≤b[j].f1)∨Va (b.drop (j+1)) v)↔(v<b[j].f0∨(b[j].f1+1≤v∧¬Va (b.drop (j+1)) v))):=fun v h1 h2=>by
      constructor
      · intro hh
        by_cases h3:v<b[j].f0
        · exact .inl h3
        refine .inr ⟨?_,fun h4=>hh (.inr h4)⟩;by_cases h5:v≤b[j].f1;rotate_left
        · omega
        exact absurd (Or.inl ⟨by omega,h5⟩) hh
      rintro(h3|⟨h3,h4⟩) (h5|h5)
      · omega
      · have:=y4.ge h5;omega
      · omega
      exact h4 h5
    have start:∀ {r},Ev (fun k=>Zb.j2 k b out a (a.length:Int) (i:Int) b (b.length:Int) (j:Int) false lo a[i].f1 b[j].f0 b[j].f1) r→Ev (fun k=>Zb.l1 k b out a (a.length:Int) (i:Int) b (b.length:Int) (j:Int) lo a[i].f1) r:=fun hE=>
      Ev.step (fun k=>by rw[Zb.l1,if_pos (by omega),if_pos (by omega),if_pos (by omega),hyb,if_neg c1,decide_eq_false c2]) hE
    by_cases c3:b[j].f0>lo;rotate_left
    · obtain ⟨r, hr, hD⟩ := ih (j + 1) (b[j].f1 + 1) out (by omega) (by omega) hg (by omega) (by omega) (by omega) he2 hlater
      refine⟨r,start (Ev.step (fun k=>by rw[Zb.j2,if_neg (by simp),if_neg c3,w64 (n:=b[j].f1+1) (by omega) (by omega),w1 (by omega)]) hr),hD.1,fun v=> ?_⟩;have hv:=hD.2 v;dsimp only at hv ⊢;rw[hv,hvb v]
      constructor
      · rintro (h | ⟨h1, h2⟩ | h)
        · exact .inl h
        · exact .inr (.inl ⟨⟨by omega,h1.2⟩,(common v (by omega) h1.2).2 (.inr ⟨h1.1,h2⟩)⟩)
        exact .inr (.inr h)
      rintro(h|⟨h1,h2⟩|h)
      · exact .inl h
      · rcases (common v h1.1 h1.2).1 h2 with h3 | ⟨h3, h4⟩
        · omega
        exact .inr (.inl ⟨⟨h3,h1.2⟩,h4⟩)
      exact .inr (.inr h)
    obtain⟨r,hr,hD⟩:=ih (j+1) (b[j].f1+1) (out++ [⟨lo,b[j].f0 - 1⟩]) (by omega) (by simp;omega) (Gd_snoc.2 ⟨hg,he,by show lo≤b[j].f0 - 1;omega,by show b[j].f0 - 1≤1048576;omega⟩) (by rw[Zf1];show b[j].f0 - 1+2≤_;omega) (by omega) (by omega) (by rw[Zf1];show b[j].f0 - 1+2≤_;omega) hlater;refine⟨r,start (Ev.step (fun k=>by rw[Zb.j2,if_neg (by simp),if_pos c3,if_pos (by omega),w64 (n:=b[j].f0 - 1) (by omega) (by omega),w64 (n:=b[j].f1+1) (by omega) (by omega),w1 (by omega)]) hr),hD.1,fun v=> ?_⟩;have hv:=hD.2 v;dsimp only at hv ⊢;rw[hv,hvb v,Va_append,Zc5];simp only[Va_nil,or_false]
    constructor
    · rintro ((h | h) | ⟨h1, h2⟩ | h)
      · exact .inl h
      · exact .inr (.inl ⟨⟨h.1,by omega⟩,(common v h.1 (by omega)).2 (.inl (by omega))⟩)
      · exact .inr (.inl ⟨⟨by omega,h1.2⟩,(common v (by omega) h1.2).2 (.inr ⟨h1.1,h2⟩)⟩)
      exact .inr (.inr h)
    rintro(h|⟨h1,h2⟩|h)
    · exact .inl (.inl h)
    · rcases (common v h1.1 h1.2).1 h2 with h3 | ⟨h3, h4⟩
      · exact .inl (.inr ⟨h1.1,by omega⟩)
      exact .inr (.inl ⟨⟨h3,h1.2⟩,h4⟩)
    exact .inr (.inr h)
theorem Minus_l0 (a b : List Rg) (ha : Gd 1048576 (-1048576) a) (hb : Gd 1048576 (-1048576) b) (hla : a.length ≤ 2097153) (hlb : b.length ≤ 2097153) : ∀ (m i : Nat) (out : List Rg), i + m = a.length → out.length ≤ i * (b.length + 1) → Gd 1048576 (-1048576) out → (∀ hi : i < a.length, endB (-1048576) out ≤ a[i].f0) →
    ∃r,Ev (fun k=>Zb.l0 k b out a (a.length:Int) (i:Int)) r∧DomOf r (fun v=>Va out v∨(Va (a.drop i) v∧¬Va b v)):=by
  intro m
  induction m with
  |zero=>
    intro i out h ho hg _;refine⟨out,Ev.step (G:=fun _=>some out) (fun k=>by rw[Zb.l0,if_neg (by omega)]) (Ev.pure _),hg,fun v=>by rw[drop_nil' h];simp⟩
  |succ m ih=>
    intro i out h ho hg he;have hi:i<a.length:=by omega
    obtain⟨x1,x2,x3,x4⟩:=ha.at hi;have hxa:=show Zbk a (i:Int)=a[i]from Zfe a i hi
    have hva:=Va_drop hi
    obtain ⟨r, hr, hD⟩ := Minus_l1 a b ha hb hla hlb i hi (fun out' h1 h2 h3 => ih (i + 1) out' (by omega) h1 h2 (fun hi1 => by
      have:=(ha.at hi).2.2.2;rw[List.drop_eq_getElem_cons hi1]at this;have:=this.1
      omega)) b.length 0 a[i].f0 out (by omega) (by omega) hg (he hi) (Int.le_refl _) (by omega) (by have := he hi; omega) (.inl x2)
    refine⟨r,Ev.step (fun k=>by rw[Zb.l0,if_pos (by omega),if_pos (by omega),if_pos (by omega),hxa];rfl) hr,hD.1,fun v=> ?_⟩;have hv:=hD.2 v;dsimp only at hv ⊢;rw[hv,hva v,List.drop_zero]
    constructor
    · rintro (h | ⟨h1, h2⟩ | ⟨h1, h2⟩)
      · exact .inl h
      · exact .inr ⟨.inl h1,h2⟩
      exact .inr ⟨.inr h1,h2⟩
    rintro(h|⟨h1|h1,h2⟩)
    · exact .inl h
    · exact .inr (.inl ⟨h1,h2⟩)
    exact .inr (.inr ⟨h1,h2⟩)
theorem Minus_ev (a b:List Rg) (ha:Gd 1048576 (-1048576) a) (hb:Gd 1048576 (-1048576) b):∃r,Ev (fun k=>Zb.f k a b) r∧DomOf r (fun v=>Va a v∧¬Va b v):=by
  have h1:=Zdv ha;have h2:=Zdz ha;have h3:=Zdv hb;have h4:=Zdz hb;obtain⟨r,hr,hD⟩:=Minus_l0 a b ha hb (by omega) (by omega) a.length 0 [] (by omega) (by simp) trivial (fun hi=>by simp[endB];exact(ha.at hi).1);exact⟨r,hr,hD.1,fun v=>by have hv:=hD.2 v;dsimp only at hv ⊢;rw[hv];simp⟩
theorem truth_ev (d:List Rg) (hd:Gd 1048576 (-1048576) d):∃b:Bool,Ev (fun k=>Zct.f k d) b∧(b=true↔∀v,Va d v→0≤v∧v≤1):=by
  have h01:Gd 1048576 (-1048576) [(⟨0,1⟩:Rg)]:=by
    simp[Gd]
  obtain⟨r,hr,hD⟩:=Minus_ev d [(⟨0,1⟩:Rg)] hd h01;refine⟨((r.length:Int)==0),?_,?_⟩
  · unfold Zct.f
    exact Ev.bind hr (Ev.const rfl)
  have hv:∀v,Va [(⟨0,1⟩:Rg)] v↔0≤v∧v≤1:=fun v=>by simp[Va]
  rw[beq_iff_eq]
  constructor
  · intro h0 v hd1
    obtain rfl:r= []:=List.length_eq_zero_iff.1 (by omega);refine Classical.byContradiction (fun hn=> ?_);have:=(hD.2 v).2 ⟨hd1,fun h=>hn ((hv v).1 h)⟩
    simp[Va]at this
  intro h
  cases r with
  | nil => rfl
  |cons x r=>
    exfalso
    have hx:x.f0≤x.f1:=(hD.1.at (n:=0) (by simp)).2.1;have hva:Va (x::r) x.f0:=by simp only[Va,List.mem_cons];exact⟨x,.inl rfl,Int.le_refl _,hx⟩
    obtain⟨h1,h2⟩:=(hD.2 x.f0).1 hva;exact h2 ((hv _).2 (h _ h1))
end Go.Proofs.YtdpieallpbllkaaGreat.P
/- May a constraint be: model.Con in plain words. -/
namespace Go.Proofs.YtdpieallpbllkaaGreat.P
open Go.RowKit Go.Proofs.YtdpieallpbllkaaGreatW.PrintWords Go.Proofs.YtdpieallpbllkaaGreatW.PrintLast Go.Proofs.YtdpieallpbllkaaGreatW.PrintMore
theorem idx_loop (l : List Int) (x : Int) (hl : l.length ≤ 1000000) : ∀ (d i : Nat), i + d = l.length → ∃ r : Int, Ev (fun k => slices_Index_int.l0 k l x (l.length : Int) (i : Int)) r ∧ (0 ≤ r ↔ x ∈ l.drop i)
  |0,i,h=>by
    refine⟨-1,Ev.step (G:=fun _=>some (-1)) (fun k=>by rw[slices_Index_int.l0,if_neg (by omega)]) (Ev.const rfl),?_⟩;rw[List.drop_eq_nil_of_le (by omega)]
    simp
  |d+1,i,h=>by
    have hi:i<l.length:=by omega
    have hr:rd l (i:Int)=l[i]:=Zc2 l i hi;rw[List.drop_eq_getElem_cons hi];by_cases e:x=l[i]
    · refine⟨(i:Int),Ev.step (G:=fun _=>some (i:Int)) (fun k=>by rw[slices_Index_int.l0,if_pos (by omega),if_pos (by omega),if_pos (by omega),hr,if_pos e]) (Ev.const rfl),⟨fun _=>List.mem_cons.2 (.inl e),fun _=>by omega⟩⟩
    obtain⟨r,h1,h2⟩:=idx_loop l x hl d (i+1) (by omega);refine⟨r,Ev.step (fun k=>by rw[slices_Index_int.l0,if_pos (by omega),if_pos (by omega),if_pos (by omega),hr,if_neg e,w1 (by omega)]) h1,?_⟩;rw[h2,List.mem_cons];exact⟨.inr,fun h_=>h_.resolve_left e⟩
theorem Zg3 (l:List Int) (x:Int) (hl:l.length≤1000000):Ev (fun k=>slices_Contains_int.f k l x) (decide (x ∈ l)):=by
  obtain⟨r,h1,h2⟩:=idx_loop l x hl l.length 0 (by omega);unfold slices_Contains_int.f slices_Index_int.f;refine Ev.bind h1 (Ev.const ?_);rw[List.drop_zero]at h2
  congr 1
  exact decide_eq_decide.2 h2
def truB (d:List Rg):Bool:=d.all fun r=>decide (0≤r.f0) && decide (r.f1≤1)
theorem Gd.ne {V : Int} : ∀ {b : Int} {d : List Rg}, Gd V b d → ∀ r ∈ d, r.f0 ≤ r.f1
  | _, [], _, r, h => absurd h List.not_mem_nil
  |_,x::d,⟨_,h2,_,h4⟩,r,h=>by
    rcases List.mem_cons.1 h with e|h
    · subst e;exact h2
    exact Gd.ne h4 r h
theorem truth_evB (d:List Rg) (hd:Gd 1048576 (-1048576) d):Ev (fun k=>Zct.f k d) (truB d):=by
  obtain⟨b,h1,h2⟩:=truth_ev d hd
  have:b=truB d:=by
    rw[Bool.eq_iff_iff,h2];unfold truB;rw[List.all_eq_true]
    constructor
    · intro h r hr
      have hne:=hd.ne r hr;have a1:=h r.f0 ⟨r,hr,Int.le_refl _,hne⟩;have a2:=h r.f1 ⟨r,hr,hne,Int.le_refl _⟩;simp only[Bool.and_eq_true,decide_eq_true_eq]
      omega
    rintro h v ⟨r,hr,h3,h4⟩;have:=h r hr;simp only[Bool.and_eq_true,decide_eq_true_eq]at this
    omega
  rw[←this];exact h1
def domAt (d:List (List Rg)) (v:Int):List Rg:=d.getD v.toNat []
theorem domAt_Gd {d:List (List Rg)} (hd:∀x ∈ d,Gd 1048576 (-1048576) x) (v:Int):Gd 1048576 (-1048576) (domAt d v):=by
  unfold domAt;rw[List.getD_eq_getElem?_getD]
  cases h:d[v.toNat]? with
  | none => trivial
  |some x=>exact hd x (List.mem_of_getElem? h)
theorem truths_ev (d : List (List Rg)) (hd : ∀ x ∈ d, Gd 1048576 (-1048576) x) : ∀ l : List Int, l.any (awayV d.length) = false → Ev (fun k => truthsL k d l) (l.map fun v => truB (domAt d v))
  | [], _ => Ev.const rfl
  |v::l,h=>by
    rw[List.any_cons,Bool.or_eq_false_iff]at h
    have hv:0≤v∧v<(d.length:Int):=by
      have:=h.1;unfold awayV at this;simp only[Bool.or_eq_false_iff,decide_eq_false_iff_not]at this
      omega
    have ih:=truths_ev d hd l h.2;unfold truthsL;refine Ev.Zak hv (Ev.bind (truth_evB _ (domAt_Gd hd v)) (Ev.bind ih (Ev.const rfl)))
def allB (l:List Int):Bool:=decide ((sd l).length=l.length)
theorem all_evB (l:List Int) (hl:l.length≤1000000):Zdp.f l=some (allB l):=by
  unfold Zdp.f allB;rw[if_neg (by omega)]
  congr 1
  exact decide_eq_decide.2 (by omega)
def sumB (vars coefs:List Int):Bool:=decide (0<vars.length) && (decide (vars.length=coefs.length) && (allB vars && !decide ((0:Int) ∈ coefs)))
theorem sum_evB (kd:Int) (vars coefs:List Int) (op rhs:Int) (rows:List (List Int)) (b:Int) (h1:vars.length≤1000000) (h2:coefs.length≤1000000):Ev (fun k=>Zdi.f k kd vars coefs op rhs rows b) (sumB vars coefs):=by
  unfold Zdi.f sumB;by_cases q1:0<vars.length;rotate_left
  · rw [decide_eq_false q1, Bool.false_and]
    exact Ev.Zat (by omega) (Ev.const rfl)
  rw[decide_eq_true q1,Bool.true_and];refine Ev.Zak (by omega) ?_;by_cases q2:vars.length=coefs.length;rotate_left
  · rw [decide_eq_false q2, Bool.false_and]
    exact Ev.Zat (by omega) (Ev.const rfl)
  rw[decide_eq_true q2,Bool.true_and];refine Ev.Zak (by omega) (Ev.bind (Ev.const (all_evB vars h1)) ?_)
  cases allB vars with
  | true => exact Ev.Zak rfl (Ev.bind (Zg3 coefs 0 h2) (Ev.const rfl))
  |false=>exact Ev.Zat (by simp) (Ev.const rfl)
def heldB (vars coefs:List Int) (op:Int):Bool:=sumB vars coefs && (decide (0≤op) && decide (op<3))
theorem held_evB (kd:Int) (vars coefs:List Int) (op rhs:Int) (rows:List (List Int)) (b:Int) (h1:vars.length≤1000000) (h2:coefs.length≤1000000):Ev (fun k=>Zdk.f k kd vars coefs op rhs rows b) (heldB vars coefs op):=by
  unfold Zdk.f heldB;refine Ev.bind (sum_evB kd vars coefs op rhs rows b h1 h2) ?_
  cases sumB vars coefs with
  | false => exact Ev.Zat (by simp) (Ev.const rfl)
  |true=>
    refine Ev.Zak rfl ?_;by_cases q:0≤op;rotate_left
    · rw [decide_eq_false q]
      exact Ev.Zat q (Ev.const rfl)
    rw[decide_eq_true q];exact Ev.Zak q (Ev.const (by simp))
def plainB (coefs:List Int) (op rhs b:Int):Bool:=decide (coefs.length=0) && (decide (op=0) && (decide (rhs=0) && decide (b=0)))
theorem plain_evB (kd:Int) (vars coefs:List Int) (op rhs:Int) (rows:List (List Int)) (b:Int):Zdn.f kd vars coefs op rhs rows b=some (plainB coefs op rhs b):=by
  unfold Zdn.f plainB
  by_cases q1:coefs.length=0<;>by_cases q2:op=0<;>by_cases q3:rhs=0<;>by_cases q4:b=0<;>simp[q1,q2,q3,q4]
def rightB (d:List (List Rg)) (kd:Int) (vars coefs:List Int) (op rhs:Int) (rows:List (List Int)) (b:Int):Bool:=
  if kd≠2∧0<rows.length then false
  else if kd=0 then heldB vars coefs op && decide (b=0)
  else if kd=1 then plainB coefs op rhs b && (decide (0<vars.length) && allB vars)
  else if kd=2 then plainB coefs op rhs b && (decide (0<vars.length) && (allB vars && (decide (rows.length≤1024) && !(rows.any fun l=> !rowOk vars l))))
  else if kd=3 then plainB coefs op rhs b && (decide (3≤vars.length) && allB vars)
  else if kd=4 then heldB vars coefs op && (truB (domAt d b) && !decide (b ∈ vars))
  else if kd=5 then sumB vars coefs && (decide (op=0) && (decide (rhs=0) && (decide (b=0) && (!(coefs.any oddU) && vars.all fun v=>truB (domAt d v)))))
  else plainB coefs op rhs b && (decide (2≤vars.length) && decide ((vars.length:Int)%2=0))
theorem right_evB (d : List (List Rg)) (hd : ∀ x ∈ d, Gd 1048576 (-1048576) x) (kd : Int) (vars coefs : List Int) (op rhs : Int) (rows : List (List Int)) (b : Int) (h1 : vars.length ≤ 1000000) (h2 : coefs.length ≤ 1000000) (hv : vars.any (awayV d.length) = false) (hb : kd = 4 → awayV d.length b = false) :
    Ev (fun k=>Zb8.f k d kd vars coefs op rhs rows b) (rightB d kd vars coefs op rhs rows b):=by
  have hall:=all_evB vars h1;have hpl:=plain_evB kd vars coefs op rhs rows b;unfold Zb8.f rightB;by_cases q0:kd≠2∧0<rows.length
  · rw[if_pos q0];exact Ev.Zak q0 (Ev.const rfl)
  rw[if_neg q0];refine Ev.Zat q0 ?_;by_cases k0:kd=0
  · rw[if_pos k0];exact Ev.Zak k0 (Ev.bind (held_evB kd vars coefs op rhs rows b h1 h2) (Ev.const rfl))
  rw[if_neg k0];refine Ev.Zat k0 ?_;by_cases k1:kd=1
  · rw[if_pos k1];exact Ev.Zak k1 (Ev.bind (Ev.const hpl) (Ev.bind (Ev.const hall) (Ev.const rfl)))
  rw[if_neg k1];refine Ev.Zat k1 ?_;by_cases k2:kd=2
  · rw[if_pos k2];exact Ev.Zak k2 (Ev.bind (Ev.const hpl) (Ev.bind (Ev.const hall) (Ev.const rfl)))
  rw[if_neg k2];refine Ev.Zat k2 ?_;by_cases k3:kd=3
  · rw[if_pos k3];exact Ev.Zak k3 (Ev.bind (Ev.const hpl) (Ev.bind (Ev.const hall) (Ev.const rfl)))
  rw[if_neg k3];refine Ev.Zat k3 ?_;by_cases k4:kd=4
  · rw [if_pos k4]
    have hbb:0≤b∧b<(d.length:Int):=by
      have:=hb k4;unfold awayV at this;simp only[Bool.or_eq_false_iff,decide_eq_false_iff_not]at this
      omega
    exact Ev.Zak k4 (Ev.Zak hbb (Ev.bind (held_evB kd vars coefs op rhs rows b h1 h2) (Ev.bind (truth_evB _ (domAt_Gd hd b)) (Ev.bind (Zg3 vars b h1) (Ev.const rfl)))))
  rw[if_neg k4];refine Ev.Zat k4 ?_;by_cases k5:kd=5
  · rw [if_pos k5]
    refine Ev.Zak k5 (Ev.bind (sum_evB kd vars coefs op rhs rows b h1 h2) (Ev.bind (truths_ev d hd vars hv) (Ev.const ?_)));rw[List.all_map]
    rfl
  rw[if_neg k5];exact Ev.Zat k5 (Ev.bind (Ev.const hpl) (Ev.const rfl))
def conE (d:List (List Rg)) (kd:Int) (vars coefs:List Int) (op rhs:Int) (rows:List (List Int)) (b:Int):Int:=
  if kd<0∨7≤kd then 44
  else if vars.any (awayV d.length)=true then 43
  else if kd=4∧awayV d.length b=true then 43
  else if rightB d kd vars coefs op rhs rows b=false then 44
  else if(rhs.natAbs:Int)+tot coefs≤4611686018427387904 then 0 else 45
theorem con_evB (d : List (List Rg)) (hd : ∀ x ∈ d, Gd 1048576 (-1048576) x) (kd : Int) (vars coefs : List Int) (op rhs : Int) (rows : List (List Int)) (b : Int) (h1 : vars.length ≤ 1000000) (h2 : coefs.length ≤ 1000000) (hw : ∀ c ∈ coefs, -9223372036854775808 ≤ c) (hr : -9223372036854775808 ≤ rhs) :
    Ev (fun k=>Zc3.f k d kd vars coefs op rhs rows b) (conE d kd vars coefs op rhs rows b):=by
  unfold Zc3.f conE;by_cases q0:kd<0∨7≤kd
  · rw[if_pos q0];exact Ev.Zak q0 (Ev.const rfl)
  rw[if_neg q0];refine Ev.Zat q0 ?_;by_cases q1:vars.any (awayV d.length)=true
  · rw[if_pos q1];exact Ev.Zak q1 (Ev.const rfl)
  rw[if_neg q1];refine Ev.Zat q1 ?_;by_cases q2:kd=4∧awayV d.length b=true
  · rw[if_pos q2];exact Ev.Zak q2 (Ev.const rfl)
  rw[if_neg q2];refine Ev.Zat q2 ?_;refine Ev.bind (right_evB d hd kd vars coefs op rhs rows b h1 h2 (Bool.eq_false_iff.2 q1) (fun k4=>Bool.eq_false_iff.2 (fun h_=>q2 ⟨k4,h_⟩))) ?_;by_cases q3:rightB d kd vars coefs op rhs rows b=false
  · rw[if_pos q3];exact Ev.Zak q3 (Ev.const rfl)
  rw[if_neg q3];refine Ev.Zat q3 (Ev.bind (big_ev coefs rhs h2 hw hr) (Ev.const ?_));by_cases q:(rhs.natAbs:Int)+tot coefs≤4611686018427387904
  · rw[if_pos q,decide_eq_true q];rfl
  rw[if_neg q,decide_eq_false q];rfl
theorem conE_ok {d:List (List Rg)} {kd:Int} {vars coefs:List Int} {op rhs:Int} {rows:List (List Int)} {b:Int} (h:conE d kd vars coefs op rhs rows b=0):vars.any (awayV d.length)=false∧(kd=4→awayV d.length b=false):=by
  unfold conE at h
  split at h
  · exact absurd h (by decide)
  split at h
  · exact absurd h (by decide)
  split at h
  · exact absurd h (by decide)
  rename_i q1 q2
  exact⟨Bool.eq_false_iff.2 q1,fun k4=>Bool.eq_false_iff.2 (fun h_=>q2 ⟨k4,h_⟩)⟩
end Go.Proofs.YtdpieallpbllkaaGreat.P
namespace Go.Proofs.YtdpieallpbllkaaGreat.P
open Go.RowKit Go.Proofs.YtdpieallpbllkaaGreatW.PrintWords Go.Proofs.YtdpieallpbllkaaGreatW.PrintLast Go.Proofs.YtdpieallpbllkaaGreatW.PrintMore
attribute [local go_sem] Zcw Zcy Zdg Zdh Zco Zcp Zcx Zcz
def Zb0.f (k:Nat) (aU:Int) (aa:List Int) (au:List Int) (aX:Int) (bn:Int) (aI:List (List Int)) (bv:Int) (l1:List Int):Option (Bool):=(Zch.f l1 aa).bind fun qL=>((Zce.f k au qL).bind fun wS=>(if aX=0 then(some (decide (wS.1≤bn)))else(if aX=1 then(some (wS.1==bn))else(some (wS.1 !=bn)))))
theorem Zb0.mono:∀a0 a1 a2 a3 a4 a5 a6 a7 k,LeO (Zb0.f k a0 a1 a2 a3 a4 a5 a6 a7) (Zb0.f (k+1) a0 a1 a2 a3 a4 a5 a6 a7):=by
 intro a0 a1 a2 a3 a4 a5 a6 a7 k;unfold Zb0.f
 repeat' first
   | (with_reducible exact Zce.mono _ _ _)
   | (with_reducible exact LeO.refl _)
   | (with_reducible exact LeO.none _)
   | (with_reducible refine LeO.ite ?_ ?_)
   |(with_reducible refine LeO.bind ?_ (fun _=> ?_))
def Zb0.T1:Bool × List (List Nat × List Nat):=(true,[([],[]),([0],[0]),([],[]),([],[]),([3],[3]),([2,4],[2,4]),([1,5,5],[1,5]),([6],[6]),([7],[7]),([7],[7]),([8,6,0,1,2,3,4,5,6,7,8],[8]),([9,10,0,1,2,3,4,5,6,7,8,9,10],[9])])
def Zb0.B1:List Nat:= [0,1,0,0,8,28,63,127,255,255,511,2047]
theorem Zb0.tab1:rtab .any (opsOf Tryz.f32 1)=Zb0.T1:=by kernel_rfl
theorem Zb0.bits1:waitsOk Zb0.T1.2 Zb0.B1=true:=by kernel_rfl
set_option maxRecDepth 100000 in
theorem Zb0.calls (k : Nat) (aU : Int) (aV : Option Addr) (aQ : Nat) (aa : List Int) (dx : Option Addr) (dz : Nat) (au : List Int) (aX : Int) (bn : Int) (dR : Option Addr) (dP : Nat) (aI : List (List Int)) (bv : Int) (A1 : Option Addr) (c1 : Nat) (l1 : List Int) (r : Bool) (w : World) (eu : Kd.C (Kd.int .i64) w aV aa.length aa) (ek : aa.length ≤ aQ) (ig : Kd.C (Kd.int .i64) w dx au.length au) (ic : au.length ≤ dz) (iY : Kd.C (Kd.slice 3 (Kd.int .i64)) w dR aI.length aI) (iX : aI.length ≤ dP) (hr1 : Kd.C (Kd.int .i64) w A1 l1.length l1) (hc1 : l1.length ≤ c1) (h : Zb0.f k aU aa au aX bn aI bv l1 = some r) :
  Calls Tryz.prog 32 #[.agg #[.int .i64 aU,.slice aV aa.length aQ,.slice dx au.length dz,.int .i64 aX,.int .i64 bn,.slice dR aI.length dP,.int .i64 bv],.slice A1 l1.length c1] w fun e w'=>e= .returned (.bool r)∧Below w.heap.size w w':=by
 have hu36:=Tryz.underlying36;have eO:=Za.mk eu;have fC:=Za.mk ek;clear eu ek;have j4:=Za.mk ig;have jL:=Za.mk ic;clear ig ic;have j5:=Za.mk iY;have pJ:=Za.mk iX;clear iY iX;have HR1:=Za.mk hr1;have HC1:=Za.mk hc1;clear hr1 hc1;have HB:=Za.mk (Below.refl w.heap.size w);have H:((Zch.f l1 aa).bind fun qL=>((Zce.f k au qL).bind fun wS=>(if aX=0 then(some (decide (wS.1≤bn)))else(if aX=1 then(some (wS.1==bn))else(some (wS.1 !=bn))))))=some r:=h;clear h;obtain⟨qL,A3,H⟩:=bnd H;try dsimp only at H
 obtain⟨⟨P5,P6⟩,A4,H⟩:=bnd H;try dsimp only at H
 by_cases c5:aX=0
 case pos=>
  rw[if_pos c5]at H;have dw:(aX==0)=true:=beq_iff_eq.mpr c5;have lq:(aX !=0)=false:=bne_eq_false_iff_eq.mpr c5;clear c5;obtain rfl:=sj H;go_enter Tryz.func32,Tryz.ntmps32;try go_wp2_with (first|((with_reducible refine Zar (N:=2) rfl ?_);refine bx 2 #[.int .i64 aU,.slice aV aa.length aQ,.slice dx au.length dz,.int .i64 aX,.int .i64 bn,.slice dR aI.length dP,.int .i64 bv] 36 ?_;intro ib hg w6 hbox hb;have aY:=Za.mk (hbox);have Qn:=Za.mk ((gE hg HB.out:w.heap.size≤ib));replace HB:=Za.mk (bS HB.out hb);clear hb hbox hg))
  replace aY:=Za.mk (Zai aY.out);replace HB:=Za.mk (Zcs HB.out);refine Ze7 (n:=12) (S:=fun w'=>w'.cell? ⟨ib,0,none⟩=some (.int .i64 aU)∧w'.cell? ⟨ib,1,none⟩=some (.slice aV aa.length aQ)∧w'.cell? ⟨ib,2,none⟩=some (.slice dx au.length dz)∧w'.cell? ⟨ib,3,none⟩=some (.int .i64 aX)∧w'.cell? ⟨ib,4,none⟩=some (.int .i64 bn)∧w'.cell? ⟨ib,5,none⟩=some (.slice dR aI.length dP)∧w'.cell? ⟨ib,6,none⟩=some (.int .i64 bv)) (ds:= []) #[false,false,false,false,false,false,false,false,false,false,false,false] (by kernel_rfl) rfl rfl ⟨bc aY.out 0,bc aY.out 1,bc aY.out 2,bc aY.out 3,bc aY.out 4,bc aY.out 5,bc aY.out 6⟩ (fun hHeld=> ?_);refine Zdy Zb0.tab1 Zb0.bits1 (fun HT_ HW_=> ?_)
  generalize w6.drew=w7 at aY HB hHeld ⊢
  refine pu HT_ 0 8 ?_;refine pu HT_ 2 10 ?_;refine pu HT_ 3 11 ?_;refine tk HT_ HW_ hHeld 1 9 ?_;refine tk HT_ HW_ hHeld 4 12 ?_;refine on1 HT_ 5 13 (fun K hK=> ?_);refine gs Tryz.func31 #[.slice A1 l1.length c1,.slice aV aa.length aQ] ?_
  with_reducible refine(Zch.calls _ _ l1 _ _ aa qL _ (cM (Kd.Zac HR1.out HB.out)) HC1.out (cM (Kd.Zac eO.out HB.out)) fC.out A3.out).mono ?_
  rintro e w8 ⟨VK,rfl,ho0,hb⟩;refine⟨_,rfl,?_⟩;have jN:=Za.mk (Kd.Zbm ho0 (Zaf (bM HB.out)));replace aY:=Za.mk (kB aY.out hb);replace HB:=Za.mk (bS HB.out hb)
  (try clear hb)
  (try clear hb2)
  (try clear hk)
  (try clear hi)
  (try clear ho0)
  obtain⟨Ao9,co9,eo9⟩:=Kd.Zbe jN.out
  (first|subst eo9|(injection eo9 with f1_ f2_ f3_;have f4_:=f1_.symm;have f5_:=f3_.symm;clear f1_ f2_ f3_;subst f4_;subst f5_))
  refine hK.out _ _ ⟨bc aY.out 0,bc aY.out 1,bc aY.out 2,bc aY.out 3,bc aY.out 4,bc aY.out 5,bc aY.out 6⟩ (fun hHeld=> ?_);clear hK K;refine nmp 13 ?_;refine on1 HT_ 6 14 (fun K hK=> ?_);refine gs Tryz.func51 #[.slice dx au.length dz,.slice Ao9 qL.length co9] ?_
  with_reducible refine(Zce.calls k _ _ au _ _ qL P5 P6 _ (cM (Kd.Zac j4.out HB.out)) jL.out (cM ((Kd.Zan jN.out).2.2)) ((Kd.Zan jN.out).2.1) A4.out).mono ?_
  rintro e w10 ⟨rfl,hb⟩;refine⟨_,rfl,?_⟩;replace jN:=Za.mk (Kd.Zb6 (rM jN.out) hb);replace aY:=Za.mk (kB aY.out hb);replace HB:=Za.mk (bS HB.out hb)
  (try clear hb)
  (try clear hb2)
  (try clear hk)
  (try clear hi)
  refine hK.out _ _ ⟨bc aY.out 0,bc aY.out 1,bc aY.out 2,bc aY.out 3,bc aY.out 4,bc aY.out 5,bc aY.out 6⟩ (fun hHeld=> ?_);clear hK K;refine nmp 14 ?_;refine pu HT_ 7 7 ?_;refine pu HT_ 8 15 ?_;refine pu HT_ 9 16 ?_;refine pu HT_ 10 5 ?_;refine pu HT_ 11 6 ?_;refine Zgg (Zen HT_.out (by kernel_rfl)) ?_;obtain⟨Eu,Ew,Gx,MU,MV,aOa,aPa,Eh,Ei,Gf,Ms,Mt,Y6,Y7⟩:=cz7 aY.out;try go_wp2
  go_ret;exact⟨eR,bM HB.out⟩
 rw[if_neg c5]at H;have dw:(aX==0)=false:=beq_eq_false_iff_ne.mpr c5;have lq:(aX !=0)=true:=bne_iff_ne.mpr c5;by_cases c12:aX=1
 case neg=>
  rw[if_neg c12]at H;have iV:(aX==1)=false:=beq_eq_false_iff_ne.mpr c12;have ul:(aX !=1)=true:=bne_iff_ne.mpr c12;obtain rfl:=sj H;go_enter Tryz.func32,Tryz.ntmps32;try go_wp2_with (first|((with_reducible refine Zar (N:=2) rfl ?_);refine bx 2 #[.int .i64 aU,.slice aV aa.length aQ,.slice dx au.length dz,.int .i64 aX,.int .i64 bn,.slice dR aI.length dP,.int .i64 bv] 36 ?_;intro ib hg w19 hbox hb;have aY:=Za.mk (hbox);have Qn:=Za.mk ((gE hg HB.out:w.heap.size≤ib));replace HB:=Za.mk (bS HB.out hb);clear hb hbox hg))
  replace aY:=Za.mk (Zai aY.out);replace HB:=Za.mk (Zcs HB.out);refine Ze7 (n:=12) (S:=fun w'=>w'.cell? ⟨ib,0,none⟩=some (.int .i64 aU)∧w'.cell? ⟨ib,1,none⟩=some (.slice aV aa.length aQ)∧w'.cell? ⟨ib,2,none⟩=some (.slice dx au.length dz)∧w'.cell? ⟨ib,3,none⟩=some (.int .i64 aX)∧w'.cell? ⟨ib,4,none⟩=some (.int .i64 bn)∧w'.cell? ⟨ib,5,none⟩=some (.slice dR aI.length dP)∧w'.cell? ⟨ib,6,none⟩=some (.int .i64 bv)) (ds:= []) #[false,false,false,false,false,false,false,false,false,false,false,false] (by kernel_rfl) rfl rfl ⟨bc aY.out 0,bc aY.out 1,bc aY.out 2,bc aY.out 3,bc aY.out 4,bc aY.out 5,bc aY.out 6⟩ (fun hHeld=> ?_);refine Zdy Zb0.tab1 Zb0.bits1 (fun HT_ HW_=> ?_)
  generalize w19.drew=w20 at aY HB hHeld ⊢
  refine pu HT_ 0 8 ?_;refine pu HT_ 2 10 ?_;refine pu HT_ 3 11 ?_;refine tk HT_ HW_ hHeld 1 9 ?_;refine tk HT_ HW_ hHeld 4 12 ?_;refine on1 HT_ 5 13 (fun K hK=> ?_);refine gs Tryz.func31 #[.slice A1 l1.length c1,.slice aV aa.length aQ] ?_
  with_reducible refine(Zch.calls _ _ l1 _ _ aa qL _ (cM (Kd.Zac HR1.out HB.out)) HC1.out (cM (Kd.Zac eO.out HB.out)) fC.out A3.out).mono ?_
  rintro e w21 ⟨VK,rfl,ho0,hb⟩;refine⟨_,rfl,?_⟩;have jN:=Za.mk (Kd.Zbm ho0 (Zaf (bM HB.out)));replace aY:=Za.mk (kB aY.out hb);replace HB:=Za.mk (bS HB.out hb)
  (try clear hb)
  (try clear hb2)
  (try clear hk)
  (try clear hi)
  (try clear ho0)
  obtain⟨oF,oG,wU⟩:=Kd.Zbe jN.out
  (first|subst wU|(injection wU with f1_ f2_ f3_;have f4_:=f1_.symm;have f5_:=f3_.symm;clear f1_ f2_ f3_;subst f4_;subst f5_))
  refine hK.out _ _ ⟨bc aY.out 0,bc aY.out 1,bc aY.out 2,bc aY.out 3,bc aY.out 4,bc aY.out 5,bc aY.out 6⟩ (fun hHeld=> ?_);clear hK K;refine nmp 13 ?_;refine on1 HT_ 6 14 (fun K hK=> ?_);refine gs Tryz.func51 #[.slice dx au.length dz,.slice oF qL.length oG] ?_
  with_reducible refine(Zce.calls k _ _ au _ _ qL P5 P6 _ (cM (Kd.Zac j4.out HB.out)) jL.out (cM ((Kd.Zan jN.out).2.2)) ((Kd.Zan jN.out).2.1) A4.out).mono ?_
  rintro e w23 ⟨rfl,hb⟩;refine⟨_,rfl,?_⟩;replace jN:=Za.mk (Kd.Zb6 (rM jN.out) hb);replace aY:=Za.mk (kB aY.out hb);replace HB:=Za.mk (bS HB.out hb)
  (try clear hb)
  (try clear hb2)
  (try clear hk)
  (try clear hi)
  refine hK.out _ _ ⟨bc aY.out 0,bc aY.out 1,bc aY.out 2,bc aY.out 3,bc aY.out 4,bc aY.out 5,bc aY.out 6⟩ (fun hHeld=> ?_);clear hK K;refine nmp 14 ?_;refine pu HT_ 7 7 ?_;refine pu HT_ 8 15 ?_;refine pu HT_ 9 16 ?_;refine pu HT_ 10 5 ?_;refine pu HT_ 11 6 ?_;refine Zgg (Zen HT_.out (by kernel_rfl)) ?_;obtain⟨xQ,xR,xS,xU,xV,bfa,bga,xC,xD,xE,xG,xH,YM,YN⟩:=cz7 aY.out;try go_wp2
  go_ret;exact⟨eR,bM HB.out⟩
 rw[if_pos c12]at H;have iV:(aX==1)=true:=beq_iff_eq.mpr c12;have ul:(aX !=1)=false:=bne_eq_false_iff_eq.mpr c12;clear c12;obtain rfl:=sj H;go_enter Tryz.func32,Tryz.ntmps32;try go_wp2_with (first|((with_reducible refine Zar (N:=2) rfl ?_);refine bx 2 #[.int .i64 aU,.slice aV aa.length aQ,.slice dx au.length dz,.int .i64 aX,.int .i64 bn,.slice dR aI.length dP,.int .i64 bv] 36 ?_;intro ib hg w13 hbox hb;have aY:=Za.mk (hbox);have Qn:=Za.mk ((gE hg HB.out:w.heap.size≤ib));replace HB:=Za.mk (bS HB.out hb);clear hb hbox hg))
 replace aY:=Za.mk (Zai aY.out);replace HB:=Za.mk (Zcs HB.out);refine Ze7 (n:=12) (S:=fun w'=>w'.cell? ⟨ib,0,none⟩=some (.int .i64 aU)∧w'.cell? ⟨ib,1,none⟩=some (.slice aV aa.length aQ)∧w'.cell? ⟨ib,2,none⟩=some (.slice dx au.length dz)∧w'.cell? ⟨ib,3,none⟩=some (.int .i64 aX)∧w'.cell? ⟨ib,4,none⟩=some (.int .i64 bn)∧w'.cell? ⟨ib,5,none⟩=some (.slice dR aI.length dP)∧w'.cell? ⟨ib,6,none⟩=some (.int .i64 bv)) (ds:= []) #[false,false,false,false,false,false,false,false,false,false,false,false] (by kernel_rfl) rfl rfl ⟨bc aY.out 0,bc aY.out 1,bc aY.out 2,bc aY.out 3,bc aY.out 4,bc aY.out 5,bc aY.out 6⟩ (fun hHeld=> ?_);refine Zdy Zb0.tab1 Zb0.bits1 (fun HT_ HW_=> ?_)
 generalize w13.drew=w14 at aY HB hHeld ⊢
 refine pu HT_ 0 8 ?_;refine pu HT_ 2 10 ?_;refine pu HT_ 3 11 ?_;refine tk HT_ HW_ hHeld 1 9 ?_;refine tk HT_ HW_ hHeld 4 12 ?_;refine on1 HT_ 5 13 (fun K hK=> ?_);refine gs Tryz.func31 #[.slice A1 l1.length c1,.slice aV aa.length aQ] ?_
 with_reducible refine(Zch.calls _ _ l1 _ _ aa qL _ (cM (Kd.Zac HR1.out HB.out)) HC1.out (cM (Kd.Zac eO.out HB.out)) fC.out A3.out).mono ?_
 rintro e w15 ⟨VK,rfl,ho0,hb⟩;refine⟨_,rfl,?_⟩;have jN:=Za.mk (Kd.Zbm ho0 (Zaf (bM HB.out)));replace aY:=Za.mk (kB aY.out hb);replace HB:=Za.mk (bS HB.out hb)
 (try clear hb)
 (try clear hb2)
 (try clear hk)
 (try clear hi)
 (try clear ho0)
 obtain⟨bY,bW,EN⟩:=Kd.Zbe jN.out
 (first|subst EN|(injection EN with f1_ f2_ f3_;have f4_:=f1_.symm;have f5_:=f3_.symm;clear f1_ f2_ f3_;subst f4_;subst f5_))
 refine hK.out _ _ ⟨bc aY.out 0,bc aY.out 1,bc aY.out 2,bc aY.out 3,bc aY.out 4,bc aY.out 5,bc aY.out 6⟩ (fun hHeld=> ?_);clear hK K;refine nmp 13 ?_;refine on1 HT_ 6 14 (fun K hK=> ?_);refine gs Tryz.func51 #[.slice dx au.length dz,.slice bY qL.length bW] ?_
 with_reducible refine(Zce.calls k _ _ au _ _ qL P5 P6 _ (cM (Kd.Zac j4.out HB.out)) jL.out (cM ((Kd.Zan jN.out).2.2)) ((Kd.Zan jN.out).2.1) A4.out).mono ?_
 rintro e w17 ⟨rfl,hb⟩;refine⟨_,rfl,?_⟩;replace jN:=Za.mk (Kd.Zb6 (rM jN.out) hb);replace aY:=Za.mk (kB aY.out hb);replace HB:=Za.mk (bS HB.out hb)
 (try clear hb)
 (try clear hb2)
 (try clear hk)
 (try clear hi)
 refine hK.out _ _ ⟨bc aY.out 0,bc aY.out 1,bc aY.out 2,bc aY.out 3,bc aY.out 4,bc aY.out 5,bc aY.out 6⟩ (fun hHeld=> ?_);clear hK K;refine nmp 14 ?_;refine pu HT_ 7 7 ?_;refine pu HT_ 8 15 ?_;refine pu HT_ 9 16 ?_;refine pu HT_ 10 5 ?_;refine pu HT_ 11 6 ?_;refine Zgg (Zen HT_.out (by kernel_rfl)) ?_;obtain⟨Nb,Nc,aXa,k6a,k7a,k8a,k9a,M4,M5,YF,gXa,gYa,haa,hba⟩:=cz7 aY.out;try go_wp2
 go_ret;exact⟨eR,bM HB.out⟩
def slices_Equal_int.l0 : Nat → List Int → List Int → Int → Int → Option (Bool)
 | 0, _, _, _, _ => none
 |k+1,x0,x1,x12,x13=>if x13<x12 then(if 0≤x13 then(if x13<(x0.length:Int)then(if x13<(x1.length:Int)then(if(rd x0 x13)=(rd x1 x13)then(slices_Equal_int.l0 k x0 x1 x12 (wrap64 (x13+1)))else(some false))else(none))else(none))else(none))else(some true)
def slices_Equal_int.f (k:Nat) (l0:List Int) (l1:List Int):Option (Bool):=if(l0.length:Int)=(l1.length:Int)then(slices_Equal_int.l0 k l0 l1 (l0.length:Int) 0)else(some false)
theorem slices_Equal_int.Zc9 : ∀ k, (∀ y0 y1 y2 y3, LeO (slices_Equal_int.l0 k y0 y1 y2 y3) (slices_Equal_int.l0 (k + 1) y0 y1 y2 y3))
 | 0 => fun _ _ _ _ r h => by simp [slices_Equal_int.l0] at h
 |k+1=>by
  have ih0:=slices_Equal_int.Zc9 k;intro y0 y1 y2 y3;unfold slices_Equal_int.l0
  repeat' first
  | (with_reducible exact ih0 _ _ _ _)
  | (with_reducible exact LeO.refl _)
  | (with_reducible exact LeO.none _)
  | (with_reducible refine LeO.ite ?_ ?_)
  |(with_reducible refine LeO.bind ?_ (fun _=> ?_))
theorem slices_Equal_int.mono:∀a0 a1 k,LeO (slices_Equal_int.f k a0 a1) (slices_Equal_int.f (k+1) a0 a1):=by
 intro a0 a1 k;have ih0:=slices_Equal_int.Zc9 k;unfold slices_Equal_int.f
 repeat' first
   | (with_reducible exact ih0 _ _ _ _)
   | (with_reducible exact LeO.refl _)
   | (with_reducible exact LeO.none _)
   | (with_reducible refine LeO.ite ?_ ?_)
   |(with_reducible refine LeO.bind ?_ (fun _=> ?_))
set_option maxRecDepth 100000 in
theorem slices_Equal_int.calls (k : Nat) (A0 : Option Addr) (c0 : Nat) (l0 : List Int) (A1 : Option Addr) (c1 : Nat) (l1 : List Int) (r : Bool) (w : World) (hr0 : Kd.C (Kd.int .i64) w A0 l0.length l0) (hc0 : l0.length ≤ c0) (hr1 : Kd.C (Kd.int .i64) w A1 l1.length l1) (hc1 : l1.length ≤ c1) (h : slices_Equal_int.f k l0 l1 = some r) :
  Calls Tryz.prog 37 #[.slice A0 l0.length c0,.slice A1 l1.length c1] w fun e w'=>e= .returned (.bool r)∧Zav w w':=by
 have HR0:=Za.mk hr0;have HC0:=Za.mk hc0;clear hr0 hc0;have HR1:=Za.mk hr1;have HC1:=Za.mk hc1;clear hr1 hc1;have H:(if(l0.length:Int)=(l1.length:Int)then(slices_Equal_int.l0 k l0 l1 (l0.length:Int) 0)else(some false))=some r:=h;clear h;by_cases c3:(l0.length:Int)=(l1.length:Int)
 case neg=>
  rw[if_neg c3]at H;have fB:((l0.length:Int)==(l1.length:Int))=false:=beq_eq_false_iff_ne.mpr c3;have jY:((l0.length:Int) !=(l1.length:Int))=true:=bne_iff_ne.mpr c3;have qD:(l0.length==l1.length)=false:=by first|simpa using c3|(simp at c3 ⊢;omega)
  obtain rfl:=sj H;go_enter Tryz.func37,Tryz.ntmps37;go_wp2
  repeat(go_quiet (fail);try go_wp2)
  go_ret;exact⟨eS,by repeat(first|exact Zav.refl _|apply Zav.step)⟩
 rw[if_pos c3]at H;have fB:((l0.length:Int)==(l1.length:Int))=true:=beq_iff_eq.mpr c3;have jY:((l0.length:Int) !=(l1.length:Int))=false:=bne_eq_false_iff_eq.mpr c3;have qD:(l0.length==l1.length)=true:=by first|simpa using c3|(simp at c3 ⊢;omega)
 clear c3;have H':=Za.mk H;clear H;go_enter Tryz.func37,Tryz.ntmps37;go_wp2
 repeat(go_quiet (fail);try go_wp2)
 go_loopg [13] k (fun kq v13 w'=>∃(gD:Int),v13= .int .i64 gD∧Za (slices_Equal_int.l0 kq l0 l1 (l0.length:Int) gD=some r)∧Za (kq≤k)∧Zav w w')
 case atStart=>exact⟨(0),eS,H',⟨Nat.le_refl _⟩,by repeat(first|exact Zav.refl _|apply Zav.step)⟩
 case round=>
  clear H';try clear c1
  try clear p2
  try clear c3
  try clear fB
  try clear jY
  try clear qD
  obtain⟨gD,rfl,HA,HK1,⟨m1,rfl⟩⟩:=hrel
  cases gk with
  | zero => exact absurd HA.out (by simp [slices_Equal_int.l0])
  |succ k1=>
   have H:=HA.out;clear HA;simp only[slices_Equal_int.l0]at H;by_cases c4:gD<(l0.length:Int)
   case neg=>
    rw[if_neg c4]at H;have dC:decide (gD<(l0.length:Int))=false:=decide_eq_false c4;clear c4;obtain rfl:=sj H;go_wp2
    repeat(go_quiet (fail);try go_wp2)
    go_ret;exact⟨eS,by repeat(first|exact Zav.refl _|apply Zav.step)⟩
   rw[if_pos c4]at H;have dC:decide (gD<(l0.length:Int))=true:=decide_eq_true c4;clear c4;obtain⟨dw,H⟩:=ifT H;obtain⟨iF,H⟩:=ifT H;obtain⟨nu,H⟩:=ifT H;by_cases c8:(rd l0 gD)=(rd l1 gD)
   case neg=>
    rw[if_neg c8]at H;have ny:((rd l0 gD)==(rd l1 gD))=false:=beq_eq_false_iff_ne.mpr c8;have GV:((rd l0 gD) !=(rd l1 gD))=true:=bne_iff_ne.mpr c8;obtain rfl:=sj H;have zV:0≤(gD:Int):=odt;have Ar:gD<(l0.length:Int):=odt;obtain⟨XH,rfl,Ub⟩:=Kd.Zb1 HR0.out gD zV Ar;replace zV:=eq_true zV;replace Ar:=eq_true Ar;have zW:0≤(gD:Int):=odt;have Au:gD<(l1.length:Int):=odt;obtain⟨XI,rfl,Uc⟩:=Kd.Zb1 HR1.out gD zW Au;replace zW:=eq_true zW;replace Au:=eq_true Au;go_wp2
    repeat(go_quiet (fail);try go_wp2)
    go_ret;exact⟨eS,by repeat(first|exact Zav.refl _|apply Zav.step)⟩
   rw[if_pos c8]at H;have ny:((rd l0 gD)==(rd l1 gD))=true:=beq_iff_eq.mpr c8;have GV:((rd l0 gD) !=(rd l1 gD))=false:=bne_eq_false_iff_eq.mpr c8;clear c8;have H':=Za.mk H;clear H;have zV:0≤(gD:Int):=odt;have Ar:gD<(l0.length:Int):=odt;obtain⟨XH,rfl,Ub⟩:=Kd.Zb1 HR0.out gD zV Ar;replace zV:=eq_true zV;replace Ar:=eq_true Ar;have zW:0≤(gD:Int):=odt;have Au:gD<(l1.length:Int):=odt;obtain⟨XI,rfl,Uc⟩:=Kd.Zb1 HR1.out gD zW Au;replace zW:=eq_true zW;replace Au:=eq_true Au;go_wp2
   repeat(go_quiet (fail);try go_wp2)
   go_roundg k1
   case measure=>have:=HK1.out;omega
   case rel=>exact⟨(wrap64 (gD+1)),eS,H',⟨by have:=HK1.out;omega⟩,by repeat(first|exact Zav.refl _|apply Zav.step)⟩
def cmp_isNaN_int.f (a0:Int):Option (Bool):=some (a0 !=a0)
set_option maxRecDepth 100000 in
theorem cmp_isNaN_int.calls (a0 : Int) (r : Bool) (w : World) (h : cmp_isNaN_int.f a0 = some r) :
  Calls Tryz.prog 96 #[.int .i64 a0] w fun e w'=>e= .returned (.bool r)∧Zav w w':=by
 have H:(some (a0 !=a0))=some r:=h;clear h;obtain rfl:=sj H;go_enter Tryz.func96,Tryz.ntmps96;go_wp2;go_ret;exact⟨eS,by repeat(first|exact Zav.refl _|apply Zav.step)⟩
def cmp_Compare_int.f (a0:Int) (a1:Int):Option (Int):=(cmp_isNaN_int.f a0).bind fun Iw=>((cmp_isNaN_int.f a1).bind fun yC=>(if Iw=true then(if yC=true then(some 0)else(some (-1)))else(if yC=true then(some 1)else(if a0<a1 then(some (-1))else(if a0>a1 then(some 1)else(some 0))))))
set_option maxRecDepth 100000 in
theorem cmp_Compare_int.calls (a0 : Int) (a1 : Int) (r : Int) (w : World) (h : cmp_Compare_int.f a0 a1 = some r) :
  Calls Tryz.prog 66 #[.int .i64 a0,.int .i64 a1] w fun e w'=>e= .returned (.int .i64 r)∧Zav w w':=by
 have H:((cmp_isNaN_int.f a0).bind fun Iw=>((cmp_isNaN_int.f a1).bind fun yC=>(if Iw=true then(if yC=true then(some 0)else(some (-1)))else(if yC=true then(some 1)else(if a0<a1 then(some (-1))else(if a0>a1 then(some 1)else(some 0)))))))=some r:=h;clear h;obtain⟨Iw,A3,H⟩:=bnd H;try dsimp only at H
 obtain⟨yC,A4,H⟩:=bnd H;try dsimp only at H
 by_cases c5:Iw=true
 case pos=>
  subst c5;rw[if_pos rfl]at H;by_cases c6:yC=true
  case pos=>
   subst c6;rw[if_pos rfl]at H;obtain rfl:=sj H;go_enter Tryz.func66,Tryz.ntmps66
   go_wp2_with (first|((with_reducible refine Zal (f:=96) rfl ?_);refine gl 8 Tryz.func96 #[.int .i64 a0] ?_;(with_reducible refine(cmp_isNaN_int.calls a0 true _ A3.out).mono ?_);rintro e w' ⟨rfl,⟨nd,rfl⟩⟩;refine⟨_,rfl,?_⟩)|((with_reducible refine Zal (f:=96) rfl ?_);refine gl 10 Tryz.func96 #[.int .i64 a1] ?_;(with_reducible refine(cmp_isNaN_int.calls a1 true _ A4.out).mono ?_);rintro e w' ⟨rfl,⟨nd,rfl⟩⟩;refine⟨_,rfl,?_⟩))
   go_ret;exact⟨eS,by repeat(first|exact Zav.refl _|apply Zav.step)⟩
  replace c6:=Bool.eq_false_iff.mpr c6;subst c6;replace H:=ifF H;obtain rfl:=sj H;go_enter Tryz.func66,Tryz.ntmps66
  go_wp2_with (first|((with_reducible refine Zal (f:=96) rfl ?_);refine gl 8 Tryz.func96 #[.int .i64 a0] ?_;(with_reducible refine(cmp_isNaN_int.calls a0 true _ A3.out).mono ?_);rintro e w' ⟨rfl,⟨nd,rfl⟩⟩;refine⟨_,rfl,?_⟩)|((with_reducible refine Zal (f:=96) rfl ?_);refine gl 10 Tryz.func96 #[.int .i64 a1] ?_;(with_reducible refine(cmp_isNaN_int.calls a1 false _ A4.out).mono ?_);rintro e w' ⟨rfl,⟨nd,rfl⟩⟩;refine⟨_,rfl,?_⟩))
  go_ret;exact⟨eS,by repeat(first|exact Zav.refl _|apply Zav.step)⟩
 replace c5:=Bool.eq_false_iff.mpr c5;subst c5;replace H:=ifF H;by_cases c7:yC=true
 case pos=>
  subst c7;rw[if_pos rfl]at H;obtain rfl:=sj H;go_enter Tryz.func66,Tryz.ntmps66
  go_wp2_with (first|((with_reducible refine Zal (f:=96) rfl ?_);refine gl 8 Tryz.func96 #[.int .i64 a0] ?_;(with_reducible refine(cmp_isNaN_int.calls a0 false _ A3.out).mono ?_);rintro e w' ⟨rfl,⟨nd,rfl⟩⟩;refine⟨_,rfl,?_⟩)|((with_reducible refine Zal (f:=96) rfl ?_);refine gl 10 Tryz.func96 #[.int .i64 a1] ?_;(with_reducible refine(cmp_isNaN_int.calls a1 true _ A4.out).mono ?_);rintro e w' ⟨rfl,⟨nd,rfl⟩⟩;refine⟨_,rfl,?_⟩))
  go_ret;exact⟨eS,by repeat(first|exact Zav.refl _|apply Zav.step)⟩
 replace c7:=Bool.eq_false_iff.mpr c7;subst c7;replace H:=ifF H;by_cases c8:a0<a1
 case pos=>
  rw[if_pos c8]at H;have ny:decide (a0<a1)=true:=decide_eq_true c8;clear c8;obtain rfl:=sj H;go_enter Tryz.func66,Tryz.ntmps66
  go_wp2_with (first|((with_reducible refine Zal (f:=96) rfl ?_);refine gl 8 Tryz.func96 #[.int .i64 a0] ?_;(with_reducible refine(cmp_isNaN_int.calls a0 false _ A3.out).mono ?_);rintro e w' ⟨rfl,⟨nd,rfl⟩⟩;refine⟨_,rfl,?_⟩)|((with_reducible refine Zal (f:=96) rfl ?_);refine gl 10 Tryz.func96 #[.int .i64 a1] ?_;(with_reducible refine(cmp_isNaN_int.calls a1 false _ A4.out).mono ?_);rintro e w' ⟨rfl,⟨nd,rfl⟩⟩;refine⟨_,rfl,?_⟩))
  go_ret;exact⟨eS,by repeat(first|exact Zav.refl _|apply Zav.step)⟩
 rw[if_neg c8]at H;have ny:decide (a0<a1)=false:=decide_eq_false c8;clear c8;by_cases c9:a0>a1
 case pos=>
  rw[if_pos c9]at H;have nz:decide (a1<a0)=true:=decide_eq_true c9;clear c9;obtain rfl:=sj H;go_enter Tryz.func66,Tryz.ntmps66
  go_wp2_with (first|((with_reducible refine Zal (f:=96) rfl ?_);refine gl 8 Tryz.func96 #[.int .i64 a0] ?_;(with_reducible refine(cmp_isNaN_int.calls a0 false _ A3.out).mono ?_);rintro e w' ⟨rfl,⟨nd,rfl⟩⟩;refine⟨_,rfl,?_⟩)|((with_reducible refine Zal (f:=96) rfl ?_);refine gl 10 Tryz.func96 #[.int .i64 a1] ?_;(with_reducible refine(cmp_isNaN_int.calls a1 false _ A4.out).mono ?_);rintro e w' ⟨rfl,⟨nd,rfl⟩⟩;refine⟨_,rfl,?_⟩))
  go_ret;exact⟨eS,by repeat(first|exact Zav.refl _|apply Zav.step)⟩
 rw[if_neg c9]at H;have nz:decide (a1<a0)=false:=decide_eq_false c9;clear c9;obtain rfl:=sj H;go_enter Tryz.func66,Tryz.ntmps66
 go_wp2_with (first|((with_reducible refine Zal (f:=96) rfl ?_);refine gl 8 Tryz.func96 #[.int .i64 a0] ?_;(with_reducible refine(cmp_isNaN_int.calls a0 false _ A3.out).mono ?_);rintro e w' ⟨rfl,⟨nd,rfl⟩⟩;refine⟨_,rfl,?_⟩)|((with_reducible refine Zal (f:=96) rfl ?_);refine gl 10 Tryz.func96 #[.int .i64 a1] ?_;(with_reducible refine(cmp_isNaN_int.calls a1 false _ A4.out).mono ?_);rintro e w' ⟨rfl,⟨nd,rfl⟩⟩;refine⟨_,rfl,?_⟩))
 go_ret;exact⟨eS,by repeat(first|exact Zav.refl _|apply Zav.step)⟩
def Za1.l0 : Nat → List Int → List Int → List Int → Int → Int → Option (Int)
 | 0, _, _, _, _, _ => none
 |k+1,x0,x1,x9,x10,x11=>if x11<x10 then(if 0≤x11 then(if x11<(x9.length:Int)then(if x11≥(x1.length:Int)then(some 1)else(if x11<(x1.length:Int)then((cmp_Compare_int.f (rd x9 x11) (rd x1 x11)).bind fun uG=>(if uG=0 then(Za1.l0 k x0 x1 x9 x10 (wrap64 (x11+1)))else(some uG)))else(none)))else(none))else(none))else(if(x0.length:Int)<(x1.length:Int)then(some (-1))else(some 0))
def Za1.f (k:Nat) (l0:List Int) (l1:List Int):Option (Int):=Za1.l0 k l0 l1 l0 (l0.length:Int) 0
theorem Za1.Zc9 : ∀ k, (∀ y0 y1 y2 y3 y4, LeO (Za1.l0 k y0 y1 y2 y3 y4) (Za1.l0 (k + 1) y0 y1 y2 y3 y4))
 | 0 => fun _ _ _ _ _ r h => by simp [Za1.l0] at h
 |k+1=>by
  have ih0:=Za1.Zc9 k;intro y0 y1 y2 y3 y4;unfold Za1.l0
  repeat' first
  | (with_reducible exact ih0 _ _ _ _ _)
  | (with_reducible exact LeO.refl _)
  | (with_reducible exact LeO.none _)
  | (with_reducible refine LeO.ite ?_ ?_)
  |(with_reducible refine LeO.bind ?_ (fun _=> ?_))
theorem Za1.mono:∀a0 a1 k,LeO (Za1.f k a0 a1) (Za1.f (k+1) a0 a1):=by
 intro a0 a1 k;have ih0:=Za1.Zc9 k;unfold Za1.f
 repeat' first
   | (with_reducible exact ih0 _ _ _ _ _)
   | (with_reducible exact LeO.refl _)
   | (with_reducible exact LeO.none _)
   | (with_reducible refine LeO.ite ?_ ?_)
   |(with_reducible refine LeO.bind ?_ (fun _=> ?_))
set_option maxRecDepth 100000 in
theorem Za1.calls (k : Nat) (A0 : Option Addr) (c0 : Nat) (l0 : List Int) (A1 : Option Addr) (c1 : Nat) (l1 : List Int) (r : Int) (w : World) (hr0 : Kd.C (Kd.int .i64) w A0 l0.length l0) (hc0 : l0.length ≤ c0) (hr1 : Kd.C (Kd.int .i64) w A1 l1.length l1) (hc1 : l1.length ≤ c1) (h : Za1.f k l0 l1 = some r) :
  Calls Tryz.prog 39 #[.slice A0 l0.length c0,.slice A1 l1.length c1] w fun e w'=>e= .returned (.int .i64 r)∧Zav w w':=by
 have HR0:=Za.mk hr0;have HC0:=Za.mk hc0;clear hr0 hc0;have HR1:=Za.mk hr1;have HC1:=Za.mk hc1;clear hr1 hc1;have H:(Za1.l0 k l0 l1 l0 (l0.length:Int) 0)=some r:=h;clear h;have H':=Za.mk H;clear H;go_enter Tryz.func39,Tryz.ntmps39;go_wp2
 go_loopg [11] k (fun kq v11 w'=>∃(fG:Int),v11= .int .i64 fG∧Za (Za1.l0 kq l0 l1 l0 (l0.length:Int) fG=some r)∧Za (kq≤k)∧Zav w w')
 case atStart=>exact⟨(0),eS,H',⟨Nat.le_refl _⟩,by repeat(first|exact Zav.refl _|apply Zav.step)⟩
 case round=>
  clear H';try clear c1
  try clear p2
  obtain⟨fG,rfl,HA,HK1,⟨m1,rfl⟩⟩:=hrel
  cases gk with
  | zero => exact absurd HA.out (by simp [Za1.l0])
  |succ k1=>
   have H:=HA.out;clear HA;simp only[Za1.l0]at H;by_cases c3:fG<(l0.length:Int)
   case neg=>
    rw[if_neg c3]at H;have fB:decide (fG<(l0.length:Int))=false:=decide_eq_false c3;clear c3;by_cases c10:(l0.length:Int)<(l1.length:Int)
    case pos=>
     rw[if_pos c10]at H;have jS:decide ((l0.length:Int)<(l1.length:Int))=true:=decide_eq_true c10;have yV:decide (l0.length<l1.length)=true:=decide_eq_true (Int.ofNat_lt.mp c10);clear c10;obtain rfl:=sj H;go_wp2;go_ret;exact⟨eS,by repeat(first|exact Zav.refl _|apply Zav.step)⟩
    rw[if_neg c10]at H;have jS:decide ((l0.length:Int)<(l1.length:Int))=false:=decide_eq_false c10;have yV:decide (l0.length<l1.length)=false:=decide_eq_false (fun h=>c10 (Int.ofNat_lt.mpr h));clear c10;obtain rfl:=sj H;go_wp2;go_ret;exact⟨eS,by repeat(first|exact Zav.refl _|apply Zav.step)⟩
   rw[if_pos c3]at H;have fB:decide (fG<(l0.length:Int))=true:=decide_eq_true c3;clear c3;obtain⟨dC,H⟩:=ifT H;obtain⟨dw,H⟩:=ifT H;by_cases c6:fG≥(l1.length:Int)
   case pos=>
    rw[if_pos c6]at H;have iF:decide ((l1.length:Int)≤fG)=true:=decide_eq_true c6;clear c6;obtain rfl:=sj H;have tq:0≤(fG:Int):=odt;have tL:fG<(l0.length:Int):=odt;obtain⟨Ro,rfl,JR⟩:=Kd.Zb1 HR0.out fG tq tL;replace tq:=eq_true tq;replace tL:=eq_true tL;go_wp2;go_ret;exact⟨eS,by repeat(first|exact Zav.refl _|apply Zav.step)⟩
   rw[if_neg c6]at H;have iF:decide ((l1.length:Int)≤fG)=false:=decide_eq_false c6;clear c6;obtain⟨nu,H⟩:=ifT H;obtain⟨uG,A8,H⟩:=bnd H;try dsimp only at H
   by_cases c9:uG=0
   case neg=>
    rw[if_neg c9]at H;have nz:(uG==0)=false:=beq_eq_false_iff_ne.mpr c9;have LQ:(uG !=0)=true:=bne_iff_ne.mpr c9;obtain rfl:=sj H;have tq:0≤(fG:Int):=odt;have tL:fG<(l0.length:Int):=odt;obtain⟨Ro,rfl,JR⟩:=Kd.Zb1 HR0.out fG tq tL;replace tq:=eq_true tq;replace tL:=eq_true tL;have zX:0≤(fG:Int):=odt;have Av:fG<(l1.length:Int):=odt;obtain⟨XJ,rfl,Ud⟩:=Kd.Zb1 HR1.out fG zX Av;replace zX:=eq_true zX;replace Av:=eq_true Av
    go_wp2_with (first|((with_reducible refine Zal (f:=66) rfl ?_);refine gl 26 Tryz.func66 #[.int .i64 (rd l0 fG),.int .i64 (rd l1 fG)] ?_;(with_reducible refine(cmp_Compare_int.calls (rd l0 fG) (rd l1 fG) uG _ A8.out).mono ?_);rintro e w' ⟨rfl,⟨nd,rfl⟩⟩;refine⟨_,rfl,?_⟩))
    go_ret;exact⟨eS,by repeat(first|exact Zav.refl _|apply Zav.step)⟩
   rw[if_pos c9]at H;have nz:(uG==0)=true:=beq_iff_eq.mpr c9;have LQ:(uG !=0)=false:=bne_eq_false_iff_eq.mpr c9;clear c9;have H':=Za.mk H;clear H;have tq:0≤(fG:Int):=odt;have tL:fG<(l0.length:Int):=odt;obtain⟨Ro,rfl,JR⟩:=Kd.Zb1 HR0.out fG tq tL;replace tq:=eq_true tq;replace tL:=eq_true tL;have zX:0≤(fG:Int):=odt;have Av:fG<(l1.length:Int):=odt;obtain⟨XJ,rfl,Ud⟩:=Kd.Zb1 HR1.out fG zX Av;replace zX:=eq_true zX;replace Av:=eq_true Av
   go_wp2_with (first|((with_reducible refine Zal (f:=66) rfl ?_);refine gl 26 Tryz.func66 #[.int .i64 (rd l0 fG),.int .i64 (rd l1 fG)] ?_;(with_reducible refine(cmp_Compare_int.calls (rd l0 fG) (rd l1 fG) uG _ A8.out).mono ?_);rintro e w' ⟨rfl,⟨nd,rfl⟩⟩;refine⟨_,rfl,?_⟩))
   go_roundg k1
   case measure=>have:=HK1.out;omega
   case rel=>exact⟨(wrap64 (fG+1)),eS,H',⟨by have:=HK1.out;omega⟩,by repeat(first|exact Zav.refl _|apply Zav.step)⟩
end Go.Proofs.YtdpieallpbllkaaGreat.P
/- meaning.Holds: does a constraint hold, of values? -/
namespace Go.Proofs.YtdpieallpbllkaaGreat.P
open Go.RowKit Go.Shelf Go.Lib Go.Proofs.YtdpieallpbllkaaGreatW.PrintWords Go.Proofs.YtdpieallpbllkaaGreatW.PrintLast Go.Proofs.YtdpieallpbllkaaGreatW.PrintMore
attribute [local go_sem ↓] Go.wp_at_zero Go.wp_at_succ
theorem sorted_intG (v : Value) (xs : List Int) (w0 w : World) (hx : xs.length < 4611686018427387904) (hrow : w.ownsRow w0.heap.size 3 1 v xs.length (xs.map (Value.int .i64))) :
    Calls Tryz.prog 33 #[v] w fun e w'=>e= .returned (.tuple #[])∧w'.ownsRow w0.heap.size 3 1 v xs.length ((sortI xs).map (Value.int .i64))∧w.grownBy w' v.ownBlock:=by
  rcases hrow.2 with ⟨rfl,h0⟩|⟨g,cap,cur,rfl,hg,hb,hn,hcap,hsz,htk⟩
  · have hx : xs = [] := List.length_eq_zero_iff.1 h0
    subst hx;refine(AnyM.slices_Sort_int_none lsort none 0 w).mono ?_;rintro e w' ⟨rfl,rfl⟩;exact⟨rfl,hrow,⟨rfl,rfl,rfl,Nat.le_refl _,fun _ _ _=>rfl⟩⟩
  have hlt:g<w.heap.size:=(Array.getElem?_eq_some_iff.1 hb).1;refine(AnyM.slices_Sort_int lsort g 0 cap xs w (holds_of_blockI hb (by simpa using htk)) hlt hx).mono ?_;rintro e w' ⟨rfl,n,os,rfl⟩;rw[Zfd];exact⟨rfl,ownsRow_sortedI (Zee xs) hg hb hn hcap hsz,grownBy_sortedI _⟩
theorem compact_intG (v : Value) (xs : List Int) (w0 w : World) (hlen : xs.length < 4611686018427387904) (hrow : w.ownsRow w0.heap.size 3 1 v xs.length (xs.map (Value.int .i64))) :
    Calls Tryz.prog 34 #[v] w fun e w'=>∃(A:Option Addr) (c:Nat),e= .returned (.slice A (compact xs).length c)∧w.grownBy w' v.ownBlock:=by
  rcases hrow.2 with ⟨rfl,h0⟩|⟨g,cap,cur,rfl,hg,hb,hn,hcap,hsz,htk⟩
  · have hx : xs = [] := List.length_eq_zero_iff.1 h0
    subst hx;refine(AnyG.slices_Compact_int_empty lcompact none 0 w).mono ?_;rintro e w' ⟨rfl,rfl⟩;exact⟨none,0,rfl,⟨rfl,rfl,rfl,Nat.le_refl _,fun _ _ _=>rfl⟩⟩
  have hH:Sort.Holds (Value.int .i64) w g 0 xs.toArray:=holds_of_blockI hb (by simpa using htk);have hlt:g<w.heap.size:=(Array.getElem?_eq_some_iff.1 hb).1;refine(AnyG.slices_Compact_int lcompact g 0 cap xs w hH (by omega) hn).mono ?_;rintro e w' ⟨rfl,q,rfl⟩;refine⟨_,_,rfl,⟨rfl,rfl,rfl,by simp[Sort.size_putRow,Sort.ahead],fun k hk hne=> ?_⟩⟩;have:g≠k:=fun e=>hne (by rw[←e];rfl)
  simp[Sort.putRow,Sort.mapBlock,Sort.ahead,Array.getElem?_modify,this]
theorem row_grown {w0 w w1:World} {v:Value} {n:Nat} {xs:List Value} (h:w.ownsRow w0.heap.size 3 1 v n xs) (hb:Below w.heap.size w w1):w1.ownsRow w0.heap.size 3 1 v n xs:=pw_own_below h hb
theorem eqPred (k : Nat) (x l : List Int) (A1 : Option Addr) (c1 : Nat) (A : Option Addr) (c : Nat) (g : Nat) (t : Bool) (w : World) (hr1 : Kd.C (Kd.int .i64) w A1 x.length x) (hc1 : x.length ≤ c1) (hr : Kd.C (Kd.int .i64) w A l.length l) (hc : l.length ≤ c) (hg : w.cell? ⟨g, 0, none⟩ = some (.slice A l.length c)) (h : slices_Equal_int.f k x l = some t) :
    Calls Tryz.prog 36 #[.slice A1 x.length c1,.pointer (some ⟨g,0,none⟩)] w fun e w'=>e= .returned (.bool t)∧Below w.heap.size w w':=by
  have HC:=Za.mk (slices_Equal_int.calls k A1 c1 x A c l t w hr1 hc1 hr hc h);clear hr1 hr h;go_enter Tryz.func36,Tryz.ntmps36
  go_wp2_with (go_at_call 37;refine HC.out.mono ?_;rintro e w' ⟨rfl,⟨nd,rfl⟩⟩)
  go_ret;exact⟨rfl,Zcb (Below.refl _ _) _⟩
def elemB (l:List Int):Bool:=decide (2≤l.length) && (decide (0≤rd l 0) && (decide (rd l 0<(l.length:Int) - 2) && decide (rd l (2+rd l 0)=rd l 1)))
def clauseAt (coefs l:List Int) (i:Nat):Bool:=decide (i<coefs.length) && ((decide (rd coefs i=1) && decide (rd l i=1))||(decide (rd coefs i= -1) && decide (rd l i=0)))
def clG (coefs l : List Int) : Nat → Nat → Bool
  | 0, _ => false
  |d+1,i=>clauseAt coefs l i||clG coefs l d (i+1)
def Za8.f (k:Nat) (kd:Int) (vars coefs:List Int) (op rhs:Int) (rows:List (List Int)) (b:Int) (a:List Int):Option Bool:=
  (Zch.f a vars).bind fun l=>
  if kd=0 then Zb0.f k kd vars coefs op rhs rows b a
  else if kd=1 then some (decide ((sd l).length=vars.length))
  else if kd=2 then(if rows.all (fun x=>decide (slices_Equal_int.f k x l=some (decide (x=l))))=true then some (rows.any fun x=>decide (x=l))else none)
  else if kd=3 then some (elemB l)
  else if kd=4 then(Zb0.f k kd vars coefs op rhs rows b a).bind fun h=>some (decide (atV a b=if h=true then 1 else 0))
  else if kd=5 then some (clG coefs l l.length 0)
  else(Za1.f k (l.take (l.length / 2)) (l.drop (l.length / 2))).bind fun c=>some (decide (c≤0))
theorem Za8.mono:∀a0 a1 a2 a3 a4 a5 a6 a7 k,LeO (Za8.f k a0 a1 a2 a3 a4 a5 a6 a7) (Za8.f (k+1) a0 a1 a2 a3 a4 a5 a6 a7):=by
  intro a0 a1 a2 a3 a4 a5 a6 a7 k;unfold Za8.f;refine LeO.bind (LeO.refl _) (fun l=>LeO.ite (Zb0.mono _ _ _ _ _ _ _ _ _) (LeO.ite (LeO.refl _) (LeO.ite ?_ (LeO.ite (LeO.refl _) (LeO.ite (LeO.bind (Zb0.mono _ _ _ _ _ _ _ _ _) (fun _=>LeO.refl _)) (LeO.ite (LeO.refl _) (LeO.bind (Za1.mono _ _ _) (fun _=>LeO.refl _))))))));intro r h;by_cases q:a5.all (fun x=>decide (slices_Equal_int.f k x l=some (decide (x=l))))=true;rotate_left
  · rw [if_neg q] at h
    cases h
  rw[if_pos q]at h;rw[if_pos,h];rw[List.all_eq_true]at q ⊢;intro x hx;have:=q x hx;rw[decide_eq_true_eq]at this ⊢;exact slices_Equal_int.mono _ _ _ _ this
set_option maxRecDepth 100000 in
theorem Za8.calls (k : Nat) (kd : Int) (A1 : Option Addr) (c1 : Nat) (vars : List Int) (A2 : Option Addr) (c2 : Nat) (coefs : List Int) (op rhs : Int) (A5 : Option Addr) (c5 : Nat) (rows : List (List Int)) (b : Int) (A : Option Addr) (c : Nat) (a : List Int) (r : Bool) (w : World)
    (hr1:Kd.C (Kd.int .i64) w A1 vars.length vars) (hc1:vars.length≤c1) (hr2:Kd.C (Kd.int .i64) w A2 coefs.length coefs) (hc2:coefs.length≤c2) (hr5:Kd.C (Kd.slice 3 (Kd.int .i64)) w A5 rows.length rows) (hc5:rows.length≤c5) (hr:Kd.C (Kd.int .i64) w A a.length a) (hc:a.length≤c)
    (h:Za8.f k kd vars coefs op rhs rows b a=some r):
    Calls Tryz.prog 13 #[.agg #[.int .i64 kd,.slice A1 vars.length c1,.slice A2 coefs.length c2,.int .i64 op,.int .i64 rhs,.slice A5 rows.length c5,.int .i64 b],.slice A a.length c] w fun e w'=>e= .returned (.bool r)∧Below w.heap.size w w':=by
  unfold Za8.f at h;obtain⟨l,hl,h2_⟩:=Option.bind_eq_some_iff.1 h;have HP:=Za.mk hl;have H:=Za.mk h2_;clear h hl h2_
  have HLL:Za (l.length<1000000∧l.length=vars.length):=by
    have h_:=HP.out;unfold Zch.f at h_
    split at h_
    · obtain rfl := Option.some.inj h_
      rw[List.length_map];exact⟨⟨by assumption,rfl⟩⟩
    cases h_
  have HR1:=Za.mk hr1;have HR2:=Za.mk hr2;have HR5:=Za.mk hr5;have HRa:=Za.mk hr;clear hr1 hr2 hr5 hr;have HB:=Za.mk (Below.refl w.heap.size w);go_enter Tryz.func13,Tryz.ntmps13
  go_upto_region 2 with (first|((with_reducible refine Zar (N:=2) rfl ?_);refine bx 2 #[.int .i64 kd,.slice A1 vars.length c1,.slice A2 coefs.length c2,.int .i64 op,.int .i64 rhs,.slice A5 rows.length c5,.int .i64 b] 36 ?_;intro g2 hg2 w2 hbox hb;have BK2:=Za.mk hbox;have B2:=Za.mk (bS HB.out hb);have G2:Za (w.heap.size≤g2):=⟨gE hg2 HB.out⟩;obtain⟨z0,z1,z2,z3,z4,z5,z6,y0,y1,y2,y3,y4,y5,y6⟩:=cz7 hbox;clear hbox hb hg2)|(go_at_call 31;go_loud (refine(Zch.calls A c a A1 c1 vars l _ (cM (Kd.Zac HRa.out B2.out)) hc (cM (Kd.Zac HR1.out B2.out)) hc1 HP.out).mono ?_;rintro e w3 ⟨v,rfl,ho,hb⟩;obtain⟨Al,cl,rfl⟩:=Kd.Zbe ho;have HO3:=Za.mk (Kd.Zd2 (Kd.Zbm ho (Zaf (bM B2.out:Below w.heap.size w _))));have BK3:=Za.mk (kB BK2.out hb);have B3:=Za.mk (bS B2.out hb);clear ho hb))|((with_reducible refine Zar (N:=5) rfl ?_);refine bx 5 #[.slice none 0 0] 24 ?_;intro gl hgl w4 hbox hb;have BKl:=Za.mk hbox;have BK4:=Za.mk (kB BK3.out hb);have B4:=Za.mk (bS B3.out hb);have G4:Za (w3.heap.size≤gl):=⟨by rw[hgl];exact(bM (Below.refl w3.heap.size w3):Below w3.heap.size w3 _).size⟩;have GG:Za (w.heap.size≤gl):=⟨gE hgl B3.out⟩;have HO4:=Za.mk (Kd.Zb6 (rM HO3.out) hb);have zl:w4.cell? ⟨gl,0,none⟩=some (.slice none 0 0):=bc hbox 0;have yl:=Za0 hbox 0;clear hbox hb hgl))
  have BKlq:=Za.mk (Zaz (cs':=#[.slice Al l.length cl]) BKl.out 0 (.slice Al l.length cl) rfl);have N2:Za (g2≠gl):=⟨fun e_=>by have h1_:=Zc7 BK3.out;have h2_:=G4.out;omega⟩;have BK2q:=Za.mk (Zcv (p:=⟨gl,0,none⟩) BK4.out N2.out (.slice Al l.length cl));have HOq:=Za.mk (farR1 (i0:=0) (u0:= .slice Al l.length cl) (g:=gl) HO4.out (fun k_ hk_ e_=>by have h1_:=hk_.2.2;have h2_:=G4.out;omega));have Bq:=Za.mk (show Below w.heap.size w (w4.setCell ⟨gl,0,none⟩ (.slice Al l.length cl))from Zba B4.out GG.out);clear z0 z1 z2 z3 z4 z5 z6 y0 y1 y2 y3 y4 y5 y6 zl yl
  generalize (w4.setCell ⟨gl,0,none⟩ (.slice Al l.length cl))=wq at BKlq BK2q HOq Bq ⊢
  clear BK2 BK3 BK4 BKl HO3 HO4 B2 B3 B4 HB G2 G4 GG;have HRl:=Za.mk (Kd.Zan HOq.out).2.2;have HCl:=Za.mk (Kd.Zan HOq.out).2.1;obtain⟨z0,z1,z2,z3,z4,z5,z6,y0,y1,y2,y3,y4,y5,y6⟩:=cz7 BK2q.out;have zl:wq.cell? ⟨gl,0,none⟩=some (.slice Al l.length cl):=bc BKlq.out 0;have h:=H.out;clear H;by_cases k0:kd=0
  case pos=>
    subst k0;rw[if_pos rfl]at h;have HH:=Za.mk h;clear h
    go_wp2_with (first|(go_at_call 32;go_loud (refine(Zb0.calls k 0 A1 c1 vars A2 c2 coefs op rhs A5 c5 rows b A c a r wq (cM (Kd.Zac HR1.out Bq.out)) hc1 (cM (Kd.Zac HR2.out Bq.out)) hc2 (cM (Kd.Zac HR5.out Bq.out)) hc5 (cM (Kd.Zac HRa.out Bq.out)) hc HH.out).mono ?_;rintro e w6 ⟨rfl,hb⟩;have B6:=Za.mk (bS Bq.out hb))))
    go_ret;exact⟨rfl,B6.out⟩
  rw[if_neg k0]at h;have d0_:decide (kd=0)=false:=decide_eq_false k0;have e0_:(kd==0)=false:=beq_eq_false_iff_ne.2 k0;clear k0;by_cases k1:kd=1
  case pos=>
    subst k1;rw[if_pos rfl]at h;obtain rfl:=Option.some.inj h;clear h;have HCS:=Za.mk (Zfz l);have HRW:=Za.mk (Kd.own_of_R HOq.out);have HN:Za (∀(x:Nat) (e_:some x=(Value.slice Al l.length cl).ownBlock),x≠g2∧x≠gl):=⟨fun x e_=>⟨fun e2=>Kd.R_ne HOq.out BK2q.out (by decide) (by rw[←e2];exact e_),fun e2=>Kd.R_ne HOq.out BKlq.out (by decide) (by rw[←e2];exact e_)⟩⟩
    go_upto_region 7 with (first|(go_at_call 33;go_loud (refine(sorted_intG (.slice Al l.length cl) l w wq (by have:=HLL.out.1;omega) HRW.out).mono ?_;rintro e w6 ⟨rfl,hrow,hg⟩;have HRW6:=Za.mk hrow;have U6:=Za.mk (kG BK2q.out hg (fun e_=>(HN.out _ e_).1 rfl));have BKl6:=Za.mk (kG BKlq.out hg (fun e_=>(HN.out _ e_).2 rfl));have B6:=Za.mk (Zfn Bq.out _ (Zaf Bq.out) hg (fun k_ e_=>Kd.Zc6 HOq.out k_ e_));clear hrow hg)))
    clear z0 z1 z2 z3 z4 z5 z6 y0 y1 y2 y3 y4 y5 y6 zl;have hz1:w6.cell? ⟨g2,1,none⟩=some (.slice A1 vars.length c1):=bc U6.out 1;have hzl:w6.cell? ⟨gl,0,none⟩=some (.slice Al l.length cl):=bc BKl6.out 0
    go_region_held3 (fun w'=>w'.cell? ⟨gl,0,none⟩=some (.slice Al l.length cl)∧w'.cell? ⟨g2,1,none⟩=some (.slice A1 vars.length c1)) (first|go_keep|exact⟨bc (kG (kM BKl6.out) hg9 (fun e_=>(HN.out _ e_).2 rfl)) 0,bc (kG (kM U6.out) hg9 (fun e_=>(HN.out _ e_).1 rfl)) 1⟩) ((go_at_call 34;refine(compact_intG (.slice Al l.length cl) (sortI l) w _ (by have:=HLL.out.1;rw[Zee];omega) ?_).mono ?_;(rw[Zee];exact row_grown HRW6.out (bM (Below.refl w6.heap.size w6)));rintro e w7 ⟨Ac,cc,rfl,hg9⟩;have B7:=Za.mk (Zfn (bM B6.out:Below w.heap.size w _) _ (Zaf (bM B6.out)) hg9 (fun k_ e_=>Kd.Zc6 HOq.out k_ e_))))
    all_goals go_wp2
    all_goals go_ret
    all_goals exact⟨by rw[HCS.out];first|rfl|(simp;done)|(simp;rw[Bool.eq_iff_iff];simp only[beq_iff_eq,decide_eq_true_eq];omega),B7.out⟩
  rw[if_neg k1]at h;have d1_:decide (kd=1)=false:=decide_eq_false k1;have e1_:(kd==1)=false:=beq_eq_false_iff_ne.2 k1;clear k1;by_cases k2:kd=2
  case pos=>
    subst k2;rw[if_pos rfl]at h;by_cases q:rows.all (fun x=>decide (slices_Equal_int.f k x l=some (decide (x=l))))=true;case neg=>rw[if_neg q]at h;cases h
    rw[if_pos q]at h;obtain rfl:=Option.some.inj h;clear h;have HQ:=Za.mk q;clear q;have HF:=Za.mk (Zfk (fun x=>decide (x=l)) 36 #[.pointer (some ⟨gl,0,none⟩)] (enters_of Tryz.func36 (by kernel_rfl) rfl) A5 c5 rows wq (Kd.Zac HR5.out Bq.out) (fun x A9 c9 hx W hW hr9 hc9=>eqPred k x l A9 c9 Al cl gl _ W hr9 hc9 (Kd.Zac HRl.out hW) HCl.out (hB hW zl) (by have h_:=List.all_eq_true.1 HQ.out x hx;rwa [decide_eq_true_eq]at h_)))
    go_wp2_with (first|(go_at_call 35;go_loud (refine HF.out.mono ?_;rintro e w6 ⟨rfl,hb⟩;have B6:=Za.mk (bS Bq.out hb))))
    go_ret;exact⟨rfl,B6.out⟩
  rw[if_neg k2]at h;have d2_:decide (kd=2)=false:=decide_eq_false k2;have e2_:(kd==2)=false:=beq_eq_false_iff_ne.2 k2;clear k2;by_cases k3:kd=3
  case pos=>
    subst k3;rw[if_pos rfl]at h;have HR:=Za.mk (Option.some.inj h);clear h;by_cases n2:2≤l.length
    case neg=>
      have f2:decide (2≤l.length)=false:=decide_eq_false n2;have f3:decide ((2:Int)≤(l.length:Int))=false:=decide_eq_false (by omega);clear n2;go_wp2;try(go_quiet (fail))
      try go_wp2
      go_ret;exact⟨by rw[←HR.out];unfold elemB;first|rfl|(simp[*];done)|(simp[*];rfl),bM Bq.out⟩
    have f2:decide (2≤l.length)=true:=decide_eq_true n2;have f3:decide ((2:Int)≤(l.length:Int))=true:=decide_eq_true (by omega);obtain⟨ad,e_,hx0⟩:=Kd.Zb1 HRl.out 0 (by omega) (by omega);cases e_;obtain⟨ad1,e_,hx1⟩:=Kd.Zb1 HRl.out 1 (by omega) (by omega);obtain rfl:ad=ad1:=(by injection e_);clear e_;have hx0q:wq.cell? ad=some (.int .i64 (rd l 0)):=by first|exact hx0|(simpa using hx0)|(simpa[Addr.add] using hx0)
    replace hx1:wq.cell? (ad.add 1)=some (.int .i64 (rd l 1)):=hx1;have hx1q:wq.cell? ⟨ad.block,ad.off+1,none⟩=some (.int .i64 (rd l 1)):=by first|exact hx1|(simpa[Addr.add] using hx1)
    have b0:(0:Int)<(l.length:Int):=by omega
    have b1:(1:Int)<(l.length:Int):=by omega
    have b0n:0<l.length:=by omega
    have b1n:1<l.length:=by omega
    have hs_:IntKind.i64.wrap ((l.length:Int) - 2)=(l.length:Int) - 2:=by have:=HLL.out.1;rw[Zd5];unfold wrap64;omega
    have HSZ:=Za.mk hs_;by_cases n0:0≤rd l 0
    case neg=>
      have f4:decide (0≤rd l 0)=false:=decide_eq_false n0;clear n0 n2;go_wp2;try(go_quiet (fail))
      try go_wp2
      go_ret;exact⟨by rw[←HR.out];unfold elemB;first|rfl|(simp[*];done)|(simp[*];rfl),bM Bq.out⟩
    have f4:decide (0≤rd l 0)=true:=decide_eq_true n0;by_cases n3:rd l 0<(l.length:Int) - 2
    case neg=>
      have f5:decide (rd l 0<(l.length:Int) - 2)=false:=decide_eq_false n3;clear n0 n2 n3;go_wp2;try(go_quiet (fail))
      try go_wp2
      go_ret;exact⟨by rw[←HR.out];unfold elemB;first|rfl|(simp[*];done)|(simp[*];rfl),bM Bq.out⟩
    have f5:decide (rd l 0<(l.length:Int) - 2)=true:=decide_eq_true n3;have ht_:IntKind.i64.wrap (2+rd l 0)=2+rd l 0:=by have:=HLL.out.1;rw[Zd5];unfold wrap64;omega
    obtain⟨ad2,e_,hx2⟩:=Kd.Zb1 HRl.out (2+rd l 0) (by omega) (by omega);obtain rfl:ad=ad2:=(by injection e_);clear e_;have b2:(0:Int)≤2+rd l 0:=by omega
    have b3:2+rd l 0<(l.length:Int):=by omega
    replace b2:=eq_true b2;replace b3:=eq_true b3;clear n0 n2 n3;go_wp2;try(go_quiet (fail))
    try go_wp2
    go_ret;exact⟨by rw[←HR.out];unfold elemB;first|rfl|(simp[*];done)|(simp[*];rfl),bM Bq.out⟩
  rw[if_neg k3]at h;have d3_:decide (kd=3)=false:=decide_eq_false k3;have e3_:(kd==3)=false:=beq_eq_false_iff_ne.2 k3;clear k3;by_cases k4:kd=4
  case pos=>
    subst k4;rw[if_pos rfl]at h;obtain⟨hd,hh,h2_⟩:=Option.bind_eq_some_iff.1 h;have HH:=Za.mk hh;obtain rfl:=Option.some.inj h2_;clear h hh h2_
    cases hd with
    |false=>
      go_wp2_with (first|(go_at_call 32;go_loud (refine(Zb0.calls k 4 A1 c1 vars A2 c2 coefs op rhs A5 c5 rows b A c a false wq (cM (Kd.Zac HR1.out Bq.out)) hc1 (cM (Kd.Zac HR2.out Bq.out)) hc2 (cM (Kd.Zac HR5.out Bq.out)) hc5 (cM (Kd.Zac HRa.out Bq.out)) hc HH.out).mono ?_;rintro e w6 ⟨rfl,hb⟩;have B6:=Za.mk (bS Bq.out hb);have z66:w6.cell? ⟨g2,6,none⟩=some (.int .i64 b):=bc (kB BK2q.out hb) 6))|(go_at_call 38;go_loud (refine(Zep.calls A c a b _ w6 (cM (Kd.Zac HRa.out B6.out)) hc (atV_f a b)).mono ?_;rintro e w7 ⟨rfl,⟨nd,rfl⟩⟩)))
      go_ret;exact⟨by first|rfl|(simp;done),bM B6.out⟩
    |true=>
      go_wp2_with (first|(go_at_call 32;go_loud (refine(Zb0.calls k 4 A1 c1 vars A2 c2 coefs op rhs A5 c5 rows b A c a true wq (cM (Kd.Zac HR1.out Bq.out)) hc1 (cM (Kd.Zac HR2.out Bq.out)) hc2 (cM (Kd.Zac HR5.out Bq.out)) hc5 (cM (Kd.Zac HRa.out Bq.out)) hc HH.out).mono ?_;rintro e w6 ⟨rfl,hb⟩;have B6:=Za.mk (bS Bq.out hb);have z66:w6.cell? ⟨g2,6,none⟩=some (.int .i64 b):=bc (kB BK2q.out hb) 6))|(go_at_call 38;go_loud (refine(Zep.calls A c a b _ w6 (cM (Kd.Zac HRa.out B6.out)) hc (atV_f a b)).mono ?_;rintro e w7 ⟨rfl,⟨nd,rfl⟩⟩)))
      go_ret;exact⟨by first|rfl|(simp;done),bM B6.out⟩
  rw[if_neg k4]at h;have d4_:decide (kd=4)=false:=decide_eq_false k4;have e4_:(kd==4)=false:=beq_eq_false_iff_ne.2 k4;clear k4;by_cases k5:kd=5
  case pos=>
    subst k5;rw[if_pos rfl]at h;have HR:=Za.mk (Option.some.inj h);clear h;have HLc:Za (coefs.length≤9223372036854775807):=⟨HR2.out.2.1⟩;go_wp2
    go_loopg [86] l.length (fun gg v86 w'=>∃i:Nat,v86= .int .i64 i∧i≤l.length∧l.length - i≤gg∧Za (clG coefs l (l.length - i) i=r)∧Za (Below wq.heap.size wq w'))
    case atStart=>exact⟨0,rfl,Nat.zero_le _,Nat.le_refl _,⟨by simpa using HR.out⟩,⟨bM (Below.refl wq.heap.size wq)⟩⟩
    case round=>
      clear HR z0 z1 z2 z3 z4 z5 z6 y0 y1 y2 y3 y4 y5 y6 zl;obtain⟨i,rfl,hi,hg,HR,BW⟩:=hrel;have z2:wr.cell? ⟨g2,2,none⟩=some (.slice A2 coefs.length c2):=bc (kB BK2q.out BW.out) 2;by_cases hlt:i<l.length
      case neg=>
        obtain rfl:i=l.length:=by omega
        have p1_:decide ((l.length:Int)<(l.length:Int))=false:=decide_eq_false (by omega);obtain rfl:false=r:=by have h_:=HR.out;rw[Nat.sub_self]at h_;exact h_
        clear HR hi hg hlt;go_wp2;go_ret;exact⟨rfl,Zae Bq.out (bM BW.out)⟩
      have hltz:(i:Int)<(l.length:Int):=by omega
      have p1_:decide ((i:Int)<(l.length:Int))=true:=decide_eq_true hltz;have p2_:decide ((0:Int)≤(i:Int))=true:=decide_eq_true (by omega);obtain⟨ad,e_,hx⟩:=Kd.Zb1 (Kd.Zac HRl.out BW.out) (i:Int) (by omega) hltz;cases e_;simp only[Int.toNat_natCast]at hx;have h_:=HR.out;rw[show l.length - i=(l.length - (i+1))+1 by omega,clG]at h_;have EK:=Za.mk h_;clear h_ HR;have hL:=HLL.out.1;by_cases n1:i<coefs.length
      case neg=>
        have f1:decide (i<coefs.length)=false:=decide_eq_false n1;have f1z:decide ((i:Int)<(coefs.length:Int))=false:=decide_eq_false (by omega);clear n1;have HA:Za (clauseAt coefs l i=false):=⟨by unfold clauseAt;rw[f1,Bool.false_and]⟩;go_wp2;try(go_quiet (fail))
        try go_wp2
        go_roundg (l.length - (i+1))
        case measure=>omega
        case rel=>exact⟨i+1,(by first|rfl|simp),by omega,Nat.le_refl _,⟨by have h_:=EK.out;rw[HA.out,Bool.false_or]at h_;exact h_⟩,⟨bM BW.out⟩⟩
      have f1:decide (i<coefs.length)=true:=decide_eq_true n1;have hcz:(i:Int)<(coefs.length:Int):=by omega
      have f1z:decide ((i:Int)<(coefs.length:Int))=true:=decide_eq_true hcz;obtain⟨ac,e_,hy⟩:=Kd.Zb1 (Kd.Zac HR2.out (Zae Bq.out BW.out)) (i:Int) (by omega) hcz;cases e_;simp only[Int.toNat_natCast]at hy;have HCA:Za (clauseAt coefs l i=((decide (rd coefs (i:Int)=1) && decide (rd l (i:Int)=1))||(decide (rd coefs (i:Int)= -1) && decide (rd l (i:Int)=0)))):=⟨by unfold clauseAt;rw[f1,Bool.true_and]⟩
      generalize rd coefs (i:Int)=y at hy HCA
      generalize rd l (i:Int)=x at hx HCA
      clear n1;by_cases y1:y=1
      case pos=>
        subst y1;by_cases x1:x=1
        case pos=>
          subst x1;obtain rfl:true=r:=by have h_:=EK.out;rw[show clauseAt coefs l i=true from by rw[HCA.out];rfl,Bool.true_or]at h_;exact h_
          go_wp2;try(go_quiet (fail))
          try go_wp2
          go_ret;exact⟨rfl,Zae Bq.out (bM BW.out)⟩
        have x1_:decide (x=1)=false:=decide_eq_false x1;have x1b_:(x==1)=false:=beq_eq_false_iff_ne.2 x1;have HX:=Za.mk x1;clear x1;have HA:Za (clauseAt coefs l i=false):=⟨by rw[HCA.out,x1_];rfl⟩;go_wp2;try(go_quiet (fail))
        try go_wp2
        go_roundg (l.length - (i+1))
        case measure=>omega
        case rel=>exact⟨i+1,(by first|rfl|simp),by omega,Nat.le_refl _,⟨by have h_:=EK.out;rw[HA.out,Bool.false_or]at h_;exact h_⟩,⟨bM BW.out⟩⟩
      have y1_:decide (y=1)=false:=decide_eq_false y1;have y1b_:(y==1)=false:=beq_eq_false_iff_ne.2 y1;by_cases y2:y= -1
      case pos=>
        subst y2;clear y1 y1_ y1b_;by_cases x0:x=0
        case pos=>
          subst x0;obtain rfl:true=r:=by have h_:=EK.out;rw[show clauseAt coefs l i=true from by rw[HCA.out];rfl,Bool.true_or]at h_;exact h_
          go_wp2;try(go_quiet (fail))
          try go_wp2
          go_ret;exact⟨rfl,Zae Bq.out (bM BW.out)⟩
        have x0_:decide (x=0)=false:=decide_eq_false x0;have x0b_:(x==0)=false:=beq_eq_false_iff_ne.2 x0;clear x0;have HA:Za (clauseAt coefs l i=false):=⟨by rw[HCA.out,x0_];rfl⟩;go_wp2;try(go_quiet (fail))
        try go_wp2
        go_roundg (l.length - (i+1))
        case measure=>omega
        case rel=>exact⟨i+1,(by first|rfl|simp),by omega,Nat.le_refl _,⟨by have h_:=EK.out;rw[HA.out,Bool.false_or]at h_;exact h_⟩,⟨bM BW.out⟩⟩
      have y2_:decide (y=(-1))=false:=decide_eq_false y2;have y2b_:(y==(-1))=false:=beq_eq_false_iff_ne.2 y2;clear y1 y2;have HA:Za (clauseAt coefs l i=false):=⟨by rw[HCA.out,y1_,show decide (y= -1)=false from y2_];rfl⟩;go_wp2;try(go_quiet (fail))
      try go_wp2
      go_roundg (l.length - (i+1))
      case measure=>omega
      case rel=>exact⟨i+1,(by first|rfl|simp),by omega,Nat.le_refl _,⟨by have h_:=EK.out;rw[HA.out,Bool.false_or]at h_;exact h_⟩,⟨bM BW.out⟩⟩
  rw[if_neg k5]at h;have d5_:decide (kd=5)=false:=decide_eq_false k5;have e5_:(kd==5)=false:=beq_eq_false_iff_ne.2 k5;clear k5;obtain⟨cmp,hc_,h2_⟩:=Option.bind_eq_some_iff.1 h;have HH:=Za.mk hc_;obtain rfl:=Option.some.inj h2_;clear h hc_ h2_;obtain⟨i0,hi0,_,hszI,_⟩:=info_parts info3;obtain⟨hf,hHF⟩:∃x_:Nat,x_=l.length / 2:=⟨_,rfl⟩;have HHF:=Za.mk hHF;have hfl:hf≤l.length:=by omega
  have HFL:=Za.mk hfl;rw[←hHF]at HH;clear hHF;obtain⟨hcutT,hAT,hCT⟩:=Zd8 (P:=Tryz.prog) (Value.int .i64) 0 24 3 .i64 Tryz.underlying24 hi0 hszI Al cl l (hf:Int) (by omega) (by omega) HCl.out;obtain⟨AD,hcutD,hAD,hCD⟩:=print_drop_of (P:=Tryz.prog) (Value.int .i64) 0 24 3 .i64 Tryz.underlying24 hi0 hszI Al cl l (hf:Int) (by omega) (by omega) HCl.out;simp only[Int.toNat_natCast]at hcutT hAT hCT hcutD hAD hCD;have HRT:=Za.mk (Kd.Zec (h1:=fun _=>rfl) (hAT _ (Kd.Zed HRl.out)));have HRD:=Za.mk (Kd.Zec (h1:=fun _=>rfl) (hAD _ (Kd.Zed HRl.out)));have HC:Za (∀n,Calls Tryz.prog 39 #[.slice Al hf cl,.slice AD (l.length - hf) (cl - hf)] (wq.drewN n) fun e w''=>e= .returned (.int .i64 cmp)∧∃m,w''=wq.drewN m):=⟨fun n=>by have h9_:=Calls.quiet_of (n:=n) ((Za1.calls k Al cl (l.take hf) AD (cl - hf) (l.drop hf) cmp _ (cM HRT.out) hCT (cM HRD.out) hCD HH.out).mono fun e w' h_=>⟨h_.1,h_.2.out⟩);rw[List.length_take,List.length_drop,Nat.min_eq_left HFL.out]at h9_;exact h9_⟩;have q1_:((l.length:Int)).tdiv 2=(hf:Int):=by rw[HHF.out];rfl
  clear hAT hAD;have hb0:decide ((0:Int)≤(hf:Int))=true:=decide_eq_true (by omega);have hL:=HLL.out.1;have hw_:IntKind.i64.wrap (hf:Int)=(hf:Int):=by rw[Zd5];exact w64 (by omega) (by omega)
  go_wp2
  trace_state
  go_quiet (with_reducible exact HC.out _)
  try go_wp2
  go_ret;exact⟨by first|rfl|(simp;done),bM Bq.out⟩
end Go.Proofs.YtdpieallpbllkaaGreat.P
namespace Go.Proofs.YtdpieallpbllkaaGreat.P
open Go.RowKit Go.Proofs.YtdpieallpbllkaaGreatW.PrintWords Go.Proofs.YtdpieallpbllkaaGreatW.PrintLast Go.Proofs.YtdpieallpbllkaaGreatW.PrintMore
attribute [local go_sem] Zcw Zcy Zdg Zdh Zco Zcp Zcx Zcz
mutual
def Zaj.l0 : Nat → List Int → List Int → Int → Option (List Int)
 | 0, _, _, _ => none
 |k+1,x0,x3,x4=>if x4<(x0.length:Int)then(if 0≤x4 then((Zbl.f k x3 (rd x0 x4)).bind fun t218=>(Zaj.l1 k x0 x3 x4 (([]:List Int)) t218 0))else(none))else(some x3)
def Zaj.l1 : Nat → List Int → List Int → Int → List Int → Bool → Int → Option (List Int)
 | 0, _, _, _, _, _, _ => none
 |k+1,x0,x3,x4,x5,x6,x7=>if x7<(x3.length:Int)then(if x6=true then(if 0≤x7 then(if x5.length<17592186044416 then(Zaj.l1 k x0 x3 x4 (x5++ [rd x3 x7]) x6 (wrap64 (x7+1)))else(none))else(none))else(if 0≤x4 then(if x4<(x0.length:Int)then(if 0≤x7 then(if(rd x0 x4)<(rd x3 x7)then(if x5.length<17592186044416 then((some (x5++ [rd x0 x4]:List Int)).bind fun xB=>(if xB.length<17592186044416 then(Zaj.l1 k x0 x3 x4 (xB++ [rd x3 x7]) true (wrap64 (x7+1)))else(none)))else(none))else(if x5.length<17592186044416 then(Zaj.l1 k x0 x3 x4 (x5++ [rd x3 x7]) x6 (wrap64 (x7+1)))else(none)))else(none))else(none))else(none)))else(if x6=true then(Zaj.l0 k x0 x5 (wrap64 (x4+1)))else(if 0≤x4 then(if x4<(x0.length:Int)then(if x5.length<17592186044416 then(Zaj.l0 k x0 (x5++ [rd x0 x4]) (wrap64 (x4+1)))else(none))else(none))else(none)))
end
def Zaj.f (k:Nat) (l0:List Int):Option (List Int):=Zaj.l0 k l0 (([]:List Int)) 0
set_option maxRecDepth 100000 in
theorem Zaj.calls (k : Nat) (A0 : Option Addr) (c0 : Nat) (l0 : List Int) (r : List Int) (w : World) (hr0 : Kd.C (Kd.int .i64) w A0 l0.length l0) (hc0 : l0.length ≤ c0) (h : Zaj.f k l0 = some r) :
  Calls Tryz.prog 43 #[.slice A0 l0.length c0] w fun e w'=>∃v0_:Value,e= .returned (v0_)∧Kd.R (Kd.int .i64) 3 w' w.heap.size (fun _=>True) v0_ r∧Below w.heap.size w w':=by
 have HR0:=Za.mk hr0;have HC0:=Za.mk hc0;clear hr0 hc0;have HB:=Za.mk (Below.refl w.heap.size w);have H:(Zaj.l0 k l0 (([]:List Int)) 0)=some r:=h;clear h;obtain⟨VQ,Da⟩:∃y_:List Int,y_=(([]:List Int)):=⟨_,rfl⟩;replace H:(Zaj.l0 k l0 VQ 0)=some r:=by first|(rw[Da];with_reducible exact H)|(have H2_:=(Option.bind_some _ _).symm.trans H;rw[Da];with_reducible exact H2_)|(have H2_:=(Option.bind_some _ _).symm.trans H;with_reducible exact H2_)|with_reducible exact H|(rw[Da];exact H)|exact H
 have yS:=Za.mk Da;clear Da;have H':=Za.mk H;clear H;go_enter Tryz.func43,Tryz.ntmps43
 go_wp2_with (first|((with_reducible refine Zar (N:=8) rfl ?_);refine Kd.Zdj (Kd.int .i64) _ 3 ?hg (N:=8) ?hd (xs:=([]:List Int)) (inner:= []) (ok:=fun _=>True) (okp:=fun _=>True) ?hr ?hp (fun _ hk=>hk) trivial (Below.refl _ _) (Nat.le_refl _) (by simp) ?_;(case hd=>rfl);(case hg=>rfl);(case hr=>first|(go_simp;done)|(go_simp;rfl));(case hp=>exact(Reps.none _ _));intro v212 w2 ho3 hb hg_ hnew_;clear hg_ hnew_;(first|rw[←yS.out]at ho3|(simp only[Int.reduceToNat]at ho3;rw[←yS.out]at ho3));have Ky:=Za.mk (Kd.Zbm ho3 (Zaf (bM HB.out)));replace HB:=Za.mk (bS HB.out hb);clear hb ho3))
 repeat(go_quiet (first|((with_reducible refine Zar (N:=8) rfl ?_);refine Kd.Zdj (Kd.int .i64) _ 3 ?hg (N:=8) ?hd (xs:=([]:List Int)) (inner:= []) (ok:=fun _=>True) (okp:=fun _=>True) ?hr ?hp (fun _ hk=>hk) trivial (Below.refl _ _) (Nat.le_refl _) (by simp) ?_;(case hd=>rfl);(case hg=>rfl);(case hr=>first|(go_simp;done)|(go_simp;rfl));(case hp=>exact(Reps.none _ _));intro v212 w2 ho3 hb hg_ hnew_;clear hg_ hnew_;(first|rw[←yS.out]at ho3|(simp only[Int.reduceToNat]at ho3;rw[←yS.out]at ho3));have Ky:=Za.mk (Kd.Zbm ho3 (Zaf (bM HB.out)));replace HB:=Za.mk (bS HB.out hb);clear hb ho3));try go_wp2_with (first|((with_reducible refine Zar (N:=8) rfl ?_);refine Kd.Zdj (Kd.int .i64) _ 3 ?hg (N:=8) ?hd (xs:=([]:List Int)) (inner:= []) (ok:=fun _=>True) (okp:=fun _=>True) ?hr ?hp (fun _ hk=>hk) trivial (Below.refl _ _) (Nat.le_refl _) (by simp) ?_;(case hd=>rfl);(case hg=>rfl);(case hr=>first|(go_simp;done)|(go_simp;rfl));(case hp=>exact(Reps.none _ _));intro v212 w2 ho3 hb hg_ hnew_;clear hg_ hnew_;(first|rw[←yS.out]at ho3|(simp only[Int.reduceToNat]at ho3;rw[←yS.out]at ho3));have Ky:=Za.mk (Kd.Zbm ho3 (Zaf (bM HB.out)));replace HB:=Za.mk (bS HB.out hb);clear hb ho3)))
 go_loopg [3,4] k (fun kq v3 v4 w'=>∃(af:List Int) (ah:Int),v4= .int .i64 ah∧Za (Zaj.l0 kq l0 af ah=some r)∧Za (kq≤k)∧Za (Kd.R (Kd.int .i64) 3 w' w.heap.size (fun _=>True) v3 af)∧Za (Below w.heap.size w w'))
 case atStart=>exact⟨(VQ),(0),eS,H',⟨Nat.le_refl _⟩,⟨rM Ky.out⟩,⟨bM HB.out⟩⟩
 case round=>
  clear H';try clear p2
  obtain⟨af,ah,rfl,HA,HK1,aN,HB⟩:=hrel
  cases gk with
  | zero => exact absurd HA.out (by simp [Zaj.l0])
  |succ k1=>
   have H:=HA.out;clear HA;simp only[Zaj.l0]at H;by_cases c4:ah<(l0.length:Int)
   case neg=>
    rw[if_neg c4]at H;have dC:decide (ah<(l0.length:Int))=false:=decide_eq_false c4;clear c4;obtain rfl:=sj H;go_wp2
    repeat(go_quiet (fail);try go_wp2)
    go_ret;exact⟨_,eR,rM aN.out,bM HB.out⟩
   rw[if_pos c4]at H;have dC:decide (ah<(l0.length:Int))=true:=decide_eq_true c4;clear c4;obtain⟨VR,Db⟩:∃y_:List Int,y_=(([]:List Int)):=⟨_,rfl⟩;replace H:(if 0≤ah then((Zbl.f k1 af (rd l0 ah)).bind fun t218=>(Zaj.l1 k1 l0 af ah VR t218 0))else(none))=some r:=by first|(rw[Db];with_reducible exact H)|(have H2_:=(Option.bind_some _ _).symm.trans H;rw[Db];with_reducible exact H2_)|(have H2_:=(Option.bind_some _ _).symm.trans H;with_reducible exact H2_)|with_reducible exact H|(rw[Db];exact H)|exact H
   have yT:=Za.mk Db;clear Db;obtain⟨dw,H⟩:=ifT H;obtain⟨t218,A6,H⟩:=bnd H;try dsimp only at H
   have H':=Za.mk H;clear H
   go_wp2_with (first|((with_reducible refine Zar (N:=15) rfl ?_);refine Kd.Zdj (Kd.int .i64) _ 3 ?hg (N:=15) ?hd (xs:=([]:List Int)) (inner:= []) (ok:=fun _=>True) (okp:=fun _=>True) ?hr ?hp (fun _ hk=>hk) trivial (Below.refl _ _) (Nat.le_refl _) (by simp) ?_;(case hd=>rfl);(case hg=>rfl);(case hr=>first|(go_simp;done)|(go_simp;rfl));(case hp=>exact(Reps.none _ _));intro VE w7 ho8 hb hg_ hnew_;clear hg_ hnew_;(first|rw[←yT.out]at ho8|(simp only[Int.reduceToNat]at ho8;rw[←yT.out]at ho8));have Kz:=Za.mk (Kd.Zbm (Kd.Ze3 ho8 (Kd.R_lt (rM aN.out))) (Zaf (bM HB.out)));replace aN:=Za.mk (Kd.Ze (rM aN.out) (Kd.Zc6 ho8) hb);replace HB:=Za.mk (bS HB.out hb);clear hb ho8;have qP:0≤(ah:Int):=odt;have qQ:ah<(l0.length:Int):=odt;obtain⟨yU,e217,nL⟩:=Kd.Zb1 HR0.out ah qP qQ;cases e217;replace nL:=hB HB.out nL;replace qP:=eq_true qP;replace qQ:=eq_true qQ;obtain⟨Ao9,co9,eo9⟩:=Kd.Zbe aN.out;subst eo9)|(go_at_call 49;(with_reducible refine(Zbl.calls k1 _ _ af (rd l0 ah) t218 _ (cM ((Kd.Zan aN.out).2.2)) ((Kd.Zan aN.out).2.1) A6.out).mono ?_);rintro e w' ⟨rfl,⟨nd,rfl⟩⟩;(try first|exact⟨rfl,_,World.drewN_drewN _ _ _⟩|exact⟨rfl,_,Eq.trans (World.drewN_drewN _ _ _) (congrArg (World.drewN _) (Nat.add_assoc _ _ _))⟩)))
   repeat(go_quiet (first|((with_reducible refine Zar (N:=15) rfl ?_);refine Kd.Zdj (Kd.int .i64) _ 3 ?hg (N:=15) ?hd (xs:=([]:List Int)) (inner:= []) (ok:=fun _=>True) (okp:=fun _=>True) ?hr ?hp (fun _ hk=>hk) trivial (Below.refl _ _) (Nat.le_refl _) (by simp) ?_;(case hd=>rfl);(case hg=>rfl);(case hr=>first|(go_simp;done)|(go_simp;rfl));(case hp=>exact(Reps.none _ _));intro VE w7 ho8 hb hg_ hnew_;clear hg_ hnew_;(first|rw[←yT.out]at ho8|(simp only[Int.reduceToNat]at ho8;rw[←yT.out]at ho8));have Kz:=Za.mk (Kd.Zbm (Kd.Ze3 ho8 (Kd.R_lt (rM aN.out))) (Zaf (bM HB.out)));replace aN:=Za.mk (Kd.Ze (rM aN.out) (Kd.Zc6 ho8) hb);replace HB:=Za.mk (bS HB.out hb);clear hb ho8;have qP:0≤(ah:Int):=odt;have qQ:ah<(l0.length:Int):=odt;obtain⟨yU,e217,nL⟩:=Kd.Zb1 HR0.out ah qP qQ;cases e217;replace nL:=hB HB.out nL;replace qP:=eq_true qP;replace qQ:=eq_true qQ;obtain⟨Ao9,co9,eo9⟩:=Kd.Zbe aN.out;subst eo9)|(go_at_call 49;(with_reducible refine(Zbl.calls k1 _ _ af (rd l0 ah) t218 _ (cM ((Kd.Zan aN.out).2.2)) ((Kd.Zan aN.out).2.1) A6.out).mono ?_);rintro e w' ⟨rfl,⟨nd,rfl⟩⟩;(try first|exact⟨rfl,_,World.drewN_drewN _ _ _⟩|exact⟨rfl,_,Eq.trans (World.drewN_drewN _ _ _) (congrArg (World.drewN _) (Nat.add_assoc _ _ _))⟩)));try go_wp2_with (first|((with_reducible refine Zar (N:=15) rfl ?_);refine Kd.Zdj (Kd.int .i64) _ 3 ?hg (N:=15) ?hd (xs:=([]:List Int)) (inner:= []) (ok:=fun _=>True) (okp:=fun _=>True) ?hr ?hp (fun _ hk=>hk) trivial (Below.refl _ _) (Nat.le_refl _) (by simp) ?_;(case hd=>rfl);(case hg=>rfl);(case hr=>first|(go_simp;done)|(go_simp;rfl));(case hp=>exact(Reps.none _ _));intro VE w7 ho8 hb hg_ hnew_;clear hg_ hnew_;(first|rw[←yT.out]at ho8|(simp only[Int.reduceToNat]at ho8;rw[←yT.out]at ho8));have Kz:=Za.mk (Kd.Zbm (Kd.Ze3 ho8 (Kd.R_lt (rM aN.out))) (Zaf (bM HB.out)));replace aN:=Za.mk (Kd.Ze (rM aN.out) (Kd.Zc6 ho8) hb);replace HB:=Za.mk (bS HB.out hb);clear hb ho8;have qP:0≤(ah:Int):=odt;have qQ:ah<(l0.length:Int):=odt;obtain⟨yU,e217,nL⟩:=Kd.Zb1 HR0.out ah qP qQ;cases e217;replace nL:=hB HB.out nL;replace qP:=eq_true qP;replace qQ:=eq_true qQ;obtain⟨Ao9,co9,eo9⟩:=Kd.Zbe aN.out;subst eo9)|(go_at_call 49;(with_reducible refine(Zbl.calls k1 _ _ af (rd l0 ah) t218 _ (cM ((Kd.Zan aN.out).2.2)) ((Kd.Zan aN.out).2.1) A6.out).mono ?_);rintro e w' ⟨rfl,⟨nd,rfl⟩⟩;(try first|exact⟨rfl,_,World.drewN_drewN _ _ _⟩|exact⟨rfl,_,Eq.trans (World.drewN_drewN _ _ _) (congrArg (World.drewN _) (Nat.add_assoc _ _ _))⟩))))
   go_loopg [5,6,7] k1 (fun kq v5 v6 v7 w'=>∃(dG:List Int) (ae:Bool) (dV:Int),v6= .bool ae∧v7= .int .i64 dV∧Za (Zaj.l1 kq l0 af ah dG ae dV=some r)∧Za (kq≤k1)∧Za (Kd.R (Kd.int .i64) 3 w' w.heap.size (fun k_=>some k_≠(v5:Value).ownBlock) (.slice Ao9 af.length co9) af)∧Za (Kd.R (Kd.int .i64) 3 w' w.heap.size (fun k_=>some k_≠((.slice Ao9 af.length co9):Value).ownBlock) v5 dG)∧Za (Below w.heap.size w w'))
   case atStart=>exact⟨(VR),(t218),(0),eS,eS,H',⟨Nat.le_refl _⟩,⟨rM (Kd.Za6 aN.out (fun _ hk=>hk.2))⟩,⟨rM (Kd.Za6 Kz.out (fun _ hk=>hk.2))⟩,⟨bM HB.out⟩⟩
   case round=>
    clear H';try clear p2
    try clear q2
    try clear hx2
    try clear c4
    try clear dC
    try clear c5
    try clear dw
    try clear nL
    try clear p2
    try clear qP
    try clear qQ
    obtain⟨dG,ae,dV,rfl,rfl,HA,HK2,aN,bz,HB⟩:=hrel
    cases gk with
    | zero => exact absurd HA.out (by simp [Zaj.l1])
    |succ k2=>
     have H:=HA.out;clear HA;simp only[Zaj.l1]at H;by_cases c10:dV<(af.length:Int)
     case neg=>
      rw[if_neg c10]at H;have jS:decide (dV<(af.length:Int))=false:=decide_eq_false c10;clear c10;by_cases c25:ae=true
      case pos=>
       subst c25;rw[if_pos rfl]at H;have H':=Za.mk H;clear H;go_wp2
       repeat(go_quiet (fail);try go_wp2)
       go_roundg k2
       case measure=>have:=HK1.out;have:=HK2.out;omega
       case rel=>exact⟨(dG),(wrap64 (ah+1)),eS,H',⟨by have:=HK1.out;have:=HK2.out;omega⟩,⟨rM (Kd.Za6 bz.out (fun _ hk=>trivial))⟩,⟨bM HB.out⟩⟩
      replace c25:=Bool.eq_false_iff.mpr c25;subst c25;replace H:=ifF H;obtain⟨Co,H⟩:=ifT H;obtain⟨fPa,H⟩:=ifT H;obtain⟨c28,H⟩:=ifP H;have KU:=Za.mk c28;clear c28;obtain⟨VV,Di⟩:∃y_:List Int,y_=(dG++ [rd l0 ah]):=⟨_,rfl⟩;replace H:(Zaj.l0 k2 l0 VV (wrap64 (ah+1)))=some r:=by first|(rw[Di];with_reducible exact H)|(have H2_:=(Option.bind_some _ _).symm.trans H;rw[Di];with_reducible exact H2_)|(have H2_:=(Option.bind_some _ _).symm.trans H;with_reducible exact H2_)|with_reducible exact H|(rw[Di];exact H)|exact H
      have La:=Za.mk Di;clear Di;have H':=Za.mk H;clear H;have OL:0≤(ah:Int):=odt;have Pd:ah<(l0.length:Int):=odt;obtain⟨XB,e237,JM⟩:=Kd.Zb1 HR0.out ah OL Pd;obtain rfl:yU=XB:=(by injection e237);replace JM:=hB HB.out JM;replace OL:=eq_true OL;replace Pd:=eq_true Pd
      go_wp2_with (first|((with_reducible refine Zbo (b:= .append) (xs:=#[.tmp 57,.tmp 62]) rfl ?_);at_builtin;refine Kd.Zc4 (Kd.int .i64) (w0:=w) w.heap.size rfl (.tmp 57) (.tmp 62) 24 3 (.int .i64 0) 8 rfl Tryz.underlying24 info3 rfl (by decide) (by omega) u5 dG (rd l0 ah) [.int .i64 (rd l0 ah)] (fun k_=>some k_≠(.slice Ao9 af.length co9:Value).ownBlock) (fun _=>False) rfl rfl ?aP (fun _ hk=>hk.elim) ?aF ?aO ?aB ?aS ?aL ?_;(case aP=>exact rfl);(case aB=>exact(bM HB.out));(case aF=>exact(fun k_ hk=>Kd.fresh' (Kd.R_lt (rM aN.out)) k_ hk));(case aO=>exact(rM bz.out));(case aS=>exact(Zaf (bM HB.out)));(case aL=>have:=KU.out;omega);intro VI w29 ho hb hg hat;rw[←La.out]at ho;replace aN:=Za.mk (Kd.Zdu (ok:=(fun _=>True)) (rM (Kd.Za6 aN.out (fun _ hk=>⟨trivial,hk⟩))) hg hat);replace HB:=Za.mk (hb);have K6:=Za.mk (ho);clear bz;clear ho hb hg hat))
      repeat(go_quiet (first|((with_reducible refine Zbo (b:= .append) (xs:=#[.tmp 57,.tmp 62]) rfl ?_);at_builtin;refine Kd.Zc4 (Kd.int .i64) (w0:=w) w.heap.size rfl (.tmp 57) (.tmp 62) 24 3 (.int .i64 0) 8 rfl Tryz.underlying24 info3 rfl (by decide) (by omega) u5 dG (rd l0 ah) [.int .i64 (rd l0 ah)] (fun k_=>some k_≠(.slice Ao9 af.length co9:Value).ownBlock) (fun _=>False) rfl rfl ?aP (fun _ hk=>hk.elim) ?aF ?aO ?aB ?aS ?aL ?_;(case aP=>exact rfl);(case aB=>exact(bM HB.out));(case aF=>exact(fun k_ hk=>Kd.fresh' (Kd.R_lt (rM aN.out)) k_ hk));(case aO=>exact(rM bz.out));(case aS=>exact(Zaf (bM HB.out)));(case aL=>have:=KU.out;omega);intro VI w29 ho hb hg hat;rw[←La.out]at ho;replace aN:=Za.mk (Kd.Zdu (ok:=(fun _=>True)) (rM (Kd.Za6 aN.out (fun _ hk=>⟨trivial,hk⟩))) hg hat);replace HB:=Za.mk (hb);have K6:=Za.mk (ho);clear bz;clear ho hb hg hat));try go_wp2_with (first|((with_reducible refine Zbo (b:= .append) (xs:=#[.tmp 57,.tmp 62]) rfl ?_);at_builtin;refine Kd.Zc4 (Kd.int .i64) (w0:=w) w.heap.size rfl (.tmp 57) (.tmp 62) 24 3 (.int .i64 0) 8 rfl Tryz.underlying24 info3 rfl (by decide) (by omega) u5 dG (rd l0 ah) [.int .i64 (rd l0 ah)] (fun k_=>some k_≠(.slice Ao9 af.length co9:Value).ownBlock) (fun _=>False) rfl rfl ?aP (fun _ hk=>hk.elim) ?aF ?aO ?aB ?aS ?aL ?_;(case aP=>exact rfl);(case aB=>exact(bM HB.out));(case aF=>exact(fun k_ hk=>Kd.fresh' (Kd.R_lt (rM aN.out)) k_ hk));(case aO=>exact(rM bz.out));(case aS=>exact(Zaf (bM HB.out)));(case aL=>have:=KU.out;omega);intro VI w29 ho hb hg hat;rw[←La.out]at ho;replace HB:=Za.mk (hb);have K6:=Za.mk (ho);clear aN bz;clear ho hb hg hat)))
      go_roundg k2
      case measure=>have:=HK1.out;have:=HK2.out;omega
      case rel=>exact⟨(VV),(wrap64 (ah+1)),eS,H',⟨by have:=HK1.out;have:=HK2.out;omega⟩,⟨rM (Kd.Za6 K6.out (fun _ hk=>trivial))⟩,⟨bM HB.out⟩⟩
     rw[if_pos c10]at H;have jS:decide (dV<(af.length:Int))=true:=decide_eq_true c10;clear c10;by_cases c11:ae=true
     case pos=>
      subst c11;rw[if_pos rfl]at H;obtain⟨iV,H⟩:=ifT H;obtain⟨c13,H⟩:=ifP H;have KQ:=Za.mk c13;clear c13;obtain⟨VS,Dc⟩:∃y_:List Int,y_=(dG++ [rd af dV]):=⟨_,rfl⟩;replace H:(Zaj.l1 k2 l0 af ah VS true (wrap64 (dV+1)))=some r:=by first|(rw[Dc];with_reducible exact H)|(have H2_:=(Option.bind_some _ _).symm.trans H;rw[Dc];with_reducible exact H2_)|(have H2_:=(Option.bind_some _ _).symm.trans H;with_reducible exact H2_)|with_reducible exact H|(rw[Dc];exact H)|exact H
      have KV:=Za.mk Dc;clear Dc;have H':=Za.mk H;clear H;have OH:0≤(dV:Int):=odt;have OX:dV<(af.length:Int):=odt;obtain⟨Lc,rfl,eta⟩:=Kd.Zb1 (Kd.Zan aN.out).2.2 dV OH OX;replace OH:=eq_true OH;replace OX:=eq_true OX
      go_wp2_with (first|((with_reducible refine Zbo (b:= .append) (xs:=#[.tmp 48,.tmp 53]) rfl ?_);at_builtin;refine Kd.Zc4 (Kd.int .i64) (w0:=w) w.heap.size rfl (.tmp 48) (.tmp 53) 24 3 (.int .i64 0) 8 rfl Tryz.underlying24 info3 rfl (by decide) (by omega) u5 dG (rd af dV) [.int .i64 (rd af dV)] (fun k_=>some k_≠(.slice (some Lc) af.length co9:Value).ownBlock) (fun _=>False) rfl rfl ?aP (fun _ hk=>hk.elim) ?aF ?aO ?aB ?aS ?aL ?_;(case aP=>exact rfl);(case aB=>exact(bM HB.out));(case aF=>exact(fun k_ hk=>Kd.fresh' (Kd.R_lt (rM aN.out)) k_ hk));(case aO=>exact(rM bz.out));(case aS=>exact(Zaf (bM HB.out)));(case aL=>have:=KQ.out;omega);intro VF w14 ho hb hg hat;rw[←KV.out]at ho;replace aN:=Za.mk (Kd.Zdu (ok:=(fun _=>True)) (rM (Kd.Za6 aN.out (fun _ hk=>⟨trivial,hk⟩))) hg hat);replace HB:=Za.mk (hb);have K3:=Za.mk (ho);clear bz;clear ho hb hg hat))
      repeat(go_quiet (first|((with_reducible refine Zbo (b:= .append) (xs:=#[.tmp 48,.tmp 53]) rfl ?_);at_builtin;refine Kd.Zc4 (Kd.int .i64) (w0:=w) w.heap.size rfl (.tmp 48) (.tmp 53) 24 3 (.int .i64 0) 8 rfl Tryz.underlying24 info3 rfl (by decide) (by omega) u5 dG (rd af dV) [.int .i64 (rd af dV)] (fun k_=>some k_≠(.slice (some Lc) af.length co9:Value).ownBlock) (fun _=>False) rfl rfl ?aP (fun _ hk=>hk.elim) ?aF ?aO ?aB ?aS ?aL ?_;(case aP=>exact rfl);(case aB=>exact(bM HB.out));(case aF=>exact(fun k_ hk=>Kd.fresh' (Kd.R_lt (rM aN.out)) k_ hk));(case aO=>exact(rM bz.out));(case aS=>exact(Zaf (bM HB.out)));(case aL=>have:=KQ.out;omega);intro VF w14 ho hb hg hat;rw[←KV.out]at ho;replace aN:=Za.mk (Kd.Zdu (ok:=(fun _=>True)) (rM (Kd.Za6 aN.out (fun _ hk=>⟨trivial,hk⟩))) hg hat);replace HB:=Za.mk (hb);have K3:=Za.mk (ho);clear bz;clear ho hb hg hat));try go_wp2_with (first|((with_reducible refine Zbo (b:= .append) (xs:=#[.tmp 48,.tmp 53]) rfl ?_);at_builtin;refine Kd.Zc4 (Kd.int .i64) (w0:=w) w.heap.size rfl (.tmp 48) (.tmp 53) 24 3 (.int .i64 0) 8 rfl Tryz.underlying24 info3 rfl (by decide) (by omega) u5 dG (rd af dV) [.int .i64 (rd af dV)] (fun k_=>some k_≠(.slice (some Lc) af.length co9:Value).ownBlock) (fun _=>False) rfl rfl ?aP (fun _ hk=>hk.elim) ?aF ?aO ?aB ?aS ?aL ?_;(case aP=>exact rfl);(case aB=>exact(bM HB.out));(case aF=>exact(fun k_ hk=>Kd.fresh' (Kd.R_lt (rM aN.out)) k_ hk));(case aO=>exact(rM bz.out));(case aS=>exact(Zaf (bM HB.out)));(case aL=>have:=KQ.out;omega);intro VF w14 ho hb hg hat;rw[←KV.out]at ho;replace aN:=Za.mk (Kd.Zdu (ok:=(fun _=>True)) (rM (Kd.Za6 aN.out (fun _ hk=>⟨trivial,hk⟩))) hg hat);replace HB:=Za.mk (hb);have K3:=Za.mk (ho);clear bz;clear ho hb hg hat)))
      go_roundg k2
      case measure=>have:=HK1.out;have:=HK2.out;omega
      case rel=>exact⟨(VS),(true),(wrap64 (dV+1)),eS,eS,H',⟨by have:=HK1.out;have:=HK2.out;omega⟩,⟨rM (Kd.Za6 aN.out (fun _ hk=>hk.2))⟩,⟨rM K3.out⟩,⟨bM HB.out⟩⟩
     replace c11:=Bool.eq_false_iff.mpr c11;subst c11;replace H:=ifF H;obtain⟨jo,H⟩:=ifT H;obtain⟨um,H⟩:=ifT H;obtain⟨yX,H⟩:=ifT H;by_cases c18:(rd l0 ah)<(rd af dV)
     case neg=>
      rw[if_neg c18]at H;have kz:decide ((rd l0 ah)<(rd af dV))=false:=decide_eq_false c18;clear c18;obtain⟨c23,H⟩:=ifP H;have KT:=Za.mk c23;clear c23;obtain⟨VU,Dh⟩:∃y_:List Int,y_=(dG++ [rd af dV]):=⟨_,rfl⟩;replace H:(Zaj.l1 k2 l0 af ah VU false (wrap64 (dV+1)))=some r:=by first|(rw[Dh];with_reducible exact H)|(have H2_:=(Option.bind_some _ _).symm.trans H;rw[Dh];with_reducible exact H2_)|(have H2_:=(Option.bind_some _ _).symm.trans H;with_reducible exact H2_)|with_reducible exact H|(rw[Dh];exact H)|exact H
      have KY:=Za.mk Dh;clear Dh;have H':=Za.mk H;clear H;have zL:0≤(ah:Int):=odt;have Af:ah<(l0.length:Int):=odt;obtain⟨Ld,e223,vO⟩:=Kd.Zb1 HR0.out ah zL Af;obtain rfl:yU=Ld:=(by injection e223);replace vO:=hB HB.out vO;replace zL:=eq_true zL;replace Af:=eq_true Af;have zM:0≤(dV:Int):=odt;have Ag:dV<(af.length:Int):=odt;obtain⟨mh,rfl,TT⟩:=Kd.Zb1 (Kd.Zan aN.out).2.2 dV zM Ag;replace zM:=eq_true zM;replace Ag:=eq_true Ag;have OJ:0≤(dV:Int):=odt;have Pb:dV<(af.length:Int):=odt;obtain⟨XA,e233,eua⟩:=Kd.Zb1 (Kd.Zan aN.out).2.2 dV OJ Pb;obtain rfl:mh=XA:=(by injection e233);replace OJ:=eq_true OJ;replace Pb:=eq_true Pb
      go_wp2_with (first|((with_reducible refine Zbo (b:= .append) (xs:=#[.tmp 48,.tmp 53]) rfl ?_);at_builtin;refine Kd.Zc4 (Kd.int .i64) (w0:=w) w.heap.size rfl (.tmp 48) (.tmp 53) 24 3 (.int .i64 0) 8 rfl Tryz.underlying24 info3 rfl (by decide) (by omega) u5 dG (rd af dV) [.int .i64 (rd af dV)] (fun k_=>some k_≠(.slice (some mh) af.length co9:Value).ownBlock) (fun _=>False) rfl rfl ?aP (fun _ hk=>hk.elim) ?aF ?aO ?aB ?aS ?aL ?_;(case aP=>exact rfl);(case aB=>exact(bM HB.out));(case aF=>exact(fun k_ hk=>Kd.fresh' (Kd.R_lt (rM aN.out)) k_ hk));(case aO=>exact(rM bz.out));(case aS=>exact(Zaf (bM HB.out)));(case aL=>have:=KT.out;omega);intro VH w24 ho hb hg hat;rw[←KY.out]at ho;replace aN:=Za.mk (Kd.Zdu (ok:=(fun _=>True)) (rM (Kd.Za6 aN.out (fun _ hk=>⟨trivial,hk⟩))) hg hat);replace HB:=Za.mk (hb);have K5:=Za.mk (ho);clear bz;clear ho hb hg hat))
      repeat(go_quiet (first|((with_reducible refine Zbo (b:= .append) (xs:=#[.tmp 48,.tmp 53]) rfl ?_);at_builtin;refine Kd.Zc4 (Kd.int .i64) (w0:=w) w.heap.size rfl (.tmp 48) (.tmp 53) 24 3 (.int .i64 0) 8 rfl Tryz.underlying24 info3 rfl (by decide) (by omega) u5 dG (rd af dV) [.int .i64 (rd af dV)] (fun k_=>some k_≠(.slice (some mh) af.length co9:Value).ownBlock) (fun _=>False) rfl rfl ?aP (fun _ hk=>hk.elim) ?aF ?aO ?aB ?aS ?aL ?_;(case aP=>exact rfl);(case aB=>exact(bM HB.out));(case aF=>exact(fun k_ hk=>Kd.fresh' (Kd.R_lt (rM aN.out)) k_ hk));(case aO=>exact(rM bz.out));(case aS=>exact(Zaf (bM HB.out)));(case aL=>have:=KT.out;omega);intro VH w24 ho hb hg hat;rw[←KY.out]at ho;replace aN:=Za.mk (Kd.Zdu (ok:=(fun _=>True)) (rM (Kd.Za6 aN.out (fun _ hk=>⟨trivial,hk⟩))) hg hat);replace HB:=Za.mk (hb);have K5:=Za.mk (ho);clear bz;clear ho hb hg hat));try go_wp2_with (first|((with_reducible refine Zbo (b:= .append) (xs:=#[.tmp 48,.tmp 53]) rfl ?_);at_builtin;refine Kd.Zc4 (Kd.int .i64) (w0:=w) w.heap.size rfl (.tmp 48) (.tmp 53) 24 3 (.int .i64 0) 8 rfl Tryz.underlying24 info3 rfl (by decide) (by omega) u5 dG (rd af dV) [.int .i64 (rd af dV)] (fun k_=>some k_≠(.slice (some mh) af.length co9:Value).ownBlock) (fun _=>False) rfl rfl ?aP (fun _ hk=>hk.elim) ?aF ?aO ?aB ?aS ?aL ?_;(case aP=>exact rfl);(case aB=>exact(bM HB.out));(case aF=>exact(fun k_ hk=>Kd.fresh' (Kd.R_lt (rM aN.out)) k_ hk));(case aO=>exact(rM bz.out));(case aS=>exact(Zaf (bM HB.out)));(case aL=>have:=KT.out;omega);intro VH w24 ho hb hg hat;rw[←KY.out]at ho;replace aN:=Za.mk (Kd.Zdu (ok:=(fun _=>True)) (rM (Kd.Za6 aN.out (fun _ hk=>⟨trivial,hk⟩))) hg hat);replace HB:=Za.mk (hb);have K5:=Za.mk (ho);clear bz;clear ho hb hg hat)))
      go_roundg k2
      case measure=>have:=HK1.out;have:=HK2.out;omega
      case rel=>exact⟨(VU),(false),(wrap64 (dV+1)),eS,eS,H',⟨by have:=HK1.out;have:=HK2.out;omega⟩,⟨rM (Kd.Za6 aN.out (fun _ hk=>hk.2))⟩,⟨rM K5.out⟩,⟨bM HB.out⟩⟩
     rw[if_pos c18]at H;have kz:decide ((rd l0 ah)<(rd af dV))=true:=decide_eq_true c18;clear c18;obtain⟨c19,H⟩:=ifP H;have KR:=Za.mk c19;clear c19;obtain⟨xB,De⟩:∃y_:List Int,y_=(dG++ [rd l0 ah]):=⟨_,rfl⟩;replace H:(if xB.length<17592186044416 then(Zaj.l1 k2 l0 af ah (xB++ [rd af dV]) true (wrap64 (dV+1)))else(none))=some r:=by first|(rw[De];with_reducible exact H)|(have H2_:=(Option.bind_some _ _).symm.trans H;rw[De];with_reducible exact H2_)|(have H2_:=(Option.bind_some _ _).symm.trans H;with_reducible exact H2_)|with_reducible exact H|(rw[De];exact H)|exact H
     have KW:=Za.mk De;clear De;obtain⟨c20,H⟩:=ifP H;have Ca:=Za.mk c20;clear c20;obtain⟨VT,Df⟩:∃y_:List Int,y_=(xB++ [rd af dV]):=⟨_,rfl⟩;replace H:(Zaj.l1 k2 l0 af ah VT true (wrap64 (dV+1)))=some r:=by first|(rw[Df];with_reducible exact H)|(have H2_:=(Option.bind_some _ _).symm.trans H;rw[Df];with_reducible exact H2_)|(have H2_:=(Option.bind_some _ _).symm.trans H;with_reducible exact H2_)|with_reducible exact H|(rw[Df];exact H)|exact H
     have KX:=Za.mk Df;clear Df;have H':=Za.mk H;clear H;have zL:0≤(ah:Int):=odt;have Af:ah<(l0.length:Int):=odt;obtain⟨Ld,e223,vO⟩:=Kd.Zb1 HR0.out ah zL Af;obtain rfl:yU=Ld:=(by injection e223);replace vO:=hB HB.out vO;replace zL:=eq_true zL;replace Af:=eq_true Af;have zM:0≤(dV:Int):=odt;have Ag:dV<(af.length:Int):=odt;obtain⟨mh,rfl,TT⟩:=Kd.Zb1 (Kd.Zan aN.out).2.2 dV zM Ag;replace zM:=eq_true zM;replace Ag:=eq_true Ag;have OI:0≤(ah:Int):=odt;have OY:ah<(l0.length:Int):=odt;obtain⟨X9,cBa,JK⟩:=Kd.Zb1 HR0.out ah OI OY;obtain rfl:yU=X9:=(by injection cBa);replace JK:=hB HB.out JK;replace OI:=eq_true OI;replace OY:=eq_true OY
     go_wp2_with (first|((with_reducible refine Zbo (b:= .append) (xs:=#[.tmp 41,.tmp 46]) rfl ?_);at_builtin;refine Kd.Zc4 (Kd.int .i64) (w0:=w) w.heap.size rfl (.tmp 41) (.tmp 46) 24 3 (.int .i64 0) 8 rfl Tryz.underlying24 info3 rfl (by decide) (by omega) u5 dG (rd l0 ah) [.int .i64 (rd l0 ah)] (fun k_=>some k_≠(.slice (some mh) af.length co9:Value).ownBlock) (fun _=>False) rfl rfl ?aP (fun _ hk=>hk.elim) ?aF ?aO ?aB ?aS ?aL ?_;(case aP=>exact rfl);(case aB=>exact(bM HB.out));(case aF=>exact(fun k_ hk=>Kd.fresh' (Kd.R_lt (rM aN.out)) k_ hk));(case aO=>exact(rM bz.out));(case aS=>exact(Zaf (bM HB.out)));(case aL=>have:=KR.out;omega);intro v227 w21 ho hb hg hat;rw[←KW.out]at ho;replace aN:=Za.mk (Kd.Zdu (ok:=(fun _=>True)) (rM (Kd.Za6 aN.out (fun _ hk=>⟨trivial,hk⟩))) hg hat);replace HB:=Za.mk (hb);have tX:=Za.mk (ho);clear bz;clear ho hb hg hat;have sP:0≤(dV:Int):=odt;have tu:dV<(af.length:Int):=odt;obtain⟨Cb,e229,JL⟩:=Kd.Zb1 (Kd.Zan aN.out).2.2 dV sP tu;obtain rfl:mh=Cb:=(by injection e229);replace sP:=eq_true sP;replace tu:=eq_true tu)|((with_reducible refine Zbo (b:= .append) (xs:=#[.tmp 48,.tmp 53]) rfl ?_);at_builtin;refine Kd.Zc4 (Kd.int .i64) (w0:=w) w.heap.size rfl (.tmp 48) (.tmp 53) 24 3 (.int .i64 0) 8 rfl Tryz.underlying24 info3 rfl (by decide) (by omega) v227 xB (rd af dV) [.int .i64 (rd af dV)] (fun k_=>some k_≠(.slice (some mh) af.length co9:Value).ownBlock) (fun _=>False) rfl rfl ?aP (fun _ hk=>hk.elim) ?aF ?aO ?aB ?aS ?aL ?_;(case aP=>exact rfl);(case aB=>exact(bM HB.out));(case aF=>exact(fun k_ hk=>Kd.fresh' (Kd.R_lt (rM aN.out)) k_ hk));(case aO=>exact(rM tX.out));(case aS=>exact(Zaf (bM HB.out)));(case aL=>have:=Ca.out;omega);intro VG w22 ho hb hg hat;rw[←KX.out]at ho;replace aN:=Za.mk (Kd.Zdu (ok:=(fun _=>True)) (rM aN.out) hg hat);replace HB:=Za.mk (hb);have K4:=Za.mk (ho);clear tX;clear ho hb hg hat))
     repeat(go_quiet (first|((with_reducible refine Zbo (b:= .append) (xs:=#[.tmp 41,.tmp 46]) rfl ?_);at_builtin;refine Kd.Zc4 (Kd.int .i64) (w0:=w) w.heap.size rfl (.tmp 41) (.tmp 46) 24 3 (.int .i64 0) 8 rfl Tryz.underlying24 info3 rfl (by decide) (by omega) u5 dG (rd l0 ah) [.int .i64 (rd l0 ah)] (fun k_=>some k_≠(.slice (some mh) af.length co9:Value).ownBlock) (fun _=>False) rfl rfl ?aP (fun _ hk=>hk.elim) ?aF ?aO ?aB ?aS ?aL ?_;(case aP=>exact rfl);(case aB=>exact(bM HB.out));(case aF=>exact(fun k_ hk=>Kd.fresh' (Kd.R_lt (rM aN.out)) k_ hk));(case aO=>exact(rM bz.out));(case aS=>exact(Zaf (bM HB.out)));(case aL=>have:=KR.out;omega);intro v227 w21 ho hb hg hat;rw[←KW.out]at ho;replace aN:=Za.mk (Kd.Zdu (ok:=(fun _=>True)) (rM (Kd.Za6 aN.out (fun _ hk=>⟨trivial,hk⟩))) hg hat);replace HB:=Za.mk (hb);have tX:=Za.mk (ho);clear bz;clear ho hb hg hat;have sP:0≤(dV:Int):=odt;have tu:dV<(af.length:Int):=odt;obtain⟨Cb,e229,JL⟩:=Kd.Zb1 (Kd.Zan aN.out).2.2 dV sP tu;obtain rfl:mh=Cb:=(by injection e229);replace sP:=eq_true sP;replace tu:=eq_true tu)|((with_reducible refine Zbo (b:= .append) (xs:=#[.tmp 48,.tmp 53]) rfl ?_);at_builtin;refine Kd.Zc4 (Kd.int .i64) (w0:=w) w.heap.size rfl (.tmp 48) (.tmp 53) 24 3 (.int .i64 0) 8 rfl Tryz.underlying24 info3 rfl (by decide) (by omega) v227 xB (rd af dV) [.int .i64 (rd af dV)] (fun k_=>some k_≠(.slice (some mh) af.length co9:Value).ownBlock) (fun _=>False) rfl rfl ?aP (fun _ hk=>hk.elim) ?aF ?aO ?aB ?aS ?aL ?_;(case aP=>exact rfl);(case aB=>exact(bM HB.out));(case aF=>exact(fun k_ hk=>Kd.fresh' (Kd.R_lt (rM aN.out)) k_ hk));(case aO=>exact(rM tX.out));(case aS=>exact(Zaf (bM HB.out)));(case aL=>have:=Ca.out;omega);intro VG w22 ho hb hg hat;rw[←KX.out]at ho;replace aN:=Za.mk (Kd.Zdu (ok:=(fun _=>True)) (rM aN.out) hg hat);replace HB:=Za.mk (hb);have K4:=Za.mk (ho);clear tX;clear ho hb hg hat));try go_wp2_with (first|((with_reducible refine Zbo (b:= .append) (xs:=#[.tmp 41,.tmp 46]) rfl ?_);at_builtin;refine Kd.Zc4 (Kd.int .i64) (w0:=w) w.heap.size rfl (.tmp 41) (.tmp 46) 24 3 (.int .i64 0) 8 rfl Tryz.underlying24 info3 rfl (by decide) (by omega) u5 dG (rd l0 ah) [.int .i64 (rd l0 ah)] (fun k_=>some k_≠(.slice (some mh) af.length co9:Value).ownBlock) (fun _=>False) rfl rfl ?aP (fun _ hk=>hk.elim) ?aF ?aO ?aB ?aS ?aL ?_;(case aP=>exact rfl);(case aB=>exact(bM HB.out));(case aF=>exact(fun k_ hk=>Kd.fresh' (Kd.R_lt (rM aN.out)) k_ hk));(case aO=>exact(rM bz.out));(case aS=>exact(Zaf (bM HB.out)));(case aL=>have:=KR.out;omega);intro v227 w21 ho hb hg hat;rw[←KW.out]at ho;replace aN:=Za.mk (Kd.Zdu (ok:=(fun _=>True)) (rM (Kd.Za6 aN.out (fun _ hk=>⟨trivial,hk⟩))) hg hat);replace HB:=Za.mk (hb);have tX:=Za.mk (ho);clear bz;clear ho hb hg hat;have sP:0≤(dV:Int):=odt;have tu:dV<(af.length:Int):=odt;obtain⟨Cb,e229,JL⟩:=Kd.Zb1 (Kd.Zan aN.out).2.2 dV sP tu;obtain rfl:mh=Cb:=(by injection e229);replace sP:=eq_true sP;replace tu:=eq_true tu)|((with_reducible refine Zbo (b:= .append) (xs:=#[.tmp 48,.tmp 53]) rfl ?_);at_builtin;refine Kd.Zc4 (Kd.int .i64) (w0:=w) w.heap.size rfl (.tmp 48) (.tmp 53) 24 3 (.int .i64 0) 8 rfl Tryz.underlying24 info3 rfl (by decide) (by omega) v227 xB (rd af dV) [.int .i64 (rd af dV)] (fun k_=>some k_≠(.slice (some mh) af.length co9:Value).ownBlock) (fun _=>False) rfl rfl ?aP (fun _ hk=>hk.elim) ?aF ?aO ?aB ?aS ?aL ?_;(case aP=>exact rfl);(case aB=>exact(bM HB.out));(case aF=>exact(fun k_ hk=>Kd.fresh' (Kd.R_lt (rM aN.out)) k_ hk));(case aO=>exact(rM tX.out));(case aS=>exact(Zaf (bM HB.out)));(case aL=>have:=Ca.out;omega);intro VG w22 ho hb hg hat;rw[←KX.out]at ho;replace aN:=Za.mk (Kd.Zdu (ok:=(fun _=>True)) (rM aN.out) hg hat);replace HB:=Za.mk (hb);have K4:=Za.mk (ho);clear tX;clear ho hb hg hat)))
     go_roundg k2
     case measure=>have:=HK1.out;have:=HK2.out;omega
     case rel=>exact⟨(VT),(true),(wrap64 (dV+1)),eS,eS,H',⟨by have:=HK1.out;have:=HK2.out;omega⟩,⟨rM (Kd.Za6 aN.out (fun _ hk=>hk.2))⟩,⟨rM K4.out⟩,⟨bM HB.out⟩⟩
end Go.Proofs.YtdpieallpbllkaaGreat.P
/- The document's Sorted: numbers in order, each once. -/
namespace Go.Proofs.YtdpieallpbllkaaGreat.P
open Go.RowKit Go.Proofs.YtdpieallpbllkaaGreatW.PrintWords Go.Proofs.YtdpieallpbllkaaGreatW.PrintLast Go.Proofs.YtdpieallpbllkaaGreatW.PrintMore
def ins2 (x : Int) : Bool → List Int → List Int
  | p, [] => if p then [] else [x]
  |p,y::l=>if p=false∧x<y then x::y::ins2 x true l else y::ins2 x p l
theorem Zg7 (x : Int) : ∀ l, ins2 x true l = l
  | [] => by simp [ins2]
  |y::l=>by simp[ins2,Zg7 x l]
theorem Zh8 (x : Int) : ∀ l, x ∉ l → ins2 x false l = insU x l
  | [], _ => by simp [ins2, insU]
  |y::l,h=>by
    have h1:x≠y:=fun e=>h (by simp[e])
    have h2:x ∉ l:=fun e=>h (List.mem_cons_of_mem _ e)
    unfold ins2 insU;by_cases hlt:x<y
    · simp[hlt,Zg7]
    simp[hlt,h1,Zh8 x l h2]
theorem insU_mem (x : Int) : ∀ l, SS l → x ∈ l → insU x l = l
  |y::l,h,hx=>by
    obtain⟨hy,hl⟩:=List.pairwise_cons.1 h;unfold insU
    rcases List.mem_cons.1 hx with rfl|hx
    · simp
    have:=hy x hx;rw[if_neg (by omega),if_neg (by omega),insU_mem x l hl hx]
theorem ref_Sorted_l1 (x0 out : List Int) (i : Nat) (hi : i < x0.length) (ho : out.length < 17592186044000) {b : List Int} : ∀ (m n : Nat) (next : List Int) (p : Bool), n + m = out.length → next.length ≤ n + p.toNat →
    Ev (fun k=>Zaj.l0 k x0 (next++ins2 x0[i] p (out.drop n)) (wrap64 ((i:Int)+1))) b→Ev (fun k=>Zaj.l1 k x0 out (i:Int) next p (n:Int)) b:=by
  intro m
  induction m with
  |zero=>
    intro n next p h hn hE;rw[drop_nil' h]at hE
    cases p with
    |true=>
      simp only[ins2,if_true,List.append_nil]at hE;exact Ev.step (fun k=>by rw[Zaj.l1,if_neg (by omega),if_pos rfl]) hE
    |false=>
      simp only[Bool.toNat_false,Nat.add_zero]at hn;simp only[ins2,Bool.false_eq_true,if_false]at hE;exact Ev.step (fun k=>by rw[Zaj.l1,if_neg (by omega),if_neg (by simp),if_pos (by omega),if_pos (by omega),if_pos (by omega),Zc2 x0 i hi]) hE
  |succ m ih=>
    intro n next p h hn hE;have hlt:n<out.length:=by omega
    rw[List.drop_eq_getElem_cons hlt]at hE
    cases p with
    |true=>
      simp only[Bool.toNat_true]at hn;have e:ins2 x0[i] true (out[n]::out.drop (n+1))=out[n]::ins2 x0[i] true (out.drop (n+1)):=by simp[ins2]
      rw[e]at hE
      exact Ev.step (fun k => by rw [Zaj.l1, if_pos (by omega), if_pos rfl, if_pos (by omega), if_pos (by omega), Zc2 out n hlt, w1 (by omega)])
        (ih (n+1) (next++ [out[n]]) true (by omega) (by simp;omega) (by simpa using hE))
    |false=>
      simp only[Bool.toNat_false,Nat.add_zero]at hn;by_cases hx:x0[i]<out[n];rotate_left
      · have e : ins2 x0[i] false (out[n] :: out.drop (n + 1)) = out[n] :: ins2 x0[i] false (out.drop (n + 1)) := by simp [ins2, hx]
        rw[e]at hE
        exact Ev.step (fun k => by rw [Zaj.l1, if_pos (by omega), if_neg (by simp), if_pos (by omega), if_pos (by omega), if_pos (by omega), Zc2 x0 i hi, Zc2 out n hlt, if_neg hx, if_pos (by omega), w1 (by omega)])
          (ih (n+1) (next++ [out[n]]) false (by omega) (by simp;omega) (by simpa using hE))
      have e:ins2 x0[i] false (out[n]::out.drop (n+1))=x0[i]::out[n]::ins2 x0[i] true (out.drop (n+1)):=by simp[ins2,hx]
      rw[e]at hE
      exact Ev.step (fun k => by rw [Zaj.l1, if_pos (by omega), if_neg (by simp), if_pos (by omega), if_pos (by omega), if_pos (by omega), Zc2 x0 i hi, Zc2 out n hlt, if_pos hx, if_pos (by omega), Option.bind_some, if_pos (by simp; omega), w1 (by omega)])
        (ih (n+1) ((next++ [x0[i]])++ [out[n]]) true (by omega) (by simp;omega) (by simpa using hE))
theorem foldl_ins : ∀ (l acc : List Int), SS acc → SS (l.foldl (fun a x => insU x a) acc) ∧ ∀ z, z ∈ l.foldl (fun a x => insU x a) acc ↔ z ∈ acc ∨ z ∈ l
  | [], acc, h => ⟨h, fun z => by simp⟩
  |x::l,acc,h=>by
    obtain⟨h1,h2⟩:=foldl_ins l (insU x acc) (insU_ss x acc h);refine⟨h1,fun z=> ?_⟩;rw[List.foldl_cons,h2 z,Zgv,List.mem_cons]
    constructor
    · rintro ((h | h) | h)
      · exact .inr (.inl h)
      · exact .inl h
      exact .inr (.inr h)
    rintro(h|h|h)
    · exact .inl (.inr h)
    · exact .inl (.inl h)
    exact .inr h
theorem foldl_sd (l:List Int):l.foldl (fun a x=>insU x a) []=sd l:=by
  obtain⟨h1,h2⟩:=foldl_ins l [] List.Pairwise.nil;exact(sd_eq h1 (fun z=>by rw[h2 z];simp)).symm
theorem ref_Sorted_l0 (l : List Int) (hl : l.length < 17592186044000) : ∀ (m n : Nat) (acc : List Int), n + m = l.length → acc.length ≤ n → SS acc →
    Ev (fun k=>Zaj.l0 k l acc (n:Int)) ((l.drop n).foldl (fun a x=>insU x a) acc):=by
  intro m
  induction m with
  |zero=>
    intro n acc h _ _;rw[drop_nil' h];exact Ev.step (G:=fun _=>some acc) (fun k=>by rw[Zaj.l0,if_neg (by omega)]) (Ev.const rfl)
  |succ m ih=>
    intro n acc h ha hs;have hn:n<l.length:=by omega
    have e:(l.drop n).foldl (fun a x=>insU x a) acc=(l.drop (n+1)).foldl (fun a x=>insU x a) (insU l[n] acc):=by rw[List.drop_eq_getElem_cons hn,List.foldl_cons]
    rw[e];have hi:=Zfq l[n] acc
    have e2:ins2 l[n] (decide (l[n] ∈ acc)) acc=insU l[n] acc:=by
      by_cases hx:l[n] ∈ acc;rotate_left
      · rw[decide_eq_false hx,Zh8 _ _ hx]
      rw[decide_eq_true hx,Zg7,insU_mem _ _ hs hx]
    refine Ev.step (fun k=>by rw[Zaj.l0,if_pos (by omega),if_pos (by omega),Zc2 l n hn]) (Ev.bind (ref_Has acc l[n] (by omega)) ?_);refine ref_Sorted_l1 l acc n hn (by omega) acc.length 0 [] (decide (l[n] ∈ acc)) (by omega) (by simp) ?_;rw[List.nil_append,List.drop_zero,e2,w1 (by omega)];exact ih (n+1) _ (by omega) (by omega) (insU_ss _ _ hs)
theorem Zgj (l:List Int) (hl:l.length<17592186044000):Ev (fun k=>Zaj.f k l) (sd l):=by
  rw[←foldl_sd];exact ref_Sorted_l0 l hl l.length 0 [] (by omega) (by simp) List.Pairwise.nil
end Go.Proofs.YtdpieallpbllkaaGreat.P
namespace Go.Proofs.YtdpieallpbllkaaGreat.P
open Go.RowKit Go.Proofs.YtdpieallpbllkaaGreatW.PrintWords Go.Proofs.YtdpieallpbllkaaGreatW.PrintLast Go.Proofs.YtdpieallpbllkaaGreatW.PrintMore
attribute [local go_sem] Zcw Zcy Zdg Zdh Zco Zcp Zcx Zcz
def Zcj.l0 : Nat → List Int → List Int → List Int → Int → Option (List Int)
 | 0, _, _, _, _ => none
 |k+1,x0,x1,x5,x6=>if x6<(x0.length:Int)then(if 0≤x6 then((Zds.f x1 (rd x0 x6)).bind fun dKa=>(if x5.length<17592186044416 then(Zcj.l0 k x0 x1 (x5++ [dKa]) (wrap64 (x6+1)))else(none)))else(none))else(some x5)
def Zcj.f (k:Nat) (l0:List Int) (l1:List Int):Option (List Int):=Zcj.l0 k l0 l1 (([]:List Int)) 0
def Zek.f (a0:Int) (a1:Int) (a2:Int):Option (Bool):=if a0=0 then(some (decide (a1≤a2)))else(some ((a1==a2)==(a0==1)))
mutual
def Zby.l0 : Nat → List Int → List Int → Int → Option (Int)
 | 0, _, _, _ => none
 |k+1,x0,x1,x5=>if x5<(x0.length:Int)then(Zby.j1 k x0 x1 x5 (decide (x5<(x1.length:Int))))else(Zby.j1 k x0 x1 x5 false)
def Zby.j1 : Nat → List Int → List Int → Int → Bool → Option (Int)
 | 0, _, _, _, _ => none
 |k+1,x0,x1,x5,x15=>if x15=true then(if 0≤x5 then(if x5<(x0.length:Int)then(if x5<(x1.length:Int)then(if(rd x0 x5)<(rd x1 x5)then(some (-1))else(if(rd x0 x5)>(rd x1 x5)then(some 1)else(Zby.l0 k x0 x1 (wrap64 (x5+1)))))else(none))else(none))else(none))else(if(x0.length:Int)<(x1.length:Int)then(some (-1))else(if(x0.length:Int)>(x1.length:Int)then(some 1)else(some 0)))
end
def Zby.f (k:Nat) (l0:List Int) (l1:List Int):Option (Int):=Zby.l0 k l0 l1 0
mutual
def Zbw.l0 : Nat → List Int → Int → Int → List Int → List Int → Int → Int → List (List Int) → Int → Option (Bool)
 | 0, _, _, _, _, _, _, _, _, _ => none
 |k+1,x5,x7,si,su,lN,sw,sD,pE,sF=>if x7<(pE.length:Int)then(if 0≤x7 then((Zas.f k (Zb3 pE x7) x5).bind fun dOa=>(if dOa=true then(some true)else(Zbw.l0 k x5 (wrap64 (x7+1)) si su lN sw sD pE sF)))else(none))else(some false)
def Zbw.l1 : Nat → List Int → Int → Int → List Int → List Int → Int → Int → List (List Int) → Int → Option (Bool)
 | 0, _, _, _, _, _, _, _, _, _ => none
 |k+1,x5,x8,si,su,lN,sw,sD,pE,sF=>if x8<(x5.length:Int)then(if 0≤x8 then(if x8<(lN.length:Int)then(if(rd lN x8)=1 then(if(rd x5 x8)=1 then(some true)else(if(rd lN x8)=(-1)then(if(rd x5 x8)=0 then(some true)else(Zbw.l1 k x5 (wrap64 (x8+1)) si su lN sw sD pE sF))else(Zbw.l1 k x5 (wrap64 (x8+1)) si su lN sw sD pE sF)))else(if(rd lN x8)=(-1)then(if(rd x5 x8)=0 then(some true)else(Zbw.l1 k x5 (wrap64 (x8+1)) si su lN sw sD pE sF))else(Zbw.l1 k x5 (wrap64 (x8+1)) si su lN sw sD pE sF)))else(none))else(none))else(some false)
end
def Zbw.f (k:Nat) (aU:Int) (aa:List Int) (au:List Int) (aX:Int) (bn:Int) (aI:List (List Int)) (bv:Int) (l1:List Int):Option (Bool):=(Zcj.f k aa l1).bind fun ko=>((Zcg.f k aa au l1).bind fun dMa=>((Zek.f aX dMa bn).bind fun VD=>(if aU=0 then(some VD)else(if aU=1 then((Zaj.f k ko).bind fun dNa=>(some ((dNa.length:Int)==(ko.length:Int))))else(if aU=2 then(Zbw.l0 k ko 0 aU aa au aX bn aI bv)else(if aU=3 then(if(ko.length:Int)≥2 then(if 0<(ko.length:Int)then(if(rd ko 0)≥0 then(if(wrap64 ((rd ko 0)+2))<(ko.length:Int)then(if 0≤(wrap64 ((rd ko 0)+2))then(if 1<(ko.length:Int)then(some ((rd ko (wrap64 ((rd ko 0)+2)))==(rd ko 1)))else(none))else(none))else(some false))else(some false))else(none))else(some false))else(if aU=4 then(if VD=true then((Zds.f l1 bv).bind fun dPa=>(if dPa=1 then(some true)else(some false)))else((Zds.f l1 bv).bind fun dQa=>(some (dQa==0))))else(if aU=5 then(Zbw.l1 k ko 0 aU aa au aX bn aI bv)else(if 0≤(wrap64 ((ko.length:Int) / 2))then(if(wrap64 ((ko.length:Int) / 2))≤(ko.length:Int)then((Zby.f k (ko.take ((wrap64 ((ko.length:Int) / 2)):Int).toNat) (ko.drop ((wrap64 ((ko.length:Int) / 2)):Int).toNat)).bind fun dRa=>(some (decide (dRa≤0))))else(none))else(none))))))))))
end Go.Proofs.YtdpieallpbllkaaGreat.P
/- Does a constraint hold: meaning.Holds and secateurref06.Holds in plain words. -/
namespace Go.Proofs.YtdpieallpbllkaaGreat.P
open Go.RowKit Go.Proofs.YtdpieallpbllkaaGreatW.PrintWords Go.Proofs.YtdpieallpbllkaaGreatW.PrintLast Go.Proofs.YtdpieallpbllkaaGreatW.PrintMore
theorem ev_all {α β : Type} {F : α → Nat → Option β} {g : α → β} : ∀ {l : List α}, (∀ x ∈ l, Ev (F x) (g x)) → ∃ k0, ∀ k, k0 ≤ k → ∀ x ∈ l, F x k = some (g x)
  | [], _ => ⟨0, fun _ _ x hx => absurd hx List.not_mem_nil⟩
  |y::l,h=>by
    obtain⟨k1,h1⟩:=h y List.mem_cons_self;obtain⟨k2,h2⟩:=ev_all (fun x hx=>h x (List.mem_cons_of_mem _ hx));refine⟨max k1 k2,fun k hk x hx=> ?_⟩
    rcases List.mem_cons.1 hx with e|hx
    · rw[e];exact h1 k (by omega)
    exact h2 k (by omega) x hx
def ordV : List Int → List Int → Int
  | [], [] => 0
  | [], _ :: _ => -1
  | _ :: _, [] => 1
  |x::a,y::b=>if x<y then -1 else if x>y then 1 else ordV a b
theorem cmpI_f (x y:Int):cmp_Compare_int.f x y=some (if x<y then -1 else if x>y then 1 else 0):=by
  unfold cmp_Compare_int.f
  have e:∀z:Int,cmp_isNaN_int.f z=some false:=fun z=>by
    unfold cmp_isNaN_int.f
    simp
  rw[e,e];simp only[Option.bind_some,Bool.false_eq_true,if_false]
  split
  · rfl
  split<;>rfl
theorem cmp_loop (a b : List Int) (ha : a.length ≤ 1000000) : ∀ (d n : Nat), n + d = a.length → n ≤ b.length → Ev (fun k => Za1.l0 k a b a (a.length : Int) (n : Int)) (ordV (a.drop n) (b.drop n))
  |0,n,h,hb=>by
    rw[List.drop_eq_nil_of_le (show a.length≤n by omega)];by_cases q:a.length<b.length;rotate_left
    · refine Ev.step (G := fun _ => some 0) (fun k => by rw [Za1.l0, if_neg (by omega), if_neg (by omega)]) (Ev.const ?_)
      rw[List.drop_eq_nil_of_le (by omega)]
      rfl
    refine Ev.step (G:=fun _=>some (-1)) (fun k=>by rw[Za1.l0,if_neg (by omega),if_pos (by omega)]) (Ev.const ?_);rw[List.drop_eq_getElem_cons (by omega)]
    rfl
  |d+1,n,h,hb=>by
    have hn:n<a.length:=by omega
    rw[List.drop_eq_getElem_cons hn];by_cases q:b.length≤n
    · rw [List.drop_eq_nil_of_le q]
      exact Ev.step (G:=fun _=>some 1) (fun k=>by rw[Za1.l0,if_pos (by omega),if_pos (by omega),if_pos (by omega),if_pos (by omega)]) (Ev.const rfl)
    have hnb:n<b.length:=by omega
    rw[List.drop_eq_getElem_cons hnb,ordV];refine Ev.step (fun k=>by rw[Za1.l0,if_pos (by omega),if_pos (by omega),if_pos (by omega),if_neg (by omega),if_pos (by omega),Zc2 _ _ hn,Zc2 _ _ hnb,cmpI_f,w1 (by omega)]) (Ev.bind (Ev.const rfl) ?_);by_cases q1:a[n]<b[n]
    · rw [if_pos q1, if_pos q1]
      exact Ev.Zat (by decide) (Ev.const rfl)
    rw[if_neg q1,if_neg q1];by_cases q2:a[n]>b[n]
    · rw [if_pos q2, if_pos q2]
      exact Ev.Zat (by decide) (Ev.const rfl)
    rw[if_neg q2,if_neg q2];exact Ev.Zak rfl (cmp_loop a b ha d (n+1) (by omega) (by omega))
theorem cmp_ev (a b:List Int) (ha:a.length≤1000000):Ev (fun k=>Za1.f k a b) (ordV a b):=cmp_loop a b ha a.length 0 (by omega) (Nat.zero_le _)
theorem Zib (a b : List Int) (ha : a.length ≤ 1000000) : ∀ (d n : Nat), n + d = a.length → n ≤ b.length → Ev (fun k => Zby.l0 k a b (n : Int)) (ordV (a.drop n) (b.drop n))
  |0,n,h,hb=>by
    rw[List.drop_eq_nil_of_le (show a.length≤n by omega)];refine Ev.step (fun k=>by rw[Zby.l0,if_neg (by omega)]) ?_;by_cases q:a.length<b.length
    · refine Ev.step (G := fun _ => some (-1)) (fun k => by rw [Zby.j1, if_neg (by simp), if_pos (by omega)]) (Ev.const ?_)
      rw[List.drop_eq_getElem_cons (by omega)]
      rfl
    refine Ev.step (G:=fun _=>some 0) (fun k=>by rw[Zby.j1,if_neg (by simp),if_neg (by omega),if_neg (by omega)]) (Ev.const ?_);rw[List.drop_eq_nil_of_le (by omega)]
    rfl
  |d+1,n,h,hb=>by
    have hn:n<a.length:=by omega
    rw[List.drop_eq_getElem_cons hn];by_cases q:b.length≤n
    · rw [List.drop_eq_nil_of_le q]
      refine Ev.step (fun k=>by rw[Zby.l0,if_pos (by omega),decide_eq_false (by omega)]) ?_;exact Ev.step (G:=fun _=>some 1) (fun k=>by rw[Zby.j1,if_neg (by simp),if_neg (by omega),if_pos (by omega)]) (Ev.const rfl)
    have hnb:n<b.length:=by omega
    rw[List.drop_eq_getElem_cons hnb,ordV];refine Ev.step (fun k=>by rw[Zby.l0,if_pos (by omega),decide_eq_true (by omega)]) ?_;refine Ev.step (fun k=>by rw[Zby.j1,if_pos rfl,if_pos (by omega),if_pos (by omega),if_pos (by omega),Zc2 _ _ hn,Zc2 _ _ hnb,w1 (by omega)]) ?_;by_cases q1:a[n]<b[n]
    · rw [if_pos q1]
      exact Ev.Zak q1 (Ev.const rfl)
    rw[if_neg q1];refine Ev.Zat q1 ?_;by_cases q2:a[n]>b[n]
    · rw [if_pos q2]
      exact Ev.Zak q2 (Ev.const rfl)
    rw[if_neg q2];exact Ev.Zat q2 (Zib a b ha d (n+1) (by omega) (by omega))
theorem order_ev (a b:List Int) (ha:a.length≤1000000):Ev (fun k=>Zby.f k a b) (ordV a b):=Zib a b ha a.length 0 (by omega) (Nat.zero_le _)
theorem Zh4 (a b : List Int) (ha : a.length ≤ 1000000) (he : a.length = b.length) : ∀ (d n : Nat), n + d = a.length → Ev (fun k => slices_Equal_int.l0 k a b (a.length : Int) (n : Int)) (decide (a.drop n = b.drop n))
  |0,n,h=>by
    rw[List.drop_eq_nil_of_le (show a.length≤n by omega),List.drop_eq_nil_of_le (show b.length≤n by omega)];exact Ev.step (G:=fun _=>some true) (fun k=>by rw[slices_Equal_int.l0,if_neg (by omega)]) (Ev.const (by simp))
  |d+1,n,h=>by
    have hn:n<a.length:=by omega
    have hnb:n<b.length:=by omega
    rw[List.drop_eq_getElem_cons hn,List.drop_eq_getElem_cons hnb];refine Ev.step (fun k=>by rw[slices_Equal_int.l0,if_pos (by omega),if_pos (by omega),if_pos (by omega),if_pos (by omega),Zc2 _ _ hn,Zc2 _ _ hnb,w1 (by omega)]) ?_;by_cases q:a[n]=b[n];rotate_left
    · have e : decide (a[n] :: a.drop (n + 1) = b[n] :: b.drop (n + 1)) = false := by simp only [List.cons.injEq, q, false_and, decide_false]
      rw[e];exact Ev.Zat q (Ev.const rfl)
    have e:decide (a[n]::a.drop (n+1)=b[n]::b.drop (n+1))=decide (a.drop (n+1)=b.drop (n+1)):=by simp only[List.cons.injEq,q,true_and]
    rw[e];exact Ev.Zak q (Zh4 a b ha he d (n+1) (by omega))
theorem equal_ev (a b:List Int) (ha:a.length≤1000000):Ev (fun k=>slices_Equal_int.f k a b) (decide (a=b)):=by
  unfold slices_Equal_int.f;by_cases h:a.length=b.length
  · exact Ev.Zak (by omega) (Zh4 a b ha h a.length 0 (by omega))
  refine Ev.Zat (by omega) (Ev.const ?_);rw[decide_eq_false (fun e=>h (by rw[e]))]
def cmpB (op n rhs:Int):Bool:=if op=0 then decide (n≤rhs)else if op=1 then decide (n=rhs)else decide (n≠rhs)
def holdB (kd:Int) (vars coefs:List Int) (op rhs:Int) (rows:List (List Int)) (b:Int) (a:List Int):Bool:=
  if kd=0 then cmpB op (dotV coefs (vars.map (atV a))) rhs
  else if kd=1 then decide ((sd (vars.map (atV a))).length=vars.length)
  else if kd=2 then rows.any fun x=>decide (x=vars.map (atV a))
  else if kd=3 then elemB (vars.map (atV a))
  else if kd=4 then decide (atV a b=if cmpB op (dotV coefs (vars.map (atV a))) rhs=true then 1 else 0)
  else if kd=5 then clG coefs (vars.map (atV a)) (vars.map (atV a)).length 0
  else decide (ordV ((vars.map (atV a)).take ((vars.map (atV a)).length / 2)) ((vars.map (atV a)).drop ((vars.map (atV a)).length / 2))≤0)
theorem atV_small {a:List Int} (h:smallV a) (v:Int): -1048576≤atV a v∧atV a v≤1048576:=by
  unfold atV
  split
  · omega
  split
  · omega
  rename_i h1 h2
  have hv:v.toNat<a.length:=by omega
  have e:rd a v=a[v.toNat]:=by simp[rd,List.getD_eq_getElem?_getD,List.getElem?_eq_getElem hv]
  rw[e];exact h _ (List.getElem_mem hv)
theorem Zha {a:List Int} (h:smallV a) (vars:List Int):smallV (vars.map (atV a)):=fun x hx=>by
  obtain⟨v,_,rfl⟩:=List.mem_map.1 hx;exact atV_small h v
theorem Zh3 {d:List (List Rg)} {kd:Int} {vars coefs:List Int} {op rhs:Int} {rows:List (List Int)} {b:Int} (h:conE d kd vars coefs op rhs rows b=0):0≤kd∧kd<7∧rightB d kd vars coefs op rhs rows b=true∧tot coefs≤4611686018427387904:=by
  unfold conE at h
  split at h
  · exact absurd h (by decide)
  rename_i q0
  split at h
  · exact absurd h (by decide)
  split at h
  · exact absurd h (by decide)
  split at h
  · exact absurd h (by decide)
  rename_i q3
  split at h
  · rename_i q4
    exact⟨by omega,by omega,by simpa using q3,by omega⟩
  exact absurd h (by decide)
theorem sumB_len {vars coefs:List Int} (h:sumB vars coefs=true):vars.length=coefs.length:=by
  unfold sumB at h;simp only[Bool.and_eq_true,decide_eq_true_eq]at h;exact h.2.1
theorem Zhj {d : List (List Rg)} {kd : Int} {vars coefs : List Int} {op rhs : Int} {rows : List (List Int)} {b : Int} (h : rightB d kd vars coefs op rhs rows b = true) (h0 : 0 ≤ kd) (h7 : kd < 7) :
    ((kd=0∨kd=4)→vars.length=coefs.length∧0≤op∧op<3)∧(kd=5→vars.length=coefs.length)∧((kd=1∨kd=2∨kd=3∨kd=6)→coefs= [])∧(kd=3→3≤vars.length):=by
  unfold rightB at h
  split at h
  · cases h
  split at h
  · rename_i k
    subst k;simp only[heldB,Bool.and_eq_true,decide_eq_true_eq]at h;exact⟨fun _=>⟨sumB_len h.1.1,h.1.2.1,h.1.2.2⟩,fun e=>absurd e (by decide),fun e=>by omega,fun e=>by omega⟩
  split at h
  · rename_i k
    subst k;simp only[plainB,Bool.and_eq_true,decide_eq_true_eq]at h;exact⟨fun e=>by omega,fun e=>absurd e (by decide),fun _=>List.length_eq_zero_iff.1 h.1.1,fun e=>by omega⟩
  split at h
  · rename_i k
    subst k;simp only[plainB,Bool.and_eq_true,decide_eq_true_eq]at h;exact⟨fun e=>by omega,fun e=>absurd e (by decide),fun _=>List.length_eq_zero_iff.1 h.1.1,fun e=>by omega⟩
  split at h
  · rename_i k
    subst k;simp only[plainB,Bool.and_eq_true,decide_eq_true_eq]at h;exact⟨fun e=>by omega,fun e=>absurd e (by decide),fun _=>List.length_eq_zero_iff.1 h.1.1,fun _=>h.2.1⟩
  split at h
  · rename_i k
    subst k;simp only[heldB,Bool.and_eq_true,decide_eq_true_eq]at h;exact⟨fun _=>⟨sumB_len h.1.1,h.1.2.1,h.1.2.2⟩,fun e=>absurd e (by decide),fun e=>by omega,fun e=>by omega⟩
  split at h
  · rename_i k
    subst k;simp only[Bool.and_eq_true]at h;exact⟨fun e=>by omega,fun _=>sumB_len h.1,fun e=>by omega,fun e=>by omega⟩
  simp only[plainB,Bool.and_eq_true,decide_eq_true_eq]at h;exact⟨fun e=>by omega,fun e=>by omega,fun _=>List.length_eq_zero_iff.1 h.1.1,fun e=>by omega⟩
section
variable {d:List (List Rg)} {kd:Int} {vars coefs:List Int} {op rhs:Int} {rows:List (List Int)} {b:Int} {a:List Int}
theorem mheld_ev (h1:vars.length≤14) (he:vars.length=coefs.length) (ha:smallV a) (ht:tot coefs≤4611686018427387904):Ev (fun k=>Zb0.f k kd vars coefs op rhs rows b a) (cmpB op (dotV coefs (vars.map (atV a))) rhs):=by
  have hd:=dot_ev coefs (vars.map (atV a)) (by omega) (by rw[List.length_map];omega) (Zha ha vars) ht;unfold Zb0.f cmpB;refine Ev.bind (a:=vars.map (atV a)) (Ev.const (by unfold Zch.f;rw[if_pos (by omega)])) (Ev.bind hd ?_);by_cases q0:op=0
  · simp only[if_pos q0];exact Ev.const rfl
  simp only[if_neg q0];by_cases q1:op=1
  · simp only [if_pos q1]
    exact Ev.const (by first|rfl|(congr 1;rw[Bool.eq_iff_iff];simp))
  simp only[if_neg q1];exact Ev.const (by first|rfl|(congr 1;rw[Bool.eq_iff_iff];simp))
theorem holds_ev (hc:conE d kd vars coefs op rhs rows b=0) (h1:vars.length≤14) (h5:∀r ∈ rows,r.length≤14) (ha:smallV a):Ev (fun k=>Za8.f k kd vars coefs op rhs rows b a) (holdB kd vars coefs op rhs rows b a):=by
  obtain⟨k0,k7,hr,ht⟩:=Zh3 hc;obtain⟨c1,c2,c3,c4⟩:=Zhj hr k0 k7;unfold Za8.f holdB;refine Ev.bind (a:=vars.map (atV a)) (Ev.const (by unfold Zch.f;rw[if_pos (by omega)])) ?_;by_cases q0:kd=0
  · rw[if_pos q0];exact Ev.Zak q0 (mheld_ev h1 (c1 (.inl q0)).1 ha ht)
  rw[if_neg q0];refine Ev.Zat q0 ?_;by_cases q1:kd=1
  · rw[if_pos q1];exact Ev.Zak q1 (Ev.const rfl)
  rw[if_neg q1];refine Ev.Zat q1 ?_;by_cases q2:kd=2
  · rw [if_pos q2]; refine Ev.Zak q2 ?_
    obtain⟨k0,hk⟩:=ev_all (F:=fun x k=>slices_Equal_int.f k x (vars.map (atV a))) (g:=fun x=>decide (x=vars.map (atV a))) (l:=rows) (fun x hx=>equal_ev x _ (by have:=h5 x hx;omega));exact⟨k0,fun k hkk=>if_pos (List.all_eq_true.2 (fun x hx=>decide_eq_true (hk k hkk x hx)))⟩
  rw[if_neg q2];refine Ev.Zat q2 ?_;by_cases q3:kd=3
  · rw[if_pos q3];exact Ev.Zak q3 (Ev.const rfl)
  rw[if_neg q3];refine Ev.Zat q3 ?_;by_cases q4:kd=4
  · rw[if_pos q4];exact Ev.Zak q4 (Ev.bind (mheld_ev h1 (c1 (.inr q4)).1 ha ht) (Ev.const rfl))
  rw[if_neg q4];refine Ev.Zat q4 ?_;by_cases q5:kd=5
  · rw[if_pos q5];exact Ev.Zak q5 (Ev.const rfl)
  rw[if_neg q5];refine Ev.Zat q5 ?_;exact Ev.bind (cmp_ev _ _ (by rw[List.length_take,List.length_map];omega)) (Ev.const rfl)
theorem Zie (vars a : List Int) (hl : vars.length ≤ 1000000) : ∀ (d n : Nat) (acc : List Int), n + d = vars.length → acc.length ≤ n → Ev (fun k => Zcj.l0 k vars a acc (n : Int)) (acc ++ (vars.drop n).map (atV a))
  |0,n,acc,h,ha=>by
    rw[List.drop_eq_nil_of_le (by omega)];exact Ev.step (G:=fun _=>some acc) (fun k=>by rw[Zcj.l0,if_neg (by omega)]) (Ev.const (by simp))
  |d+1,n,acc,h,ha=>by
    have hn:n<vars.length:=by omega
    have ih:=Zie vars a hl d (n+1) (acc++ [atV a vars[n]]) (by omega) (by simp;omega);rw[List.append_assoc,List.singleton_append]at ih;rw[List.drop_eq_getElem_cons hn,List.map_cons];refine Ev.step (fun k=>by rw[Zcj.l0,if_pos (by omega),if_pos (by omega),Zc2 _ _ hn,refAt_f,w1 (by omega)]) (Ev.bind (a:=atV a vars[n]) (Ev.const rfl) ?_);have hlt:acc.length<17592186044416:=by omega
    exact Ev.Zak hlt ih
theorem rpick_ev (vars a:List Int) (hl:vars.length≤1000000):Ev (fun k=>Zcj.f k vars a) (vars.map (atV a)):=by
  unfold Zcj.f;have:=Zie vars a hl vars.length 0 [] (by omega) (by simp)
  simpa using this
theorem rows_loop (l : List Int) (hl : l.length ≤ 1000000) (kd : Int) (v1 v2 : List Int) (x3 x4 : Int) (hrl : rows.length ≤ 1000000) (hr : ∀ r ∈ rows, r.length ≤ 1000000) (x6 : Int) : ∀ (d n : Nat), n + d = rows.length → Ev (fun k => Zbw.l0 k l (n : Int) kd v1 v2 x3 x4 rows x6) ((rows.drop n).any fun x => decide (x = l))
  |0,n,h=>by
    rw[List.drop_eq_nil_of_le (by omega)];exact Ev.step (G:=fun _=>some false) (fun k=>by rw[Zbw.l0,if_neg (by omega)]) (Ev.const rfl)
  |d+1,n,h=>by
    have hn:n<rows.length:=by omega
    rw[List.drop_eq_getElem_cons hn,List.any_cons];have er:Zb3 rows (n:Int)=rows[n]:=by simp[Zb3,List.getD_eq_getElem?_getD,List.getElem?_eq_getElem hn]
    refine Ev.step (fun k=>by rw[Zbw.l0,if_pos (by omega),if_pos (by omega),er,w1 (by omega)]) (Ev.bind (ref_Nums rows[n] l (by have:=hr _ (List.getElem_mem hn);omega)) ?_);by_cases q:rows[n]=l
    · rw[decide_eq_true q,Bool.true_or];exact Ev.Zak rfl (Ev.const rfl)
    rw[decide_eq_false q,Bool.false_or];exact Ev.Zat (by simp) (rows_loop l hl kd v1 v2 x3 x4 hrl hr x6 d (n+1) (by omega))
theorem Zg2 (l : List Int) (hl : l.length ≤ 1000000) (kd : Int) (v1 : List Int) (he : l.length = coefs.length) (x3 x4 : Int) (x6 : Int) : ∀ (d n : Nat), n + d = l.length → Ev (fun k => Zbw.l1 k l (n : Int) kd v1 coefs x3 x4 rows x6) (clG coefs l d n)
  | 0, n, h => Ev.step (G := fun _ => some false) (fun k => by rw [Zbw.l1, if_neg (by omega)]) (Ev.const rfl)
  |d+1,n,h=>by
    have hn:n<l.length:=by omega
    have ih:=Zg2 l hl kd v1 he x3 x4 x6 d (n+1) (by omega);rw[clG];unfold clauseAt;rw[decide_eq_true (show n<coefs.length by omega),Bool.true_and];refine Ev.step (fun k=>by rw[Zbw.l1,if_pos (by omega),if_pos (by omega),if_pos (by omega),w1 (by omega)]) ?_;have wi:rd coefs (n:Int)=coefs[n]:=Zc2 _ _ (by omega);have wl:rd l (n:Int)=l[n]:=Zc2 _ _ hn;rw[wi,wl];by_cases q1:coefs[n]=1
    · by_cases q2 : l[n] = 1
      · refine Ev.Zak q1 (Ev.Zak q2 (Ev.const ?_))
        simp[q1,q2]
      refine Ev.Zak q1 (Ev.Zat q2 (Ev.Zat (by omega) ?_))
      simpa[q1,q2] using ih
    refine Ev.Zat q1 ?_;by_cases q3:coefs[n]= -1;rotate_left
    · refine Ev.Zat q3 ?_
      simpa[q1,q3] using ih
    refine Ev.Zak q3 ?_;by_cases q4:l[n]=0;rotate_left
    · refine Ev.Zat q4 ?_
      simpa[q3,q4] using ih
    refine Ev.Zak q4 (Ev.const ?_)
    simp[q3,q4]
theorem rsum_any (h1:vars.length≤14) (hx:vars.length=coefs.length∨coefs= []) (ha:smallV a) (ht:tot coefs≤4611686018427387904):Ev (fun k=>Zcg.f k vars coefs a) (dotV coefs (vars.map (atV a))):=by
  rcases hx with he|rfl
  · exact rsumD_ev vars coefs a (by omega) he (Zha ha vars) ht
  unfold Zcg.f;by_cases q:0<vars.length;rotate_left
  · exact Ev.step (G:=fun _=>some 0) (fun k=>by rw[Zcg.l0,if_neg (by omega)]) (Ev.const (by simp[dotV]))
  exact Ev.step (G:=fun _=>some 0) (fun k=>by rw[Zcg.l0,if_pos (by omega),if_neg (by simp)]) (Ev.const (by simp[dotV]))
def heldR (op n rhs:Int):Bool:=if op=0 then decide (n≤rhs)else((n==rhs)==(op==1))
theorem heldR_f (op n rhs:Int):Zek.f op n rhs=some (heldR op n rhs):=by
  unfold Zek.f heldR;by_cases q:op=0
  · rw[if_pos q,if_pos q]
  rw[if_neg q,if_neg q]
theorem heldR_cmp {op n rhs:Int} (h0:0≤op) (h3:op<3):heldR op n rhs=cmpB op n rhs:=by
  unfold heldR cmpB;by_cases q:op=0
  · rw[if_pos q,if_pos q]
  rw[if_neg q,if_neg q];by_cases q1:op=1
  · rw[if_pos q1];subst q1;simp;rw[Bool.eq_iff_iff];simp
  rw[if_neg q1];have e:(op==1)=false:=by simpa using q1
  rw[e]
  by_cases z:n=rhs<;>simp[z]
theorem rholds_ev (hc:conE d kd vars coefs op rhs rows b=0) (h1:vars.length≤14) (hrl:rows.length≤20) (h5:∀r ∈ rows,r.length≤14) (ha:smallV a):Ev (fun k=>Zbw.f k kd vars coefs op rhs rows b a) (holdB kd vars coefs op rhs rows b a):=by
  obtain⟨k0,k7,hr,ht⟩:=Zh3 hc;obtain⟨c1,c2,c3,c4⟩:=Zhj hr k0 k7
  have hx:vars.length=coefs.length∨coefs= []:=by
    by_cases e0:kd=0∨kd=4
    · exact .inl (c1 e0).1
    by_cases e5:kd=5
    · exact .inl (c2 e5)
    exact .inr (c3 (by omega))
  have hll:(vars.map (atV a)).length=vars.length:=List.length_map _;have hms:=Zha ha vars;have hsum:=rsum_any h1 hx ha ht;unfold Zbw.f holdB
  generalize hL:vars.map (atV a)=l at hll hms hsum ⊢
  have hpk:=rpick_ev vars a (by omega);rw[hL]at hpk;refine Ev.bind hpk (Ev.bind hsum (Ev.bind (Ev.const (heldR_f op _ rhs)) ?_));by_cases q0:kd=0
  · rw[if_pos q0];exact Ev.Zak q0 (Ev.const (by rw[heldR_cmp (c1 (.inl q0)).2.1 (c1 (.inl q0)).2.2]))
  rw[if_neg q0];refine Ev.Zat q0 ?_;by_cases q1:kd=1
  · rw [if_pos q1]
    refine Ev.Zak q1 (Ev.bind (Zgj l (by omega)) (Ev.const ?_))
    congr 1
    rw[Bool.eq_iff_iff]
    simp
    omega
  rw[if_neg q1];refine Ev.Zat q1 ?_;by_cases q2:kd=2
  · rw [if_pos q2]
    have:=rows_loop (rows:=rows) l (by omega) kd vars coefs op rhs (by omega) (fun r hr=>by have:=h5 r hr;omega) b rows.length 0 (by omega);rw[List.drop_zero]at this;exact Ev.Zak q2 this
  rw[if_neg q2];refine Ev.Zat q2 ?_;by_cases q3:kd=3
  · rw [if_pos q3]
    have h3:=c4 q3;have e0:rd l (0:Int)=l[0]'(by omega):=Zc2 l 0 (by omega);have e1:rd l (1:Int)=l[1]'(by omega):=Zc2 l 1 (by omega);have hs0:=hms _ (List.getElem_mem (show 0<l.length by omega));have hw:wrap64 (rd l 0+2)=rd l 0+2:=w64 (by omega) (by omega);refine Ev.Zak q3 (Ev.Zak (by omega) (Ev.Zak (by omega) ?_));rw[hw];unfold elemB;rw[decide_eq_true (show 2≤l.length by omega),Bool.true_and];by_cases z0:0≤rd l 0;rotate_left
    · rw [decide_eq_false z0, Bool.false_and]
      exact Ev.Zat (by omega) (Ev.const rfl)
    rw[decide_eq_true z0,Bool.true_and];refine Ev.Zak z0 ?_;by_cases z1:rd l 0<(l.length:Int) - 2;rotate_left
    · rw [decide_eq_false z1, Bool.false_and]
      exact Ev.Zat (by omega) (Ev.const rfl)
    rw[decide_eq_true z1,Bool.true_and];refine Ev.Zak (by omega) (Ev.Zak (by omega) (Ev.Zak (by omega) (Ev.const ?_)));rw[Int.add_comm (rd l 0) 2]
    congr 1
  rw[if_neg q3];refine Ev.Zat q3 ?_;by_cases q4:kd=4
  · rw [if_pos q4]
    refine Ev.Zak q4 ?_;rw[heldR_cmp (c1 (.inr q4)).2.1 (c1 (.inr q4)).2.2]
    cases cmpB op (dotV coefs l) rhs with
    |true=>
      refine Ev.Zak rfl (Ev.bind (Ev.const (refAt_f a b)) ?_);by_cases z:atV a b=1
      · exact Ev.Zak z (Ev.const (by simp[z]))
      exact Ev.Zat z (Ev.const (by simp[z]))
    |false=>
      refine Ev.Zat (by simp) (Ev.bind (Ev.const (refAt_f a b)) (Ev.const ?_))
      congr 1
  rw[if_neg q4];refine Ev.Zat q4 ?_;by_cases q5:kd=5
  · rw [if_pos q5]
    have h5:=c2 q5;exact Ev.Zak q5 (Zg2 l (by omega) kd vars (by omega) op rhs b l.length 0 (by omega))
  rw[if_neg q5];refine Ev.Zat q5 ?_;have hw:wrap64 ((l.length:Int) / 2)=((l.length / 2:Nat):Int):=by rw[w64 (by omega) (by omega)];omega
  rw[hw,Int.toNat_natCast];exact Ev.Zak (by omega) (Ev.Zak (by omega) (Ev.bind (order_ev _ _ (by rw[List.length_take];omega)) (Ev.const rfl)))
end
end Go.Proofs.YtdpieallpbllkaaGreat.P
