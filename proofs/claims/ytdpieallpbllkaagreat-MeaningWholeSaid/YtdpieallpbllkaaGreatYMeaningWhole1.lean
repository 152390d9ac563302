/- Proved: the statement MeaningWhole. Conditions: none but those of the statement. -/
import Derived.Test.YtdpieallpbllkaaGreatZ2
import Derived.Test.YtdpieallpbllkaaGreatZ5
import Derived.Deep.RegionHeld3
import Derived.Deep.DrawnRows
import Derived.Test.YtdpieallpbllkaaGreatZ1
import Derived.Test.YtdpieallpbllkaaGreatZ6
import Derived.Test.YtdpieallpbllkaaGreatZ3
import Derived.Test.YtdpieallpbllkaaGreatU1
import Derived.Deep.Slices
import Derived.ChangeArms
import Derived.DataReads
import Derived.SizedLaws
import Derived.Test.YtdpieallpbllkaaGreatRows
import Derived.WalkKit
import Derived.ProofKit
import Derived.OpenShut
import Derived.ShutString
import Derived.ChangeOld
import Derived.Below
/- Plain: the document's comparison of lists of lists. -/
set_option linter.unusedSimpArgs false
set_option linter.unusedVariables false
set_option maxHeartbeats 8000000
namespace Go.Proofs.YtdpieallpbllkaaGreat.P
open Go.RowKit Go.Proofs.YtdpieallpbllkaaGreatW.PrintWords Go.Proofs.YtdpieallpbllkaaGreatW.PrintLast Go.Proofs.YtdpieallpbllkaaGreatW.PrintMore
theorem rdL_n2 (xs:List (List Int)) (n:Nat) (h:n<xs.length):Zb3 xs (n:Int)=xs[n]:=by simp[Zb3,List.getD_eq_getElem?_getD,List.getElem?_eq_getElem h]
end Go.Proofs.YtdpieallpbllkaaGreat.P
namespace Go.Proofs.YtdpieallpbllkaaGreat.P
open Go.RowKit Go.Proofs.YtdpieallpbllkaaGreatW.PrintWords Go.Proofs.YtdpieallpbllkaaGreatW.PrintLast Go.Proofs.YtdpieallpbllkaaGreatW.PrintMore
attribute [local go_sem] Zcw Zcy Zdg Zdh Zco Zcp Zcx Zcz
attribute [local go_sem ↓] Go.wp_at_zero Go.wp_at_succ
end Go.Proofs.YtdpieallpbllkaaGreat.P
/- meaning.All and secateurref06.Grow in plain words: the lists of the domains' values that solve, in order. -/
namespace Go.Proofs.YtdpieallpbllkaaGreat.P
open Go.RowKit Go.Proofs.YtdpieallpbllkaaGreatW.PrintWords Go.Proofs.YtdpieallpbllkaaGreatW.PrintLast Go.Proofs.YtdpieallpbllkaaGreatW.PrintMore
theorem Zhm : ∀ {ds : List (List Rg)} {most n : Int}, 0 ≤ n → n ≤ most → smallG ds most n = true → n * (sizeV ds : Int) ≤ most
  | [], most, n, _, h, _ => by simp [sizeV]; omega
  |d::ds,most,n,h0,h1,h=>by
    rw[smallG]at h;by_cases q:n*((vals d).length:Int)>most
    · rw[if_pos q]at h;cases h
    rw[if_neg q]at h;have:=Zhm (Int.mul_nonneg h0 (by omega)) (by omega) h
    show n*(((vals d).length*sizeV ds:Nat):Int)≤most
    rw[Int.natCast_mul,←Int.mul_assoc];exact this
theorem smallG_le {m1 m2 : Int} (hm : m1 ≤ m2) : ∀ {ds : List (List Rg)} {n : Int}, smallG ds m1 n = true → smallG ds m2 n = true
  | [], _, _ => rfl
  |d::ds,n,h=>by
    rw[smallG]at h ⊢;by_cases q:n*((vals d).length:Int)>m1
    · rw[if_pos q]at h;cases h
    rw[if_neg q]at h;rw[if_neg (by omega)];exact smallG_le hm h
theorem prV_size {ds:List (List Rg)} {most:Int} (hm:1≤most) (h:smallG ds most 1=true):((prV ds).length:Int)≤most:=by
  have:=Zhm (by omega) hm h;rw[prV_len]
  omega
theorem bigV_ev : ∀ {ds : List (List Rg)} {n : Int}, (∀ d ∈ ds, Gd 1048576 (-1048576) d) → 0 ≤ n → n ≤ 65536 → Ev (fun k => bigV k ds n) (!smallG ds 65536 n)
  | [], _, _, _, _ => Ev.const rfl
  |d::ds,n,hd,h0,h1=>by
    have hg:=hd d List.mem_cons_self;have hv:=Zdz hg;have hm2:=Ze6 (a:=n) (A:=65536) h0 h1 (b:=((vals d).length:Int)) (B:=2097153) (by omega) (by omega);have hn2:=Int.mul_nonneg h0 (show(0:Int)≤((vals d).length:Int) by omega);have hw:wrap64 (n*((vals d).length:Int))=n*((vals d).length:Int):=w64 (by omega) (by omega);rw[smallG];unfold bigV;refine Ev.bind (Size_ev d hg (Int.le_refl _)) ?_;rw[hw];by_cases q:n*((vals d).length:Int)>65536
    · rw[if_pos q];exact Ev.Zak q (Ev.const rfl)
    rw[if_neg q];exact Ev.Zat q (bigV_ev (fun x hx=>hd x (List.mem_cons_of_mem _ hx)) hn2 (by omega))
section
variable {V:List S55} {C:List S36} {gk:Int} {gv gc:List Int}
theorem solL_ev (hc:∀c ∈ C,conC (domsOf V) c=0) (hd:∀d ∈ domsOf V,Gd 1048576 (-1048576) d) (cs:∀c ∈ C,c.f1.length≤14∧c.f2.length≤14∧c.f5.length≤20∧∀r ∈ c.f5,r.length≤14) (ys:List (List Int)):Ev (fun k=>solL k V C gk gv gc ys) (ys.filter (solB V C)):=by
  obtain⟨k0,h⟩:=ev_all (F:=fun a k=>solF k V C gk gv gc a) (g:=solB V C) (l:=ys) (fun a _=>Zho hc hd cs a);refine⟨k0,fun k hk=> ?_⟩;have hh:=h k hk
  show solL k V C gk gv gc ys=_
  unfold solL;rw[if_pos]
  · congr 1
    refine List.filter_congr fun a ha=> ?_
    unfold selF;rw[show solF k V C gk gv gc a=some (solB V C a)from hh a ha]
    cases solB V C a<;>simp
  rw[List.all_eq_true];intro a ha;rw[show solF k V C gk gv gc a=some (solB V C a)from hh a ha]
  rfl
def solsV (V:List S55) (C:List S36):List (List Int):=(prV (domsOf V)).filter (solB V C)
theorem all_ev (ho:OkM V C gk gv gc) (h:chkE V C gk gv gc=0) (hs:smallG (domsOf V) 65536 1=true):Ev (fun k=>Zck.f k V C gk gv gc) (solsV V C,0):=by
  have hg:=chkE_V h;have hd:∀d ∈ domsOf V,Gd 1048576 (-1048576) d:=fun d q=>(hg d q).1
  have hdl:=Zey V;have hvs:=ho.vs;have hp:=prV_size (by omega) hs;unfold Zck.f;have hc:=check_evB V C gk gv gc ho.sm.dm ho.okc (by have:=ho.gvl;omega) (by have:=ho.gcl;omega) ho.gw;rw[h]at hc;refine Ev.bind hc (Ev.Zak rfl (Ev.bind (doms_ev V C gk gv gc (by omega) ho.sm.dm) (Ev.Zak (by omega) (Ev.bind (bigV_ev hd (by omega) (by omega)) ?_))));rw[hs];refine Ev.Zat (by simp) ?_;exact Ev.bind (Ev.const (seqV_all hg (m:=70000) (by omega))) (Ev.bind (solL_ev (chkE_ok h) hd ho.cs _) (Ev.const rfl))
end
end Go.Proofs.YtdpieallpbllkaaGreat.P
namespace Go.Proofs.YtdpieallpbllkaaGreat.P
open Go.RowKit Go.Proofs.YtdpieallpbllkaaGreatW.PrintWords Go.Proofs.YtdpieallpbllkaaGreatW.PrintLast Go.Proofs.YtdpieallpbllkaaGreatW.PrintMore
attribute [local go_sem] Zcw Zcy Zdg Zdh Zco Zcp Zcx Zcz
mutual
def Zag.l0 : Nat → List (List Int) → List Int → Int → List (S55) → List (S36) → Int → List Int → List Int → Option (Bool)
 | 0, _, _, _, _, _, _, _, _ => none
 |k+1,x6,x8,x9,lQ,nR,nS,nT,nU=>if x9<(lQ.length:Int)then(if x8.length<17592186044416 then(Zag.l0 k x6 (x8++ [0]) (wrap64 (x9+1)) lQ nR nS nT nU)else(none))else(Zag.l1 k x6 x8 false 0 lQ nR nS nT nU)
def Zag.l1 : Nat → List (List Int) → List Int → Bool → Int → List (S55) → List (S36) → Int → List Int → List Int → Option (Bool)
 | 0, _, _, _, _, _, _, _, _, _ => none
 |k+1,x6,x8,x10,x11,lQ,nR,nS,nT,nU=>if x11<(x6.length:Int)then(if 0≤x11 then((Zau.f k lQ nR nS nT nU (Zb3 x6 x11)).bind fun PX=>(if PX=true then(if x11>0 then(if 0≤(wrap64 (x11 - 1))then(if(wrap64 (x11 - 1))<(x6.length:Int)then((Zbj.f k (Zb3 x6 (wrap64 (x11 - 1))) (Zb3 x6 x11)).bind fun IB=>(if IB=true then(if x10=true then(Zag.l1 k x6 x8 true (wrap64 (x11+1)) lQ nR nS nT nU)else((Zas.f k (Zb3 x6 x11) x8).bind fun Fq=>(Zag.l1 k x6 x8 Fq (wrap64 (x11+1)) lQ nR nS nT nU)))else(none)))else(none))else(none))else(if x10=true then(Zag.l1 k x6 x8 true (wrap64 (x11+1)) lQ nR nS nT nU)else((Zas.f k (Zb3 x6 x11) x8).bind fun Mr=>(Zag.l1 k x6 x8 Mr (wrap64 (x11+1)) lQ nR nS nT nU))))else(none)))else(none))else((Zau.f k lQ nR nS nT nU x8).bind fun Fp=>(if(x10==Fp)=true then((Zb9.f k).bind fun PW=>(some PW))else(none)))
end
def Zag.f (k:Nat) (ag:List (S55)) (aa:List (S36)) (ay:Int) (ak:List Int) (ai:List Int) (l1:List Int):Option (Bool):=(Zbq.f k ag aa ay ak ai 2000).bind fun gB=>(if gB.2.2.2.2.2=true then((Zck.f k gB.1 gB.2.1 gB.2.2.1 gB.2.2.2.1 gB.2.2.2.2.1).bind fun Ck=>(if Ck.2=0 then((Zbn.f k l1).bind fun ji=>(if 0≤(mn (ji.length:Int) (gB.1.length:Int))then(if(mn (ji.length:Int) (gB.1.length:Int))≤(ji.length:Int)then((some (ji.take ((mn (ji.length:Int) (gB.1.length:Int)):Int).toNat:List Int)).bind fun oP=>(Zag.l0 k Ck.1 oP (oP.length:Int) gB.1 gB.2.1 gB.2.2.1 gB.2.2.2.1 gB.2.2.2.2.1))else(none))else(none)))else(none)))else((Zb9.f k).bind fun IA=>(some IA)))
def Zag.T17:Bool × List (List Nat × List Nat):=(true,[([],[]),([],[]),([],[]),([1,2],[1,2]),([3],[3]),([0,4],[0,4]),([5],[5]),([6,5],[6]),([7],[7]),([8,7],[7,8]),([9,7,7],[7,9]),([10],[10]),([10],[10]),([12,10],[10,12]),([11,13,10],[10,11,13]),([14,10],[10,14]),([10],[10]),([10],[10]),([16,17,10],[10,16,17]),([18,10],[10,18]),([15,19,10,10],[10,15,19]),([20,10],[10,20]),([10,21,7],[7,10,21]),([7,22],[7,22])])
def Zag.B17:List Nat:= [0,0,0,6,14,31,63,127,255,511,1023,2047,2047,6143,16383,32767,2047,2047,198655,460799,1048575,2097151,4194303,8388607]
theorem Zag.tab17:rtab .any (opsOf Tryz.f5 17)=Zag.T17:=by kernel_rfl
theorem Zag.Zh2:waitsOk Zag.T17.2 Zag.B17=true:=by kernel_rfl
set_option maxRecDepth 100000 in
theorem Zag.calls (k : Nat) (eQ : Option Addr) (eF : Nat) (ag : List (S55)) (aV : Option Addr) (aQ : Nat) (aa : List (S36)) (ay : Int) (bR : Option Addr) (bT : Nat) (ak : List Int) (bK : Option Addr) (bL : Nat) (ai : List Int) (A1 : Option Addr) (c1 : Nat) (l1 : List Int) (r : Bool) (w : World) (mJ : Kd.C k55 w eQ ag.length ag) (mG : ag.length ≤ eF) (eu : Kd.C k36 w aV aa.length aa) (ek : aa.length ≤ aQ) (jW : Kd.C (Kd.int .i64) w bR ak.length ak) (jU : ak.length ≤ bT) (jX : Kd.C (Kd.int .i64) w bK ai.length ai) (jV : ai.length ≤ bL) (hr1 : Kd.C (Kd.int .i64) w A1 l1.length l1) (hc1 : l1.length ≤ c1) (h : Zag.f k ag aa ay ak ai l1 = some r) :
  Calls Tryz.prog 5 #[.agg #[.slice eQ ag.length eF,.slice aV aa.length aQ,.int .i64 ay,.slice bR ak.length bT,.slice bK ai.length bL],.slice A1 l1.length c1] w fun e w'=>e= .returned (.bool r)∧Below w.heap.size w w':=by
 have hu28:=Tryz.underlying28;have iP:=Za.mk mJ;have pI:=Za.mk mG;clear mJ mG;have eO:=Za.mk eu;have fC:=Za.mk ek;clear eu ek;have kv:=Za.mk jW;have kr:=Za.mk jU;clear jW jU;have kw:=Za.mk jX;have ku:=Za.mk jV;clear jX jV;have HR1:=Za.mk hr1;have HC1:=Za.mk hc1;clear hr1 hc1;have HB:=Za.mk (Below.refl w.heap.size w);have H:((Zbq.f k ag aa ay ak ai 2000).bind fun gB=>(if gB.2.2.2.2.2=true then((Zck.f k gB.1 gB.2.1 gB.2.2.1 gB.2.2.2.1 gB.2.2.2.2.1).bind fun Ck=>(if Ck.2=0 then((Zbn.f k l1).bind fun ji=>(if 0≤(mn (ji.length:Int) (gB.1.length:Int))then(if(mn (ji.length:Int) (gB.1.length:Int))≤(ji.length:Int)then((some (ji.take ((mn (ji.length:Int) (gB.1.length:Int)):Int).toNat:List Int)).bind fun oP=>(Zag.l0 k Ck.1 oP (oP.length:Int) gB.1 gB.2.1 gB.2.2.1 gB.2.2.2.1 gB.2.2.2.2.1))else(none))else(none)))else(none)))else((Zb9.f k).bind fun IA=>(some IA))))=some r:=h;clear h;obtain⟨⟨df,dQ,fw,dB,dF,dSa⟩,A3,H⟩:=bnd H;try dsimp only at H
 by_cases c4:dSa=true
 case neg=>
  replace c4:=Bool.eq_false_iff.mpr c4;subst c4;replace H:=ifF H;obtain⟨IA,A65,H⟩:=bnd H;try dsimp only at H
  obtain rfl:=sj H;go_enter Tryz.func5,Tryz.ntmps5
  go_wp2_with (first|((with_reducible refine Zar (N:=2) rfl ?_);refine bx 2 #[.slice eQ ag.length eF,.slice aV aa.length aQ,.int .i64 ay,.slice bR ak.length bT,.slice bK ai.length bL] 28 ?_;intro aM hg w66 hbox hb;have aH:=Za.mk (hbox);have WC:=Za.mk ((gE hg HB.out:w.heap.size≤aM));replace HB:=Za.mk (bS HB.out hb);clear hb hbox hg;obtain⟨bNa,bOa,bPa,bQa,bRa,a7a,a8a,a9a,aAa,aBa⟩:=cz5 aH.out)|((with_reducible refine Zal (f:=10) rfl ?_);refine gl 14 Tryz.func10 #[.agg #[.slice eQ ag.length eF,.slice aV aa.length aQ,.int .i64 ay,.slice bR ak.length bT,.slice bK ai.length bL],.int .i64 2000] ?_;(with_reducible refine(Zbq.calls k _ _ ag _ _ aa ay _ _ ak _ _ ai 2000 df dQ fw dB dF false _ (cM (Kd.Zac iP.out HB.out)) pI.out (cM (Kd.Zac eO.out HB.out)) fC.out (cM (Kd.Zac kv.out HB.out)) kr.out (cM (Kd.Zac kw.out HB.out)) ku.out A3.out).mono ?_);rintro e w68 ⟨Qd,Qe,AU,AV,rfl,ho0,ho1,ho2,ho3,hb⟩;refine⟨_,rfl,?_⟩;have nH:=Za.mk (Kd.Zd (Kd.Zc (ok':=fun k_=>some k_≠(Qe:Value).ownBlock∧some k_≠(AU:Value).ownBlock∧some k_≠(AV:Value).ownBlock∧k_≠aM) ho0 (fun k_ hk_=>⟨hk_.2.1,hk_.2.2.1,hk_.2.2.2,(Kd.freshB (kM aH.out) k_ hk_.1)⟩)) (Zaf (bM HB.out)));have nI:=Za.mk (Kd.Zd (Kd.Zc (ok':=fun k_=>some k_≠(Qd:Value).ownBlock∧some k_≠(AU:Value).ownBlock∧some k_≠(AV:Value).ownBlock∧k_≠aM) ho1 (fun k_ hk_=>⟨hk_.2.1,hk_.2.2.1,hk_.2.2.2,(Kd.freshB (kM aH.out) k_ hk_.1)⟩)) (Zaf (bM HB.out)));have mf:=Za.mk (Kd.Zbm (Kd.Za6 (ok':=fun k_=>some k_≠(AV:Value).ownBlock) ho2 (fun _ hk_=>hk_.2)) (Zaf (bM HB.out)));have mg:=Za.mk (Kd.Zbm (Kd.Za6 (ok':=fun k_=>some k_≠(AU:Value).ownBlock) ho3 (fun _ hk_=>hk_.2)) (Zaf (bM HB.out)));replace aH:=Za.mk (kB aH.out hb);replace HB:=Za.mk (bS HB.out hb);(try clear hb);(try clear hb2);(try clear hk);(try clear hi);(try clear ho0);(try clear ho1);(try clear ho2);(try clear ho3);obtain⟨cqa,c8a,OB⟩:=Kd.Zcu nH.out;subst OB;obtain⟨bSa,bTa,bUa,bVa,bWa,aCa,aDa,aEa,aFa,aGa⟩:=cz5 aH.out;obtain⟨nQa,oja,cWa⟩:=Kd.Zcu nI.out;subst cWa;obtain⟨nRa,oka,cXa⟩:=Kd.Zbe mf.out;subst cXa;obtain⟨nSa,ola,cYa⟩:=Kd.Zbe mg.out;subst cYa)|((with_reducible refine Zal (f:=11) rfl ?_);refine gl 19 Tryz.func11 #[] ?_;(with_reducible refine(Zb9.calls k IA _ A65.out).mono ?_);rintro e w74 ⟨rfl,hb⟩;refine⟨_,rfl,?_⟩;replace HB:=Za.mk (bS HB.out hb);clear nH nI mf mg aH;(try clear hb);(try clear hb2);(try clear hk);(try clear hi)))
  go_ret;exact⟨eR,bM HB.out⟩
 subst c4;rw[if_pos rfl]at H;obtain⟨⟨dO,PV⟩,A5,H⟩:=bnd H;try dsimp only at H
 obtain⟨c6,H⟩:=ifP H;have iF:(PV==0)=true:=beq_iff_eq.mpr c6;have sJ:(PV !=0)=false:=bne_eq_false_iff_eq.mpr c6;clear c6;obtain⟨ji,A7,H⟩:=bnd H;try dsimp only at H
 obtain⟨ji8,hji8⟩:∃j_:Int,(mn (ji.length:Int) (df.length:Int))=j_:=⟨_,rfl⟩;replace H:(if 0≤(ji8)then(if(ji8)≤(ji.length:Int)then((some (ji.take ((ji8):Int).toNat:List Int)).bind fun oP=>(Zag.l0 k dO oP (oP.length:Int) df dQ fw dB dF))else(none))else(none))=some r:=by first|(rw[hji8]at H;exact H)|(simp only[hji8]at H ⊢;exact H)
 (try rw[hji8]at A3)
 (try rw[hji8]at A5)
 (try rw[hji8]at A7)
 (try(have hji8l:0≤ji8:=by(rw[←hji8];unfold mn;(repeat' split)<;>omega)))
 (try(have hji8m:0≤ji8:=by omega))
 have hji8_:(if(df.length:Int)<(ji.length:Int)then(df.length:Int)else(ji.length:Int))=ji8:=hji8;have hji8n_:(if df.length<ji.length then(df.length:Int)else(ji.length:Int))=ji8:=by rw[←hji8_];by_cases q_:df.length<ji.length<;>simp[q_]
 obtain⟨c9,H⟩:=ifP H;have nz:=eq_true c9;have LQ:decide (0≤(ji8))=true:=decide_eq_true c9;clear c9;obtain⟨c10,H⟩:=ifP H;have jS:=eq_true c10;have yV:decide ((ji8)≤(ji.length:Int))=true:=decide_eq_true c10;clear c10;obtain⟨oP,Ec⟩:∃y_:List Int,y_=(ji.take ((ji8):Int).toNat):=⟨_,rfl⟩;replace H:(Zag.l0 k dO oP (oP.length:Int) df dQ fw dB dF)=some r:=by first|(rw[Ec];with_reducible exact H)|(have H2_:=(Option.bind_some _ _).symm.trans H;rw[Ec];with_reducible exact H2_)|(have H2_:=(Option.bind_some _ _).symm.trans H;with_reducible exact H2_)|with_reducible exact H|(rw[Ec];exact H)|exact H
 have Ri:=Za.mk Ec;clear Ec;have H':=Za.mk H;clear H;go_enter Tryz.func5,Tryz.ntmps5
 go_wp2_with (first|((with_reducible refine Zar (N:=2) rfl ?_);refine bx 2 #[.slice eQ ag.length eF,.slice aV aa.length aQ,.int .i64 ay,.slice bR ak.length bT,.slice bK ai.length bL] 28 ?_;intro aM hg w11 hbox hb;have aH:=Za.mk (hbox);have WC:=Za.mk ((gE hg HB.out:w.heap.size≤aM));replace HB:=Za.mk (bS HB.out hb);clear hb hbox hg;obtain⟨mV,mW,mX,mY,ng,mO,mP,mQ,mR,mU⟩:=cz5 aH.out)|((with_reducible refine Zal (f:=10) rfl ?_);refine gl 14 Tryz.func10 #[.agg #[.slice eQ ag.length eF,.slice aV aa.length aQ,.int .i64 ay,.slice bR ak.length bT,.slice bK ai.length bL],.int .i64 2000] ?_;(with_reducible refine(Zbq.calls k _ _ ag _ _ aa ay _ _ ak _ _ ai 2000 df dQ fw dB dF true _ (cM (Kd.Zac iP.out HB.out)) pI.out (cM (Kd.Zac eO.out HB.out)) fC.out (cM (Kd.Zac kv.out HB.out)) kr.out (cM (Kd.Zac kw.out HB.out)) ku.out A3.out).mono ?_);rintro e w13 ⟨Qd,Qe,AU,AV,rfl,ho0,ho1,ho2,ho3,hb⟩;refine⟨_,rfl,?_⟩;have nH:=Za.mk (Kd.Zd (Kd.Zc (ok':=fun k_=>some k_≠(Qe:Value).ownBlock∧some k_≠(AU:Value).ownBlock∧some k_≠(AV:Value).ownBlock∧k_≠aM) ho0 (fun k_ hk_=>⟨hk_.2.1,hk_.2.2.1,hk_.2.2.2,(Kd.freshB (kM aH.out) k_ hk_.1)⟩)) (Zaf (bM HB.out)));have nI:=Za.mk (Kd.Zd (Kd.Zc (ok':=fun k_=>some k_≠(Qd:Value).ownBlock∧some k_≠(AU:Value).ownBlock∧some k_≠(AV:Value).ownBlock∧k_≠aM) ho1 (fun k_ hk_=>⟨hk_.2.1,hk_.2.2.1,hk_.2.2.2,(Kd.freshB (kM aH.out) k_ hk_.1)⟩)) (Zaf (bM HB.out)));have mf:=Za.mk (Kd.Zbm (Kd.Za6 (ok':=fun k_=>some k_≠(AV:Value).ownBlock) ho2 (fun _ hk_=>hk_.2)) (Zaf (bM HB.out)));have mg:=Za.mk (Kd.Zbm (Kd.Za6 (ok':=fun k_=>some k_≠(AU:Value).ownBlock) ho3 (fun _ hk_=>hk_.2)) (Zaf (bM HB.out)));replace aH:=Za.mk (kB aH.out hb);replace HB:=Za.mk (bS HB.out hb);(try clear hb);(try clear hb2);(try clear hk);(try clear hi);(try clear ho0);(try clear ho1);(try clear ho2);(try clear ho3);obtain⟨eX,eU,GY⟩:=Kd.Zcu nH.out;subst GY;obtain⟨rF,rG,rH,uC,uD,rC,rD,rE,uy,uz⟩:=cz5 aH.out;obtain⟨bY,bW,EN⟩:=Kd.Zcu nI.out;subst EN;obtain⟨bQ,bN,zI⟩:=Kd.Zbe mf.out;subst zI;obtain⟨dH,dE,zJ⟩:=Kd.Zbe mg.out;subst zJ)|((with_reducible refine Zal (f:=24) rfl ?_);refine gl 22 Tryz.func24 #[.agg #[.slice eX df.length eU,.slice bY dQ.length bW,.int .i64 fw,.slice bQ dB.length bN,.slice dH dF.length dE]] ?_;(with_reducible refine(Zck.calls k _ _ df _ _ dQ fw _ _ dB _ _ dF dO PV _ ?side1 ?side2 ?side3 ?side4 ?side5 ?side6 ?side7 ?side8 A5.out).mono ?_);(case side1=>refine(Kd.Za3 (e:=55) (base:=w.heap.size) (ok:=fun k_=>(some k_≠(.slice bY dQ.length bW:Value).ownBlock∧(some k_≠(.slice bQ dB.length bN:Value).ownBlock∧(some k_≠(.slice dH dF.length dE:Value).ownBlock∧k_≠aM)))) (n:=df.length) (c:=eU) ?_).2.2;exact(nM (Kd.Zc (Kd.Zcn (p:=⟨aM,4,none⟩) (Kd.Zcn (p:=⟨aM,3,none⟩) (Kd.Zcn (p:=⟨aM,2,none⟩) (Kd.Zcn (p:=⟨aM,1,none⟩) (Kd.Zcn (p:=⟨aM,0,none⟩) (Kd.Zc nH.out (fun k_ hk=>(⟨hk,hk.2.2.2⟩:_∧k_≠aM))) (fun _ hk=>hk.2) (.slice eX df.length eU)) (fun _ hk=>hk.2) (.slice bY dQ.length bW)) (fun _ hk=>hk.2) (.int .i64 fw)) (fun _ hk=>hk.2) (.slice bQ dB.length bN)) (fun _ hk=>hk.2) (.slice dH dF.length dE)) (fun _ h_=>h_.1))));(case side2=>exact(Kd.Za3 nH.out).2.1);(case side3=>refine(Kd.Za3 (e:=36) (base:=w.heap.size) (ok:=fun k_=>(some k_≠(.slice eX df.length eU:Value).ownBlock∧(some k_≠(.slice bQ dB.length bN:Value).ownBlock∧(some k_≠(.slice dH dF.length dE:Value).ownBlock∧k_≠aM)))) (n:=dQ.length) (c:=bW) ?_).2.2;exact(nM (Kd.Zc (Kd.Zcn (p:=⟨aM,4,none⟩) (Kd.Zcn (p:=⟨aM,3,none⟩) (Kd.Zcn (p:=⟨aM,2,none⟩) (Kd.Zcn (p:=⟨aM,1,none⟩) (Kd.Zcn (p:=⟨aM,0,none⟩) (Kd.Zc nI.out (fun k_ hk=>(⟨hk,hk.2.2.2⟩:_∧k_≠aM))) (fun _ hk=>hk.2) (.slice eX df.length eU)) (fun _ hk=>hk.2) (.slice bY dQ.length bW)) (fun _ hk=>hk.2) (.int .i64 fw)) (fun _ hk=>hk.2) (.slice bQ dB.length bN)) (fun _ hk=>hk.2) (.slice dH dF.length dE)) (fun _ h_=>h_.1))));(case side4=>exact(Kd.Za3 nI.out).2.1);(case side5=>refine(Kd.Zan (e:=3) (base:=w.heap.size) (ok:=fun k_=>some k_≠(.slice dH dF.length dE:Value).ownBlock) (n:=dB.length) (c:=bN) ?_).2.2;exact(rM (Kd.Za6 (Kd.Zbv (p:=⟨aM,4,none⟩) (Kd.Zbv (p:=⟨aM,3,none⟩) (Kd.Zbv (p:=⟨aM,2,none⟩) (Kd.Zbv (p:=⟨aM,1,none⟩) (Kd.Zbv (p:=⟨aM,0,none⟩) (Kd.Zcc mf.out aH.out (by decide)) (fun _ hk=>hk.2) (.slice eX df.length eU)) (fun _ hk=>hk.2) (.slice bY dQ.length bW)) (fun _ hk=>hk.2) (.int .i64 fw)) (fun _ hk=>hk.2) (.slice bQ dB.length bN)) (fun _ hk=>hk.2) (.slice dH dF.length dE)) (fun _ h_=>h_.1))));(case side6=>exact(Kd.Zan mf.out).2.1);(case side7=>refine(Kd.Zan (e:=3) (base:=w.heap.size) (ok:=fun k_=>some k_≠(.slice bQ dB.length bN:Value).ownBlock) (n:=dF.length) (c:=dE) ?_).2.2;exact(rM (Kd.Za6 (Kd.Zbv (p:=⟨aM,4,none⟩) (Kd.Zbv (p:=⟨aM,3,none⟩) (Kd.Zbv (p:=⟨aM,2,none⟩) (Kd.Zbv (p:=⟨aM,1,none⟩) (Kd.Zbv (p:=⟨aM,0,none⟩) (Kd.Zcc mg.out aH.out (by decide)) (fun _ hk=>hk.2) (.slice eX df.length eU)) (fun _ hk=>hk.2) (.slice bY dQ.length bW)) (fun _ hk=>hk.2) (.int .i64 fw)) (fun _ hk=>hk.2) (.slice bQ dB.length bN)) (fun _ hk=>hk.2) (.slice dH dF.length dE)) (fun _ h_=>h_.1))));(case side8=>exact(Kd.Zan mg.out).2.1);rintro e w19 ⟨yG,rfl,ho0,hb⟩;refine⟨_,rfl,?_⟩;have FJ:=Za.mk (Kd.Zd (Kd.Zc (ok':=fun k_=>some k_≠(.slice eX df.length eU:Value).ownBlock∧some k_≠(.slice bY dQ.length bW:Value).ownBlock∧some k_≠(.slice bQ dB.length bN:Value).ownBlock∧some k_≠(.slice dH dF.length dE:Value).ownBlock∧k_≠aM) (Kd.S_N (Kd.Zf ho0)) (fun k_ hk_=>⟨(Kd.fresh' (Kd.N_lt (nM (Kd.Zc (Kd.Zcn (p:=⟨aM,4,none⟩) (Kd.Zcn (p:=⟨aM,3,none⟩) (Kd.Zcn (p:=⟨aM,2,none⟩) (Kd.Zcn (p:=⟨aM,1,none⟩) (Kd.Zcn (p:=⟨aM,0,none⟩) (Kd.Zc nH.out (fun k_ hk=>(⟨hk,hk.2.2.2⟩:_∧k_≠aM))) (fun _ hk=>hk.2) (.slice eX df.length eU)) (fun _ hk=>hk.2) (.slice bY dQ.length bW)) (fun _ hk=>hk.2) (.int .i64 fw)) (fun _ hk=>hk.2) (.slice bQ dB.length bN)) (fun _ hk=>hk.2) (.slice dH dF.length dE)) (fun _ h_=>h_.1)))) k_ hk_.2.1),(Kd.fresh' (Kd.N_lt (nM (Kd.Zc (Kd.Zcn (p:=⟨aM,4,none⟩) (Kd.Zcn (p:=⟨aM,3,none⟩) (Kd.Zcn (p:=⟨aM,2,none⟩) (Kd.Zcn (p:=⟨aM,1,none⟩) (Kd.Zcn (p:=⟨aM,0,none⟩) (Kd.Zc nI.out (fun k_ hk=>(⟨hk,hk.2.2.2⟩:_∧k_≠aM))) (fun _ hk=>hk.2) (.slice eX df.length eU)) (fun _ hk=>hk.2) (.slice bY dQ.length bW)) (fun _ hk=>hk.2) (.int .i64 fw)) (fun _ hk=>hk.2) (.slice bQ dB.length bN)) (fun _ hk=>hk.2) (.slice dH dF.length dE)) (fun _ h_=>h_.1)))) k_ hk_.2.1),(Kd.fresh' (Kd.R_lt (rM (Kd.Za6 (Kd.Zbv (p:=⟨aM,4,none⟩) (Kd.Zbv (p:=⟨aM,3,none⟩) (Kd.Zbv (p:=⟨aM,2,none⟩) (Kd.Zbv (p:=⟨aM,1,none⟩) (Kd.Zbv (p:=⟨aM,0,none⟩) (Kd.Zcc mf.out aH.out (by decide)) (fun _ hk=>hk.2) (.slice eX df.length eU)) (fun _ hk=>hk.2) (.slice bY dQ.length bW)) (fun _ hk=>hk.2) (.int .i64 fw)) (fun _ hk=>hk.2) (.slice bQ dB.length bN)) (fun _ hk=>hk.2) (.slice dH dF.length dE)) (fun _ h_=>h_.1)))) k_ hk_.2.1),(Kd.fresh' (Kd.R_lt (rM (Kd.Za6 (Kd.Zbv (p:=⟨aM,4,none⟩) (Kd.Zbv (p:=⟨aM,3,none⟩) (Kd.Zbv (p:=⟨aM,2,none⟩) (Kd.Zbv (p:=⟨aM,1,none⟩) (Kd.Zbv (p:=⟨aM,0,none⟩) (Kd.Zcc mg.out aH.out (by decide)) (fun _ hk=>hk.2) (.slice eX df.length eU)) (fun _ hk=>hk.2) (.slice bY dQ.length bW)) (fun _ hk=>hk.2) (.int .i64 fw)) (fun _ hk=>hk.2) (.slice bQ dB.length bN)) (fun _ hk=>hk.2) (.slice dH dF.length dE)) (fun _ h_=>h_.1)))) k_ hk_.2.1),(Kd.freshB (g:=aM) (o:= .cells #[.slice eX df.length eU,.slice bY dQ.length bW,.int .i64 fw,.slice bQ dB.length bN,.slice dH dF.length dE] 28 (0,0)) (by(with_reducible repeat(first|refine Zah ?_ _|refine Zai ?_|refine Zab ?_ _));refine Zaz (cs:=#[.slice eX df.length eU,.slice bY dQ.length bW,.int .i64 fw,.slice bQ dB.length bN,.slice bK ai.length bL]) ?_ 4 _ rfl;(with_reducible repeat(first|refine Zah ?_ _|refine Zai ?_|refine Zab ?_ _));refine Zaz (cs:=#[.slice eX df.length eU,.slice bY dQ.length bW,.int .i64 fw,.slice bR ak.length bT,.slice bK ai.length bL]) ?_ 3 _ rfl;(with_reducible repeat(first|refine Zah ?_ _|refine Zai ?_|refine Zab ?_ _));refine Zaz (cs:=#[.slice eX df.length eU,.slice bY dQ.length bW,.int .i64 ay,.slice bR ak.length bT,.slice bK ai.length bL]) ?_ 2 _ rfl;(with_reducible repeat(first|refine Zah ?_ _|refine Zai ?_|refine Zab ?_ _));refine Zaz (cs:=#[.slice eX df.length eU,.slice aV aa.length aQ,.int .i64 ay,.slice bR ak.length bT,.slice bK ai.length bL]) ?_ 1 _ rfl;(with_reducible repeat(first|refine Zah ?_ _|refine Zai ?_|refine Zab ?_ _));refine Zaz (cs:=#[.slice eQ ag.length eF,.slice aV aa.length aQ,.int .i64 ay,.slice bR ak.length bT,.slice bK ai.length bL]) ?_ 0 _ rfl;(with_reducible repeat(first|refine Zah ?_ _|refine Zai ?_|refine Zab ?_ _));exact aH.out) k_ hk_.2.1)⟩)) (Zaf (bM HB.out)));replace nH:=Za.mk (Kd.Zd1 (nM (Kd.Zc (Kd.Zcn (p:=⟨aM,4,none⟩) (Kd.Zcn (p:=⟨aM,3,none⟩) (Kd.Zcn (p:=⟨aM,2,none⟩) (Kd.Zcn (p:=⟨aM,1,none⟩) (Kd.Zcn (p:=⟨aM,0,none⟩) (Kd.Zc nH.out (fun k_ hk=>(⟨hk,hk.2.2.2⟩:_∧k_≠aM))) (fun _ hk=>hk.2) (.slice eX df.length eU)) (fun _ hk=>hk.2) (.slice bY dQ.length bW)) (fun _ hk=>hk.2) (.int .i64 fw)) (fun _ hk=>hk.2) (.slice bQ dB.length bN)) (fun _ hk=>hk.2) (.slice dH dF.length dE)) (fun _ h_=>h_.1))) (by first|exact Kd.Zgx ho0|exact Kd.Zgl ho0|exact Kd.Zc6 ho0) hb);replace nI:=Za.mk (Kd.Zd1 (nM (Kd.Zc (Kd.Zcn (p:=⟨aM,4,none⟩) (Kd.Zcn (p:=⟨aM,3,none⟩) (Kd.Zcn (p:=⟨aM,2,none⟩) (Kd.Zcn (p:=⟨aM,1,none⟩) (Kd.Zcn (p:=⟨aM,0,none⟩) (Kd.Zc nI.out (fun k_ hk=>(⟨hk,hk.2.2.2⟩:_∧k_≠aM))) (fun _ hk=>hk.2) (.slice eX df.length eU)) (fun _ hk=>hk.2) (.slice bY dQ.length bW)) (fun _ hk=>hk.2) (.int .i64 fw)) (fun _ hk=>hk.2) (.slice bQ dB.length bN)) (fun _ hk=>hk.2) (.slice dH dF.length dE)) (fun _ h_=>h_.1))) (by first|exact Kd.Zgx ho0|exact Kd.Zgl ho0|exact Kd.Zc6 ho0) hb);replace mf:=Za.mk (Kd.Zb6 (rM (Kd.Za6 (Kd.Zbv (p:=⟨aM,4,none⟩) (Kd.Zbv (p:=⟨aM,3,none⟩) (Kd.Zbv (p:=⟨aM,2,none⟩) (Kd.Zbv (p:=⟨aM,1,none⟩) (Kd.Zbv (p:=⟨aM,0,none⟩) (Kd.Zcc mf.out aH.out (by decide)) (fun _ hk=>hk.2) (.slice eX df.length eU)) (fun _ hk=>hk.2) (.slice bY dQ.length bW)) (fun _ hk=>hk.2) (.int .i64 fw)) (fun _ hk=>hk.2) (.slice bQ dB.length bN)) (fun _ hk=>hk.2) (.slice dH dF.length dE)) (fun _ h_=>h_.1))) hb);replace mg:=Za.mk (Kd.Zb6 (rM (Kd.Za6 (Kd.Zbv (p:=⟨aM,4,none⟩) (Kd.Zbv (p:=⟨aM,3,none⟩) (Kd.Zbv (p:=⟨aM,2,none⟩) (Kd.Zbv (p:=⟨aM,1,none⟩) (Kd.Zbv (p:=⟨aM,0,none⟩) (Kd.Zcc mg.out aH.out (by decide)) (fun _ hk=>hk.2) (.slice eX df.length eU)) (fun _ hk=>hk.2) (.slice bY dQ.length bW)) (fun _ hk=>hk.2) (.int .i64 fw)) (fun _ hk=>hk.2) (.slice bQ dB.length bN)) (fun _ hk=>hk.2) (.slice dH dF.length dE)) (fun _ h_=>h_.1))) hb);replace aH:=Za.mk (Zci (g:=aM) (o:= .cells #[.slice eX df.length eU,.slice bY dQ.length bW,.int .i64 fw,.slice bQ dB.length bN,.slice dH dF.length dE] 28 (0,0)) (by(with_reducible repeat(first|refine Zah ?_ _|refine Zai ?_|refine Zab ?_ _));refine Zaz (cs:=#[.slice eX df.length eU,.slice bY dQ.length bW,.int .i64 fw,.slice bQ dB.length bN,.slice bK ai.length bL]) ?_ 4 _ rfl;(with_reducible repeat(first|refine Zah ?_ _|refine Zai ?_|refine Zab ?_ _));refine Zaz (cs:=#[.slice eX df.length eU,.slice bY dQ.length bW,.int .i64 fw,.slice bR ak.length bT,.slice bK ai.length bL]) ?_ 3 _ rfl;(with_reducible repeat(first|refine Zah ?_ _|refine Zai ?_|refine Zab ?_ _));refine Zaz (cs:=#[.slice eX df.length eU,.slice bY dQ.length bW,.int .i64 ay,.slice bR ak.length bT,.slice bK ai.length bL]) ?_ 2 _ rfl;(with_reducible repeat(first|refine Zah ?_ _|refine Zai ?_|refine Zab ?_ _));refine Zaz (cs:=#[.slice eX df.length eU,.slice aV aa.length aQ,.int .i64 ay,.slice bR ak.length bT,.slice bK ai.length bL]) ?_ 1 _ rfl;(with_reducible repeat(first|refine Zah ?_ _|refine Zai ?_|refine Zab ?_ _));refine Zaz (cs:=#[.slice eQ ag.length eF,.slice aV aa.length aQ,.int .i64 ay,.slice bR ak.length bT,.slice bK ai.length bL]) ?_ 0 _ rfl;(with_reducible repeat(first|refine Zah ?_ _|refine Zai ?_|refine Zab ?_ _));exact aH.out) hb);replace HB:=Za.mk (bS HB.out hb);(try clear hb);(try clear hb2);(try clear hk);(try clear hi);(try clear ho0))|((with_reducible refine Zal (f:=12) rfl ?_);refine gl 28 Tryz.func12 #[.slice A1 l1.length c1] ?_;(with_reducible refine(Zbn.calls k _ _ l1 ji _ (cM (Kd.Zac HR1.out HB.out)) HC1.out A7.out).mono ?_);rintro e w20 ⟨pBa,rfl,ho0,hb⟩;refine⟨_,rfl,?_⟩;replace nH:=Za.mk (Kd.Zd1 (nM nH.out) (Kd.Zc6 ho0) hb);replace nI:=Za.mk (Kd.Zd1 (nM nI.out) (Kd.Zc6 ho0) hb);replace FJ:=Za.mk (Kd.Zd1 (nM FJ.out) (Kd.Zc6 ho0) hb);have FL:=Za.mk (Kd.Zbm (Kd.Ze3 (Kd.Ze3 ho0 (Kd.R_lt (rM mf.out))) (Kd.R_lt (rM mg.out))) (Zaf (bM HB.out)));replace mf:=Za.mk (Kd.Ze (rM mf.out) (Kd.Zc6 ho0) hb);replace mg:=Za.mk (Kd.Ze (rM mg.out) (Kd.Zc6 ho0) hb);replace aH:=Za.mk (kB aH.out hb);replace HB:=Za.mk (bS HB.out hb);(try clear hb);(try clear hb2);(try clear hk);(try clear hi);(try clear ho0);obtain⟨jA,kg,Ha⟩:=Kd.Zbe FL.out;subst Ha;obtain⟨Nn,Np,Nq,Nr,Ns,MF,MG,MH,MI,MJ⟩:=cz5 aH.out;have q23:((ji8):Int)≤((ji.length:Int):Int):=odt;obtain⟨i023,R4,_,hsz23,_⟩:=info_parts info3;have hcut23:=cut_to (P:=Tryz.prog) 24 3 .i64 Tryz.underlying24 R4 jA ji.length kg (ji8) (of_decide_eq_true (by first|(with_reducible assumption)|assumption)) q23 (Kd.Zan FL.out).2.1;have Me:=Kd.R_take (m:=((ji8):Int).toNat) FL.out (by omega);have UV:oP.length=((ji8):Int).toNat:=(by rw[Ri.out,List.length_take];omega);rw[←Ri.out]at Me;rw[←UV]at Me hcut23;clear UV R4 hsz23 FL;have eb23:(Value.slice jA ji.length kg).ownBlock=(Value.slice jA oP.length kg).ownBlock:=(by cases jA<;>rfl);(try rw[eb23]at nH);(try rw[eb23]at nI);(try rw[eb23]at mf);(try rw[eb23]at mg);(try rw[eb23]at FJ);(try rw[eb23]at Qw);clear eb23;have Qw:=Za.mk Me;clear Me;replace q23:=eq_true q23))
 go_loopg [8,9] k (fun kq v8 v9 w'=>∃(fu:List Int) (jq:Int),v9= .int .i64 jq∧Za (Zag.l0 kq dO fu jq df dQ fw dB dF=some r)∧Za (kq≤k)∧Za (Kd.N (Kd.slice 3 (Kd.int .i64)) 24 w' w.heap.size (fun k_=>some k_≠(v8:Value).ownBlock∧some k_≠((.slice eX df.length eU):Value).ownBlock∧some k_≠((.slice bY dQ.length bW):Value).ownBlock∧some k_≠((.slice bQ dB.length bN):Value).ownBlock∧some k_≠((.slice dH dF.length dE):Value).ownBlock∧k_≠aM) yG dO)∧Za (Kd.R (Kd.int .i64) 3 w' w.heap.size (fun k_=>some k_≠((.slice bQ dB.length bN):Value).ownBlock∧some k_≠((.slice dH dF.length dE):Value).ownBlock) v8 fu)∧Za (Kd.N k55 55 w' w.heap.size (fun k_=>some k_≠(yG:Value).ownBlock∧some k_≠(v8:Value).ownBlock∧some k_≠((.slice bY dQ.length bW):Value).ownBlock∧some k_≠((.slice bQ dB.length bN):Value).ownBlock∧some k_≠((.slice dH dF.length dE):Value).ownBlock∧k_≠aM) (.slice eX df.length eU) df)∧Za (Kd.N k36 36 w' w.heap.size (fun k_=>some k_≠(yG:Value).ownBlock∧some k_≠(v8:Value).ownBlock∧some k_≠((.slice eX df.length eU):Value).ownBlock∧some k_≠((.slice bQ dB.length bN):Value).ownBlock∧some k_≠((.slice dH dF.length dE):Value).ownBlock∧k_≠aM) (.slice bY dQ.length bW) dQ)∧Za (Kd.R (Kd.int .i64) 3 w' w.heap.size (fun k_=>some k_≠(v8:Value).ownBlock∧some k_≠((.slice dH dF.length dE):Value).ownBlock) (.slice bQ dB.length bN) dB)∧Za (Kd.R (Kd.int .i64) 3 w' w.heap.size (fun k_=>some k_≠(v8:Value).ownBlock∧some k_≠((.slice bQ dB.length bN):Value).ownBlock) (.slice dH dF.length dE) dF)∧Za (w'.heap[aM]? =some (.cells #[(.slice eX df.length eU),(.slice bY dQ.length bW),.int .i64 fw,(.slice bQ dB.length bN),(.slice dH dF.length dE)] 28 (0,0)))∧Za (Below w.heap.size w w'))
 case atStart=>exact⟨(oP),((oP.length:Int)),eS,H',⟨Nat.le_refl _⟩,⟨nM (Kd.Zc FJ.out (fun _ hk=>⟨hk.2,⟨hk.1.1,⟨hk.1.2.1,⟨hk.1.2.2.1,⟨hk.1.2.2.2.1,hk.1.2.2.2.2⟩⟩⟩⟩⟩))⟩,⟨rM (Kd.Za6 Qw.out (fun _ hk=>⟨hk.1.2,hk.2⟩))⟩,⟨nM (Kd.Zc nH.out (fun _ hk=>⟨hk.1.2,⟨hk.2,⟨hk.1.1.1,⟨hk.1.1.2.1,⟨hk.1.1.2.2.1,hk.1.1.2.2.2⟩⟩⟩⟩⟩))⟩,⟨nM (Kd.Zc nI.out (fun _ hk=>⟨hk.1.2,⟨hk.2,⟨hk.1.1.1,⟨hk.1.1.2.1,⟨hk.1.1.2.2.1,hk.1.1.2.2.2⟩⟩⟩⟩⟩))⟩,⟨rM (Kd.Za6 mf.out (fun _ hk=>⟨hk.2,hk.1⟩))⟩,⟨rM (Kd.Za6 mg.out (fun _ hk=>⟨hk.2,hk.1⟩))⟩,⟨kM aH.out⟩,⟨bM HB.out⟩⟩
 case round=>
  clear H';try clear c1
  try clear c2
  try clear p2
  try clear q2
  try clear c4
  try clear c5
  try clear c6
  try clear iF
  try clear sJ
  try clear c9
  try clear nz
  try clear LQ
  try clear c10
  try clear jS
  try clear yV
  try clear c12
  try clear q23
  try clear mV mW mX mY ng mO mP mQ mR mU
  try clear rF rG rH uC uD rC rD rE uy uz
  try clear Nn Np Nq Nr Ns MF MG MH MI MJ
  try clear q23
  obtain⟨fu,jq,rfl,HA,HK1,dD,fP,bF,bG,bB,bD,aH,HB⟩:=hrel
  cases gk with
  | zero => exact absurd HA.out (by simp [Zag.l0])
  |succ k1=>
   have H:=HA.out;clear HA;simp only[Zag.l0]at H;by_cases c24:jq<(df.length:Int)
   case pos=>
    rw[if_pos c24]at H;have Rv:decide (jq<(df.length:Int))=true:=decide_eq_true c24;clear c24;obtain⟨c25,H⟩:=ifP H;have Xg:=Za.mk c25;clear c25;obtain⟨Wt,Ed⟩:∃y_:List Int,y_=(fu++ [0]):=⟨_,rfl⟩;replace H:(Zag.l0 k1 dO Wt (wrap64 (jq+1)) df dQ fw dB dF)=some r:=by first|(rw[Ed];with_reducible exact H)|(have H2_:=(Option.bind_some _ _).symm.trans H;rw[Ed];with_reducible exact H2_)|(have H2_:=(Option.bind_some _ _).symm.trans H;with_reducible exact H2_)|with_reducible exact H|(rw[Ed];exact H)|exact H
    have X6:=Za.mk Ed;clear Ed;have H':=Za.mk H;clear H;obtain⟨Nt,Nu,SK,SL,SN,MK,ML,RP,RQ,RS⟩:=cz5 aH.out
    go_wp2_with (first|((with_reducible refine Zbo (b:= .append) (xs:=#[.tmp 46,.tmp 47]) rfl ?_);at_builtin;refine Kd.Zc4 (Kd.int .i64) (w0:=w) w.heap.size rfl (.tmp 46) (.tmp 47) 24 3 (.int .i64 0) 8 rfl Tryz.underlying24 info3 rfl (by decide) (by omega) u8 fu 0 [.int .i64 0] (fun k_=>some k_≠(.slice bQ dB.length bN:Value).ownBlock∧some k_≠(.slice dH dF.length dE:Value).ownBlock) (fun _=>False) rfl rfl ?aP (fun _ hk=>hk.elim) ?aF ?aO ?aB ?aS ?aL ?_;(case aP=>exact rfl);(case aB=>exact(bM HB.out));(case aF=>exact(fun k_ hk=>⟨Kd.fresh' (Kd.R_lt (rM bB.out)) k_ hk,Kd.fresh' (Kd.R_lt (rM bD.out)) k_ hk⟩));(case aO=>exact(rM fP.out));(case aS=>exact(Zaf (bM HB.out)));(case aL=>have:=Xg.out;omega);intro pCa w27 ho hb hg hat;rw[←X6.out]at ho;replace dD:=Za.mk (Kd.N_afterv (ok:=(fun k_=>some k_≠(.slice eX df.length eU:Value).ownBlock∧some k_≠(.slice bY dQ.length bW:Value).ownBlock∧some k_≠(.slice bQ dB.length bN:Value).ownBlock∧some k_≠(.slice dH dF.length dE:Value).ownBlock∧k_≠aM)) (nM (Kd.Zc dD.out (fun _ hk=>⟨⟨hk.2.1,⟨hk.2.2.1,⟨hk.2.2.2.1,⟨hk.2.2.2.2.1,hk.2.2.2.2.2⟩⟩⟩⟩,hk.1⟩))) hg hat);replace bF:=Za.mk (Kd.N_afterv (ok:=(fun k_=>some k_≠(yG:Value).ownBlock∧some k_≠(.slice bY dQ.length bW:Value).ownBlock∧some k_≠(.slice bQ dB.length bN:Value).ownBlock∧some k_≠(.slice dH dF.length dE:Value).ownBlock∧k_≠aM)) (nM (Kd.Zc bF.out (fun _ hk=>⟨⟨hk.1,⟨hk.2.2.1,⟨hk.2.2.2.1,⟨hk.2.2.2.2.1,hk.2.2.2.2.2⟩⟩⟩⟩,hk.2.1⟩))) hg hat);replace bG:=Za.mk (Kd.N_afterv (ok:=(fun k_=>some k_≠(yG:Value).ownBlock∧some k_≠(.slice eX df.length eU:Value).ownBlock∧some k_≠(.slice bQ dB.length bN:Value).ownBlock∧some k_≠(.slice dH dF.length dE:Value).ownBlock∧k_≠aM)) (nM (Kd.Zc bG.out (fun _ hk=>⟨⟨hk.1,⟨hk.2.2.1,⟨hk.2.2.2.1,⟨hk.2.2.2.2.1,hk.2.2.2.2.2⟩⟩⟩⟩,hk.2.1⟩))) hg hat);replace bB:=Za.mk (Kd.Zdu (ok:=(fun k_=>some k_≠(.slice dH dF.length dE:Value).ownBlock)) (rM (Kd.Za6 bB.out (fun _ hk=>⟨hk.2,hk.1⟩))) hg hat);replace bD:=Za.mk (Kd.Zdu (ok:=(fun k_=>some k_≠(.slice bQ dB.length bN:Value).ownBlock)) (rM (Kd.Za6 bD.out (fun _ hk=>⟨hk.2,hk.1⟩))) hg hat);replace aH:=Za.mk (kG aH.out hg (Kd.R_ne fP.out aH.out (by decide)));replace HB:=Za.mk (hb);have Xb:=Za.mk (ho);clear fP;clear ho hb hg hat))
    go_roundg k1
    case measure=>have:=HK1.out;omega
    case rel=>exact⟨(Wt),(wrap64 (jq+1)),eS,H',⟨by have:=HK1.out;omega⟩,⟨nM (Kd.Zc dD.out (fun _ hk=>⟨hk.2,⟨hk.1.1,⟨hk.1.2.1,⟨hk.1.2.2.1,⟨hk.1.2.2.2.1,hk.1.2.2.2.2⟩⟩⟩⟩⟩))⟩,⟨rM Xb.out⟩,⟨nM (Kd.Zc bF.out (fun _ hk=>⟨hk.1.1,⟨hk.2,⟨hk.1.2.1,⟨hk.1.2.2.1,⟨hk.1.2.2.2.1,hk.1.2.2.2.2⟩⟩⟩⟩⟩))⟩,⟨nM (Kd.Zc bG.out (fun _ hk=>⟨hk.1.1,⟨hk.2,⟨hk.1.2.1,⟨hk.1.2.2.1,⟨hk.1.2.2.2.1,hk.1.2.2.2.2⟩⟩⟩⟩⟩))⟩,⟨rM (Kd.Za6 bB.out (fun _ hk=>⟨hk.2,hk.1⟩))⟩,⟨rM (Kd.Za6 bD.out (fun _ hk=>⟨hk.2,hk.1⟩))⟩,⟨kM aH.out⟩,⟨bM HB.out⟩⟩
   rw[if_neg c24]at H;have Rv:decide (jq<(df.length:Int))=false:=decide_eq_false c24;clear c24;have H':=Za.mk H;clear H;obtain⟨bha,bia,bja,bka,bla,YO,YP,YQ,YR,YS⟩:=cz5 aH.out;go_wp2
   go_loopg [10,11] k1 (fun kq v10 v11 w'=>∃(rA:Bool) (bi:Int),v10= .bool rA∧v11= .int .i64 bi∧Za (Zag.l1 kq dO fu rA bi df dQ fw dB dF=some r)∧Za (kq≤k1)∧Za (Kd.N (Kd.slice 3 (Kd.int .i64)) 24 w' w.heap.size (fun k_=>some k_≠(u8:Value).ownBlock∧some k_≠((.slice eX df.length eU):Value).ownBlock∧some k_≠((.slice bY dQ.length bW):Value).ownBlock∧some k_≠((.slice bQ dB.length bN):Value).ownBlock∧some k_≠((.slice dH dF.length dE):Value).ownBlock∧k_≠aM) yG dO)∧Za (Kd.R (Kd.int .i64) 3 w' w.heap.size (fun k_=>some k_≠((.slice bQ dB.length bN):Value).ownBlock∧some k_≠((.slice dH dF.length dE):Value).ownBlock) u8 fu)∧Za (Kd.N k55 55 w' w.heap.size (fun k_=>some k_≠(yG:Value).ownBlock∧some k_≠(u8:Value).ownBlock∧some k_≠((.slice bY dQ.length bW):Value).ownBlock∧some k_≠((.slice bQ dB.length bN):Value).ownBlock∧some k_≠((.slice dH dF.length dE):Value).ownBlock∧k_≠aM) (.slice eX df.length eU) df)∧Za (Kd.N k36 36 w' w.heap.size (fun k_=>some k_≠(yG:Value).ownBlock∧some k_≠(u8:Value).ownBlock∧some k_≠((.slice eX df.length eU):Value).ownBlock∧some k_≠((.slice bQ dB.length bN):Value).ownBlock∧some k_≠((.slice dH dF.length dE):Value).ownBlock∧k_≠aM) (.slice bY dQ.length bW) dQ)∧Za (Kd.R (Kd.int .i64) 3 w' w.heap.size (fun k_=>some k_≠(u8:Value).ownBlock∧some k_≠((.slice dH dF.length dE):Value).ownBlock) (.slice bQ dB.length bN) dB)∧Za (Kd.R (Kd.int .i64) 3 w' w.heap.size (fun k_=>some k_≠(u8:Value).ownBlock∧some k_≠((.slice bQ dB.length bN):Value).ownBlock) (.slice dH dF.length dE) dF)∧Za (w'.heap[aM]? =some (.cells #[(.slice eX df.length eU),(.slice bY dQ.length bW),.int .i64 fw,(.slice bQ dB.length bN),(.slice dH dF.length dE)] 28 (0,0)))∧Za (Below w.heap.size w w'))
   case atStart=>exact⟨(false),(0),eS,eS,H',⟨Nat.le_refl _⟩,⟨nM dD.out⟩,⟨rM fP.out⟩,⟨nM bF.out⟩,⟨nM bG.out⟩,⟨rM bB.out⟩,⟨rM bD.out⟩,⟨kM aH.out⟩,⟨bM HB.out⟩⟩
   case round=>
    clear H';try clear c1
    try clear c2
    try clear p2
    try clear q2
    try clear c4
    try clear c5
    try clear c6
    try clear iF
    try clear sJ
    try clear p6
    try clear c9
    try clear nz
    try clear LQ
    try clear c10
    try clear jS
    try clear yV
    try clear c12
    try clear q23
    try clear c24
    try clear Rv
    try clear c25
    try clear mV mW mX mY ng mO mP mQ mR mU
    try clear rF rG rH uC uD rC rD rE uy uz
    try clear Nn Np Nq Nr Ns MF MG MH MI MJ
    try clear Nt Nu SK SL SN MK ML RP RQ RS
    try clear bha bia bja bka bla YO YP YQ YR YS
    try clear p2
    try clear q2
    try clear q23
    obtain⟨rA,bi,rfl,rfl,HA,HK2,dD,fP,bF,bG,bB,bD,aH,HB⟩:=hrel
    cases gk with
    | zero => exact absurd HA.out (by simp [Zag.l1])
    |succ k2=>
     have H:=HA.out;clear HA;simp only[Zag.l1]at H;by_cases c29:bi<(dO.length:Int)
     case neg=>
      rw[if_neg c29]at H;have XX:decide (bi<(dO.length:Int))=false:=decide_eq_false c29;clear c29;obtain⟨Fp,A57,H⟩:=bnd H;try dsimp only at H
      obtain⟨c58,H⟩:=ifP H;have LJ:(rA==Fp)=true:=c58
      (try(have LK:decide (rA=Fp)=true:=by simpa using c58))
      (try(have Yn:(rA==Fp)=true:=by simpa using c58))
      clear c58;obtain⟨PW,A59,H⟩:=bnd H;try dsimp only at H
      obtain rfl:=sj H;obtain⟨coa,c6a,OA⟩:=Kd.Zcu dD.out;subst OA;obtain⟨bIa,bJa,bKa,bLa,bMa,a2a,a3a,a4a,a5a,a6a⟩:=cz5 aH.out;obtain⟨cpa,c7a,cUa⟩:=Kd.Zbe fP.out;subst cUa
      go_wp2_with (first|((with_reducible refine Zal (f:=15) rfl ?_);refine gl 91 Tryz.func15 #[.agg #[.slice eX df.length eU,.slice bY dQ.length bW,.int .i64 fw,.slice bQ dB.length bN,.slice dH dF.length dE],.slice cpa fu.length c7a] ?_;(with_reducible refine(Zau.calls k2 _ _ df _ _ dQ fw _ _ dB _ _ dF _ _ fu Fp _ (cM ((Kd.Za3 bF.out).2.2)) ((Kd.Za3 bF.out).2.1) (cM ((Kd.Za3 bG.out).2.2)) ((Kd.Za3 bG.out).2.1) (cM ((Kd.Zan bB.out).2.2)) ((Kd.Zan bB.out).2.1) (cM ((Kd.Zan bD.out).2.2)) ((Kd.Zan bD.out).2.1) (cM ((Kd.Zan fP.out).2.2)) ((Kd.Zan fP.out).2.1) A57.out).mono ?_);rintro e w63 ⟨rfl,hb⟩;refine⟨_,rfl,?_⟩;replace HB:=Za.mk (bS HB.out hb);clear dD fP bF bG bB bD aH;(try clear hb);(try clear hb2);(try clear hk);(try clear hi))|(go_at_call 11;(with_reducible refine(Zb9.calls k2 PW _ A59.out).mono ?_);rintro e w64 ⟨rfl,hb⟩;replace HB:=Za.mk (bS HB.out hb);(try clear hb);(try clear hb2);(try clear hk);(try clear hi)))
      go_ret;exact⟨by first|rfl|(simp[Zde,Zdf]<;>rfl)|(simp only[←hji8];first|rfl|(simp[Zde,Zdf]<;>rfl))|(simp[*,Zde,Zdf]<;>rfl),bM HB.out⟩
     rw[if_pos c29]at H;have XX:decide (bi<(dO.length:Int))=true:=decide_eq_true c29;clear c29;obtain⟨fQa,H⟩:=ifT H;obtain⟨PX,A31,H⟩:=bnd H;try dsimp only at H
     by_cases c32:PX=true
     case neg=>
      replace c32:=Bool.eq_false_iff.mpr c32;subst c32;replace H:=ifF H;exact absurd H (by simp)
     subst c32;rw[if_pos rfl]at H;by_cases c33:bi>0
     case neg=>
      rw[if_neg c33]at H;have XY:decide (0<bi)=false:=decide_eq_false c33;clear c33;by_cases c48:rA=true
      case pos=>
       subst c48;rw[if_pos rfl]at H;have H':=Za.mk H;clear H;obtain⟨nLa,oea,cQa⟩:=Kd.Zcu dD.out;subst cQa;try go_wp2
       replace dD:=Za.mk (Kd.Zef dD.out);replace fP:=Za.mk (Kd.Zel fP.out);replace bF:=Za.mk (Kd.Zef bF.out);replace bG:=Za.mk (Kd.Zef bG.out);replace bB:=Za.mk (Kd.Zel bB.out);replace bD:=Za.mk (Kd.Zel bD.out);replace aH:=Za.mk (Zai aH.out);replace HB:=Za.mk (Zcs HB.out);have l6:0≤(bi:Int):=odt;have l7:bi<(dO.length:Int):=odt;obtain⟨jR,jv,jw,rfl,iK,kJ,kF⟩:=Zew (Kd.Za3 dD.out).2.2 bi l6 l7;obtain⟨ce805,hce805,hMe805,hcc805⟩:=Kd.Zhu dD.out [] bi l6 (by first|exact l7|exact odt|(have e_:=(Kd.Za3 dD.out).1;omega));obtain⟨ua805_0,uc805_0,rfl,ul805_0,ge805_0⟩:=Kd.Zdb hMe805;have hv805_0:=hcc805 0 _ rfl;rw[Nat.add_zero,show((Kd.slice 3 (Kd.int .i64))).sz=1 from rfl,Nat.mul_one]at hv805_0;replace hv805_0:=Option.some.inj (hv805_0.symm.trans iK)
       injection hv805_0 with hva_ hvn_ hvc_
       rw[hva_]at ge805_0;rw[hvc_]at ul805_0;have HL805_0:=Za.mk (show Kd.V (Kd.int .i64) 3 _ w.heap.size _ _ (Zb3 dO bi)from Kd.V_mk ul805_0 ge805_0);clear hva_ hvn_ hvc_ ge805_0 ul805_0 hcc805 hce805;have fe:=Za.mk kF;have qw:=Za.mk kJ;clear kF kJ;replace l6:=eq_true l6;replace l7:=eq_true l7;refine Ze7 (n:=24) (S:=fun w'=>w'.cell? ⟨aM,0,none⟩=some (.slice eX df.length eU)∧w'.cell? ⟨aM,1,none⟩=some (.slice bY dQ.length bW)∧w'.cell? ⟨aM,2,none⟩=some (.int .i64 fw)∧w'.cell? ⟨aM,3,none⟩=some (.slice bQ dB.length bN)∧w'.cell? ⟨aM,4,none⟩=some (.slice dH dF.length dE)∧w'.cell? (jR.add (bi).toNat)=some (.slice jv (Zb3 dO bi).length jw)) (ds:= []) #[false,false,false,false,false,false,false,false,false,false,false,false,false,false,false,false,false,false,false,false,false,false,false,false] (by kernel_rfl) rfl rfl ⟨bc aH.out 0,bc aH.out 1,bc aH.out 2,bc aH.out 3,bc aH.out 4,iK⟩ (fun hHeld=> ?_);refine Zdy Zag.tab17 Zag.Zh2 (fun HT_ HW_=> ?_)
       generalize wr.drew=w50 at dD fP bF bG bB bD aH HB HL805_0 fe iK hHeld ⊢
       refine pu HT_ 1 56 ?_;refine pu HT_ 2 57 ?_;refine pu HT_ 3 58 ?_;refine tk HT_ HW_ hHeld 0 55 ?_;refine tk HT_ HW_ hHeld 4 59 ?_;refine on1 HT_ 5 60 (fun K hK=> ?_);refine gs Tryz.func15 #[.agg #[.slice eX df.length eU,.slice bY dQ.length bW,.int .i64 fw,.slice bQ dB.length bN,.slice dH dF.length dE],.slice jv (Zb3 dO bi).length jw] ?_
       with_reducible refine(Zau.calls k2 _ _ df _ _ dQ fw _ _ dB _ _ dF _ _ (Zb3 dO bi) true _ (cM ((Kd.Za3 bF.out).2.2)) ((Kd.Za3 bF.out).2.1) (cM ((Kd.Za3 bG.out).2.2)) ((Kd.Za3 bG.out).2.1) (cM ((Kd.Zan bB.out).2.2)) ((Kd.Zan bB.out).2.1) (cM ((Kd.Zan bD.out).2.2)) ((Kd.Zan bD.out).2.1) ?side9 ?side10 A31.out).mono ?_
       (case side9=>repeat(first|exact(by repeat(first|(with_reducible exact fe.out)|(with_reducible refine Kd.C_alloc ?_ _)|(with_reducible refine Kd.Zbt ?_ _)|(with_reducible refine Kd.Zb4 ?_)|exact fe.out))|(with_reducible refine Kd.C_alloc ?_ _)|(with_reducible refine Kd.Zbt ?_ _)|(with_reducible refine Kd.Zb4 ?_)))
       (case side10=>exact qw.out)
       rintro e w51 ⟨rfl,hb⟩;have zG:=(hb.cell (World.block_lt_of_cell? _ _ (hHeld.2.2.2.2.2))).trans (hHeld.2.2.2.2.2);refine⟨_,rfl,?_⟩;replace dD:=Za.mk (Kd.Zcm (nM dD.out) hb);replace fP:=Za.mk (Kd.Zb6 (rM fP.out) hb);replace bF:=Za.mk (Kd.Zcm (nM bF.out) hb);replace bG:=Za.mk (Kd.Zcm (nM bG.out) hb);replace bB:=Za.mk (Kd.Zb6 (rM bB.out) hb);replace bD:=Za.mk (Kd.Zb6 (rM bD.out) hb);replace HL805_0:=Za.mk (Kd.Zg0 (vM HL805_0.out) hb);replace aH:=Za.mk (kB aH.out hb);replace fe:=Za.mk (Kd.Zac (by repeat(first|(with_reducible exact fe.out)|(with_reducible refine Kd.C_alloc ?_ _)|(with_reducible refine Kd.Zbt ?_ _)|(with_reducible refine Kd.Zb4 ?_)|exact fe.out)) hb)
       (try replace jc:=Za.mk (Kd.Zac jc.out hb))
       (try replace jd:=Za.mk (Kd.Zac jd.out hb))
       replace HB:=Za.mk (bS HB.out hb)
       (try clear hb)
       (try clear hb2)
       (try clear hk)
       (try clear hi)
       refine hK.out _ _ ⟨bc aH.out 0,bc aH.out 1,bc aH.out 2,bc aH.out 3,bc aH.out 4,zG⟩ (fun hHeld=> ?_);clear hK K;refine nmp 60 ?_;refine pu HT_ 6 61 ?_;refine pu HT_ 7 62 ?_;refine pu HT_ 8 63 ?_;refine pu HT_ 9 64 ?_;refine pu HT_ 10 65 ?_;refine un HT_ 11 66 ?_;refine un HT_ 12 67 ?_;refine un HT_ 13 68 ?_;refine un HT_ 14 69 ?_;refine un HT_ 15 70 ?_;refine un HT_ 16 71 ?_;refine un HT_ 17 72 ?_;refine un HT_ 18 73 ?_;refine un HT_ 19 74 ?_;refine un HT_ 20 75 ?_;refine un HT_ 21 76 ?_;refine pu HT_ 22 77 ?_;refine pu HT_ 23 78 ?_;refine Zgg (Zen HT_.out (by kernel_rfl)) ?_;try go_wp2
       go_roundg k2
       case measure=>have:=HK1.out;have:=HK2.out;omega
       case rel=>exact⟨(true),(wrap64 (bi+1)),eS,eS,H',⟨by have:=HK1.out;have:=HK2.out;omega⟩,⟨nM dD.out⟩,⟨rM fP.out⟩,⟨nM bF.out⟩,⟨nM bG.out⟩,⟨rM bB.out⟩,⟨rM bD.out⟩,⟨kM aH.out⟩,⟨bM HB.out⟩⟩
      replace c48:=Bool.eq_false_iff.mpr c48;subst c48;replace H:=ifF H;obtain⟨Mr,A52,H⟩:=bnd H;try dsimp only at H
      have H':=Za.mk H;clear H;obtain⟨cna,c5a,O9⟩:=Kd.Zcu dD.out;subst O9;try go_wp2
      replace dD:=Za.mk (Kd.Zef dD.out);replace fP:=Za.mk (Kd.Zel fP.out);replace bF:=Za.mk (Kd.Zef bF.out);replace bG:=Za.mk (Kd.Zef bG.out);replace bB:=Za.mk (Kd.Zel bB.out);replace bD:=Za.mk (Kd.Zel bD.out);replace aH:=Za.mk (Zai aH.out);replace HB:=Za.mk (Zcs HB.out);have l6:0≤(bi:Int):=odt;have l7:bi<(dO.length:Int):=odt;obtain⟨jR,jv,jw,rfl,iK,kJ,kF⟩:=Zew (Kd.Za3 dD.out).2.2 bi l6 l7;obtain⟨ce805,hce805,hMe805,hcc805⟩:=Kd.Zhu dD.out [] bi l6 (by first|exact l7|exact odt|(have e_:=(Kd.Za3 dD.out).1;omega));obtain⟨ua805_0,uc805_0,rfl,ul805_0,ge805_0⟩:=Kd.Zdb hMe805;have hv805_0:=hcc805 0 _ rfl;rw[Nat.add_zero,show((Kd.slice 3 (Kd.int .i64))).sz=1 from rfl,Nat.mul_one]at hv805_0;replace hv805_0:=Option.some.inj (hv805_0.symm.trans iK)
      injection hv805_0 with hva_ hvn_ hvc_
      rw[hva_]at ge805_0;rw[hvc_]at ul805_0;have HL805_0:=Za.mk (show Kd.V (Kd.int .i64) 3 _ w.heap.size _ _ (Zb3 dO bi)from Kd.V_mk ul805_0 ge805_0);clear hva_ hvn_ hvc_ ge805_0 ul805_0 hcc805 hce805;have fe:=Za.mk kF;have qw:=Za.mk kJ;clear kF kJ;replace l6:=eq_true l6;replace l7:=eq_true l7;refine Ze7 (n:=24) (S:=fun w'=>w'.cell? ⟨aM,0,none⟩=some (.slice eX df.length eU)∧w'.cell? ⟨aM,1,none⟩=some (.slice bY dQ.length bW)∧w'.cell? ⟨aM,2,none⟩=some (.int .i64 fw)∧w'.cell? ⟨aM,3,none⟩=some (.slice bQ dB.length bN)∧w'.cell? ⟨aM,4,none⟩=some (.slice dH dF.length dE)∧w'.cell? (jR.add (bi).toNat)=some (.slice jv (Zb3 dO bi).length jw)) (ds:= []) #[false,false,false,false,false,false,false,false,false,false,false,false,false,false,false,false,false,false,false,false,false,false,false,false] (by kernel_rfl) rfl rfl ⟨bc aH.out 0,bc aH.out 1,bc aH.out 2,bc aH.out 3,bc aH.out 4,iK⟩ (fun hHeld=> ?_);refine Zdy Zag.tab17 Zag.Zh2 (fun HT_ HW_=> ?_)
      generalize wr.drew=w54 at dD fP bF bG bB bD aH HB HL805_0 fe iK hHeld ⊢
      refine pu HT_ 1 56 ?_;refine pu HT_ 2 57 ?_;refine pu HT_ 3 58 ?_;refine tk HT_ HW_ hHeld 0 55 ?_;refine tk HT_ HW_ hHeld 4 59 ?_;refine on1 HT_ 5 60 (fun K hK=> ?_);refine gs Tryz.func15 #[.agg #[.slice eX df.length eU,.slice bY dQ.length bW,.int .i64 fw,.slice bQ dB.length bN,.slice dH dF.length dE],.slice jv (Zb3 dO bi).length jw] ?_
      with_reducible refine(Zau.calls k2 _ _ df _ _ dQ fw _ _ dB _ _ dF _ _ (Zb3 dO bi) true _ (cM ((Kd.Za3 bF.out).2.2)) ((Kd.Za3 bF.out).2.1) (cM ((Kd.Za3 bG.out).2.2)) ((Kd.Za3 bG.out).2.1) (cM ((Kd.Zan bB.out).2.2)) ((Kd.Zan bB.out).2.1) (cM ((Kd.Zan bD.out).2.2)) ((Kd.Zan bD.out).2.1) ?side9 ?side10 A31.out).mono ?_
      (case side9=>repeat(first|exact(by repeat(first|(with_reducible exact fe.out)|(with_reducible refine Kd.C_alloc ?_ _)|(with_reducible refine Kd.Zbt ?_ _)|(with_reducible refine Kd.Zb4 ?_)|exact fe.out))|(with_reducible refine Kd.C_alloc ?_ _)|(with_reducible refine Kd.Zbt ?_ _)|(with_reducible refine Kd.Zb4 ?_)))
      (case side10=>exact qw.out)
      rintro e w55 ⟨rfl,hb⟩;have zG:=(hb.cell (World.block_lt_of_cell? _ _ (hHeld.2.2.2.2.2))).trans (hHeld.2.2.2.2.2);refine⟨_,rfl,?_⟩;replace dD:=Za.mk (Kd.Zcm (nM dD.out) hb);replace fP:=Za.mk (Kd.Zb6 (rM fP.out) hb);replace bF:=Za.mk (Kd.Zcm (nM bF.out) hb);replace bG:=Za.mk (Kd.Zcm (nM bG.out) hb);replace bB:=Za.mk (Kd.Zb6 (rM bB.out) hb);replace bD:=Za.mk (Kd.Zb6 (rM bD.out) hb);replace HL805_0:=Za.mk (Kd.Zg0 (vM HL805_0.out) hb);replace aH:=Za.mk (kB aH.out hb);replace fe:=Za.mk (Kd.Zac (by repeat(first|(with_reducible exact fe.out)|(with_reducible refine Kd.C_alloc ?_ _)|(with_reducible refine Kd.Zbt ?_ _)|(with_reducible refine Kd.Zb4 ?_)|exact fe.out)) hb)
      (try replace jc:=Za.mk (Kd.Zac jc.out hb))
      (try replace jd:=Za.mk (Kd.Zac jd.out hb))
      replace HB:=Za.mk (bS HB.out hb)
      (try clear hb)
      (try clear hb2)
      (try clear hk)
      (try clear hi)
      refine hK.out _ _ ⟨bc aH.out 0,bc aH.out 1,bc aH.out 2,bc aH.out 3,bc aH.out 4,zG⟩ (fun hHeld=> ?_);clear hK K;refine nmp 60 ?_;refine pu HT_ 6 61 ?_;refine pu HT_ 7 62 ?_;refine pu HT_ 8 63 ?_;refine pu HT_ 9 64 ?_;refine pu HT_ 10 65 ?_;refine un HT_ 11 66 ?_;refine un HT_ 12 67 ?_;refine un HT_ 13 68 ?_;refine un HT_ 14 69 ?_;refine un HT_ 15 70 ?_;refine un HT_ 16 71 ?_;refine un HT_ 17 72 ?_;refine un HT_ 18 73 ?_;refine un HT_ 19 74 ?_;refine un HT_ 20 75 ?_;refine un HT_ 21 76 ?_;refine pu HT_ 22 77 ?_;refine pu HT_ 23 78 ?_;refine Zgg (Zen HT_.out (by kernel_rfl)) ?_;have Mj:0≤(bi:Int):=odt;have Mo:bi<(dO.length:Int):=odt;obtain⟨XR,eza,e3a,cDa,Ka,J8,Jv⟩:=Zew (Kd.Za3 dD.out).2.2 bi Mj Mo;obtain rfl:jR=XR:=(by injection cDa);have Yw:=Option.some.inj (hHeld.2.2.2.2.2.symm.trans Ka)
      injection Yw with ea_ en_ ec_
      subst ea_;subst ec_;clear en_;obtain⟨ce812,hce812,hMe812,hcc812⟩:=Kd.Zhu dD.out [] bi Mj (by first|exact Mo|exact odt|(have e_:=(Kd.Za3 dD.out).1;omega));obtain⟨ua812_0,uc812_0,rfl,ul812_0,ge812_0⟩:=Kd.Zdb hMe812;have hv812_0:=hcc812 0 _ rfl;rw[Nat.add_zero,show((Kd.slice 3 (Kd.int .i64))).sz=1 from rfl,Nat.mul_one]at hv812_0;replace hv812_0:=Option.some.inj (hv812_0.symm.trans Ka)
      injection hv812_0 with hva_ hvn_ hvc_
      rw[hva_]at ge812_0;rw[hvc_]at ul812_0;have HL812_0:=Za.mk (show Kd.V (Kd.int .i64) 3 _ w.heap.size _ _ (Zb3 dO bi)from Kd.V_mk ul812_0 ge812_0);clear hva_ hvn_ hvc_ ge812_0 ul812_0 hcc812 hce812;have Jl:=Za.mk Jv;have TE:=Za.mk J8;clear Jv J8;replace Mj:=eq_true Mj;replace Mo:=eq_true Mo;obtain⟨nNa,oga,cSa⟩:=Kd.Zbe fP.out;subst cSa;try go_wp2_with (first|(go_at_call 27;(with_reducible refine(Zas.calls k2 _ _ (Zb3 dO bi) _ _ fu Mr _ ?side1 ?side2 ?side3 ?side4 A52.out).mono ?_);(case side1=>repeat(first|exact(by repeat(first|(with_reducible exact Jl.out)|(with_reducible refine Kd.C_alloc ?_ _)|(with_reducible refine Kd.Zbt ?_ _)|(with_reducible refine Kd.Zb4 ?_)|exact Jl.out))|(with_reducible refine Kd.C_alloc ?_ _)|(with_reducible refine Kd.Zbt ?_ _)|(with_reducible refine Kd.Zb4 ?_)));(case side2=>exact TE.out);(case side3=>repeat(first|exact(Kd.Zan fP.out).2.2|(with_reducible refine Kd.C_alloc ?_ _)|(with_reducible refine Kd.Zbt ?_ _)|(with_reducible refine Kd.Zb4 ?_)));(case side4=>exact(Kd.Zan fP.out).2.1);rintro e w' ⟨rfl,⟨nd,rfl⟩⟩))
      go_roundg k2
      case measure=>have:=HK1.out;have:=HK2.out;omega
      case rel=>exact⟨(Mr),(wrap64 (bi+1)),eS,eS,H',⟨by have:=HK1.out;have:=HK2.out;omega⟩,⟨nM dD.out⟩,⟨rM fP.out⟩,⟨nM bF.out⟩,⟨nM bG.out⟩,⟨rM bB.out⟩,⟨rM bD.out⟩,⟨kM aH.out⟩,⟨bM HB.out⟩⟩
     rw[if_pos c33]at H;have XY:decide (0<bi)=true:=decide_eq_true c33;clear c33;obtain⟨jE,hji34⟩:∃j_:Int,(wrap64 (bi - 1))=j_:=⟨_,rfl⟩;replace H:(if 0≤(jE)then(if(jE)<(dO.length:Int)then((Zbj.f k2 (Zb3 dO (jE)) (Zb3 dO bi)).bind fun IB=>(if IB=true then(if rA=true then(Zag.l1 k2 dO fu true (wrap64 (bi+1)) df dQ fw dB dF)else((Zas.f k2 (Zb3 dO bi) fu).bind fun Fq=>(Zag.l1 k2 dO fu Fq (wrap64 (bi+1)) df dQ fw dB dF)))else(none)))else(none))else(none))=some r:=by first|(rw[hji34]at H;exact H)|(simp only[hji34]at H ⊢;exact H)
     (try rw[hji34]at A31)
     have hji34w:(IntKind.i64.wrap (bi - 1))=jE:=(Zd5 _).trans hji34;obtain⟨FV,H⟩:=ifT H;obtain⟨LH,H⟩:=ifT H;obtain⟨IB,A37,H⟩:=bnd H;try dsimp only at H
     by_cases c38:IB=true
     case neg=>
      replace c38:=Bool.eq_false_iff.mpr c38;subst c38;replace H:=ifF H;exact absurd H (by simp)
     subst c38;rw[if_pos rfl]at H;by_cases c39:rA=true
     case pos=>
      subst c39;rw[if_pos rfl]at H;have H':=Za.mk H;clear H;obtain⟨cka,c2a,O6⟩:=Kd.Zcu dD.out;subst O6;try go_wp2
      replace dD:=Za.mk (Kd.Zef dD.out);replace fP:=Za.mk (Kd.Zel fP.out);replace bF:=Za.mk (Kd.Zef bF.out);replace bG:=Za.mk (Kd.Zef bG.out);replace bB:=Za.mk (Kd.Zel bB.out);replace bD:=Za.mk (Kd.Zel bD.out);replace aH:=Za.mk (Zai aH.out);replace HB:=Za.mk (Zcs HB.out);have l6:0≤(bi:Int):=odt;have l7:bi<(dO.length:Int):=odt;obtain⟨jR,jv,jw,rfl,iK,kJ,kF⟩:=Zew (Kd.Za3 dD.out).2.2 bi l6 l7;obtain⟨ce805,hce805,hMe805,hcc805⟩:=Kd.Zhu dD.out [] bi l6 (by first|exact l7|exact odt|(have e_:=(Kd.Za3 dD.out).1;omega));obtain⟨ua805_0,uc805_0,rfl,ul805_0,ge805_0⟩:=Kd.Zdb hMe805;have hv805_0:=hcc805 0 _ rfl;rw[Nat.add_zero,show((Kd.slice 3 (Kd.int .i64))).sz=1 from rfl,Nat.mul_one]at hv805_0;replace hv805_0:=Option.some.inj (hv805_0.symm.trans iK)
      injection hv805_0 with hva_ hvn_ hvc_
      rw[hva_]at ge805_0;rw[hvc_]at ul805_0;have HL805_0:=Za.mk (show Kd.V (Kd.int .i64) 3 _ w.heap.size _ _ (Zb3 dO bi)from Kd.V_mk ul805_0 ge805_0);clear hva_ hvn_ hvc_ ge805_0 ul805_0 hcc805 hce805;have fe:=Za.mk kF;have qw:=Za.mk kJ;clear kF kJ;replace l6:=eq_true l6;replace l7:=eq_true l7;have xg:0≤((jE):Int):=odt;have xk:(jE)<(dO.length:Int):=odt;obtain⟨L6,yh,ym,Ox,qJ,vH,uV⟩:=Zew (Kd.Za3 dD.out).2.2 (jE) xg xk;obtain rfl:jR=L6:=(by injection Ox);obtain⟨ce807,hce807,hMe807,hcc807⟩:=Kd.Zhu dD.out [] (jE) xg (by first|exact xk|exact odt|(have e_:=(Kd.Za3 dD.out).1;omega));obtain⟨ua807_0,uc807_0,rfl,ul807_0,ge807_0⟩:=Kd.Zdb hMe807;have hv807_0:=hcc807 0 _ rfl;rw[Nat.add_zero,show((Kd.slice 3 (Kd.int .i64))).sz=1 from rfl,Nat.mul_one]at hv807_0;replace hv807_0:=Option.some.inj (hv807_0.symm.trans qJ)
      injection hv807_0 with hva_ hvn_ hvc_
      rw[hva_]at ge807_0;rw[hvc_]at ul807_0;have HL807_0:=Za.mk (show Kd.V (Kd.int .i64) 3 _ w.heap.size _ _ (Zb3 dO (jE))from Kd.V_mk ul807_0 ge807_0);clear hva_ hvn_ hvc_ ge807_0 ul807_0 hcc807 hce807;have jc:=Za.mk uV;have EG:=Za.mk vH;clear uV vH;replace xg:=eq_true xg;replace xk:=eq_true xk;have xh:0≤(bi:Int):=odt;have xm:bi<(dO.length:Int):=odt;obtain⟨L8,U2,UK,Oy,nO,vI,uW⟩:=Zew (Kd.Za3 dD.out).2.2 bi xh xm;obtain rfl:jR=L8:=(by injection Oy);have LV:=Option.some.inj (iK.symm.trans nO)
      injection LV with ea_ en_ ec_
      subst ea_;subst ec_;clear en_;obtain⟨ce808,hce808,hMe808,hcc808⟩:=Kd.Zhu dD.out [] bi xh (by first|exact xm|exact odt|(have e_:=(Kd.Za3 dD.out).1;omega));obtain⟨ua808_0,uc808_0,rfl,ul808_0,ge808_0⟩:=Kd.Zdb hMe808;have hv808_0:=hcc808 0 _ rfl;rw[Nat.add_zero,show((Kd.slice 3 (Kd.int .i64))).sz=1 from rfl,Nat.mul_one]at hv808_0;replace hv808_0:=Option.some.inj (hv808_0.symm.trans nO)
      injection hv808_0 with hva_ hvn_ hvc_
      rw[hva_]at ge808_0;rw[hvc_]at ul808_0;have HL808_0:=Za.mk (show Kd.V (Kd.int .i64) 3 _ w.heap.size _ _ (Zb3 dO bi)from Kd.V_mk ul808_0 ge808_0);clear hva_ hvn_ hvc_ ge808_0 ul808_0 hcc808 hce808;have jd:=Za.mk uW;have EH:=Za.mk vI;clear uW vI;replace xh:=eq_true xh;replace xm:=eq_true xm;refine Ze7 (n:=24) (S:=fun w'=>w'.cell? ⟨aM,0,none⟩=some (.slice eX df.length eU)∧w'.cell? ⟨aM,1,none⟩=some (.slice bY dQ.length bW)∧w'.cell? ⟨aM,2,none⟩=some (.int .i64 fw)∧w'.cell? ⟨aM,3,none⟩=some (.slice bQ dB.length bN)∧w'.cell? ⟨aM,4,none⟩=some (.slice dH dF.length dE)∧w'.cell? (jR.add (bi).toNat)=some (.slice jv (Zb3 dO bi).length jw)∧w'.cell? (jR.add ((jE)).toNat)=some (.slice yh (Zb3 dO (jE)).length ym)∧w'.cell? (jR.add (bi).toNat)=some (.slice jv (Zb3 dO bi).length jw)) (ds:= []) #[false,false,false,false,false,false,false,false,false,false,false,false,false,false,false,false,false,false,false,false,false,false,false,false] (by kernel_rfl) rfl rfl ⟨bc aH.out 0,bc aH.out 1,bc aH.out 2,bc aH.out 3,bc aH.out 4,iK,qJ,nO⟩ (fun hHeld=> ?_);refine Zdy Zag.tab17 Zag.Zh2 (fun HT_ HW_=> ?_)
      generalize wr.drew=w41 at dD fP bF bG bB bD aH HB HL805_0 HL807_0 HL808_0 fe jc jd iK qJ nO hHeld ⊢
      refine pu HT_ 1 56 ?_;refine pu HT_ 2 57 ?_;refine pu HT_ 3 58 ?_;refine tk HT_ HW_ hHeld 0 55 ?_;refine tk HT_ HW_ hHeld 4 59 ?_;refine on1 HT_ 5 60 (fun K hK=> ?_);refine gs Tryz.func15 #[.agg #[.slice eX df.length eU,.slice bY dQ.length bW,.int .i64 fw,.slice bQ dB.length bN,.slice dH dF.length dE],.slice jv (Zb3 dO bi).length jw] ?_
      with_reducible refine(Zau.calls k2 _ _ df _ _ dQ fw _ _ dB _ _ dF _ _ (Zb3 dO bi) true _ (cM ((Kd.Za3 bF.out).2.2)) ((Kd.Za3 bF.out).2.1) (cM ((Kd.Za3 bG.out).2.2)) ((Kd.Za3 bG.out).2.1) (cM ((Kd.Zan bB.out).2.2)) ((Kd.Zan bB.out).2.1) (cM ((Kd.Zan bD.out).2.2)) ((Kd.Zan bD.out).2.1) ?side9 ?side10 A31.out).mono ?_
      (case side9=>repeat(first|exact(by repeat(first|(with_reducible exact fe.out)|(with_reducible refine Kd.C_alloc ?_ _)|(with_reducible refine Kd.Zbt ?_ _)|(with_reducible refine Kd.Zb4 ?_)|exact fe.out))|(with_reducible refine Kd.C_alloc ?_ _)|(with_reducible refine Kd.Zbt ?_ _)|(with_reducible refine Kd.Zb4 ?_)))
      (case side10=>exact qw.out)
      rintro e w42 ⟨rfl,hb⟩;have zG:=(hb.cell (World.block_lt_of_cell? _ _ (hHeld.2.2.2.2.2.1))).trans (hHeld.2.2.2.2.2.1);have Oe:=(hb.cell (World.block_lt_of_cell? _ _ (hHeld.2.2.2.2.2.2.1))).trans (hHeld.2.2.2.2.2.2.1);have Og:=(hb.cell (World.block_lt_of_cell? _ _ (hHeld.2.2.2.2.2.2.2))).trans (hHeld.2.2.2.2.2.2.2);refine⟨_,rfl,?_⟩;replace dD:=Za.mk (Kd.Zcm (nM dD.out) hb);replace fP:=Za.mk (Kd.Zb6 (rM fP.out) hb);replace bF:=Za.mk (Kd.Zcm (nM bF.out) hb);replace bG:=Za.mk (Kd.Zcm (nM bG.out) hb);replace bB:=Za.mk (Kd.Zb6 (rM bB.out) hb);replace bD:=Za.mk (Kd.Zb6 (rM bD.out) hb);replace HL805_0:=Za.mk (Kd.Zg0 (vM HL805_0.out) hb);replace aH:=Za.mk (kB aH.out hb);replace fe:=Za.mk (Kd.Zac (by repeat(first|(with_reducible exact fe.out)|(with_reducible refine Kd.C_alloc ?_ _)|(with_reducible refine Kd.Zbt ?_ _)|(with_reducible refine Kd.Zb4 ?_)|exact fe.out)) hb)
      (try replace jc:=Za.mk (Kd.Zac jc.out hb))
      (try replace jd:=Za.mk (Kd.Zac jd.out hb))
      replace HB:=Za.mk (bS HB.out hb)
      (try clear hb)
      (try clear hb2)
      (try clear hk)
      (try clear hi)
      refine hK.out _ _ ⟨bc aH.out 0,bc aH.out 1,bc aH.out 2,bc aH.out 3,bc aH.out 4,zG,Oe,Og⟩ (fun hHeld=> ?_);clear hK K;refine nmp 60 ?_;refine pu HT_ 6 61 ?_;refine pu HT_ 7 62 ?_;refine pu HT_ 8 63 ?_;refine pu HT_ 9 64 ?_;refine pu HT_ 10 65 ?_;refine pu HT_ 11 66 ?_;refine pu HT_ 12 67 ?_;refine pu HT_ 13 68 ?_;refine pu HT_ 14 69 ?_;refine pu HT_ 16 71 ?_;refine pu HT_ 17 72 ?_;refine pu HT_ 18 73 ?_;refine tk HT_ HW_ hHeld 15 70 ?_;refine tk HT_ HW_ hHeld 19 74 ?_;refine on1 HT_ 20 75 (fun K hK=> ?_);refine goes_ Tryz.func26 (by kernel_rfl) rfl #[.slice yh (Zb3 dO (jE)).length ym,.slice jv (Zb3 dO bi).length jw] (by rfl) rfl rfl (by(try simp only[List.map_toArray,List.map_cons,List.map_nil]);first|done|(simp only[hji34];rfl)|rfl|(simp only[List.length_drop,List.length_take];rfl)) ?_
      with_reducible refine(Zbj.calls k2 _ _ (Zb3 dO (jE)) _ _ (Zb3 dO bi) true _ ?side1 ?side2 ?side3 ?side4 A37.out).mono ?_
      (case side1=>repeat(first|exact(by repeat(first|(with_reducible exact jc.out)|(with_reducible refine Kd.C_alloc ?_ _)|(with_reducible refine Kd.Zbt ?_ _)|(with_reducible refine Kd.Zb4 ?_)|exact jc.out))|(with_reducible refine Kd.C_alloc ?_ _)|(with_reducible refine Kd.Zbt ?_ _)|(with_reducible refine Kd.Zb4 ?_)))
      (case side2=>exact EG.out)
      (case side3=>repeat(first|exact(by repeat(first|(with_reducible exact jd.out)|(with_reducible refine Kd.C_alloc ?_ _)|(with_reducible refine Kd.Zbt ?_ _)|(with_reducible refine Kd.Zb4 ?_)|exact jd.out))|(with_reducible refine Kd.C_alloc ?_ _)|(with_reducible refine Kd.Zbt ?_ _)|(with_reducible refine Kd.Zb4 ?_)))
      (case side4=>exact EH.out)
      rintro e w' ⟨rfl,⟨nd,rfl⟩⟩;refine⟨_,rfl,?_⟩;refine hK.out _ _ ⟨bc aH.out 0,bc aH.out 1,bc aH.out 2,bc aH.out 3,bc aH.out 4,hHeld.2.2.2.2.2.1,hHeld.2.2.2.2.2.2.1,hHeld.2.2.2.2.2.2.2⟩ (fun hHeld=> ?_);clear hK K;refine nmp 75 ?_;refine pu HT_ 21 76 ?_;refine pu HT_ 22 77 ?_;refine pu HT_ 23 78 ?_;refine Zgg (Zen HT_.out (by kernel_rfl)) ?_;try go_wp2
      go_roundg k2
      case measure=>have:=HK1.out;have:=HK2.out;omega
      case rel=>exact⟨(true),(wrap64 (bi+1)),eS,eS,H',⟨by have:=HK1.out;have:=HK2.out;omega⟩,⟨nM dD.out⟩,⟨rM fP.out⟩,⟨nM bF.out⟩,⟨nM bG.out⟩,⟨rM bB.out⟩,⟨rM bD.out⟩,⟨kM aH.out⟩,⟨bM HB.out⟩⟩
     replace c39:=Bool.eq_false_iff.mpr c39;subst c39;replace H:=ifF H;obtain⟨Fq,A43,H⟩:=bnd H;try dsimp only at H
     have H':=Za.mk H;clear H;obtain⟨NR,Ol,O8⟩:=Kd.Zcu dD.out;subst O8;try go_wp2
     replace dD:=Za.mk (Kd.Zef dD.out);replace fP:=Za.mk (Kd.Zel fP.out);replace bF:=Za.mk (Kd.Zef bF.out);replace bG:=Za.mk (Kd.Zef bG.out);replace bB:=Za.mk (Kd.Zel bB.out);replace bD:=Za.mk (Kd.Zel bD.out);replace aH:=Za.mk (Zai aH.out);replace HB:=Za.mk (Zcs HB.out);have l6:0≤(bi:Int):=odt;have l7:bi<(dO.length:Int):=odt;obtain⟨jR,jv,jw,rfl,iK,kJ,kF⟩:=Zew (Kd.Za3 dD.out).2.2 bi l6 l7;obtain⟨ce805,hce805,hMe805,hcc805⟩:=Kd.Zhu dD.out [] bi l6 (by first|exact l7|exact odt|(have e_:=(Kd.Za3 dD.out).1;omega));obtain⟨ua805_0,uc805_0,rfl,ul805_0,ge805_0⟩:=Kd.Zdb hMe805;have hv805_0:=hcc805 0 _ rfl;rw[Nat.add_zero,show((Kd.slice 3 (Kd.int .i64))).sz=1 from rfl,Nat.mul_one]at hv805_0;replace hv805_0:=Option.some.inj (hv805_0.symm.trans iK)
     injection hv805_0 with hva_ hvn_ hvc_
     rw[hva_]at ge805_0;rw[hvc_]at ul805_0;have HL805_0:=Za.mk (show Kd.V (Kd.int .i64) 3 _ w.heap.size _ _ (Zb3 dO bi)from Kd.V_mk ul805_0 ge805_0);clear hva_ hvn_ hvc_ ge805_0 ul805_0 hcc805 hce805;have fe:=Za.mk kF;have qw:=Za.mk kJ;clear kF kJ;replace l6:=eq_true l6;replace l7:=eq_true l7;have xg:0≤((jE):Int):=odt;have xk:(jE)<(dO.length:Int):=odt;obtain⟨L6,yh,ym,Ox,qJ,vH,uV⟩:=Zew (Kd.Za3 dD.out).2.2 (jE) xg xk;obtain rfl:jR=L6:=(by injection Ox);obtain⟨ce807,hce807,hMe807,hcc807⟩:=Kd.Zhu dD.out [] (jE) xg (by first|exact xk|exact odt|(have e_:=(Kd.Za3 dD.out).1;omega));obtain⟨ua807_0,uc807_0,rfl,ul807_0,ge807_0⟩:=Kd.Zdb hMe807;have hv807_0:=hcc807 0 _ rfl;rw[Nat.add_zero,show((Kd.slice 3 (Kd.int .i64))).sz=1 from rfl,Nat.mul_one]at hv807_0;replace hv807_0:=Option.some.inj (hv807_0.symm.trans qJ)
     injection hv807_0 with hva_ hvn_ hvc_
     rw[hva_]at ge807_0;rw[hvc_]at ul807_0;have HL807_0:=Za.mk (show Kd.V (Kd.int .i64) 3 _ w.heap.size _ _ (Zb3 dO (jE))from Kd.V_mk ul807_0 ge807_0);clear hva_ hvn_ hvc_ ge807_0 ul807_0 hcc807 hce807;have jc:=Za.mk uV;have EG:=Za.mk vH;clear uV vH;replace xg:=eq_true xg;replace xk:=eq_true xk;have xh:0≤(bi:Int):=odt;have xm:bi<(dO.length:Int):=odt;obtain⟨L8,U2,UK,Oy,nO,vI,uW⟩:=Zew (Kd.Za3 dD.out).2.2 bi xh xm;obtain rfl:jR=L8:=(by injection Oy);have LV:=Option.some.inj (iK.symm.trans nO)
     injection LV with ea_ en_ ec_
     subst ea_;subst ec_;clear en_;obtain⟨ce808,hce808,hMe808,hcc808⟩:=Kd.Zhu dD.out [] bi xh (by first|exact xm|exact odt|(have e_:=(Kd.Za3 dD.out).1;omega));obtain⟨ua808_0,uc808_0,rfl,ul808_0,ge808_0⟩:=Kd.Zdb hMe808;have hv808_0:=hcc808 0 _ rfl;rw[Nat.add_zero,show((Kd.slice 3 (Kd.int .i64))).sz=1 from rfl,Nat.mul_one]at hv808_0;replace hv808_0:=Option.some.inj (hv808_0.symm.trans nO)
     injection hv808_0 with hva_ hvn_ hvc_
     rw[hva_]at ge808_0;rw[hvc_]at ul808_0;have HL808_0:=Za.mk (show Kd.V (Kd.int .i64) 3 _ w.heap.size _ _ (Zb3 dO bi)from Kd.V_mk ul808_0 ge808_0);clear hva_ hvn_ hvc_ ge808_0 ul808_0 hcc808 hce808;have jd:=Za.mk uW;have EH:=Za.mk vI;clear uW vI;replace xh:=eq_true xh;replace xm:=eq_true xm;refine Ze7 (n:=24) (S:=fun w'=>w'.cell? ⟨aM,0,none⟩=some (.slice eX df.length eU)∧w'.cell? ⟨aM,1,none⟩=some (.slice bY dQ.length bW)∧w'.cell? ⟨aM,2,none⟩=some (.int .i64 fw)∧w'.cell? ⟨aM,3,none⟩=some (.slice bQ dB.length bN)∧w'.cell? ⟨aM,4,none⟩=some (.slice dH dF.length dE)∧w'.cell? (jR.add (bi).toNat)=some (.slice jv (Zb3 dO bi).length jw)∧w'.cell? (jR.add ((jE)).toNat)=some (.slice yh (Zb3 dO (jE)).length ym)∧w'.cell? (jR.add (bi).toNat)=some (.slice jv (Zb3 dO bi).length jw)) (ds:= []) #[false,false,false,false,false,false,false,false,false,false,false,false,false,false,false,false,false,false,false,false,false,false,false,false] (by kernel_rfl) rfl rfl ⟨bc aH.out 0,bc aH.out 1,bc aH.out 2,bc aH.out 3,bc aH.out 4,iK,qJ,nO⟩ (fun hHeld=> ?_);refine Zdy Zag.tab17 Zag.Zh2 (fun HT_ HW_=> ?_)
     generalize wr.drew=w45 at dD fP bF bG bB bD aH HB HL805_0 HL807_0 HL808_0 fe jc jd iK qJ nO hHeld ⊢
     refine pu HT_ 1 56 ?_;refine pu HT_ 2 57 ?_;refine pu HT_ 3 58 ?_;refine tk HT_ HW_ hHeld 0 55 ?_;refine tk HT_ HW_ hHeld 4 59 ?_;refine on1 HT_ 5 60 (fun K hK=> ?_);refine gs Tryz.func15 #[.agg #[.slice eX df.length eU,.slice bY dQ.length bW,.int .i64 fw,.slice bQ dB.length bN,.slice dH dF.length dE],.slice jv (Zb3 dO bi).length jw] ?_
     with_reducible refine(Zau.calls k2 _ _ df _ _ dQ fw _ _ dB _ _ dF _ _ (Zb3 dO bi) true _ (cM ((Kd.Za3 bF.out).2.2)) ((Kd.Za3 bF.out).2.1) (cM ((Kd.Za3 bG.out).2.2)) ((Kd.Za3 bG.out).2.1) (cM ((Kd.Zan bB.out).2.2)) ((Kd.Zan bB.out).2.1) (cM ((Kd.Zan bD.out).2.2)) ((Kd.Zan bD.out).2.1) ?side9 ?side10 A31.out).mono ?_
     (case side9=>repeat(first|exact(by repeat(first|(with_reducible exact fe.out)|(with_reducible refine Kd.C_alloc ?_ _)|(with_reducible refine Kd.Zbt ?_ _)|(with_reducible refine Kd.Zb4 ?_)|exact fe.out))|(with_reducible refine Kd.C_alloc ?_ _)|(with_reducible refine Kd.Zbt ?_ _)|(with_reducible refine Kd.Zb4 ?_)))
     (case side10=>exact qw.out)
     rintro e w46 ⟨rfl,hb⟩;have zG:=(hb.cell (World.block_lt_of_cell? _ _ (hHeld.2.2.2.2.2.1))).trans (hHeld.2.2.2.2.2.1);have Oe:=(hb.cell (World.block_lt_of_cell? _ _ (hHeld.2.2.2.2.2.2.1))).trans (hHeld.2.2.2.2.2.2.1);have Og:=(hb.cell (World.block_lt_of_cell? _ _ (hHeld.2.2.2.2.2.2.2))).trans (hHeld.2.2.2.2.2.2.2);refine⟨_,rfl,?_⟩;replace dD:=Za.mk (Kd.Zcm (nM dD.out) hb);replace fP:=Za.mk (Kd.Zb6 (rM fP.out) hb);replace bF:=Za.mk (Kd.Zcm (nM bF.out) hb);replace bG:=Za.mk (Kd.Zcm (nM bG.out) hb);replace bB:=Za.mk (Kd.Zb6 (rM bB.out) hb);replace bD:=Za.mk (Kd.Zb6 (rM bD.out) hb);replace HL805_0:=Za.mk (Kd.Zg0 (vM HL805_0.out) hb);replace aH:=Za.mk (kB aH.out hb);replace fe:=Za.mk (Kd.Zac (by repeat(first|(with_reducible exact fe.out)|(with_reducible refine Kd.C_alloc ?_ _)|(with_reducible refine Kd.Zbt ?_ _)|(with_reducible refine Kd.Zb4 ?_)|exact fe.out)) hb)
     (try replace jc:=Za.mk (Kd.Zac jc.out hb))
     (try replace jd:=Za.mk (Kd.Zac jd.out hb))
     replace HB:=Za.mk (bS HB.out hb)
     (try clear hb)
     (try clear hb2)
     (try clear hk)
     (try clear hi)
     refine hK.out _ _ ⟨bc aH.out 0,bc aH.out 1,bc aH.out 2,bc aH.out 3,bc aH.out 4,zG,Oe,Og⟩ (fun hHeld=> ?_);clear hK K;refine nmp 60 ?_;refine pu HT_ 6 61 ?_;refine pu HT_ 7 62 ?_;refine pu HT_ 8 63 ?_;refine pu HT_ 9 64 ?_;refine pu HT_ 10 65 ?_;refine pu HT_ 11 66 ?_;refine pu HT_ 12 67 ?_;refine pu HT_ 13 68 ?_;refine pu HT_ 14 69 ?_;refine pu HT_ 16 71 ?_;refine pu HT_ 17 72 ?_;refine pu HT_ 18 73 ?_;refine tk HT_ HW_ hHeld 15 70 ?_;refine tk HT_ HW_ hHeld 19 74 ?_;refine on1 HT_ 20 75 (fun K hK=> ?_);refine goes_ Tryz.func26 (by kernel_rfl) rfl #[.slice yh (Zb3 dO (jE)).length ym,.slice jv (Zb3 dO bi).length jw] (by rfl) rfl rfl (by(try simp only[List.map_toArray,List.map_cons,List.map_nil]);first|done|(simp only[hji34];rfl)|rfl|(simp only[List.length_drop,List.length_take];rfl)) ?_
     with_reducible refine(Zbj.calls k2 _ _ (Zb3 dO (jE)) _ _ (Zb3 dO bi) true _ ?side1 ?side2 ?side3 ?side4 A37.out).mono ?_
     (case side1=>repeat(first|exact(by repeat(first|(with_reducible exact jc.out)|(with_reducible refine Kd.C_alloc ?_ _)|(with_reducible refine Kd.Zbt ?_ _)|(with_reducible refine Kd.Zb4 ?_)|exact jc.out))|(with_reducible refine Kd.C_alloc ?_ _)|(with_reducible refine Kd.Zbt ?_ _)|(with_reducible refine Kd.Zb4 ?_)))
     (case side2=>exact EG.out)
     (case side3=>repeat(first|exact(by repeat(first|(with_reducible exact jd.out)|(with_reducible refine Kd.C_alloc ?_ _)|(with_reducible refine Kd.Zbt ?_ _)|(with_reducible refine Kd.Zb4 ?_)|exact jd.out))|(with_reducible refine Kd.C_alloc ?_ _)|(with_reducible refine Kd.Zbt ?_ _)|(with_reducible refine Kd.Zb4 ?_)))
     (case side4=>exact EH.out)
     rintro e w' ⟨rfl,⟨nd,rfl⟩⟩;refine⟨_,rfl,?_⟩;refine hK.out _ _ ⟨bc aH.out 0,bc aH.out 1,bc aH.out 2,bc aH.out 3,bc aH.out 4,hHeld.2.2.2.2.2.1,hHeld.2.2.2.2.2.2.1,hHeld.2.2.2.2.2.2.2⟩ (fun hHeld=> ?_);clear hK K;refine nmp 75 ?_;refine pu HT_ 21 76 ?_;refine pu HT_ 22 77 ?_;refine pu HT_ 23 78 ?_;refine Zgg (Zen HT_.out (by kernel_rfl)) ?_;have Mi:0≤(bi:Int):=odt;have Mm:bi<(dO.length:Int):=odt;obtain⟨XQ,eya,e2a,cCa,JY,J7,Ju⟩:=Zew (Kd.Za3 dD.out).2.2 bi Mi Mm;obtain rfl:jR=XQ:=(by injection cCa);obtain⟨ce810,hce810,hMe810,hcc810⟩:=Kd.Zhu dD.out [] bi Mi (by first|exact Mm|exact odt|(have e_:=(Kd.Za3 dD.out).1;omega));obtain⟨ua810_0,uc810_0,rfl,ul810_0,ge810_0⟩:=Kd.Zdb hMe810;have hv810_0:=hcc810 0 _ rfl;rw[Nat.add_zero,show((Kd.slice 3 (Kd.int .i64))).sz=1 from rfl,Nat.mul_one]at hv810_0;replace hv810_0:=Option.some.inj (hv810_0.symm.trans JY)
     injection hv810_0 with hva_ hvn_ hvc_
     rw[hva_]at ge810_0;rw[hvc_]at ul810_0;have HL810_0:=Za.mk (show Kd.V (Kd.int .i64) 3 _ w.heap.size _ _ (Zb3 dO bi)from Kd.V_mk ul810_0 ge810_0);clear hva_ hvn_ hvc_ ge810_0 ul810_0 hcc810 hce810;have Jk:=Za.mk Ju;have TD:=Za.mk J7;clear Ju J7;replace Mi:=eq_true Mi;replace Mm:=eq_true Mm;have ea_:=Option.some.inj (hHeld.2.2.2.2.2.2.2.symm.trans JY)
     injection ea_ with ea_ en_ ec_
     subst ea_;subst ec_;clear en_;obtain⟨NS,Om,Hd⟩:=Kd.Zbe fP.out;subst Hd;try go_wp2_with (first|(go_at_call 27;(with_reducible refine(Zas.calls k2 _ _ (Zb3 dO bi) _ _ fu Fq _ ?side1 ?side2 ?side3 ?side4 A43.out).mono ?_);(case side1=>repeat(first|exact(by repeat(first|(with_reducible exact Jk.out)|(with_reducible refine Kd.C_alloc ?_ _)|(with_reducible refine Kd.Zbt ?_ _)|(with_reducible refine Kd.Zb4 ?_)|exact Jk.out))|(with_reducible refine Kd.C_alloc ?_ _)|(with_reducible refine Kd.Zbt ?_ _)|(with_reducible refine Kd.Zb4 ?_)));(case side2=>exact TD.out);(case side3=>repeat(first|exact(Kd.Zan fP.out).2.2|(with_reducible refine Kd.C_alloc ?_ _)|(with_reducible refine Kd.Zbt ?_ _)|(with_reducible refine Kd.Zb4 ?_)));(case side4=>exact(Kd.Zan fP.out).2.1);rintro e w' ⟨rfl,⟨nd,rfl⟩⟩))
     go_roundg k2
     case measure=>have:=HK1.out;have:=HK2.out;omega
     case rel=>exact⟨(Fq),(wrap64 (bi+1)),eS,eS,H',⟨by have:=HK1.out;have:=HK2.out;omega⟩,⟨nM dD.out⟩,⟨rM fP.out⟩,⟨nM bF.out⟩,⟨nM bG.out⟩,⟨rM bB.out⟩,⟨rM bD.out⟩,⟨kM aH.out⟩,⟨bM HB.out⟩⟩
end Go.Proofs.YtdpieallpbllkaaGreat.P
/- secateurlaw06.MeaningWhole: the lists that meaning.All gives solve, stand in order, and are all that solve. -/
namespace Go.Proofs.YtdpieallpbllkaaGreat.P
open Go.RowKit Go.Proofs.YtdpieallpbllkaaGreatW.PrintWords Go.Proofs.YtdpieallpbllkaaGreatW.PrintLast Go.Proofs.YtdpieallpbllkaaGreatW.PrintMore
theorem ordV_lex : ∀ {a b : List Int}, lexL a b → ordV a b = -1
  | [], [], h => h.elim
  | [], _ :: _, _ => rfl
  | _ :: _, [], h => h.elim
  |x::a,y::b,h=>by
    rw[ordV]
    rcases h with h|⟨h,h2⟩
    · rw[if_pos h]
    rw[if_neg (by omega),if_neg (by omega)];exact ordV_lex h2
theorem ahead_ev (a b:List Int) (ha:a.length≤1000000):Ev (fun k=>Zbj.f k a b) (decide (ordV a b<0)):=by
  unfold Zbj.f;exact Ev.bind (cmp_ev a b ha) (Ev.const rfl)
section
variable {V:List S55} {C:List S36} {gk:Int} {gv gc:List Int}
theorem sols_mem (x:List Int):((solsV V C).any fun a=>decide (a=x))=solB V C x:=by
  rw[Bool.eq_iff_iff,List.any_eq_true]
  constructor
  · rintro ⟨a, ha, e⟩
    rw[←of_decide_eq_true e];exact(List.mem_filter.1 ha).2
  intro h;refine⟨x,List.mem_filter.2 ⟨?_,h⟩,decide_eq_true rfl⟩;unfold solB at h;rw[Bool.and_eq_true]at h;exact mem_prV.2 (Zgu.1 h.1)
theorem Zhd (hc : ∀ c ∈ C, conC (domsOf V) c = 0) (hg : GdS (domsOf V)) (hvl : V.length ≤ 1000000) (hL : (solsV V C).length ≤ 1000000) (cs : ∀ c ∈ C, c.f1.length ≤ 14 ∧ c.f2.length ≤ 14 ∧ c.f5.length ≤ 20 ∧ ∀ r ∈ c.f5, r.length ≤ 14) (x : List Int) :
    ∀(d i:Nat) (am:Bool),i+d=(solsV V C).length→am=((solsV V C).take i).any (fun a=>decide (a=x))→Ev (fun k=>Zag.l1 k (solsV V C) x am (i:Int) V C gk gv gc) true
  |0,i,am,h,ha=>by
    rw[List.take_of_length_le (by omega),sols_mem]at ha;subst ha;refine Ev.step (fun k=>by rw[Zag.l1,if_neg (by omega)]) (Ev.bind (Zho hc (fun d q=>(hg d q).1) cs x) ?_);exact Ev.Zak (by simp) (Ev.bind Zh5 (Ev.const rfl))
  |d+1,i,am,h,ha=>by
    have hi:i<(solsV V C).length:=by omega
    have er:Zb3 (solsV V C) (i:Int)=(solsV V C)[i]:=rdL_n2 _ i hi;have hm:=List.mem_filter.1 (List.getElem_mem hi)
    have hlen:∀a ∈ solsV V C,a.length≤1000000:=fun a q=>by
      have:=(mem_prV.1 (List.mem_filter.1 q).1).len;rw[this,Zey];exact hvl
    have hsol:=Zho (gk:=gk) (gv:=gv) (gc:=gc) hc (fun d q=>(hg d q).1) cs (solsV V C)[i];rw[hm.2]at hsol
    have tail:Ev (fun k=>if am=true then Zag.l1 k (solsV V C) x true (wrap64 ((i:Int)+1)) V C gk gv gc else(Zas.f k (Zb3 (solsV V C) (i:Int)) x).bind fun t=>Zag.l1 k (solsV V C) x t (wrap64 ((i:Int)+1)) V C gk gv gc) true:=by
      rw[w1 (by omega),er]
      cases am with
      |true=>
        refine Ev.Zak rfl (Zhd hc hg hvl hL cs x d (i+1) true (by omega) ?_);rw[List.take_succ_eq_append_getElem hi,List.any_append,←ha,Bool.true_or]
      |false=>
        refine Ev.Zat (by decide) (Ev.bind (ref_Nums _ x (by have:=hlen _ (List.getElem_mem hi);omega)) (Zhd hc hg hvl hL cs x d (i+1) _ (by omega) ?_));rw[List.take_succ_eq_append_getElem hi,List.any_append,←ha,Bool.false_or]
        simp
    refine Ev.step (fun k=>by rw[Zag.l1,if_pos (by omega),if_pos (by omega),er]) (Ev.bind hsol (Ev.Zak rfl ?_));rw[er]at tail;by_cases q:i=0
    · exact Ev.Zat (by omega) tail
    have hw:wrap64 ((i:Int) - 1)=((i - 1:Nat):Int):=by rw[w64 (by omega) (by omega)];omega
    have hi1:i - 1<(solsV V C).length:=by omega
    have er1:Zb3 (solsV V C) ((i - 1:Nat):Int)=(solsV V C)[i - 1]:=rdL_n2 _ _ hi1;have hp:(solsV V C).Pairwise lexL:=(prV_lex hg).filter _;have hlx:=List.pairwise_iff_getElem.1 hp (i - 1) i hi1 hi (by omega);have hA:=ahead_ev (solsV V C)[i - 1] (solsV V C)[i] (hlen _ (List.getElem_mem hi1));rw[ordV_lex hlx]at hA;rw[hw,er1];exact Ev.Zak (by omega) (Ev.Zak (by omega) (Ev.Zak (by omega) (Ev.bind hA (Ev.Zak (by decide) tail))))
theorem mwhole_l0 (hc : ∀ c ∈ C, conC (domsOf V) c = 0) (hg : GdS (domsOf V)) (hvl : V.length ≤ 1000000) (hL : (solsV V C).length ≤ 1000000) (cs : ∀ c ∈ C, c.f1.length ≤ 14 ∧ c.f2.length ≤ 14 ∧ c.f5.length ≤ 20 ∧ ∀ r ∈ c.f5, r.length ≤ 14) :
    ∀(d i:Nat) (acc:List Int),i+d=V.length→acc.length=i→Ev (fun k=>Zag.l0 k (solsV V C) acc (i:Int) V C gk gv gc) true
  |0,i,acc,h,ha=>by
    refine Ev.step (fun k=>by rw[Zag.l0,if_neg (by omega)]) ?_;exact Zhd hc hg hvl hL cs acc (solsV V C).length 0 false (by omega) rfl
  |d+1,i,acc,h,ha=>by
    refine Ev.step (fun k=>by rw[Zag.l0,if_pos (by omega),if_pos (by omega),w1 (by omega)]) ?_;exact mwhole_l0 hc hg hvl hL cs d (i+1) _ (by omega) (by rw[List.length_append,List.length_singleton,ha])
end
theorem mwhole_ev (x0:List S55) (x1:List S36) (x2:Int) (x3 x4:List Int) (ho:OkM (bV x0) (bC x1) x2 (x3.take 14) (x4.take 14)) (x5:List Int):Ev (fun k=>Zag.f k x0 x1 x2 x3 x4 x5) true:=by
  unfold Zag.f;refine Ev.bind (right6_ev x0 x1 x2 x3 x4 ho 2000 (by omega)) ?_
  cases q:rightM (bV x0) (bC x1) x2 (x3.take 14) (x4.take 14) 2000 with
  | false => exact Ev.Zat (by simp) (Ev.bind Zh5 (Ev.const rfl))
  |true=>
    unfold rightM at q;rw[Bool.and_eq_true,decide_eq_true_eq]at q;obtain⟨q,hs⟩:=q;obtain⟨a,h1,h2,h3⟩:=values6_ev x5;have hvs:=ho.vs;have hp:=prV_size (by omega) hs;have hf:(solsV (bV x0) (bC x1)).length≤(prV (domsOf (bV x0))).length:=List.length_filter_le _ _;refine Ev.Zak rfl (Ev.bind (all_ev ho q (smallG_le (by omega) hs)) (Ev.Zak rfl (Ev.bind h1 ?_)))
    have hm:mn (a.length:Int) ((bV x0).length:Int)=((min a.length (bV x0).length:Nat):Int):=by
      unfold mn
      split<;>omega
    rw[hm];refine Ev.Zak (by omega) (Ev.Zak (by omega) (Ev.bind (Ev.const rfl) ?_))
    have hl:(a.take ((min a.length (bV x0).length:Nat):Int).toNat).length=min a.length (bV x0).length:=by
      rw[List.length_take]
      omega
    rw[hl];exact mwhole_l0 (chkE_ok q) (chkE_V q) (by omega) (by omega) ho.cs ((bV x0).length - min a.length (bV x0).length) _ _ (by omega) hl
theorem Zgs (A0 : Option Addr) (c0 : Nat) (x0 : List S55) (A1 : Option Addr) (c1 : Nat) (x1 : List S36) (x2 : Int) (A3 : Option Addr) (c3 : Nat) (x3 : List Int) (A4 : Option Addr) (c4 : Nat) (x4 : List Int) (A5 : Option Addr) (c5 : Nat) (x5 : List Int) (W : World)
    (hC0:Kd.C k55 W A0 x0.length x0) (hc0:x0.length≤c0) (ok0:List.length x0*40≤140737488351232∧∀v ∈ x0,VarOk v) (hC1:Kd.C k36 W A1 x1.length x1) (hc1:x1.length≤c1) (ok1:List.length x1*104≤140737488351232∧∀c ∈ x1,ConOk c) (ok2:(Lit.int .i64 x2).wf=true)
    (hC3:Kd.C (Kd.int .i64) W A3 x3.length x3) (hc3:x3.length≤c3) (ok3:List.length x3*8≤140737488351232∧∀y ∈ x3,(Lit.int .i64 y).wf=true) (hC4:Kd.C (Kd.int .i64) W A4 x4.length x4) (hc4:x4.length≤c4) (ok4:List.length x4*8≤140737488351232∧∀y ∈ x4,(Lit.int .i64 y).wf=true)
    (hC5:Kd.C (Kd.int .i64) W A5 x5.length x5) (hc5:x5.length≤c5) (ok5:List.length x5*8≤140737488351232∧∀y ∈ x5,(Lit.int .i64 y).wf=true):
    Calls Tryz.prog 5 #[.agg #[.slice A0 x0.length c0,.slice A1 x1.length c1,.int .i64 x2,.slice A3 x3.length c3,.slice A4 x4.length c4],.slice A5 x5.length c5] W fun e W'=>e= .returned (.bool true)∧Below W.heap.size W W':=by
  have ho:=okM_bound x0 x1 x2 x3 x4 ok1.2 ok4.2;obtain⟨k,hk⟩:=(mwhole_ev x0 x1 x2 x3 x4 ho x5).out;exact Zag.calls k A0 c0 x0 A1 c1 x1 x2 A3 c3 x3 A4 c4 x4 A5 c5 x5 true W hC0 hc0 hC1 hc1 hC3 hc3 hC4 hc4 hC5 hc5 hk
end Go.Proofs.YtdpieallpbllkaaGreat.P
/- What a datum of a statement's arguments holds: a number, a text, a row, a struct, whatever is nested: its cells read as a value of the kind; and how long its rows are at most (by the weight of the whole). -/
namespace Go.Proofs.YtdpieallpbllkaaGreat.P
open Go.RowKit Go.ChangeShapes Go.WideShapes Go.Proofs.YtdpieallpbllkaaGreatW.PrintWords
structure OpensZ {α : Type} (P : Program) (d : Kd α) (ok : α → Prop) (t : TypeId) : Prop where
  out : ∀ {H : Type} (enc : TypeId × Value → H) (w : World) (base : Nat) (sp : Nat → Bool) (held : Bool) (fuel : Nat) (cs : List Value) (x : DataW H × List MemPlace),
    DataW.trod enc P w base sp held fuel t cs=some x→(∀n ∈ x.1.weights P t,n≤reachBytes)→∃v:α,d.K w v cs∧ok v
theorem OpensZ.int {P:Program} {t:TypeId} {k:IntKind} (ht:P.underlying t=some (.int k)):OpensZ P (Kd.int k) (fun n=>(Lit.int k n).wf=true) t:=by
  refine⟨?_⟩;intro H enc w base sp held fuel cs x h hz;obtain⟨n,rfl,rfl,hw⟩:=DataW.trod_int ht h;exact⟨n,rfl,hw⟩
theorem OpensZ.bool {P:Program} {t:TypeId} (ht:P.underlying t=some .bool):OpensZ P Kd.bool (fun _=>True) t:=by
  refine⟨?_⟩;intro H enc w base sp held fuel cs x h hz;obtain⟨b,rfl,rfl⟩:=DataW.trod_bool ht h;exact⟨b,rfl,trivial⟩
theorem OpensZ.string {P:Program} {t:TypeId} (ht:P.underlying t=some .string):OpensZ P Kd.string (fun s=>s.size≤maxLen) t:=by
  refine⟨?_⟩;intro H enc w base sp held fuel cs x h hz;obtain⟨s,rfl,rfl,hs⟩:=DataW.trod_string ht h;exact⟨s,rfl,hs⟩
theorem OpensZ.iso {α β:Type} {P:Program} {d:Kd α} {ok:α→Prop} {t:TypeId} (h:OpensZ P d ok t) (f:β→α) (g:α→β) (hfg:∀a,f (g a)=a):OpensZ P (Kd.iso d f) (fun b=>ok (f b)) t:=by
  refine⟨?_⟩;intro H enc w base sp held fuel cs x hx hz;obtain⟨v,hK,hok⟩:=h.out enc w base sp held fuel cs x hx hz;exact⟨g v,by show d.K w (f (g v)) cs;rw[hfg];exact hK,by show ok (f (g v));rw[hfg];exact hok⟩
theorem Zf8 {H:Type} {P:Program} {t e:TypeId} (ht:P.underlying t=some (.slice e)) {el sp:List (DataW H)} :(DataW.slice el sp:DataW H).weights P t=(el.length+sp.length)*P.bytesOf e::(DataW.weightsAll P e el++DataW.weightsAll P e sp):=by simp[DataW.weights,ht]
theorem weights_agg {H:Type} {P:Program} {t:TypeId} {fs:Array Field} (ht:P.underlying t=some (.struct fs)) {ps:List (DataW H)} :(DataW.agg ps:DataW H).weights P t=DataW.weightsEach P (fs.toList.map (·.type)) ps:=by simp[DataW.weights,ht]
theorem Zfm {H : Type} {P : Program} {e : TypeId} {d : DataW H} : ∀ {l : List (DataW H)}, d ∈ l → ∀ {n : Nat}, n ∈ d.weights P e → n ∈ DataW.weightsAll P e l
  |x::l,hd,n,hn=>by
    simp only[DataW.weightsAll,List.mem_append]
    rcases List.mem_cons.1 hd with rfl|hd
    · exact .inl hn
    exact .inr (Zfm hd hn)
theorem choose_list {α:Type} {n:Nat} {R:Nat→α→Prop} (h:∀i,i<n→∃a,R i a):∃l:List α,l.length=n∧∀i (hi:i<l.length),R i l[i]:=by
  induction n with
  | zero => exact ⟨[], rfl, fun i hi => absurd hi (by simp)⟩
  |succ n ih=>
    obtain⟨l,hl,hR⟩:=ih (fun i hi=>h i (by omega));obtain⟨a,ha⟩:=h n (by omega);refine⟨l++ [a],by simp[hl],fun i hi=> ?_⟩
    rcases Nat.lt_or_ge i l.length with hlt|hge
    · rw [List.getElem_append_left hlt]
      exact hR i hlt
    have:i=l.length:=by simp at hi;omega
    subst this;rw[List.getElem_append_right (by omega)]
    simpa[hl] using ha
theorem addr_add (a:Addr) (i j:Nat):(a.add i).add j=a.add (i+j):=by
  by_cases h:i=0
  · subst h;simp[Addr.add]
  by_cases h2:j=0
  · subst h2;simp[Addr.add]
  simp[Addr.add,h,h2,Nat.add_assoc]
theorem OpensZ.row {α : Type} {P : Program} {d : Kd α} {ok : α → Prop} {t e : TypeId} {B : Nat} (ht : P.underlying t = some (.slice e)) (hc : P.cellsOf e = d.sz) (hB : P.bytesOf e = B) (h : OpensZ P d ok e) :
    OpensZ P (Kd.slice e d) (fun l=>l.length*B≤140737488351232∧∀x ∈ l,ok x) t:=by
  refine⟨?_⟩;intro H enc w base sp held fuel cs x hx hz
  rcases Go.Deep.open_slice ht hx with ⟨rfl,rfl⟩|⟨a,len,cap,m,n,D,Pl,rfl,hb,hl,hm,hmm,rfl,he⟩
  · exact⟨[],⟨none,0,rfl,Nat.le_refl _,rfl,by simp,fun h=>absurd h (by simp)⟩,by simp,fun x hx=>by simp at hx⟩
  have hlm:len≤m:=by rw[hmm];split<;>omega
  have each:∀i,i<len→∃v:α,ok v∧∃c,c.length=d.sz∧d.K w v c∧∀j u,c[j]? =some u→w.cell? (a.add (i*d.sz+j))=some u:=fun i hi=>by
    obtain⟨cs',h1,h2⟩:=he i (by omega)
    obtain ⟨v, hK, hok⟩ := h.out enc w base sp held n cs' _ h2 (fun q hq => hz q (by
      rw[Zf8 ht]
      refine List.mem_cons_of_mem _ (List.mem_append_left _ (Zfm (d := D i) (List.mem_map.2 ⟨i, List.mem_range.2 hi, rfl⟩) hq))))
    obtain⟨_,hlen,hcell⟩:=World.cells?_some h1;rw[hc]at hlen hcell;refine⟨v,hok,cs',hlen,hK,fun j u hu=> ?_⟩;have hj:j<d.sz:=by rw[←hlen];exact(List.getElem?_eq_some_iff.1 hu).1
    have:=hcell j hj;rw[hu]at this;rw[←this,addr_add]
  obtain⟨l,hll,hR⟩:=choose_list each;have hmax:cap≤9223372036854775807:=by unfold maxLen at hm;exact hm
  refine⟨l,⟨some a,cap,by rw[hll],by omega,rfl,by omega,fun _=>⟨a,rfl,fun j p hp=> ?_⟩⟩,?_,fun x hx=> ?_⟩
  · obtain ⟨hj, rfl⟩ := List.getElem?_eq_some_iff.1 hp
    obtain⟨_,c,h1,h2,h3⟩:=hR j hj;exact⟨c,h1,h2,h3⟩
  · have h3 := hz ((len + (m - len)) * P.bytesOf e) (by rw [Zf8 ht]; simp)
    rw[hB]at h3;rw[hll];exact Nat.le_trans (Nat.mul_le_mul_right _ (by omega)) h3
  obtain⟨i,hi,rfl⟩:=List.mem_iff_getElem.1 hx;exact(hR i hi).1
structure OpensZF {α : Type} (P : Program) (d : Kd α) (ok : α → Prop) (fs : List Field) (off : Nat) : Prop where
  out : ∀ {H : Type} (enc : TypeId × Value → H) (w : World) (base : Nat) (sp : Nat → Bool) (held : Bool) (fuel : Nat) (cs : List Value), cs.length = off + d.sz →
    (∀f ∈ fs,∃x,DataW.trod enc P w base sp held fuel f.type ((cs.drop f.offset).take (P.cellsOf f.type))=some x∧∀n ∈ x.1.weights P f.type,n≤reachBytes)→∃v:α,d.K w v (cs.drop off)∧ok v
theorem OpensZF.last {α:Type} {P:Program} {d:Kd α} {ok:α→Prop} {f:Field} {off:Nat} (ho:f.offset=off) (hc:P.cellsOf f.type=d.sz) (h:OpensZ P d ok f.type):OpensZF P d ok [f] off:=by
  refine⟨?_⟩;intro H enc w base sp held fuel cs hl hf;obtain⟨x,hx,hz⟩:=hf f (by simp);rw[ho,hc,List.take_of_length_le (by simp;omega)]at hx;exact h.out enc w base sp held fuel _ x hx hz
theorem OpensZF.cons {α β : Type} {P : Program} {d : Kd α} {ok : α → Prop} {d' : Kd β} {ok' : β → Prop} {f : Field} {fs : List Field} {off : Nat} (ho : f.offset = off) (hc : P.cellsOf f.type = d.sz) (h : OpensZ P d ok f.type) (h' : OpensZF P d' ok' fs (off + d.sz)) :
    OpensZF P (Kd.pair d d') (fun z=>ok z.1∧ok' z.2) (f::fs) off:=by
  refine⟨?_⟩;intro H enc w base sp held fuel cs hl hf;have hl':cs.length=off+(d.sz+d'.sz):=hl;obtain⟨x,hx,hz⟩:=hf f (by simp);obtain⟨v,hK,hok⟩:=h.out enc w base sp held fuel _ x hx hz;obtain⟨v',hK',hok'⟩:=h'.out enc w base sp held fuel cs (by omega) (fun g hg=>hf g (List.mem_cons_of_mem _ hg));rw[ho,hc]at hK;refine⟨(v,v'),⟨(cs.drop off).take d.sz,cs.drop (off+d.sz),?_,hK,hK'⟩,hok,hok'⟩;rw[←List.drop_drop,List.take_append_drop]
theorem OpensZ.struct {α:Type} {P:Program} {d:Kd α} {ok:α→Prop} {t:TypeId} {fs:List Field} (ht:P.underlying t=some (.struct fs.toArray)) (hc:P.cellsOf t=d.sz) (h:OpensZF P d ok fs 0):OpensZ P d ok t:=by
  refine⟨?_⟩;intro H enc w base sp held fuel cs x hx hz;obtain⟨xs,n,rfl,rfl,hl,hxl,hf⟩:=DataW.trod_struct ht hx
  have := h.out enc w base sp held n cs (by omega) (fun f hf' => by
    obtain⟨i,hi,rfl⟩:=List.mem_iff_getElem.1 hf';have:=hf i fs[i] (by simp[hi]);have hix:i<xs.length:=by simp at hxl;omega
    rw[List.getElem?_eq_getElem hix]at this;refine⟨xs[i],by simpa using this,fun q hq=>hz q ?_⟩;rw[weights_agg ht]
    exact DataW.weights_mem_each (j := i) (t := fs[i].type) (d := xs[i].1) (by simp [hi]) (by simp [hix]) q hq)
  simpa using this
theorem OpensZ.arg {α H : Type} {P : Program} {d : Kd α} {ok : List α → Prop} {e t : TypeId} (h : OpensZ P (Kd.slice e d) ok t) {enc : TypeId × Value → H} {w : World} {base : Nat} {sp : Nat → Bool} {held : Bool} {A : Option Addr} {len cap : Nat} {dt : DataW H} {ps : List MemPlace}
    (hT:DataW.Trod enc P w base sp held t (.slice A len cap) dt ps) (hz:∀n ∈ dt.weights P t,n≤reachBytes):∃l:List α,l.length=len∧l.length≤cap∧d.C w A l.length l∧ok l:=by
  obtain⟨fuel,hf⟩:=hT;obtain⟨l,⟨A',c,hcs,hl,hC⟩,hok⟩:=h.out enc w base sp held fuel _ _ hf hz
  simp[Value.cells]at hcs
  obtain⟨rfl,rfl,rfl⟩:=hcs;exact⟨l,rfl,hl,hC,hok⟩
theorem Zgn {H:Type} {P:Program} {ts:List TypeId} {ds:List (DataW H)} (h:(DataW.weightsEach P ts ds).all (· ≤reachBytes)=true) {j:Nat} {t:TypeId} {d:DataW H} (ht:ts[j]? =some t) (hd:ds[j]? =some d):∀n ∈ d.weights P t,n≤reachBytes:=fun n hn=>by
  have:=List.all_eq_true.1 h n (DataW.weights_mem_each ht hd n hn)
  simpa using this
end Go.Proofs.YtdpieallpbllkaaGreat.P
namespace Go.Proofs.YtdpieallpbllkaaGreat.meaningWhole
open Go.ChangeShapes Go.WideShapes Go.ChangeAt Go.RowKit
open Go.ChangeMaps (open_string shut_string)
open Go.Proofs.YtdpieallpbllkaaGreat.P
open Go.Proofs.YtdpieallpbllkaaGreatW.PrintWords
theorem own:ownKnob Tryz.prog.godebug=none:=by kernel_rfl
theorem laidOut:laidOutB Tryz.prog=true:=by kernel_rfl
theorem o_string:OpensZ Tryz.prog Kd.string (fun s=>ByteArray.size s≤maxLen) 9:=OpensZ.string Tryz.underlying9
theorem o_int:OpensZ Tryz.prog (Kd.int .i64) (fun n=>(Lit.int .i64 n).wf=true) 3:=OpensZ.int Tryz.underlying3
theorem p_api_Range:OpensZ Tryz.prog (Kd.pair (Kd.int .i64) (Kd.int .i64)) (fun z=>((Lit.int .i64 (z).1).wf=true∧(Lit.int .i64 (z).2).wf=true)) 82:=by
 refine OpensZ.struct (d:=(Kd.pair (Kd.int .i64) (Kd.int .i64))) Tryz.underlying82 (by kernel_rfl) ?_;refine OpensZF.cons (d:=(Kd.int .i64)) (ok:=fun v_:Int=>(Lit.int .i64 v_).wf=true) (ok':=fun z_:(Int)=>(Lit.int .i64 z_).wf=true) (by kernel_rfl) (by kernel_rfl) o_int ?_;exact OpensZF.last (d:=(Kd.int .i64)) (ok:=fun v_:Int=>(Lit.int .i64 v_).wf=true) (by kernel_rfl) (by kernel_rfl) o_int
theorem o_api_Range:OpensZ Tryz.prog k82 (fun b:S82=>((Lit.int .i64 (b).f0).wf=true∧(Lit.int .i64 (b).f1).wf=true)) 82:=OpensZ.iso p_api_Range (fun x:S82=>(x.f0,x.f1)) (fun z=>⟨z.1,z.2⟩) (fun _=>rfl)
theorem o_Lapi_Range:OpensZ Tryz.prog (Kd.slice 82 k82) (fun l=>(List.length l*16≤140737488351232∧∀y1_ ∈ l,((Lit.int .i64 (y1_).f0).wf=true∧(Lit.int .i64 (y1_).f1).wf=true))) 53:=OpensZ.row Tryz.underlying53 (by kernel_rfl) (by kernel_rfl) o_api_Range
theorem p_api_Var:OpensZ Tryz.prog (Kd.pair Kd.string (Kd.slice 82 k82)) (fun z=>(ByteArray.size (z).1≤maxLen∧(List.length (z).2*16≤140737488351232∧∀y1_ ∈ (z).2,((Lit.int .i64 (y1_).f0).wf=true∧(Lit.int .i64 (y1_).f1).wf=true)))) 55:=by
 refine OpensZ.struct (d:=(Kd.pair Kd.string (Kd.slice 82 k82))) Tryz.underlying55 (by kernel_rfl) ?_;refine OpensZF.cons (d:=Kd.string) (ok:=fun v_:ByteArray=>ByteArray.size v_≤maxLen) (ok':=fun z_:((List S82))=>(List.length z_*16≤140737488351232∧∀y1_ ∈ z_,((Lit.int .i64 (y1_).f0).wf=true∧(Lit.int .i64 (y1_).f1).wf=true))) (by kernel_rfl) (by kernel_rfl) o_string ?_;exact OpensZF.last (d:=(Kd.slice 82 k82)) (ok:=fun v_:(List S82)=>(List.length v_*16≤140737488351232∧∀y1_ ∈ v_,((Lit.int .i64 (y1_).f0).wf=true∧(Lit.int .i64 (y1_).f1).wf=true))) (by kernel_rfl) (by kernel_rfl) o_Lapi_Range
theorem o_api_Var:OpensZ Tryz.prog k55 (fun b:S55=>(ByteArray.size (b).f0≤maxLen∧(List.length (b).f1*16≤140737488351232∧∀y1_ ∈ (b).f1,((Lit.int .i64 (y1_).f0).wf=true∧(Lit.int .i64 (y1_).f1).wf=true)))) 55:=OpensZ.iso p_api_Var (fun x:S55=>(x.f0,x.f1)) (fun z=>⟨z.1,z.2⟩) (fun _=>rfl)
theorem o_Lapi_Var:OpensZ Tryz.prog (Kd.slice 55 k55) (fun l=>(List.length l*40≤140737488351232∧∀y1_ ∈ l,(ByteArray.size (y1_).f0≤maxLen∧(List.length (y1_).f1*16≤140737488351232∧∀y2_ ∈ (y1_).f1,((Lit.int .i64 (y2_).f0).wf=true∧(Lit.int .i64 (y2_).f1).wf=true))))) 22:=OpensZ.row Tryz.underlying22 (by kernel_rfl) (by kernel_rfl) o_api_Var
theorem Zi:OpensZ Tryz.prog (Kd.slice 3 (Kd.int .i64)) (fun l=>(List.length l*8≤140737488351232∧∀y1_ ∈ l,(Lit.int .i64 y1_).wf=true)) 24:=OpensZ.row Tryz.underlying24 (by kernel_rfl) (by kernel_rfl) o_int
theorem o_LLint:OpensZ Tryz.prog (Kd.slice 24 (Kd.slice 3 (Kd.int .i64))) (fun l=>(List.length l*24≤140737488351232∧∀y1_ ∈ l,(List.length y1_*8≤140737488351232∧∀y2_ ∈ y1_,(Lit.int .i64 y2_).wf=true))) 34:=OpensZ.row Tryz.underlying34 (by kernel_rfl) (by kernel_rfl) Zi
theorem p_api_Con:OpensZ Tryz.prog (Kd.pair (Kd.int .i64) (Kd.pair (Kd.slice 3 (Kd.int .i64)) (Kd.pair (Kd.slice 3 (Kd.int .i64)) (Kd.pair (Kd.int .i64) (Kd.pair (Kd.int .i64) (Kd.pair (Kd.slice 24 (Kd.slice 3 (Kd.int .i64))) (Kd.int .i64))))))) (fun z=>((Lit.int .i64 (z).1).wf=true∧((List.length ((z).2).1*8≤140737488351232∧∀y1_ ∈ ((z).2).1,(Lit.int .i64 y1_).wf=true)∧((List.length (((z).2).2).1*8≤140737488351232∧∀y1_ ∈ (((z).2).2).1,(Lit.int .i64 y1_).wf=true)∧((Lit.int .i64 ((((z).2).2).2).1).wf=true∧((Lit.int .i64 (((((z).2).2).2).2).1).wf=true∧((List.length ((((((z).2).2).2).2).2).1*24≤140737488351232∧∀y1_ ∈ ((((((z).2).2).2).2).2).1,(List.length y1_*8≤140737488351232∧∀y2_ ∈ y1_,(Lit.int .i64 y2_).wf=true))∧(Lit.int .i64 ((((((z).2).2).2).2).2).2).wf=true))))))) 36:=by
 refine OpensZ.struct (d:=(Kd.pair (Kd.int .i64) (Kd.pair (Kd.slice 3 (Kd.int .i64)) (Kd.pair (Kd.slice 3 (Kd.int .i64)) (Kd.pair (Kd.int .i64) (Kd.pair (Kd.int .i64) (Kd.pair (Kd.slice 24 (Kd.slice 3 (Kd.int .i64))) (Kd.int .i64)))))))) Tryz.underlying36 (by kernel_rfl) ?_;refine OpensZF.cons (d:=(Kd.int .i64)) (ok:=fun v_:Int=>(Lit.int .i64 v_).wf=true) (ok':=fun z_:((List Int) × (List Int) × Int × Int × (List (List Int)) × Int)=>((List.length (z_).1*8≤140737488351232∧∀y1_ ∈ (z_).1,(Lit.int .i64 y1_).wf=true)∧((List.length ((z_).2).1*8≤140737488351232∧∀y1_ ∈ ((z_).2).1,(Lit.int .i64 y1_).wf=true)∧((Lit.int .i64 (((z_).2).2).1).wf=true∧((Lit.int .i64 ((((z_).2).2).2).1).wf=true∧((List.length (((((z_).2).2).2).2).1*24≤140737488351232∧∀y1_ ∈ (((((z_).2).2).2).2).1,(List.length y1_*8≤140737488351232∧∀y2_ ∈ y1_,(Lit.int .i64 y2_).wf=true))∧(Lit.int .i64 (((((z_).2).2).2).2).2).wf=true)))))) (by kernel_rfl) (by kernel_rfl) o_int ?_;refine OpensZF.cons (d:=(Kd.slice 3 (Kd.int .i64))) (ok:=fun v_:(List Int)=>(List.length v_*8≤140737488351232∧∀y1_ ∈ v_,(Lit.int .i64 y1_).wf=true)) (ok':=fun z_:((List Int) × Int × Int × (List (List Int)) × Int)=>((List.length (z_).1*8≤140737488351232∧∀y1_ ∈ (z_).1,(Lit.int .i64 y1_).wf=true)∧((Lit.int .i64 ((z_).2).1).wf=true∧((Lit.int .i64 (((z_).2).2).1).wf=true∧((List.length ((((z_).2).2).2).1*24≤140737488351232∧∀y1_ ∈ ((((z_).2).2).2).1,(List.length y1_*8≤140737488351232∧∀y2_ ∈ y1_,(Lit.int .i64 y2_).wf=true))∧(Lit.int .i64 ((((z_).2).2).2).2).wf=true))))) (by kernel_rfl) (by kernel_rfl) Zi ?_;refine OpensZF.cons (d:=(Kd.slice 3 (Kd.int .i64))) (ok:=fun v_:(List Int)=>(List.length v_*8≤140737488351232∧∀y1_ ∈ v_,(Lit.int .i64 y1_).wf=true)) (ok':=fun z_:(Int × Int × (List (List Int)) × Int)=>((Lit.int .i64 (z_).1).wf=true∧((Lit.int .i64 ((z_).2).1).wf=true∧((List.length (((z_).2).2).1*24≤140737488351232∧∀y1_ ∈ (((z_).2).2).1,(List.length y1_*8≤140737488351232∧∀y2_ ∈ y1_,(Lit.int .i64 y2_).wf=true))∧(Lit.int .i64 (((z_).2).2).2).wf=true)))) (by kernel_rfl) (by kernel_rfl) Zi ?_;refine OpensZF.cons (d:=(Kd.int .i64)) (ok:=fun v_:Int=>(Lit.int .i64 v_).wf=true) (ok':=fun z_:(Int × (List (List Int)) × Int)=>((Lit.int .i64 (z_).1).wf=true∧((List.length ((z_).2).1*24≤140737488351232∧∀y1_ ∈ ((z_).2).1,(List.length y1_*8≤140737488351232∧∀y2_ ∈ y1_,(Lit.int .i64 y2_).wf=true))∧(Lit.int .i64 ((z_).2).2).wf=true))) (by kernel_rfl) (by kernel_rfl) o_int ?_;refine OpensZF.cons (d:=(Kd.int .i64)) (ok:=fun v_:Int=>(Lit.int .i64 v_).wf=true) (ok':=fun z_:((List (List Int)) × Int)=>((List.length (z_).1*24≤140737488351232∧∀y1_ ∈ (z_).1,(List.length y1_*8≤140737488351232∧∀y2_ ∈ y1_,(Lit.int .i64 y2_).wf=true))∧(Lit.int .i64 (z_).2).wf=true)) (by kernel_rfl) (by kernel_rfl) o_int ?_;refine OpensZF.cons (d:=(Kd.slice 24 (Kd.slice 3 (Kd.int .i64)))) (ok:=fun v_:(List (List Int))=>(List.length v_*24≤140737488351232∧∀y1_ ∈ v_,(List.length y1_*8≤140737488351232∧∀y2_ ∈ y1_,(Lit.int .i64 y2_).wf=true))) (ok':=fun z_:(Int)=>(Lit.int .i64 z_).wf=true) (by kernel_rfl) (by kernel_rfl) o_LLint ?_;exact OpensZF.last (d:=(Kd.int .i64)) (ok:=fun v_:Int=>(Lit.int .i64 v_).wf=true) (by kernel_rfl) (by kernel_rfl) o_int
theorem o_api_Con:OpensZ Tryz.prog k36 (fun b:S36=>((Lit.int .i64 (b).f0).wf=true∧(List.length (b).f1*8≤140737488351232∧∀y1_ ∈ (b).f1,(Lit.int .i64 y1_).wf=true)∧(List.length (b).f2*8≤140737488351232∧∀y1_ ∈ (b).f2,(Lit.int .i64 y1_).wf=true)∧(Lit.int .i64 (b).f3).wf=true∧(Lit.int .i64 (b).f4).wf=true∧(List.length (b).f5*24≤140737488351232∧∀y1_ ∈ (b).f5,(List.length y1_*8≤140737488351232∧∀y2_ ∈ y1_,(Lit.int .i64 y2_).wf=true))∧(Lit.int .i64 (b).f6).wf=true)) 36:=OpensZ.iso p_api_Con (fun x:S36=>(x.f0,x.f1,x.f2,x.f3,x.f4,x.f5,x.f6)) (fun z=>⟨z.1,z.2.1,z.2.2.1,z.2.2.2.1,z.2.2.2.2.1,z.2.2.2.2.2.1,z.2.2.2.2.2.2⟩) (fun _=>rfl)
theorem o_Lapi_Con:OpensZ Tryz.prog (Kd.slice 36 k36) (fun l=>(List.length l*104≤140737488351232∧∀y1_ ∈ l,((Lit.int .i64 (y1_).f0).wf=true∧(List.length (y1_).f1*8≤140737488351232∧∀y2_ ∈ (y1_).f1,(Lit.int .i64 y2_).wf=true)∧(List.length (y1_).f2*8≤140737488351232∧∀y2_ ∈ (y1_).f2,(Lit.int .i64 y2_).wf=true)∧(Lit.int .i64 (y1_).f3).wf=true∧(Lit.int .i64 (y1_).f4).wf=true∧(List.length (y1_).f5*24≤140737488351232∧∀y2_ ∈ (y1_).f5,(List.length y2_*8≤140737488351232∧∀y3_ ∈ y2_,(Lit.int .i64 y3_).wf=true))∧(Lit.int .i64 (y1_).f6).wf=true))) 23:=OpensZ.row Tryz.underlying23 (by kernel_rfl) (by kernel_rfl) o_api_Con
theorem p_api_Goal:OpensZ Tryz.prog (Kd.pair (Kd.int .i64) (Kd.pair (Kd.slice 3 (Kd.int .i64)) (Kd.slice 3 (Kd.int .i64)))) (fun z=>((Lit.int .i64 (z).1).wf=true∧((List.length ((z).2).1*8≤140737488351232∧∀y1_ ∈ ((z).2).1,(Lit.int .i64 y1_).wf=true)∧(List.length ((z).2).2*8≤140737488351232∧∀y1_ ∈ ((z).2).2,(Lit.int .i64 y1_).wf=true)))) 26:=by
 refine OpensZ.struct (d:=(Kd.pair (Kd.int .i64) (Kd.pair (Kd.slice 3 (Kd.int .i64)) (Kd.slice 3 (Kd.int .i64))))) Tryz.underlying26 (by kernel_rfl) ?_;refine OpensZF.cons (d:=(Kd.int .i64)) (ok:=fun v_:Int=>(Lit.int .i64 v_).wf=true) (ok':=fun z_:((List Int) × (List Int))=>((List.length (z_).1*8≤140737488351232∧∀y1_ ∈ (z_).1,(Lit.int .i64 y1_).wf=true)∧(List.length (z_).2*8≤140737488351232∧∀y1_ ∈ (z_).2,(Lit.int .i64 y1_).wf=true))) (by kernel_rfl) (by kernel_rfl) o_int ?_;refine OpensZF.cons (d:=(Kd.slice 3 (Kd.int .i64))) (ok:=fun v_:(List Int)=>(List.length v_*8≤140737488351232∧∀y1_ ∈ v_,(Lit.int .i64 y1_).wf=true)) (ok':=fun z_:((List Int))=>(List.length z_*8≤140737488351232∧∀y1_ ∈ z_,(Lit.int .i64 y1_).wf=true)) (by kernel_rfl) (by kernel_rfl) Zi ?_;exact OpensZF.last (d:=(Kd.slice 3 (Kd.int .i64))) (ok:=fun v_:(List Int)=>(List.length v_*8≤140737488351232∧∀y1_ ∈ v_,(Lit.int .i64 y1_).wf=true)) (by kernel_rfl) (by kernel_rfl) Zi
theorem p_api_Model:OpensZ Tryz.prog (Kd.pair (Kd.slice 55 k55) (Kd.pair (Kd.slice 36 k36) (Kd.pair (Kd.int .i64) (Kd.pair (Kd.slice 3 (Kd.int .i64)) (Kd.slice 3 (Kd.int .i64)))))) (fun z=>((List.length (z).1*40≤140737488351232∧∀y1_ ∈ (z).1,(ByteArray.size (y1_).f0≤maxLen∧(List.length (y1_).f1*16≤140737488351232∧∀y2_ ∈ (y1_).f1,((Lit.int .i64 (y2_).f0).wf=true∧(Lit.int .i64 (y2_).f1).wf=true))))∧((List.length ((z).2).1*104≤140737488351232∧∀y1_ ∈ ((z).2).1,((Lit.int .i64 (y1_).f0).wf=true∧(List.length (y1_).f1*8≤140737488351232∧∀y2_ ∈ (y1_).f1,(Lit.int .i64 y2_).wf=true)∧(List.length (y1_).f2*8≤140737488351232∧∀y2_ ∈ (y1_).f2,(Lit.int .i64 y2_).wf=true)∧(Lit.int .i64 (y1_).f3).wf=true∧(Lit.int .i64 (y1_).f4).wf=true∧(List.length (y1_).f5*24≤140737488351232∧∀y2_ ∈ (y1_).f5,(List.length y2_*8≤140737488351232∧∀y3_ ∈ y2_,(Lit.int .i64 y3_).wf=true))∧(Lit.int .i64 (y1_).f6).wf=true))∧((Lit.int .i64 (((z).2).2).1).wf=true∧((List.length ((((z).2).2).2).1*8≤140737488351232∧∀y1_ ∈ ((((z).2).2).2).1,(Lit.int .i64 y1_).wf=true)∧(List.length ((((z).2).2).2).2*8≤140737488351232∧∀y1_ ∈ ((((z).2).2).2).2,(Lit.int .i64 y1_).wf=true)))))) 28:=by
 refine OpensZ.struct (d:=(Kd.pair (Kd.slice 55 k55) (Kd.pair (Kd.slice 36 k36) (Kd.pair (Kd.int .i64) (Kd.pair (Kd.slice 3 (Kd.int .i64)) (Kd.slice 3 (Kd.int .i64))))))) Tryz.underlying28 (by kernel_rfl) ?_;refine OpensZF.cons (d:=(Kd.slice 55 k55)) (ok:=fun v_:(List S55)=>(List.length v_*40≤140737488351232∧∀y1_ ∈ v_,(ByteArray.size (y1_).f0≤maxLen∧(List.length (y1_).f1*16≤140737488351232∧∀y2_ ∈ (y1_).f1,((Lit.int .i64 (y2_).f0).wf=true∧(Lit.int .i64 (y2_).f1).wf=true))))) (ok':=fun z_:((List S36) × (Int × (List Int) × (List Int)))=>((List.length (z_).1*104≤140737488351232∧∀y1_ ∈ (z_).1,((Lit.int .i64 (y1_).f0).wf=true∧(List.length (y1_).f1*8≤140737488351232∧∀y2_ ∈ (y1_).f1,(Lit.int .i64 y2_).wf=true)∧(List.length (y1_).f2*8≤140737488351232∧∀y2_ ∈ (y1_).f2,(Lit.int .i64 y2_).wf=true)∧(Lit.int .i64 (y1_).f3).wf=true∧(Lit.int .i64 (y1_).f4).wf=true∧(List.length (y1_).f5*24≤140737488351232∧∀y2_ ∈ (y1_).f5,(List.length y2_*8≤140737488351232∧∀y3_ ∈ y2_,(Lit.int .i64 y3_).wf=true))∧(Lit.int .i64 (y1_).f6).wf=true))∧((Lit.int .i64 ((z_).2).1).wf=true∧((List.length (((z_).2).2).1*8≤140737488351232∧∀y1_ ∈ (((z_).2).2).1,(Lit.int .i64 y1_).wf=true)∧(List.length (((z_).2).2).2*8≤140737488351232∧∀y1_ ∈ (((z_).2).2).2,(Lit.int .i64 y1_).wf=true))))) (by kernel_rfl) (by kernel_rfl) o_Lapi_Var ?_;refine OpensZF.cons (d:=(Kd.slice 36 k36)) (ok:=fun v_:(List S36)=>(List.length v_*104≤140737488351232∧∀y1_ ∈ v_,((Lit.int .i64 (y1_).f0).wf=true∧(List.length (y1_).f1*8≤140737488351232∧∀y2_ ∈ (y1_).f1,(Lit.int .i64 y2_).wf=true)∧(List.length (y1_).f2*8≤140737488351232∧∀y2_ ∈ (y1_).f2,(Lit.int .i64 y2_).wf=true)∧(Lit.int .i64 (y1_).f3).wf=true∧(Lit.int .i64 (y1_).f4).wf=true∧(List.length (y1_).f5*24≤140737488351232∧∀y2_ ∈ (y1_).f5,(List.length y2_*8≤140737488351232∧∀y3_ ∈ y2_,(Lit.int .i64 y3_).wf=true))∧(Lit.int .i64 (y1_).f6).wf=true))) (ok':=fun z_:((Int × (List Int) × (List Int)))=>((Lit.int .i64 (z_).1).wf=true∧((List.length ((z_).2).1*8≤140737488351232∧∀y1_ ∈ ((z_).2).1,(Lit.int .i64 y1_).wf=true)∧(List.length ((z_).2).2*8≤140737488351232∧∀y1_ ∈ ((z_).2).2,(Lit.int .i64 y1_).wf=true)))) (by kernel_rfl) (by kernel_rfl) o_Lapi_Con ?_;exact OpensZF.last (d:=(Kd.pair (Kd.int .i64) (Kd.pair (Kd.slice 3 (Kd.int .i64)) (Kd.slice 3 (Kd.int .i64))))) (ok:=fun v_:(Int × (List Int) × (List Int))=>((Lit.int .i64 (v_).1).wf=true∧((List.length ((v_).2).1*8≤140737488351232∧∀y1_ ∈ ((v_).2).1,(Lit.int .i64 y1_).wf=true)∧(List.length ((v_).2).2*8≤140737488351232∧∀y1_ ∈ ((v_).2).2,(Lit.int .i64 y1_).wf=true)))) (by kernel_rfl) (by kernel_rfl) p_api_Goal
set_option maxRecDepth 100000 in
theorem lifted (os : Os) (started : os.Started) (H : Type) (enc : TypeId × Value → H) :
  ReturnsInHanded {} Tryz.checked os 5 .any (Rows.meaningWholeSpec.pre6 enc Tryz.prog Tryz.f5 Rows.meaningWholeRow.domain false) (Rows.meaningWholeSpec.post enc Tryz.prog Tryz.f5 false true false false):=by
 refine returnsInHanded_of_change_sized (C := Tryz.checked) own started (by kernel_rfl) Tryz.func5
  (ChangeSpec.witness6 (enc:=enc) (C:=Tryz.checked) false ⟨#[],#[.agg #[.slice none 0 0,.slice none 0 0,.int .i64 0,.slice none 0 0,.slice none 0 0],.slice none 0 0],[]⟩ 8 (by kernel_rfl) (by kernel_rfl) (by kernel_rfl) (by kernel_rfl)) ?_
 intro W base args ds gs before hval0 hW hcnd hsz0 _;have hsz:(DataW.weightsEach Tryz.prog (Tryz.f5.params.toList++Rows.meaningWholeSpec.plain.varTypes Tryz.prog) (ds++gs)).all (· ≤reachBytes)=true:=hsz0;have hval:∀(j:Nat) t v,Tryz.f5.params[j]? =some t→args[j]? =some v→Value.okWide Tryz.prog W .any base t v:=hval0;have hW':=hW;obtain⟨p,q,hA0,hV,rfl,hfz,hnd⟩:=hW;have hA:DataW.TrodAll enc Tryz.prog W 0 (fun _=>true) true Tryz.f5.params.toList args.toList ds p:=hA0;rw[Tryz.params5]at hA hval hsz;obtain⟨v0,vs0,d0,ds0,p0,q0,hargs,rfl,rfl,h0,r0⟩:=trodAll_cons hA;obtain⟨v1,vs1,d1,ds1,p1,q1,rfl,rfl,rfl,h1,r1⟩:=trodAll_cons r0;obtain⟨rfl,rfl,rfl⟩:=trodAll_nil r1;obtain rfl:args=#[v0,v1]:=by cases args;simp_all
 obtain⟨rfl,rfl⟩:=trodVars_none hV;have k0:=h0;have lt0:∀x ∈ p0,x.block<W.heap.size:=by obtain⟨m,hm⟩:=k0;exact DataW.trod_lt m _ _ _ hm
 obtain⟨cs0,rfl,_⟩:=okWide_struct Tryz.underlying28 (hval 0 28 v0 rfl rfl);obtain⟨fu0,hf0⟩:=h0;obtain⟨⟨x0,⟨x1,⟨x2,⟨x3,x4⟩⟩⟩⟩,hK0,⟨ok0,⟨ok1,⟨ok2,⟨ok3,ok4⟩⟩⟩⟩⟩:=p_api_Model.out _ _ _ _ _ _ _ _ hf0 (Zgn hsz (j:=0) (t:=28) rfl rfl);obtain⟨_,_,e,⟨A0,c0,rfl,hc0,hC0⟩,⟨_,_,rfl,⟨A1,c1,rfl,hc1,hC1⟩,⟨_,_,rfl,rfl,⟨_,_,rfl,⟨A3,c3,rfl,hc3,hC3⟩,⟨A4,c4,rfl,hc4,hC4⟩⟩⟩⟩⟩:=hK0
 obtain rfl:cs0=#[.slice A0 x0.length c0,.slice A1 x1.length c1,.int .i64 x2,.slice A3 x3.length c3,.slice A4 x4.length c4]:=by
  apply Array.ext'
  simpa[Value.cells] using e
 have k1:=h1;have lt1:∀x ∈ p1,x.block<W.heap.size:=by obtain⟨m,hm⟩:=k1;exact DataW.trod_lt m _ _ _ hm
 obtain⟨A5,len5,c5,rfl⟩:=okWide_slice Tryz.underlying24 (hval 1 24 v1 rfl rfl);obtain⟨x5,rfl,hc5,hC5,ok5⟩:=OpensZ.arg Zi h1 (Zgn hsz (j:=1) (t:=24) rfl rfl);clear hA0 hval0 hsz0 hsz;refine(P.Zgs A0 c0 x0 A1 c1 x1 x2 A3 c3 x3 A4 c4 x4 A5 c5 x5 W hC0 hc0 ok0 hC1 hc1 ok1 ok2 hC3 hc3 ok3 hC4 hc4 ok4 hC5 hc5 ok5).mono fun e W' ⟨he,bel⟩=> ?_
 subst he;exact⟨_,rfl,_,_,_,[],_,[],hW',trodAll_mk1 (shut_bool Tryz.underlying4 _),(trodAll_cons_mk (Below.trod laidOut (by kernel_rfl) (of_decide_eq_true (by kernel_rfl)) k0 bel lt0) (trodAll_cons_mk (Below.trod laidOut (by kernel_rfl) (of_decide_eq_true (by kernel_rfl)) k1 bel lt1) trodAll_mk0)),rfl,bel.frame _,fun h=>by cases h⟩
theorem over:Rows.meaningWholeRow.holds Tryz.pinned (OpenSpec.ofChange Rows.meaningWholeSpec):=
 OpenClaim.holds_of_wide 5 Tryz.f5 rfl rfl rfl rfl rfl rfl rfl ⟨rfl, rfl, rfl, rfl, rfl⟩ rfl rfl rfl rfl rfl (by kernel_rfl) Tryz.func5 (by kernel_rfl)
  (of_decide_eq_true (by kernel_rfl)) (by unfold Func.isWrapper;first|(rw[if_pos (by decide+kernel)];kernel_rfl)|(rw[if_neg (by decide+kernel)];exact⟨rfl,rfl⟩))
  (fun os started H enc _=>lifted os started H enc)
theorem proved:Rows.MeaningWholeSaid:=over
end Go.Proofs.YtdpieallpbllkaaGreat.meaningWhole
namespace Go.Proofs.YtdpieallpbllkaaGreat
theorem meaningWhole_holds:Rows.MeaningWholeSaid:=meaningWhole.proved
end Go.Proofs.YtdpieallpbllkaaGreat
