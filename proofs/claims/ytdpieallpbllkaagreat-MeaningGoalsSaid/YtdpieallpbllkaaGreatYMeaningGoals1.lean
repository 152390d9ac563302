/- Proved: the statement MeaningGoals. Conditions: none but those of the statement. -/
import Derived.Test.YtdpieallpbllkaaGreatZ1
import Derived.Test.YtdpieallpbllkaaGreatZ6
import Derived.Test.YtdpieallpbllkaaGreatZ5
import Derived.Test.YtdpieallpbllkaaGreatU1
import Derived.Deep.Slices
import Derived.ChangeArms
import Derived.DataReads
import Derived.SizedLaws
import Derived.Test.YtdpieallpbllkaaGreatRows
import Derived.WalkKit
import Derived.ProofKit
import Derived.OpenShut
import Derived.ShutString
import Derived.ChangeOld
import Derived.Below
set_option linter.unusedSimpArgs false
set_option linter.unusedVariables false
set_option maxHeartbeats 8000000
namespace Go.Proofs.YtdpieallpbllkaaGreat.P
open Go.RowKit Go.Proofs.YtdpieallpbllkaaGreatW.PrintWords Go.Proofs.YtdpieallpbllkaaGreatW.PrintLast Go.Proofs.YtdpieallpbllkaaGreatW.PrintMore
attribute [local go_sem] Zcw Zcy Zdd Zde Zck Zcl Zcx Zcz
def Zai.l0 : Nat → List Int → Int → List (S55) → List (S36) → Int → List Int → List Int → Int → List Int → List Int → Option (Bool)
 | 0, _, _, _, _, _, _, _, _, _, _ => none
 |k+1,x6,x8,SQ,SV,yU,EH,vS,J9,JA,EI=>if x8<(vS.length:Int)then(if 0≤x8 then(if EI.length<17592186044416 then(Zai.l0 k x6 (wrap64 (x8+1)) SQ SV yU EH vS J9 JA (EI++ [wrap64 (-(rd vS x8))]))else(none))else(none))else((Za8.f k J9 JA EI x6).bind fun wM=>((Za8.f k yU EH vS x6).bind fun wO=>(if wM=(wrap64 (-wO))then(if yU=0 then((Za8.f k yU EH vS x6).bind fun yn=>(if yn=0 then((Zb2.f k).bind fun OO=>(some OO))else(none)))else((Zb2.f k).bind fun OP=>(some OP)))else(none))))
def Zai.f (k:Nat) (ag:List (S55)) (aa:List (S36)) (aA:Int) (ak:List Int) (ai:List Int) (l1:List Int):Option (Bool):=(Zbq.f k ag aa aA ak ai 1099511627776).bind fun jG=>(if jG.2.2.2.2.2=true then((Zbm.f k l1).bind fun l8=>(Zai.l0 k l8 0 jG.1 jG.2.1 jG.2.2.1 jG.2.2.2.1 jG.2.2.2.2.1 jG.2.2.1 jG.2.2.2.1 ([]:List Int)))else((Zb2.f k).bind fun Ib=>(some Ib)))
def Zai.T9:Bool × List (List Nat × List Nat):=(true,[([],[]),([0],[0]),([],[]),([2],[2]),([3],[3]),([],[]),([4,5],[4,5]),([6],[6]),([7],[7]),([8],[8]),([1,9],[1,9]),([0,1,2,3,4,5,6,7,8,9,10],[]),([11,10,10,0,1,2,3,4,5,6,7,8,9,10],[10,11])])
def Zai.B9:List Nat:= [0,1,0,4,12,0,60,124,252,508,1023,2047,4095]
theorem Zai.tab9:rtab .any (opsOf Tryz.f7 9)=Zai.T9:=by kernel_rfl
theorem Zai.bits9:waitsOk Zai.T9.2 Zai.B9=true:=by kernel_rfl
def Zai.T10:Bool × List (List Nat × List Nat):=(true,[([],[]),([],[]),([0,1],[0,1]),([],[]),([3],[3]),([],[]),([4,5,2],[4,5]),([6],[6]),([2,7],[2,7]),([8,6],[8]),([9],[9]),([10,9],[9,10]),([11,9],[9,11]),([12,9],[9,12]),([13,9,9],[9,13]),([14],[14]),([15,14],[14,15]),([14],[14]),([16,17,14,14],[14,16,17]),([18,14],[14,18]),([14,19,9],[9,14,19]),([9,20],[9,20]),([21,18],[21]),([22,22],[22]),([22,23],[22,23]),([24,23,0,1,2,3,4,5,6,7,8,9,10,11,12,13,14,15,16,17,18,19,20,21,22,23,24],[24])])
def Zai.B10:List Nat:= [0,0,3,0,8,0,63,127,255,511,1023,2047,4095,8191,16383,32767,65535,32767,262143,524287,1048575,2097151,4194303,8388607,16777215,33554431]
theorem Zai.tab10:rtab .any (opsOf Tryz.f7 10)=Zai.T10:=by kernel_rfl
theorem Zai.bits10:waitsOk Zai.T10.2 Zai.B10=true:=by kernel_rfl
set_option maxRecDepth 100000 in
theorem Zai.calls (k : Nat) (eG : Option Addr) (ek : Nat) (ag : List (S55)) (aW : Option Addr) (aT : Nat) (aa : List (S36)) (aA : Int) (bT : Option Addr) (bU : Nat) (ak : List Int) (bK : Option Addr) (bL : Nat) (ai : List Int) (A1 : Option Addr) (c1 : Nat) (l1 : List Int) (r : Bool) (w : World) (lW : Kd.C k55 w eG ag.length ag) (lT : ag.length ≤ ek) (dV : Kd.C k36 w aW aa.length aa) (dU : aa.length ≤ aT) (jL : Kd.C (Kd.int .i64) w bT ak.length ak) (jJ : ak.length ≤ bU) (jM : Kd.C (Kd.int .i64) w bK ai.length ai) (jK : ai.length ≤ bL) (hr1 : Kd.C (Kd.int .i64) w A1 l1.length l1) (hc1 : l1.length ≤ c1) (h : Zai.f k ag aa aA ak ai l1 = some r) :
  Calls Tryz.prog 7 #[.agg #[.slice eG ag.length ek,.slice aW aa.length aT,.int .i64 aA,.slice bT ak.length bU,.slice bK ai.length bL],.slice A1 l1.length c1] w fun e w'=>e= .returned (.bool r)∧Below w.heap.size w w':=by
 have hu28:=Tryz.underlying28;have hu26:=Tryz.underlying26;have iG:=Za.mk lW;have o9:=Za.mk lT;clear lW lT;have eD:=Za.mk dV;have fo:=Za.mk dU;clear dV dU;have jR:=Za.mk jL;have jP:=Za.mk jJ;clear jL jJ;have jS:=Za.mk jM;have jQ:=Za.mk jK;clear jM jK;have HR1:=Za.mk hr1;have HC1:=Za.mk hc1;clear hr1 hc1;have HB:=Za.mk (Below.refl w.heap.size w);have H:((Zbq.f k ag aa aA ak ai 1099511627776).bind fun jG=>(if jG.2.2.2.2.2=true then((Zbm.f k l1).bind fun l8=>(Zai.l0 k l8 0 jG.1 jG.2.1 jG.2.2.1 jG.2.2.2.1 jG.2.2.2.2.1 jG.2.2.1 jG.2.2.2.1 ([]:List Int)))else((Zb2.f k).bind fun Ib=>(some Ib))))=some r:=h;clear h;obtain⟨⟨jg,jw,eU,dD,fe,cza⟩,A3,H⟩:=bnd H;try dsimp only at H
 by_cases c4:cza=true
 case neg=>
  replace c4:=Bool.eq_false_iff.mpr c4;subst c4;replace H:=ifF H;obtain⟨Ib,A53,H⟩:=bnd H;try dsimp only at H
  obtain rfl:=sj H;go_enter Tryz.func7,Tryz.ntmps7
  go_wp2_with (first|((with_reducible refine Zaq (N:=2) rfl ?_);refine bx 2 #[.slice eG ag.length ek,.slice aW aa.length aT,.int .i64 aA,.slice bT ak.length bU,.slice bK ai.length bL] 28 ?_;intro bJ hg w54 hbox hb;have aH:=Za.mk (hbox);have Vy:=Za.mk ((gE hg HB.out:w.heap.size≤bJ));replace HB:=Za.mk (bS HB.out hb);clear hb hbox hg;obtain⟨aFa,aGa,aHa,aIa,aJa,Y6,Y7,Y8,Y9,YA⟩:=cz5 aH.out)|((with_reducible refine Zak (f:=10) rfl ?_);refine gl 11 Tryz.func10 #[.agg #[.slice eG ag.length ek,.slice aW aa.length aT,.int .i64 aA,.slice bT ak.length bU,.slice bK ai.length bL],.int .i64 1099511627776] ?_;(with_reducible refine(Zbq.calls k _ _ ag _ _ aa aA _ _ ak _ _ ai 1099511627776 jg jw eU dD fe false _ (cM (Kd.Zad iG.out HB.out)) o9.out (cM (Kd.Zad eD.out HB.out)) fo.out (cM (Kd.Zad jR.out HB.out)) jP.out (cM (Kd.Zad jS.out HB.out)) jQ.out A3.out).mono ?_);rintro e w56 ⟨OW,OX,Aq,Ar,rfl,ho0,ho1,ho2,ho3,hb⟩;refine⟨_,rfl,?_⟩;have qK:=Za.mk (Kd.Zc9 (Kd.Zce (ok':=fun k_=>some k_≠(OX:Value).ownBlock∧some k_≠(Aq:Value).ownBlock∧some k_≠(Ar:Value).ownBlock∧k_≠bJ) ho0 (fun k_ hk_=>⟨hk_.2.1,hk_.2.2.1,hk_.2.2.2,(Kd.freshB (kM aH.out) k_ hk_.1)⟩)) (Zaf (bM HB.out)));have qL:=Za.mk (Kd.Zc9 (Kd.Zce (ok':=fun k_=>some k_≠(OW:Value).ownBlock∧some k_≠(Aq:Value).ownBlock∧some k_≠(Ar:Value).ownBlock∧k_≠bJ) ho1 (fun k_ hk_=>⟨hk_.2.1,hk_.2.2.1,hk_.2.2.2,(Kd.freshB (kM aH.out) k_ hk_.1)⟩)) (Zaf (bM HB.out)));have oF:=Za.mk (Kd.Zbl (Kd.Za4 (ok':=fun k_=>some k_≠(Ar:Value).ownBlock) ho2 (fun _ hk_=>hk_.2)) (Zaf (bM HB.out)));have qy:=Za.mk (Kd.Zbl (Kd.Za4 (ok':=fun k_=>some k_≠(Aq:Value).ownBlock) ho3 (fun _ hk_=>hk_.2)) (Zaf (bM HB.out)));replace aH:=Za.mk (kB aH.out hb);replace HB:=Za.mk (bS HB.out hb);(try clear hb);(try clear hb2);(try clear hk);(try clear hi);(try clear ho0);(try clear ho1);(try clear ho2);(try clear ho3);obtain⟨nca,nta,b2a⟩:=Kd.Zc6 qK.out;subst b2a;obtain⟨kJa,kKa,kLa,kMa,kNa,gRa,gSa,gTa,gUa,gVa⟩:=cz5 aH.out;obtain⟨aWa,bja,N8⟩:=Kd.Zc6 qL.out;subst N8;obtain⟨aXa,bka,NA⟩:=Kd.Zbe oF.out;subst NA;obtain⟨nda,nua,b3a⟩:=Kd.Zbe qy.out;subst b3a)|((with_reducible refine Zak (f:=11) rfl ?_);refine gl 16 Tryz.func11 #[] ?_;(with_reducible refine(Zb2.calls k Ib _ A53.out).mono ?_);rintro e w62 ⟨rfl,hb⟩;refine⟨_,rfl,?_⟩;replace HB:=Za.mk (bS HB.out hb);clear qK qL oF qy aH;(try clear hb);(try clear hb2);(try clear hk);(try clear hi)))
  go_ret;exact⟨eR,bM HB.out⟩
 subst c4;rw[if_pos rfl]at H;obtain⟨l8,A5,H⟩:=bnd H;try dsimp only at H
 have H':=Za.mk H;clear H;go_enter Tryz.func7,Tryz.ntmps7
 go_wp2_with (first|((with_reducible refine Zaq (N:=2) rfl ?_);refine bx 2 #[.slice eG ag.length ek,.slice aW aa.length aT,.int .i64 aA,.slice bT ak.length bU,.slice bK ai.length bL] 28 ?_;intro bJ hg w6 hbox hb;have aH:=Za.mk (hbox);have Vy:=Za.mk ((gE hg HB.out:w.heap.size≤bJ));replace HB:=Za.mk (bS HB.out hb);clear hb hbox hg;obtain⟨pI,pJ,sI,xI,xJ,pg,pq,sH,xk,xm⟩:=cz5 aH.out)|((with_reducible refine Zak (f:=10) rfl ?_);refine gl 11 Tryz.func10 #[.agg #[.slice eG ag.length ek,.slice aW aa.length aT,.int .i64 aA,.slice bT ak.length bU,.slice bK ai.length bL],.int .i64 1099511627776] ?_;(with_reducible refine(Zbq.calls k _ _ ag _ _ aa aA _ _ ak _ _ ai 1099511627776 jg jw eU dD fe true _ (cM (Kd.Zad iG.out HB.out)) o9.out (cM (Kd.Zad eD.out HB.out)) fo.out (cM (Kd.Zad jR.out HB.out)) jP.out (cM (Kd.Zad jS.out HB.out)) jQ.out A3.out).mono ?_);rintro e w8 ⟨OW,OX,Aq,Ar,rfl,ho0,ho1,ho2,ho3,hb⟩;refine⟨_,rfl,?_⟩;have qK:=Za.mk (Kd.Zc9 (Kd.Zce (ok':=fun k_=>some k_≠(OX:Value).ownBlock∧some k_≠(Aq:Value).ownBlock∧some k_≠(Ar:Value).ownBlock∧k_≠bJ) ho0 (fun k_ hk_=>⟨hk_.2.1,hk_.2.2.1,hk_.2.2.2,(Kd.freshB (kM aH.out) k_ hk_.1)⟩)) (Zaf (bM HB.out)));have qL:=Za.mk (Kd.Zc9 (Kd.Zce (ok':=fun k_=>some k_≠(OW:Value).ownBlock∧some k_≠(Aq:Value).ownBlock∧some k_≠(Ar:Value).ownBlock∧k_≠bJ) ho1 (fun k_ hk_=>⟨hk_.2.1,hk_.2.2.1,hk_.2.2.2,(Kd.freshB (kM aH.out) k_ hk_.1)⟩)) (Zaf (bM HB.out)));have oF:=Za.mk (Kd.Zbl (Kd.Za4 (ok':=fun k_=>some k_≠(Ar:Value).ownBlock) ho2 (fun _ hk_=>hk_.2)) (Zaf (bM HB.out)));have qy:=Za.mk (Kd.Zbl (Kd.Za4 (ok':=fun k_=>some k_≠(Aq:Value).ownBlock) ho3 (fun _ hk_=>hk_.2)) (Zaf (bM HB.out)));replace aH:=Za.mk (kB aH.out hb);replace HB:=Za.mk (bS HB.out hb);(try clear hb);(try clear hb2);(try clear hk);(try clear hi);(try clear ho0);(try clear ho1);(try clear ho2);(try clear ho3);obtain⟨Ao9,co9,eo9⟩:=Kd.Zc6 qK.out;subst eo9;obtain⟨mh,mi,mo,ng,ni,ma,mf,mg,mX,mY⟩:=cz5 aH.out;obtain⟨jl,jq,Gs⟩:=Kd.Zc6 qL.out;subst Gs;obtain⟨bF,bG,nA⟩:=Kd.Zbe oF.out;subst nA;obtain⟨dX,dI,Gt⟩:=Kd.Zbe qy.out;subst Gt)|((with_reducible refine Zak (f:=12) rfl ?_);refine gl 18 Tryz.func12 #[.slice A1 l1.length c1] ?_;(with_reducible refine(Zbm.calls k _ _ l1 l8 _ (Kd.Zad HR1.out (bM HB.out)) HC1.out A5.out).mono ?_);rintro e w14 ⟨qx,rfl,ho0,hb⟩;refine⟨_,rfl,?_⟩;replace qK:=Za.mk (Kd.Zee (nM (Kd.Zce (Kd.Zct (p:=⟨bJ,4,none⟩) (Kd.Zct (p:=⟨bJ,3,none⟩) (Kd.Zct (p:=⟨bJ,2,none⟩) (Kd.Zct (p:=⟨bJ,1,none⟩) (Kd.Zct (p:=⟨bJ,0,none⟩) (Kd.Zce qK.out (fun k_ hk=>(⟨hk,hk.2.2.2⟩:_∧k_≠bJ))) (fun _ hk=>hk.2) (.slice Ao9 jg.length co9)) (fun _ hk=>hk.2) (.slice jl jw.length jq)) (fun _ hk=>hk.2) (.int .i64 eU)) (fun _ hk=>hk.2) (.slice bF dD.length bG)) (fun _ hk=>hk.2) (.slice dX fe.length dI)) (fun _ h_=>h_.1))) (Kd.Zc7 ho0) hb);replace qL:=Za.mk (Kd.Zee (nM (Kd.Zce (Kd.Zct (p:=⟨bJ,4,none⟩) (Kd.Zct (p:=⟨bJ,3,none⟩) (Kd.Zct (p:=⟨bJ,2,none⟩) (Kd.Zct (p:=⟨bJ,1,none⟩) (Kd.Zct (p:=⟨bJ,0,none⟩) (Kd.Zce qL.out (fun k_ hk=>(⟨hk,hk.2.2.2⟩:_∧k_≠bJ))) (fun _ hk=>hk.2) (.slice Ao9 jg.length co9)) (fun _ hk=>hk.2) (.slice jl jw.length jq)) (fun _ hk=>hk.2) (.int .i64 eU)) (fun _ hk=>hk.2) (.slice bF dD.length bG)) (fun _ hk=>hk.2) (.slice dX fe.length dI)) (fun _ h_=>h_.1))) (Kd.Zc7 ho0) hb);have Km:=Za.mk (Kd.Zbl (Kd.Zez (Kd.Zez ho0 (Kd.R_lt (rM (Kd.Za4 (Kd.Zbp (p:=⟨bJ,4,none⟩) (Kd.Zbp (p:=⟨bJ,3,none⟩) (Kd.Zbp (p:=⟨bJ,2,none⟩) (Kd.Zbp (p:=⟨bJ,1,none⟩) (Kd.Zbp (p:=⟨bJ,0,none⟩) (Kd.Zb5 oF.out aH.out (by decide)) (fun _ hk=>hk.2) (.slice Ao9 jg.length co9)) (fun _ hk=>hk.2) (.slice jl jw.length jq)) (fun _ hk=>hk.2) (.int .i64 eU)) (fun _ hk=>hk.2) (.slice bF dD.length bG)) (fun _ hk=>hk.2) (.slice dX fe.length dI)) (fun _ h_=>h_.1))))) (Kd.R_lt (rM (Kd.Za4 (Kd.Zbp (p:=⟨bJ,4,none⟩) (Kd.Zbp (p:=⟨bJ,3,none⟩) (Kd.Zbp (p:=⟨bJ,2,none⟩) (Kd.Zbp (p:=⟨bJ,1,none⟩) (Kd.Zbp (p:=⟨bJ,0,none⟩) (Kd.Zb5 qy.out aH.out (by decide)) (fun _ hk=>hk.2) (.slice Ao9 jg.length co9)) (fun _ hk=>hk.2) (.slice jl jw.length jq)) (fun _ hk=>hk.2) (.int .i64 eU)) (fun _ hk=>hk.2) (.slice bF dD.length bG)) (fun _ hk=>hk.2) (.slice dX fe.length dI)) (fun _ h_=>h_.1))))) (Zaf (bM HB.out)));replace oF:=Za.mk (Kd.Zd8 (rM (Kd.Za4 (Kd.Zbp (p:=⟨bJ,4,none⟩) (Kd.Zbp (p:=⟨bJ,3,none⟩) (Kd.Zbp (p:=⟨bJ,2,none⟩) (Kd.Zbp (p:=⟨bJ,1,none⟩) (Kd.Zbp (p:=⟨bJ,0,none⟩) (Kd.Zb5 oF.out aH.out (by decide)) (fun _ hk=>hk.2) (.slice Ao9 jg.length co9)) (fun _ hk=>hk.2) (.slice jl jw.length jq)) (fun _ hk=>hk.2) (.int .i64 eU)) (fun _ hk=>hk.2) (.slice bF dD.length bG)) (fun _ hk=>hk.2) (.slice dX fe.length dI)) (fun _ h_=>h_.1))) (Kd.Zc7 ho0) hb);replace qy:=Za.mk (Kd.Zd8 (rM (Kd.Za4 (Kd.Zbp (p:=⟨bJ,4,none⟩) (Kd.Zbp (p:=⟨bJ,3,none⟩) (Kd.Zbp (p:=⟨bJ,2,none⟩) (Kd.Zbp (p:=⟨bJ,1,none⟩) (Kd.Zbp (p:=⟨bJ,0,none⟩) (Kd.Zb5 qy.out aH.out (by decide)) (fun _ hk=>hk.2) (.slice Ao9 jg.length co9)) (fun _ hk=>hk.2) (.slice jl jw.length jq)) (fun _ hk=>hk.2) (.int .i64 eU)) (fun _ hk=>hk.2) (.slice bF dD.length bG)) (fun _ hk=>hk.2) (.slice dX fe.length dI)) (fun _ h_=>h_.1))) (Kd.Zc7 ho0) hb);replace aH:=Za.mk (Zcf (g:=bJ) (o:= .cells #[.slice Ao9 jg.length co9,.slice jl jw.length jq,.int .i64 eU,.slice bF dD.length bG,.slice dX fe.length dI] 28 (0,0)) (by(with_reducible repeat(first|refine Zag ?_ _|refine Zah ?_|refine Zab ?_ _));refine Zay (cs:=#[.slice Ao9 jg.length co9,.slice jl jw.length jq,.int .i64 eU,.slice bF dD.length bG,.slice bK ai.length bL]) ?_ 4 _ rfl;(with_reducible repeat(first|refine Zag ?_ _|refine Zah ?_|refine Zab ?_ _));refine Zay (cs:=#[.slice Ao9 jg.length co9,.slice jl jw.length jq,.int .i64 eU,.slice bT ak.length bU,.slice bK ai.length bL]) ?_ 3 _ rfl;(with_reducible repeat(first|refine Zag ?_ _|refine Zah ?_|refine Zab ?_ _));refine Zay (cs:=#[.slice Ao9 jg.length co9,.slice jl jw.length jq,.int .i64 aA,.slice bT ak.length bU,.slice bK ai.length bL]) ?_ 2 _ rfl;(with_reducible repeat(first|refine Zag ?_ _|refine Zah ?_|refine Zab ?_ _));refine Zay (cs:=#[.slice Ao9 jg.length co9,.slice aW aa.length aT,.int .i64 aA,.slice bT ak.length bU,.slice bK ai.length bL]) ?_ 1 _ rfl;(with_reducible repeat(first|refine Zag ?_ _|refine Zah ?_|refine Zab ?_ _));refine Zay (cs:=#[.slice eG ag.length ek,.slice aW aa.length aT,.int .i64 aA,.slice bT ak.length bU,.slice bK ai.length bL]) ?_ 0 _ rfl;(with_reducible repeat(first|refine Zag ?_ _|refine Zah ?_|refine Zab ?_ _));exact aH.out) hb);replace HB:=Za.mk (bS HB.out hb);(try clear hb);(try clear hb2);(try clear hk);(try clear hi);(try clear ho0);obtain⟨uf,ug,uh,xA,xB,tN,tO,tQ,wU,wV⟩:=cz5 aH.out)|((with_reducible refine Zaq (N:=7) rfl ?_);refine bx 7 #[.int .i64 0,.slice none 0 0,.slice none 0 0] 26 ?_;intro dH hg w16 hbox hb;replace qK:=Za.mk (Kd.Zcg (Kd.N_elderB (nM qK.out) dH (Nat.le_of_eq hg.symm)) hb);replace qL:=Za.mk (Kd.Zcg (Kd.N_elderB (nM qL.out) dH (Nat.le_of_eq hg.symm)) hb);replace oF:=Za.mk (Kd.Zbn (rM oF.out) hb);replace qy:=Za.mk (Kd.Zbn (rM qy.out) hb);replace Km:=Za.mk (Kd.Zbn (rM Km.out) hb);have bz:=Za.mk (hbox);have efa:=Za.mk ((gE hg HB.out:w.heap.size≤dH));replace HB:=Za.mk (bS HB.out hb);have mE:=Za.mk ((by rw[hg];exact Nat.ne_of_lt (Zc1 (kM aH.out)):bJ≠dH));have qB:=Za.mk ((by rw[hg];exact Nat.ne_of_gt (Zc1 (kM aH.out)):dH≠bJ));replace aH:=Za.mk (kB aH.out hb);clear hb hbox hg;have eFa:=qB.out;have fga:=mE.out;obtain⟨Ei,Ej,Mk,DU,DV,LD⟩:=cz3 bz.out))
 go_loopg [8] k (fun kq v8 w'=>∃(eP:Int) (iX:List Int) (je:Value),v8= .int .i64 eP∧Za (Zai.l0 kq l8 eP jg jw eU dD fe eU dD iX=some r)∧Za (kq≤k)∧Za (Kd.R (Kd.int .i64) 3 w' w.heap.size (fun k_=>some k_≠((.slice bF dD.length bG):Value).ownBlock∧some k_≠((.slice dX fe.length dI):Value).ownBlock∧some k_≠((.slice bF dD.length bG):Value).ownBlock∧some k_≠(je:Value).ownBlock) qx l8)∧Za (Kd.N k55 55 w' w.heap.size (fun k_=>some k_≠(qx:Value).ownBlock∧some k_≠((.slice jl jw.length jq):Value).ownBlock∧some k_≠((.slice bF dD.length bG):Value).ownBlock∧some k_≠((.slice dX fe.length dI):Value).ownBlock∧some k_≠((.slice bF dD.length bG):Value).ownBlock∧some k_≠(je:Value).ownBlock∧k_≠bJ∧k_≠dH) (.slice Ao9 jg.length co9) jg)∧Za (Kd.N k36 36 w' w.heap.size (fun k_=>some k_≠(qx:Value).ownBlock∧some k_≠((.slice Ao9 jg.length co9):Value).ownBlock∧some k_≠((.slice bF dD.length bG):Value).ownBlock∧some k_≠((.slice dX fe.length dI):Value).ownBlock∧some k_≠((.slice bF dD.length bG):Value).ownBlock∧some k_≠(je:Value).ownBlock∧k_≠bJ∧k_≠dH) (.slice jl jw.length jq) jw)∧Za (Kd.R (Kd.int .i64) 3 w' w.heap.size (fun k_=>some k_≠(qx:Value).ownBlock∧some k_≠((.slice dX fe.length dI):Value).ownBlock∧some k_≠(je:Value).ownBlock) (.slice bF dD.length bG) dD)∧Za (Kd.R (Kd.int .i64) 3 w' w.heap.size (fun k_=>some k_≠(qx:Value).ownBlock∧some k_≠((.slice bF dD.length bG):Value).ownBlock∧some k_≠((.slice bF dD.length bG):Value).ownBlock∧some k_≠(je:Value).ownBlock) (.slice dX fe.length dI) fe)∧Za (Kd.R (Kd.int .i64) 3 w' w.heap.size (fun k_=>some k_≠(qx:Value).ownBlock∧some k_≠((.slice dX fe.length dI):Value).ownBlock∧some k_≠(je:Value).ownBlock) (.slice bF dD.length bG) dD)∧Za (Kd.R (Kd.int .i64) 3 w' w.heap.size (fun k_=>some k_≠(qx:Value).ownBlock∧some k_≠((.slice bF dD.length bG):Value).ownBlock∧some k_≠((.slice dX fe.length dI):Value).ownBlock∧some k_≠((.slice bF dD.length bG):Value).ownBlock) je iX)∧Za (w'.heap[bJ]? =some (.cells #[(.slice Ao9 jg.length co9),(.slice jl jw.length jq),.int .i64 eU,(.slice bF dD.length bG),(.slice dX fe.length dI)] 28 (0,0)))∧Za (w'.heap[dH]? =some (.cells #[.int .i64 eU,(.slice bF dD.length bG),je] 26 (0,0)))∧Za (Below w.heap.size w w'))
 case atStart=>exact⟨(0),(([]:List Int)),(.slice none 0 0),eS,H',⟨Nat.le_refl _⟩,⟨rM (Kd.Za4 (Kd.Zbp (p:=⟨dH,2,none⟩) (Kd.Zbp (p:=⟨dH,1,none⟩) (Kd.Zbp (p:=⟨dH,0,none⟩) (Kd.Zb5 Km.out bz.out (by decide)) (fun _ hk=>hk.2) (.int .i64 eU)) (fun _ hk=>hk.2) (.slice bF dD.length bG)) (fun _ hk=>hk.2) (.slice none 0 0)) (fun _ hk=>⟨hk.1.1.2,⟨hk.1.2,⟨hk.1.1.2,(by simp[Value.ownBlock])⟩⟩⟩))⟩,⟨nM (Kd.Zce (Kd.Zct (p:=⟨dH,2,none⟩) (Kd.Zct (p:=⟨dH,1,none⟩) (Kd.Zct (p:=⟨dH,0,none⟩) (Kd.Zce qK.out (fun k_ hk=>(⟨hk,hk.2⟩:_∧k_≠dH))) (fun _ hk=>hk.2) (.int .i64 eU)) (fun _ hk=>hk.2) (.slice bF dD.length bG)) (fun _ hk=>hk.2) (.slice none 0 0)) (fun _ hk=>⟨hk.1.1.2,⟨hk.1.1.1.1,⟨hk.1.1.1.2.1,⟨hk.1.1.1.2.2.1,⟨hk.1.1.1.2.1,⟨(by simp[Value.ownBlock]),⟨hk.1.1.1.2.2.2,hk.1.2⟩⟩⟩⟩⟩⟩⟩))⟩,⟨nM (Kd.Zce (Kd.Zct (p:=⟨dH,2,none⟩) (Kd.Zct (p:=⟨dH,1,none⟩) (Kd.Zct (p:=⟨dH,0,none⟩) (Kd.Zce qL.out (fun k_ hk=>(⟨hk,hk.2⟩:_∧k_≠dH))) (fun _ hk=>hk.2) (.int .i64 eU)) (fun _ hk=>hk.2) (.slice bF dD.length bG)) (fun _ hk=>hk.2) (.slice none 0 0)) (fun _ hk=>⟨hk.1.1.2,⟨hk.1.1.1.1,⟨hk.1.1.1.2.1,⟨hk.1.1.1.2.2.1,⟨hk.1.1.1.2.1,⟨(by simp[Value.ownBlock]),⟨hk.1.1.1.2.2.2,hk.1.2⟩⟩⟩⟩⟩⟩⟩))⟩,⟨rM (Kd.Za4 (Kd.Zbp (p:=⟨dH,2,none⟩) (Kd.Zbp (p:=⟨dH,1,none⟩) (Kd.Zbp (p:=⟨dH,0,none⟩) (Kd.Zb5 oF.out bz.out (by decide)) (fun _ hk=>hk.2) (.int .i64 eU)) (fun _ hk=>hk.2) (.slice bF dD.length bG)) (fun _ hk=>hk.2) (.slice none 0 0)) (fun _ hk=>⟨hk.1.2,⟨hk.1.1,(by simp[Value.ownBlock])⟩⟩))⟩,⟨rM (Kd.Za4 (Kd.Zbp (p:=⟨dH,2,none⟩) (Kd.Zbp (p:=⟨dH,1,none⟩) (Kd.Zbp (p:=⟨dH,0,none⟩) (Kd.Zb5 qy.out bz.out (by decide)) (fun _ hk=>hk.2) (.int .i64 eU)) (fun _ hk=>hk.2) (.slice bF dD.length bG)) (fun _ hk=>hk.2) (.slice none 0 0)) (fun _ hk=>⟨hk.1.2,⟨hk.1.1,⟨hk.1.1,(by simp[Value.ownBlock])⟩⟩⟩))⟩,⟨rM (Kd.Za4 (Kd.Zbp (p:=⟨dH,2,none⟩) (Kd.Zbp (p:=⟨dH,1,none⟩) (Kd.Zbp (p:=⟨dH,0,none⟩) (Kd.Zb5 oF.out bz.out (by decide)) (fun _ hk=>hk.2) (.int .i64 eU)) (fun _ hk=>hk.2) (.slice bF dD.length bG)) (fun _ hk=>hk.2) (.slice none 0 0)) (fun _ hk=>⟨hk.1.2,⟨hk.1.1,(by simp[Value.ownBlock])⟩⟩))⟩,⟨by first|exact Kd.R_nil _ _ _ _ _|exact Kd.N_nil _ _ _ _ _|exact Kd.V_nil _ _ _ _ _|exact Kd.Q_nil _ _ _ _ _|exact Kd.S_nil _ _ _ _ _⟩,⟨by(with_reducible repeat(first|exact aH.out|refine Zcr ?_ mE.out _|refine Zab ?_ _|refine Zah ?_|refine Zag ?_ _))⟩,⟨by(with_reducible repeat(first|refine Zag ?_ _|refine Zah ?_|refine Zab ?_ _));refine Zay (cs:=#[.int .i64 eU,.slice bF dD.length bG,.slice none 0 0]) ?_ 2 _ rfl;(with_reducible repeat(first|refine Zag ?_ _|refine Zah ?_|refine Zab ?_ _));refine Zay (cs:=#[.int .i64 eU,.slice none 0 0,.slice none 0 0]) ?_ 1 _ rfl;(with_reducible repeat(first|refine Zag ?_ _|refine Zah ?_|refine Zab ?_ _));refine Zay (cs:=#[.int .i64 0,.slice none 0 0,.slice none 0 0]) ?_ 0 _ rfl;(with_reducible repeat(first|refine Zag ?_ _|refine Zah ?_|refine Zab ?_ _));exact bz.out⟩,⟨bM HB.out⟩⟩
 case round=>
  clear H';try clear c1
  try clear p2
  try clear c4
  try clear c7
  try clear c10
  try clear c12
  try clear c17
  try clear mh mi mo ng ni ma mf mg mX mY
  try clear uf ug uh xA xB tN tO tQ wU wV
  try clear Ei Ej Mk DU DV LD
  try clear pI pJ sI xI xJ pg pq sH xk xm
  obtain⟨eP,iX,je,rfl,HA,HK1,fH,dK,dL,bP,bI,bX,bQ,aH,bz,HB⟩:=hrel
  cases gk with
  | zero => exact absurd HA.out (by simp [Zai.l0])
  |succ k1=>
   have H:=HA.out;clear HA;simp only[Zai.l0]at H;by_cases c19:eP<(fe.length:Int)
   case pos=>
    rw[if_pos c19]at H;have wy:decide (eP<(fe.length:Int))=true:=decide_eq_true c19;clear c19;obtain⟨esa,H⟩:=ifT H;obtain⟨c21,H⟩:=ifP H;have Ku:=Za.mk c21;clear c21;obtain⟨uq,Dz⟩:∃y_:List Int,y_=(iX++ [wrap64 (-(rd fe eP))]):=⟨_,rfl⟩;replace H:(Zai.l0 k1 l8 (wrap64 (eP+1)) jg jw eU dD fe eU dD uq)=some r:=by first|(rw[Dz];with_reducible exact H)|(have H2_:=(Option.bind_some _ _).symm.trans H;rw[Dz];with_reducible exact H2_)|(have H2_:=(Option.bind_some _ _).symm.trans H;with_reducible exact H2_)|with_reducible exact H|(rw[Dz];exact H)|exact H
    have Ww:=Za.mk Dz;clear Dz;have H':=Za.mk H;clear H;have X4:=mE.out;have X7:=qB.out;obtain⟨Mw,Mx,M0,Rs,Rt,LQ,LU,LV,QK,QL⟩:=cz5 aH.out;try go_wp2
    replace fH:=Za.mk (Kd.Zd6 fH.out);replace dK:=Za.mk (Kd.Zey dK.out);replace dL:=Za.mk (Kd.Zey dL.out);replace bP:=Za.mk (Kd.Zd6 bP.out);replace bI:=Za.mk (Kd.Zd6 bI.out);replace bX:=Za.mk (Kd.Zd6 bX.out);replace bQ:=Za.mk (Kd.Zd6 bQ.out);replace aH:=Za.mk (Zah aH.out);replace bz:=Za.mk (Zah bz.out);replace HB:=Za.mk (Zcq HB.out);have NP:0≤(eP:Int):=odt;have Oe:eP<(fe.length:Int):=odt;obtain⟨sW,rfl,Jw⟩:=Kd.Zb1 (Kd.Zam bI.out).2.2 eP NP Oe;replace NP:=eq_true NP;replace Oe:=eq_true Oe;refine Ze4 (n:=13) (S:=fun w'=>w'.cell? ⟨dH,0,none⟩=some (.int .i64 eU)∧w'.cell? ⟨dH,1,none⟩=some (.slice bF dD.length bG)∧w'.cell? ⟨dH,2,none⟩=some (je)∧w'.cell? ⟨bJ,0,none⟩=some (.slice Ao9 jg.length co9)∧w'.cell? ⟨bJ,1,none⟩=some (.slice jl jw.length jq)∧w'.cell? ⟨bJ,2,none⟩=some (.int .i64 eU)∧w'.cell? ⟨bJ,3,none⟩=some (.slice bF dD.length bG)∧w'.cell? ⟨bJ,4,none⟩=some (.slice (some sW) fe.length dI)∧w'.cell? (sW.add (eP).toNat)=some (.int .i64 (rd fe eP))) (ds:= [10,12]) #[false,false,false,false,false,false,false,false,false,false,false,false,false] (by kernel_rfl) rfl rfl ⟨bc bz.out 0,bc bz.out 1,bc bz.out 2,bc aH.out 0,bc aH.out 1,bc aH.out 2,bc aH.out 3,bc aH.out 4,Jw⟩ (fun hHeld=> ?_);refine Zdu Zai.tab9 Zai.bits9 (fun HT_ HW_=> ?_)
    generalize wr.drew=w24 at fH dK dL bP bI bX bQ aH bz HB Jw hHeld ⊢
    refine pu HT_ 0 34 ?_;refine pu HT_ 2 36 ?_;refine pu HT_ 3 37 ?_;refine pu HT_ 5 39 ?_;refine tk HT_ HW_ hHeld 1 35 ?_;refine tk HT_ HW_ hHeld 4 38 ?_;refine pu HT_ 6 40 ?_;refine tk HT_ HW_ hHeld 7 41 ?_;refine pu HT_ 8 42 ?_;refine on1 HT_ 9 43 (fun K hK=> ?_);refine value_ (w1:=?_) (v:=?_) (by rfl) rfl ?_ ?_;rotate_left 2
    ·go_simp
     constructor
     ·rfl
     rfl
    refine hK.out _ _ ⟨(Zan (Zab bz.out _) 0).trans rfl,(Zan (Zab bz.out _) 1).trans rfl,(Zan (Zab bz.out _) 2).trans rfl,(Zan (Zab aH.out _) 0).trans rfl,(Zan (Zab aH.out _) 1).trans rfl,(Zan (Zab aH.out _) 2).trans rfl,(Zan (Zab aH.out _) 3).trans rfl,(Zan (Zab aH.out _) 4).trans rfl,(World.cell?_alloc_lt _ _ _ (World.block_lt_of_cell? _ _ (hHeld.2.2.2.2.2.2.2.2))).trans (hHeld.2.2.2.2.2.2.2.2)⟩ (fun hHeld=> ?_);clear hK K;refine nmp 43 ?_;refine last_ (i:=10) (N:=some 44) #[true,true,true,true,true,true,true,true,true,true,true,false,false] rfl rfl (Zgj HT_.out (by kernel_rfl)) (by decide) (fun K hK=> ?_);refine Kd.Zer (Kd.int .i64) (w0:=w) w.heap.size (by rfl) (.tmp 35) (.tmp 43) 24 3 (.int .i64 0) 8 rfl Tryz.underlying24 info3 rfl (by decide) (by omega) je iX (wrap64 (-(rd fe eP))) [.int .i64 (wrap64 (-(rd fe eP)))] (fun k_=>some k_≠(qx:Value).ownBlock∧some k_≠(.slice bF dD.length bG:Value).ownBlock∧some k_≠(.slice (some sW) fe.length dI:Value).ownBlock∧some k_≠(.slice bF dD.length bG:Value).ownBlock) (fun _=>False) rfl rfl ?aP (fun _ hk=>hk.elim) ?aF ?aO ?aB ?aS ?aL ?_
    (case aP=>exact rfl)
    (case aB=>exact(bM HB.out))
    (case aF=>exact(fun k_ hk=>⟨Kd.fresh' (Kd.R_lt (rM fH.out)) k_ hk,Kd.fresh' (Kd.R_lt (rM bP.out)) k_ hk,Kd.fresh' (Kd.R_lt (rM bI.out)) k_ hk,Kd.fresh' (Kd.R_lt (rM bX.out)) k_ hk⟩))
    (case aO=>exact(rM bQ.out))
    (case aS=>exact(Zaf (bM HB.out)))
    (case aL=>have:=Ku.out;omega)
    intro oMa w25 ho hb hg hat;rw[←Ww.out]at ho;replace fH:=Za.mk (Kd.Zdg (ok:=(fun k_=>some k_≠(.slice bF dD.length bG:Value).ownBlock∧some k_≠(.slice (some sW) fe.length dI:Value).ownBlock∧some k_≠(.slice bF dD.length bG:Value).ownBlock)) (rM (Kd.Za4 fH.out (fun _ hk=>⟨⟨hk.1,⟨hk.2.1,hk.2.2.1⟩⟩,hk.2.2.2⟩))) hg hat);replace dK:=Za.mk (Kd.N_afterv (ok:=(fun k_=>some k_≠(qx:Value).ownBlock∧some k_≠(.slice jl jw.length jq:Value).ownBlock∧some k_≠(.slice bF dD.length bG:Value).ownBlock∧some k_≠(.slice (some sW) fe.length dI:Value).ownBlock∧some k_≠(.slice bF dD.length bG:Value).ownBlock∧k_≠bJ∧k_≠dH)) (nM (Kd.Zce dK.out (fun _ hk=>⟨⟨hk.1,⟨hk.2.1,⟨hk.2.2.1,⟨hk.2.2.2.1,⟨hk.2.2.2.2.1,⟨hk.2.2.2.2.2.2.1,hk.2.2.2.2.2.2.2⟩⟩⟩⟩⟩⟩,hk.2.2.2.2.2.1⟩))) hg hat);replace dL:=Za.mk (Kd.N_afterv (ok:=(fun k_=>some k_≠(qx:Value).ownBlock∧some k_≠(.slice Ao9 jg.length co9:Value).ownBlock∧some k_≠(.slice bF dD.length bG:Value).ownBlock∧some k_≠(.slice (some sW) fe.length dI:Value).ownBlock∧some k_≠(.slice bF dD.length bG:Value).ownBlock∧k_≠bJ∧k_≠dH)) (nM (Kd.Zce dL.out (fun _ hk=>⟨⟨hk.1,⟨hk.2.1,⟨hk.2.2.1,⟨hk.2.2.2.1,⟨hk.2.2.2.2.1,⟨hk.2.2.2.2.2.2.1,hk.2.2.2.2.2.2.2⟩⟩⟩⟩⟩⟩,hk.2.2.2.2.2.1⟩))) hg hat);replace bP:=Za.mk (Kd.Zdg (ok:=(fun k_=>some k_≠(qx:Value).ownBlock∧some k_≠(.slice (some sW) fe.length dI:Value).ownBlock)) (rM (Kd.Za4 bP.out (fun _ hk=>⟨⟨hk.1,hk.2.1⟩,hk.2.2⟩))) hg hat);replace bI:=Za.mk (Kd.Zdg (ok:=(fun k_=>some k_≠(qx:Value).ownBlock∧some k_≠(.slice bF dD.length bG:Value).ownBlock∧some k_≠(.slice bF dD.length bG:Value).ownBlock)) (rM (Kd.Za4 bI.out (fun _ hk=>⟨⟨hk.1,⟨hk.2.1,hk.2.2.1⟩⟩,hk.2.2.2⟩))) hg hat);replace bX:=Za.mk (Kd.Zdg (ok:=(fun k_=>some k_≠(qx:Value).ownBlock∧some k_≠(.slice (some sW) fe.length dI:Value).ownBlock)) (rM (Kd.Za4 bX.out (fun _ hk=>⟨⟨hk.1,hk.2.1⟩,hk.2.2⟩))) hg hat);replace aH:=Za.mk (kG aH.out hg (Kd.R_ne bQ.out aH.out (by decide)));replace bz:=Za.mk (kG bz.out hg (Kd.R_ne bQ.out bz.out (by decide)));replace HB:=Za.mk (hb);have Pv:=Za.mk (ho);clear bQ ho hb hg hat;obtain⟨uk,ul,Lf⟩:=Kd.Zbe Pv.out
    (first|subst Lf|(injection Lf with f1_ f2_ f3_;have f4_:=f1_.symm;have f5_:=f3_.symm;clear f1_ f2_ f3_;subst f4_;subst f5_))
    refine hK.out _ _ ?_;clear hK K;refine nmp 44 ?_;refine pu HT_ 11 45 ?_;refine last_ (i:=12) (N:=none) #[true,true,true,true,true,true,true,true,true,true,true,true,true] rfl rfl (Zgj HT_.out (by kernel_rfl)) (by decide) (fun K hK=> ?_);have hs27:w25.cell? ⟨dH,2,none⟩=some (je):=(Zan bz.out 2).trans rfl;have hfs27:=Zax bz.out 2;have hns27_0:=mE.out;have hms27_0:=qB.out;refine skip_ (w1:=?_) (by rfl) rfl ?_ ?_;rotate_left
    ·go_simp
     rfl
    refine hK.out _ _ ?_;clear hK K;refine Zgp (Zep HT_.out (by kernel_rfl)) ?_;try go_wp2
    go_roundg k1
    case measure=>have:=HK1.out;omega
    case rel=>exact⟨(wrap64 (eP+1)),(uq),(.slice uk uq.length ul),eS,H',⟨by have:=HK1.out;omega⟩,⟨rM (Kd.Za4 (Kd.Zbp (p:=⟨dH,2,none⟩) (Kd.Zb5 fH.out bz.out (by decide)) (fun _ hk=>hk.2) (.slice uk uq.length ul)) (fun _ hk=>⟨hk.1.1.1,⟨hk.1.1.2.1,⟨hk.1.1.2.2,hk.1.2⟩⟩⟩))⟩,⟨nM (Kd.Zce (Kd.Zct (p:=⟨dH,2,none⟩) (Kd.Zce dK.out (fun k_ hk=>(⟨hk,hk.1.2.2.2.2.2.2⟩:_∧k_≠dH))) (fun _ hk=>hk.2) (.slice uk uq.length ul)) (fun _ hk=>⟨hk.1.1.1,⟨hk.1.1.2.1,⟨hk.1.1.2.2.1,⟨hk.1.1.2.2.2.1,⟨hk.1.1.2.2.2.2.1,⟨hk.1.2,⟨hk.1.1.2.2.2.2.2.1,hk.1.1.2.2.2.2.2.2⟩⟩⟩⟩⟩⟩⟩))⟩,⟨nM (Kd.Zce (Kd.Zct (p:=⟨dH,2,none⟩) (Kd.Zce dL.out (fun k_ hk=>(⟨hk,hk.1.2.2.2.2.2.2⟩:_∧k_≠dH))) (fun _ hk=>hk.2) (.slice uk uq.length ul)) (fun _ hk=>⟨hk.1.1.1,⟨hk.1.1.2.1,⟨hk.1.1.2.2.1,⟨hk.1.1.2.2.2.1,⟨hk.1.1.2.2.2.2.1,⟨hk.1.2,⟨hk.1.1.2.2.2.2.2.1,hk.1.1.2.2.2.2.2.2⟩⟩⟩⟩⟩⟩⟩))⟩,⟨rM (Kd.Za4 (Kd.Zbp (p:=⟨dH,2,none⟩) (Kd.Zb5 bP.out bz.out (by decide)) (fun _ hk=>hk.2) (.slice uk uq.length ul)) (fun _ hk=>⟨hk.1.1.1,⟨hk.1.1.2,hk.1.2⟩⟩))⟩,⟨rM (Kd.Za4 (Kd.Zbp (p:=⟨dH,2,none⟩) (Kd.Zb5 bI.out bz.out (by decide)) (fun _ hk=>hk.2) (.slice uk uq.length ul)) (fun _ hk=>⟨hk.1.1.1,⟨hk.1.1.2.1,⟨hk.1.1.2.2,hk.1.2⟩⟩⟩))⟩,⟨rM (Kd.Za4 (Kd.Zbp (p:=⟨dH,2,none⟩) (Kd.Zb5 bX.out bz.out (by decide)) (fun _ hk=>hk.2) (.slice uk uq.length ul)) (fun _ hk=>⟨hk.1.1.1,⟨hk.1.1.2,hk.1.2⟩⟩))⟩,⟨rM (Kd.Za4 (Kd.Zbp (p:=⟨dH,2,none⟩) (Kd.Zb5 Pv.out bz.out (by decide)) (fun _ hk=>hk.2) (.slice uk uq.length ul)) (fun _ hk=>⟨hk.1.1,⟨hk.1.2.1,⟨hk.1.2.2.1,hk.1.2.2.2⟩⟩⟩))⟩,⟨by(with_reducible repeat(first|exact aH.out|refine Zcr ?_ mE.out _|refine Zab ?_ _|refine Zah ?_|refine Zag ?_ _))⟩,⟨by(with_reducible repeat(first|refine Zag ?_ _|refine Zah ?_|refine Zab ?_ _));refine Zay (cs:=#[.int .i64 eU,.slice bF dD.length bG,je]) ?_ 2 _ rfl;(with_reducible repeat(first|refine Zag ?_ _|refine Zah ?_|refine Zab ?_ _));exact bz.out⟩,⟨bM HB.out⟩⟩
   rw[if_neg c19]at H;have wy:decide (eP<(fe.length:Int))=false:=decide_eq_false c19;clear c19;obtain⟨wM,A28,H⟩:=bnd H;try dsimp only at H
   obtain⟨wO,A29,H⟩:=bnd H;try dsimp only at H
   by_cases c30:wM=(wrap64 (-wO))
   case neg=>
    rw[if_neg c30]at H;have WU:(wM==(wrap64 (-wO)))=false:=beq_eq_false_iff_ne.mpr c30;have WV:(wM !=(wrap64 (-wO)))=true:=bne_iff_ne.mpr c30;exact absurd H (by simp)
   rw[if_pos c30]at H;have WU:(wM==(wrap64 (-wO)))=true:=beq_iff_eq.mpr c30;have WV:(wM !=(wrap64 (-wO)))=false:=bne_eq_false_iff_eq.mpr c30;clear c30;by_cases c31:eU=0
   case neg=>
    rw[if_neg c31]at H;have WW:(eU==0)=false:=beq_eq_false_iff_ne.mpr c31;have WX:(eU !=0)=true:=bne_iff_ne.mpr c31;obtain⟨OP,A44,H⟩:=bnd H;try dsimp only at H
    obtain rfl:=sj H;have eRa:=mE.out;have fta:=qB.out;obtain⟨a5a,a6a,a7a,a8a,a9a,Yw,Yx,Yy,Yz,Y0⟩:=cz5 aH.out;try go_wp2
    replace fH:=Za.mk (Kd.Zd6 fH.out);replace dK:=Za.mk (Kd.Zey dK.out);replace dL:=Za.mk (Kd.Zey dL.out);replace bP:=Za.mk (Kd.Zd6 bP.out);replace bI:=Za.mk (Kd.Zd6 bI.out);replace bX:=Za.mk (Kd.Zd6 bX.out);replace bQ:=Za.mk (Kd.Zd6 bQ.out);replace aH:=Za.mk (Zah aH.out);replace bz:=Za.mk (Zah bz.out);replace HB:=Za.mk (Zcq HB.out);obtain⟨JC,Ld,Lg⟩:=Kd.Zbe bQ.out
    (first|subst Lg|(injection Lg with f1_ f2_ f3_;have f4_:=f1_.symm;have f5_:=f3_.symm;clear f1_ f2_ f3_;subst f4_;subst f5_))
    obtain⟨Tw,TR,TT⟩:=Kd.Zbe fH.out
    (first|subst TT|(injection TT with f1_ f2_ f3_;have f4_:=f1_.symm;have f5_:=f3_.symm;clear f1_ f2_ f3_;subst f4_;subst f5_))
    refine Ze4 (n:=26) (S:=fun w'=>w'.cell? ⟨dH,0,none⟩=some (.int .i64 eU)∧w'.cell? ⟨dH,1,none⟩=some (.slice bF dD.length bG)∧w'.cell? ⟨dH,2,none⟩=some (.slice JC iX.length Ld)∧w'.cell? ⟨bJ,0,none⟩=some (.slice Ao9 jg.length co9)∧w'.cell? ⟨bJ,1,none⟩=some (.slice jl jw.length jq)∧w'.cell? ⟨bJ,2,none⟩=some (.int .i64 eU)∧w'.cell? ⟨bJ,3,none⟩=some (.slice bF dD.length bG)∧w'.cell? ⟨bJ,4,none⟩=some (.slice dX fe.length dI)) (ds:= []) #[false,false,false,false,false,false,false,false,false,false,false,false,false,false,false,false,false,false,false,false,false,false,false,false,false,false] (by kernel_rfl) rfl rfl ⟨bc bz.out 0,bc bz.out 1,bc bz.out 2,bc aH.out 0,bc aH.out 1,bc aH.out 2,bc aH.out 3,bc aH.out 4⟩ (fun hHeld=> ?_);refine Zdu Zai.tab10 Zai.bits10 (fun HT_ HW_=> ?_)
    generalize wr.drew=w47 at fH dK dL bP bI bX bQ aH bz HB hHeld ⊢
    refine pu HT_ 1 47 ?_;refine pu HT_ 3 49 ?_;refine pu HT_ 5 51 ?_;refine tk HT_ HW_ hHeld 0 46 ?_;refine tk HT_ HW_ hHeld 4 50 ?_;refine on1 HT_ 2 48 (fun K hK=> ?_);refine gs Tryz.func17 #[.agg #[.int .i64 eU,.slice bF dD.length bG,.slice JC iX.length Ld],.slice Tw l8.length TR] ?_
    with_reducible refine(Za8.calls k1 eU _ _ dD _ _ iX _ _ l8 wM _ (cM ((Kd.Zam bX.out).2.2)) ((Kd.Zam bX.out).2.1) (cM ((Kd.Zam bQ.out).2.2)) ((Kd.Zam bQ.out).2.1) (cM ((Kd.Zam fH.out).2.2)) ((Kd.Zam fH.out).2.1) A28.out).mono ?_
    rintro e w50 ⟨rfl,hb⟩;refine⟨_,rfl,?_⟩;replace fH:=Za.mk (Kd.Zbn (rM fH.out) hb);replace dK:=Za.mk (Kd.Zcg (nM dK.out) hb);replace dL:=Za.mk (Kd.Zcg (nM dL.out) hb);replace bP:=Za.mk (Kd.Zbn (rM bP.out) hb);replace bI:=Za.mk (Kd.Zbn (rM bI.out) hb);replace bX:=Za.mk (Kd.Zbn (rM bX.out) hb);replace bQ:=Za.mk (Kd.Zbn (rM bQ.out) hb);replace aH:=Za.mk (kB aH.out hb);replace bz:=Za.mk (kB bz.out hb);replace HB:=Za.mk (bS HB.out hb)
    (try clear hb)
    (try clear hb2)
    (try clear hk)
    (try clear hi)
    refine hK.out _ _ ⟨bc bz.out 0,bc bz.out 1,bc bz.out 2,bc aH.out 0,bc aH.out 1,bc aH.out 2,bc aH.out 3,bc aH.out 4⟩ (fun hHeld=> ?_);clear hK K;refine nmp 48 ?_;refine on1 HT_ 6 52 (fun K hK=> ?_);refine gs Tryz.func17 #[.agg #[.int .i64 eU,.slice bF dD.length bG,.slice dX fe.length dI],.slice Tw l8.length TR] ?_
    with_reducible refine(Za8.calls k1 eU _ _ dD _ _ fe _ _ l8 wO _ (cM ((Kd.Zam bP.out).2.2)) ((Kd.Zam bP.out).2.1) (cM ((Kd.Zam bI.out).2.2)) ((Kd.Zam bI.out).2.1) (cM ((Kd.Zam fH.out).2.2)) ((Kd.Zam fH.out).2.1) A29.out).mono ?_
    rintro e w51 ⟨rfl,hb⟩;refine⟨_,rfl,?_⟩;replace fH:=Za.mk (Kd.Zbn (rM fH.out) hb);replace dK:=Za.mk (Kd.Zcg (nM dK.out) hb);replace dL:=Za.mk (Kd.Zcg (nM dL.out) hb);replace bP:=Za.mk (Kd.Zbn (rM bP.out) hb);replace bI:=Za.mk (Kd.Zbn (rM bI.out) hb);replace bX:=Za.mk (Kd.Zbn (rM bX.out) hb);replace bQ:=Za.mk (Kd.Zbn (rM bQ.out) hb);replace aH:=Za.mk (kB aH.out hb);replace bz:=Za.mk (kB bz.out hb);replace HB:=Za.mk (bS HB.out hb)
    (try clear hb)
    (try clear hb2)
    (try clear hk)
    (try clear hi)
    refine hK.out _ _ ⟨bc bz.out 0,bc bz.out 1,bc bz.out 2,bc aH.out 0,bc aH.out 1,bc aH.out 2,bc aH.out 3,bc aH.out 4⟩ (fun hHeld=> ?_);clear hK K;refine nmp 52 ?_;refine pu HT_ 7 53 ?_;refine pu HT_ 8 54 ?_;refine pu HT_ 9 55 ?_;refine pu HT_ 10 56 ?_;refine pu HT_ 11 57 ?_;refine tk HT_ HW_ hHeld 12 58 ?_;refine pu HT_ 13 59 ?_;refine pu HT_ 14 60 ?_;refine un HT_ 15 61 ?_;refine un HT_ 16 62 ?_;refine un HT_ 17 63 ?_;refine un HT_ 18 64 ?_;refine un HT_ 19 65 ?_;refine pu HT_ 20 66 ?_;refine pu HT_ 21 67 ?_;refine pu HT_ 22 68 ?_;refine on1 HT_ 23 69 (fun K hK=> ?_);refine gs Tryz.func11 #[] ?_
    with_reducible refine(Zb2.calls k1 OP _ A44.out).mono ?_
    rintro e w52 ⟨rfl,hb⟩;refine⟨_,rfl,?_⟩;replace fH:=Za.mk (Kd.Zbn (rM fH.out) hb);replace dK:=Za.mk (Kd.Zcg (nM dK.out) hb);replace dL:=Za.mk (Kd.Zcg (nM dL.out) hb);replace bP:=Za.mk (Kd.Zbn (rM bP.out) hb);replace bI:=Za.mk (Kd.Zbn (rM bI.out) hb);replace bX:=Za.mk (Kd.Zbn (rM bX.out) hb);replace bQ:=Za.mk (Kd.Zbn (rM bQ.out) hb);replace aH:=Za.mk (kB aH.out hb);replace bz:=Za.mk (kB bz.out hb);replace HB:=Za.mk (bS HB.out hb)
    (try clear hb)
    (try clear hb2)
    (try clear hk)
    (try clear hi)
    refine hK.out _ _ ⟨bc bz.out 0,bc bz.out 1,bc bz.out 2,bc aH.out 0,bc aH.out 1,bc aH.out 2,bc aH.out 3,bc aH.out 4⟩ (fun hHeld=> ?_);clear hK K;refine nmp 69 ?_;refine pu HT_ 24 70 ?_;refine pu HT_ 25 4 ?_;refine Zgp (Zep HT_.out (by kernel_rfl)) ?_;try go_wp2
    go_ret;exact⟨eR,bM HB.out⟩
   rw[if_pos c31]at H;have WW:(eU==0)=true:=beq_iff_eq.mpr c31;have WX:(eU !=0)=false:=bne_eq_false_iff_eq.mpr c31;clear c31;obtain⟨yn,A32,H⟩:=bnd H;try dsimp only at H
   by_cases c33:yn=0
   case neg=>
    rw[if_neg c33]at H;have WY:(yn==0)=false:=beq_eq_false_iff_ne.mpr c33;have Xa:(yn !=0)=true:=bne_iff_ne.mpr c33;exact absurd H (by simp)
   rw[if_pos c33]at H;have WY:(yn==0)=true:=beq_iff_eq.mpr c33;have Xa:(yn !=0)=false:=bne_eq_false_iff_eq.mpr c33;clear c33;obtain⟨OO,A34,H⟩:=bnd H;try dsimp only at H
   obtain rfl:=sj H;have eMa:=mE.out;have foa:=qB.out;obtain⟨asa,ata,jYa,kaa,kba,Yj,Yk,gga,gha,gia⟩:=cz5 aH.out;try go_wp2
   replace fH:=Za.mk (Kd.Zd6 fH.out);replace dK:=Za.mk (Kd.Zey dK.out);replace dL:=Za.mk (Kd.Zey dL.out);replace bP:=Za.mk (Kd.Zd6 bP.out);replace bI:=Za.mk (Kd.Zd6 bI.out);replace bX:=Za.mk (Kd.Zd6 bX.out);replace bQ:=Za.mk (Kd.Zd6 bQ.out);replace aH:=Za.mk (Zah aH.out);replace bz:=Za.mk (Zah bz.out);replace HB:=Za.mk (Zcq HB.out);obtain⟨gW,ib,wB⟩:=Kd.Zbe bQ.out
   (first|subst wB|(injection wB with f1_ f2_ f3_;have f4_:=f1_.symm;have f5_:=f3_.symm;clear f1_ f2_ f3_;subst f4_;subst f5_))
   obtain⟨MQ,Ni,TS⟩:=Kd.Zbe fH.out
   (first|subst TS|(injection TS with f1_ f2_ f3_;have f4_:=f1_.symm;have f5_:=f3_.symm;clear f1_ f2_ f3_;subst f4_;subst f5_))
   refine Ze4 (n:=26) (S:=fun w'=>w'.cell? ⟨dH,0,none⟩=some (.int .i64 eU)∧w'.cell? ⟨dH,1,none⟩=some (.slice bF dD.length bG)∧w'.cell? ⟨dH,2,none⟩=some (.slice gW iX.length ib)∧w'.cell? ⟨bJ,0,none⟩=some (.slice Ao9 jg.length co9)∧w'.cell? ⟨bJ,1,none⟩=some (.slice jl jw.length jq)∧w'.cell? ⟨bJ,2,none⟩=some (.int .i64 eU)∧w'.cell? ⟨bJ,3,none⟩=some (.slice bF dD.length bG)∧w'.cell? ⟨bJ,4,none⟩=some (.slice dX fe.length dI)) (ds:= []) #[false,false,false,false,false,false,false,false,false,false,false,false,false,false,false,false,false,false,false,false,false,false,false,false,false,false] (by kernel_rfl) rfl rfl ⟨bc bz.out 0,bc bz.out 1,bc bz.out 2,bc aH.out 0,bc aH.out 1,bc aH.out 2,bc aH.out 3,bc aH.out 4⟩ (fun hHeld=> ?_);refine Zdu Zai.tab10 Zai.bits10 (fun HT_ HW_=> ?_)
   generalize wr.drew=w37 at fH dK dL bP bI bX bQ aH bz HB hHeld ⊢
   refine pu HT_ 1 47 ?_;refine pu HT_ 3 49 ?_;refine pu HT_ 5 51 ?_;refine tk HT_ HW_ hHeld 0 46 ?_;refine tk HT_ HW_ hHeld 4 50 ?_;refine on1 HT_ 2 48 (fun K hK=> ?_);refine gs Tryz.func17 #[.agg #[.int .i64 eU,.slice bF dD.length bG,.slice gW iX.length ib],.slice MQ l8.length Ni] ?_
   with_reducible refine(Za8.calls k1 eU _ _ dD _ _ iX _ _ l8 wM _ (cM ((Kd.Zam bX.out).2.2)) ((Kd.Zam bX.out).2.1) (cM ((Kd.Zam bQ.out).2.2)) ((Kd.Zam bQ.out).2.1) (cM ((Kd.Zam fH.out).2.2)) ((Kd.Zam fH.out).2.1) A28.out).mono ?_
   rintro e w40 ⟨rfl,hb⟩;refine⟨_,rfl,?_⟩;replace fH:=Za.mk (Kd.Zbn (rM fH.out) hb);replace dK:=Za.mk (Kd.Zcg (nM dK.out) hb);replace dL:=Za.mk (Kd.Zcg (nM dL.out) hb);replace bP:=Za.mk (Kd.Zbn (rM bP.out) hb);replace bI:=Za.mk (Kd.Zbn (rM bI.out) hb);replace bX:=Za.mk (Kd.Zbn (rM bX.out) hb);replace bQ:=Za.mk (Kd.Zbn (rM bQ.out) hb);replace aH:=Za.mk (kB aH.out hb);replace bz:=Za.mk (kB bz.out hb);replace HB:=Za.mk (bS HB.out hb)
   (try clear hb)
   (try clear hb2)
   (try clear hk)
   (try clear hi)
   refine hK.out _ _ ⟨bc bz.out 0,bc bz.out 1,bc bz.out 2,bc aH.out 0,bc aH.out 1,bc aH.out 2,bc aH.out 3,bc aH.out 4⟩ (fun hHeld=> ?_);clear hK K;refine nmp 48 ?_;refine on1 HT_ 6 52 (fun K hK=> ?_);refine gs Tryz.func17 #[.agg #[.int .i64 eU,.slice bF dD.length bG,.slice dX fe.length dI],.slice MQ l8.length Ni] ?_
   with_reducible refine(Za8.calls k1 eU _ _ dD _ _ fe _ _ l8 wO _ (cM ((Kd.Zam bP.out).2.2)) ((Kd.Zam bP.out).2.1) (cM ((Kd.Zam bI.out).2.2)) ((Kd.Zam bI.out).2.1) (cM ((Kd.Zam fH.out).2.2)) ((Kd.Zam fH.out).2.1) A29.out).mono ?_
   rintro e w41 ⟨rfl,hb⟩;refine⟨_,rfl,?_⟩;replace fH:=Za.mk (Kd.Zbn (rM fH.out) hb);replace dK:=Za.mk (Kd.Zcg (nM dK.out) hb);replace dL:=Za.mk (Kd.Zcg (nM dL.out) hb);replace bP:=Za.mk (Kd.Zbn (rM bP.out) hb);replace bI:=Za.mk (Kd.Zbn (rM bI.out) hb);replace bX:=Za.mk (Kd.Zbn (rM bX.out) hb);replace bQ:=Za.mk (Kd.Zbn (rM bQ.out) hb);replace aH:=Za.mk (kB aH.out hb);replace bz:=Za.mk (kB bz.out hb);replace HB:=Za.mk (bS HB.out hb)
   (try clear hb)
   (try clear hb2)
   (try clear hk)
   (try clear hi)
   refine hK.out _ _ ⟨bc bz.out 0,bc bz.out 1,bc bz.out 2,bc aH.out 0,bc aH.out 1,bc aH.out 2,bc aH.out 3,bc aH.out 4⟩ (fun hHeld=> ?_);clear hK K;refine nmp 52 ?_;refine pu HT_ 7 53 ?_;refine pu HT_ 8 54 ?_;refine pu HT_ 9 55 ?_;refine pu HT_ 10 56 ?_;refine pu HT_ 11 57 ?_;refine tk HT_ HW_ hHeld 12 58 ?_;refine pu HT_ 13 59 ?_;refine pu HT_ 14 60 ?_;refine pu HT_ 15 61 ?_;refine pu HT_ 17 63 ?_;refine tk HT_ HW_ hHeld 16 62 ?_;refine on1 HT_ 18 64 (fun K hK=> ?_);refine gs Tryz.func17 #[.agg #[.int .i64 eU,.slice bF dD.length bG,.slice dX fe.length dI],.slice MQ l8.length Ni] ?_
   with_reducible refine(Za8.calls k1 eU _ _ dD _ _ fe _ _ l8 yn _ (cM ((Kd.Zam bP.out).2.2)) ((Kd.Zam bP.out).2.1) (cM ((Kd.Zam bI.out).2.2)) ((Kd.Zam bI.out).2.1) (cM ((Kd.Zam fH.out).2.2)) ((Kd.Zam fH.out).2.1) A32.out).mono ?_
   rintro e w42 ⟨rfl,hb⟩;refine⟨_,rfl,?_⟩;replace fH:=Za.mk (Kd.Zbn (rM fH.out) hb);replace dK:=Za.mk (Kd.Zcg (nM dK.out) hb);replace dL:=Za.mk (Kd.Zcg (nM dL.out) hb);replace bP:=Za.mk (Kd.Zbn (rM bP.out) hb);replace bI:=Za.mk (Kd.Zbn (rM bI.out) hb);replace bX:=Za.mk (Kd.Zbn (rM bX.out) hb);replace bQ:=Za.mk (Kd.Zbn (rM bQ.out) hb);replace aH:=Za.mk (kB aH.out hb);replace bz:=Za.mk (kB bz.out hb);replace HB:=Za.mk (bS HB.out hb)
   (try clear hb)
   (try clear hb2)
   (try clear hk)
   (try clear hi)
   refine hK.out _ _ ⟨bc bz.out 0,bc bz.out 1,bc bz.out 2,bc aH.out 0,bc aH.out 1,bc aH.out 2,bc aH.out 3,bc aH.out 4⟩ (fun hHeld=> ?_);clear hK K;refine nmp 64 ?_;refine pu HT_ 19 65 ?_;refine pu HT_ 20 66 ?_;refine pu HT_ 21 67 ?_;refine pu HT_ 22 68 ?_;refine on1 HT_ 23 69 (fun K hK=> ?_);refine gs Tryz.func11 #[] ?_
   with_reducible refine(Zb2.calls k1 OO _ A34.out).mono ?_
   rintro e w43 ⟨rfl,hb⟩;refine⟨_,rfl,?_⟩;replace fH:=Za.mk (Kd.Zbn (rM fH.out) hb);replace dK:=Za.mk (Kd.Zcg (nM dK.out) hb);replace dL:=Za.mk (Kd.Zcg (nM dL.out) hb);replace bP:=Za.mk (Kd.Zbn (rM bP.out) hb);replace bI:=Za.mk (Kd.Zbn (rM bI.out) hb);replace bX:=Za.mk (Kd.Zbn (rM bX.out) hb);replace bQ:=Za.mk (Kd.Zbn (rM bQ.out) hb);replace aH:=Za.mk (kB aH.out hb);replace bz:=Za.mk (kB bz.out hb);replace HB:=Za.mk (bS HB.out hb)
   (try clear hb)
   (try clear hb2)
   (try clear hk)
   (try clear hi)
   refine hK.out _ _ ⟨bc bz.out 0,bc bz.out 1,bc bz.out 2,bc aH.out 0,bc aH.out 1,bc aH.out 2,bc aH.out 3,bc aH.out 4⟩ (fun hHeld=> ?_);clear hK K;refine nmp 69 ?_;refine pu HT_ 24 70 ?_;refine pu HT_ 25 4 ?_;refine Zgp (Zep HT_.out (by kernel_rfl)) ?_;try go_wp2
   go_ret;exact⟨eR,bM HB.out⟩
end Go.Proofs.YtdpieallpbllkaaGreat.P
/- secateurlaw06.MeaningGoals: a goal to be small is one to be great of the numbers the other way round: it comes to the opposite. -/
namespace Go.Proofs.YtdpieallpbllkaaGreat.P
open Go.RowKit Go.Proofs.YtdpieallpbllkaaGreatW.PrintWords Go.Proofs.YtdpieallpbllkaaGreatW.PrintLast Go.Proofs.YtdpieallpbllkaaGreatW.PrintMore
theorem tot_neg : ∀ l : List Int, tot (l.map fun c => -c) = tot l
  | [] => rfl
  |c::l=>by
    rw[List.map_cons,tot,tot,tot_neg l]
    omega
theorem dotV_neg : ∀ (cs vs : List Int), dotV (cs.map fun c => -c) vs = -dotV cs vs
  | [], vs => by simp [dotV]
  | c :: cs, [] => by simp [dotV]
  |c::cs,v::vs=>by
    rw[List.map_cons,dotV,dotV,dotV_neg cs vs,Int.neg_mul]
    omega
theorem tot_mem : ∀ {l : List Int} {c : Int}, c ∈ l → (c.natAbs : Int) ≤ tot l
  | [], _, h => absurd h List.not_mem_nil
  |x::l,c,h=>by
    have hn:=Zd4 l;rw[tot]
    rcases List.mem_cons.1 h with e|h
    · rw[e];omega
    have:=tot_mem h;omega
section
variable {V:List S55} {C:List S36} {gk:Int} {gv gc:List Int}
theorem mgoals_l0 (ho : OkM V C gk gv gc) (h : chkE V C gk gv gc = 0) (a : List Int) (ha : smallV a) : ∀ (d i : Nat) (acc : List Int), i + d = gc.length → acc = (gc.take i).map (fun c => -c) → Ev (fun k => Zai.l0 k a (i : Int) V C gk gv gc gk gv acc) true
  |0,i,acc,hi,hacc=>by
    rw[List.take_of_length_le (by omega)]at hacc;subst hacc;have hg:=Zhu (chkE_goal h)
    have hgo:gk≠0→gv.length=gc.length∧tot gc≤4611686018427387904:=fun q=>by
      rcases hg with ⟨h1,_⟩|⟨_,h1,h2⟩
      · exact absurd h1 q
      exact⟨h1,h2⟩
    have hgn:gk≠0→gv.length=(gc.map fun c=> -c).length∧tot (gc.map fun c=> -c)≤4611686018427387904:=fun q=>by
      rw[List.length_map,tot_neg];exact hgo q
    have hv:=value_ev hgo ho.gvl ha
    have hw:wrap64 (-(valE gk gv gc a))=valE gk gv (gc.map fun c=> -c) a:=by
      unfold valE;by_cases q:gk=0
      · rw[if_pos q,if_pos q];have:=w64 (n:=0) (by omega) (by omega);simpa using this
      rw[if_neg q,if_neg q,dotV_neg];have hb:=dotV_abs gc (gv.map (atV a)) (Ze7 ha gv);have:=(hgo q).2;exact w64 (by omega) (by omega)
    refine Ev.step (fun k=>by rw[Zai.l0,if_neg (by omega)]) (Ev.bind (value_ev hgn ho.gvl ha) (Ev.bind hv ?_));rw[hw];refine Ev.Zar rfl ?_;by_cases q:gk=0;rotate_left
    · exact Ev.Za5 q (Ev.bind Zgb (Ev.const rfl))
    refine Ev.Zar q (Ev.bind hv (Ev.Zar ?_ (Ev.bind Zgb (Ev.const rfl))));unfold valE;rw[if_pos q]
  |d+1,i,acc,hi,hacc=>by
    have hl:i<gc.length:=by omega
    have hgl:=ho.gcl;have hal:acc.length<17592186044416:=by rw[hacc,List.length_map,List.length_take];omega
    have hr:rd gc (i:Int)=gc[i]:=Zc2 _ _ hl;have hlo:=ho.gw _ (List.getElem_mem hl)
    have hwn:wrap64 (-gc[i])= -gc[i]:=by
      rcases Zhu (chkE_goal h)with ⟨_,_,h1⟩|⟨_,_,h1⟩
      · rw[h1]at hl;exact absurd hl (by simp)
      have:=tot_mem (List.getElem_mem hl);exact w64 (by omega) (by omega)
    refine Ev.step (fun k=>by rw[Zai.l0,if_pos (by omega),if_pos (by omega),if_pos hal,hr,hwn,w1 (by omega)]) (mgoals_l0 ho h a ha d (i+1) _ (by omega) ?_);rw[hacc,List.take_succ_eq_append_getElem hl,List.map_append]
    rfl
end
theorem mgoals_ev (x0:List S55) (x1:List S36) (x2:Int) (x3 x4:List Int) (ho:OkM (bV x0) (bC x1) x2 (x3.take 14) (x4.take 14)) (x5:List Int):Ev (fun k=>Zai.f k x0 x1 x2 x3 x4 x5) true:=by
  unfold Zai.f;refine Ev.bind (right6_ev x0 x1 x2 x3 x4 ho 1099511627776 (by omega)) ?_
  cases q:rightM (bV x0) (bC x1) x2 (x3.take 14) (x4.take 14) 1099511627776 with
  | false => exact Ev.Za5 (by simp) (Ev.bind Zgb (Ev.const rfl))
  |true=>
    unfold rightM at q;rw[Bool.and_eq_true,decide_eq_true_eq]at q;obtain⟨a,h1,h2,h3⟩:=values6_ev x5;exact Ev.Zar rfl (Ev.bind h1 (mgoals_l0 ho q.1 a h2 (x4.take 14).length 0 [] (by omega) (by simp)))
theorem Zgq (A0 : Option Addr) (c0 : Nat) (x0 : List S55) (A1 : Option Addr) (c1 : Nat) (x1 : List S36) (x2 : Int) (A3 : Option Addr) (c3 : Nat) (x3 : List Int) (A4 : Option Addr) (c4 : Nat) (x4 : List Int) (A5 : Option Addr) (c5 : Nat) (x5 : List Int) (W : World)
    (hC0:Kd.C k55 W A0 x0.length x0) (hc0:x0.length≤c0) (ok0:List.length x0*40≤140737488351232∧∀v ∈ x0,VarOk v) (hC1:Kd.C k36 W A1 x1.length x1) (hc1:x1.length≤c1) (ok1:List.length x1*104≤140737488351232∧∀c ∈ x1,ConOk c) (ok2:(Lit.int .i64 x2).wf=true)
    (hC3:Kd.C (Kd.int .i64) W A3 x3.length x3) (hc3:x3.length≤c3) (ok3:List.length x3*8≤140737488351232∧∀y ∈ x3,(Lit.int .i64 y).wf=true) (hC4:Kd.C (Kd.int .i64) W A4 x4.length x4) (hc4:x4.length≤c4) (ok4:List.length x4*8≤140737488351232∧∀y ∈ x4,(Lit.int .i64 y).wf=true)
    (hC5:Kd.C (Kd.int .i64) W A5 x5.length x5) (hc5:x5.length≤c5) (ok5:List.length x5*8≤140737488351232∧∀y ∈ x5,(Lit.int .i64 y).wf=true):
    Calls Tryz.prog 7 #[.agg #[.slice A0 x0.length c0,.slice A1 x1.length c1,.int .i64 x2,.slice A3 x3.length c3,.slice A4 x4.length c4],.slice A5 x5.length c5] W fun e W'=>e= .returned (.bool true)∧Below W.heap.size W W':=by
  have ho:=okM_bound x0 x1 x2 x3 x4 ok1.2 ok4.2;obtain⟨k,hk⟩:=(mgoals_ev x0 x1 x2 x3 x4 ho x5).out;exact Zai.calls k A0 c0 x0 A1 c1 x1 x2 A3 c3 x3 A4 c4 x4 A5 c5 x5 true W hC0 hc0 hC1 hc1 hC3 hc3 hC4 hc4 hC5 hc5 hk
end Go.Proofs.YtdpieallpbllkaaGreat.P
/- What a datum of a statement's arguments holds: a number, a text, a row, a struct, whatever is nested: its cells read as a value of the kind; and how long its rows are at most (by the weight of the whole). -/
namespace Go.Proofs.YtdpieallpbllkaaGreat.P
open Go.RowKit Go.ChangeShapes Go.WideShapes Go.Proofs.YtdpieallpbllkaaGreatW.PrintWords
structure OpensZ {α : Type} (P : Program) (d : Kd α) (ok : α → Prop) (t : TypeId) : Prop where
  out : ∀ {H : Type} (enc : TypeId × Value → H) (w : World) (base : Nat) (sp : Nat → Bool) (held : Bool) (fuel : Nat) (cs : List Value) (x : DataW H × List MemPlace),
    DataW.trod enc P w base sp held fuel t cs=some x→(∀n ∈ x.1.weights P t,n≤reachBytes)→∃v:α,d.K w v cs∧ok v
theorem OpensZ.int {P:Program} {t:TypeId} {k:IntKind} (ht:P.underlying t=some (.int k)):OpensZ P (Kd.int k) (fun n=>(Lit.int k n).wf=true) t:=by
  refine⟨?_⟩;intro H enc w base sp held fuel cs x h hz;obtain⟨n,rfl,rfl,hw⟩:=DataW.trod_int ht h;exact⟨n,rfl,hw⟩
theorem OpensZ.bool {P:Program} {t:TypeId} (ht:P.underlying t=some .bool):OpensZ P Kd.bool (fun _=>True) t:=by
  refine⟨?_⟩;intro H enc w base sp held fuel cs x h hz;obtain⟨b,rfl,rfl⟩:=DataW.trod_bool ht h;exact⟨b,rfl,trivial⟩
theorem OpensZ.string {P:Program} {t:TypeId} (ht:P.underlying t=some .string):OpensZ P Kd.string (fun s=>s.size≤maxLen) t:=by
  refine⟨?_⟩;intro H enc w base sp held fuel cs x h hz;obtain⟨s,rfl,rfl,hs⟩:=DataW.trod_string ht h;exact⟨s,rfl,hs⟩
theorem OpensZ.iso {α β:Type} {P:Program} {d:Kd α} {ok:α→Prop} {t:TypeId} (h:OpensZ P d ok t) (f:β→α) (g:α→β) (hfg:∀a,f (g a)=a):OpensZ P (Kd.iso d f) (fun b=>ok (f b)) t:=by
  refine⟨?_⟩;intro H enc w base sp held fuel cs x hx hz;obtain⟨v,hK,hok⟩:=h.out enc w base sp held fuel cs x hx hz;exact⟨g v,by show d.K w (f (g v)) cs;rw[hfg];exact hK,by show ok (f (g v));rw[hfg];exact hok⟩
theorem Zf2 {H:Type} {P:Program} {t e:TypeId} (ht:P.underlying t=some (.slice e)) {el sp:List (DataW H)} :(DataW.slice el sp:DataW H).weights P t=(el.length+sp.length)*P.bytesOf e::(DataW.weightsAll P e el++DataW.weightsAll P e sp):=by simp[DataW.weights,ht]
theorem weights_agg {H:Type} {P:Program} {t:TypeId} {fs:Array Field} (ht:P.underlying t=some (.struct fs)) {ps:List (DataW H)} :(DataW.agg ps:DataW H).weights P t=DataW.weightsEach P (fs.toList.map (·.type)) ps:=by simp[DataW.weights,ht]
theorem Zfh {H : Type} {P : Program} {e : TypeId} {d : DataW H} : ∀ {l : List (DataW H)}, d ∈ l → ∀ {n : Nat}, n ∈ d.weights P e → n ∈ DataW.weightsAll P e l
  |x::l,hd,n,hn=>by
    simp only[DataW.weightsAll,List.mem_append]
    rcases List.mem_cons.1 hd with rfl|hd
    · exact .inl hn
    exact .inr (Zfh hd hn)
theorem choose_list {α:Type} {n:Nat} {R:Nat→α→Prop} (h:∀i,i<n→∃a,R i a):∃l:List α,l.length=n∧∀i (hi:i<l.length),R i l[i]:=by
  induction n with
  | zero => exact ⟨[], rfl, fun i hi => absurd hi (by simp)⟩
  |succ n ih=>
    obtain⟨l,hl,hR⟩:=ih (fun i hi=>h i (by omega));obtain⟨a,ha⟩:=h n (by omega);refine⟨l++ [a],by simp[hl],fun i hi=> ?_⟩
    rcases Nat.lt_or_ge i l.length with hlt|hge
    · rw [List.getElem_append_left hlt]
      exact hR i hlt
    have:i=l.length:=by simp at hi;omega
    subst this;rw[List.getElem_append_right (by omega)]
    simpa[hl] using ha
theorem addr_add (a:Addr) (i j:Nat):(a.add i).add j=a.add (i+j):=by
  by_cases h:i=0
  · subst h;simp[Addr.add]
  by_cases h2:j=0
  · subst h2;simp[Addr.add]
  simp[Addr.add,h,h2,Nat.add_assoc]
theorem OpensZ.row {α : Type} {P : Program} {d : Kd α} {ok : α → Prop} {t e : TypeId} {B : Nat} (ht : P.underlying t = some (.slice e)) (hc : P.cellsOf e = d.sz) (hB : P.bytesOf e = B) (h : OpensZ P d ok e) :
    OpensZ P (Kd.slice e d) (fun l=>l.length*B≤140737488351232∧∀x ∈ l,ok x) t:=by
  refine⟨?_⟩;intro H enc w base sp held fuel cs x hx hz
  rcases Go.Deep.open_slice ht hx with ⟨rfl,rfl⟩|⟨a,len,cap,m,n,D,Pl,rfl,hb,hl,hm,hmm,rfl,he⟩
  · exact⟨[],⟨none,0,rfl,Nat.le_refl _,rfl,by simp,fun h=>absurd h (by simp)⟩,by simp,fun x hx=>by simp at hx⟩
  have hlm:len≤m:=by rw[hmm];split<;>omega
  have each:∀i,i<len→∃v:α,ok v∧∃c,c.length=d.sz∧d.K w v c∧∀j u,c[j]? =some u→w.cell? (a.add (i*d.sz+j))=some u:=fun i hi=>by
    obtain⟨cs',h1,h2⟩:=he i (by omega)
    obtain ⟨v, hK, hok⟩ := h.out enc w base sp held n cs' _ h2 (fun q hq => hz q (by
      rw[Zf2 ht]
      refine List.mem_cons_of_mem _ (List.mem_append_left _ (Zfh (d := D i) (List.mem_map.2 ⟨i, List.mem_range.2 hi, rfl⟩) hq))))
    obtain⟨_,hlen,hcell⟩:=World.cells?_some h1;rw[hc]at hlen hcell;refine⟨v,hok,cs',hlen,hK,fun j u hu=> ?_⟩;have hj:j<d.sz:=by rw[←hlen];exact(List.getElem?_eq_some_iff.1 hu).1
    have:=hcell j hj;rw[hu]at this;rw[←this,addr_add]
  obtain⟨l,hll,hR⟩:=choose_list each;have hmax:cap≤9223372036854775807:=by unfold maxLen at hm;exact hm
  refine⟨l,⟨some a,cap,by rw[hll],by omega,rfl,by omega,fun _=>⟨a,rfl,fun j p hp=> ?_⟩⟩,?_,fun x hx=> ?_⟩
  · obtain ⟨hj, rfl⟩ := List.getElem?_eq_some_iff.1 hp
    obtain⟨_,c,h1,h2,h3⟩:=hR j hj;exact⟨c,h1,h2,h3⟩
  · have h3 := hz ((len + (m - len)) * P.bytesOf e) (by rw [Zf2 ht]; simp)
    rw[hB]at h3;rw[hll];exact Nat.le_trans (Nat.mul_le_mul_right _ (by omega)) h3
  obtain⟨i,hi,rfl⟩:=List.mem_iff_getElem.1 hx;exact(hR i hi).1
structure OpensZF {α : Type} (P : Program) (d : Kd α) (ok : α → Prop) (fs : List Field) (off : Nat) : Prop where
  out : ∀ {H : Type} (enc : TypeId × Value → H) (w : World) (base : Nat) (sp : Nat → Bool) (held : Bool) (fuel : Nat) (cs : List Value), cs.length = off + d.sz →
    (∀f ∈ fs,∃x,DataW.trod enc P w base sp held fuel f.type ((cs.drop f.offset).take (P.cellsOf f.type))=some x∧∀n ∈ x.1.weights P f.type,n≤reachBytes)→∃v:α,d.K w v (cs.drop off)∧ok v
theorem OpensZF.last {α:Type} {P:Program} {d:Kd α} {ok:α→Prop} {f:Field} {off:Nat} (ho:f.offset=off) (hc:P.cellsOf f.type=d.sz) (h:OpensZ P d ok f.type):OpensZF P d ok [f] off:=by
  refine⟨?_⟩;intro H enc w base sp held fuel cs hl hf;obtain⟨x,hx,hz⟩:=hf f (by simp);rw[ho,hc,List.take_of_length_le (by simp;omega)]at hx;exact h.out enc w base sp held fuel _ x hx hz
theorem OpensZF.cons {α β : Type} {P : Program} {d : Kd α} {ok : α → Prop} {d' : Kd β} {ok' : β → Prop} {f : Field} {fs : List Field} {off : Nat} (ho : f.offset = off) (hc : P.cellsOf f.type = d.sz) (h : OpensZ P d ok f.type) (h' : OpensZF P d' ok' fs (off + d.sz)) :
    OpensZF P (Kd.pair d d') (fun z=>ok z.1∧ok' z.2) (f::fs) off:=by
  refine⟨?_⟩;intro H enc w base sp held fuel cs hl hf;have hl':cs.length=off+(d.sz+d'.sz):=hl;obtain⟨x,hx,hz⟩:=hf f (by simp);obtain⟨v,hK,hok⟩:=h.out enc w base sp held fuel _ x hx hz;obtain⟨v',hK',hok'⟩:=h'.out enc w base sp held fuel cs (by omega) (fun g hg=>hf g (List.mem_cons_of_mem _ hg));rw[ho,hc]at hK;refine⟨(v,v'),⟨(cs.drop off).take d.sz,cs.drop (off+d.sz),?_,hK,hK'⟩,hok,hok'⟩;rw[←List.drop_drop,List.take_append_drop]
theorem OpensZ.struct {α:Type} {P:Program} {d:Kd α} {ok:α→Prop} {t:TypeId} {fs:List Field} (ht:P.underlying t=some (.struct fs.toArray)) (hc:P.cellsOf t=d.sz) (h:OpensZF P d ok fs 0):OpensZ P d ok t:=by
  refine⟨?_⟩;intro H enc w base sp held fuel cs x hx hz;obtain⟨xs,n,rfl,rfl,hl,hxl,hf⟩:=DataW.trod_struct ht hx
  have := h.out enc w base sp held n cs (by omega) (fun f hf' => by
    obtain⟨i,hi,rfl⟩:=List.mem_iff_getElem.1 hf';have:=hf i fs[i] (by simp[hi]);have hix:i<xs.length:=by simp at hxl;omega
    rw[List.getElem?_eq_getElem hix]at this;refine⟨xs[i],by simpa using this,fun q hq=>hz q ?_⟩;rw[weights_agg ht]
    exact DataW.weights_mem_each (j := i) (t := fs[i].type) (d := xs[i].1) (by simp [hi]) (by simp [hix]) q hq)
  simpa using this
theorem OpensZ.arg {α H : Type} {P : Program} {d : Kd α} {ok : List α → Prop} {e t : TypeId} (h : OpensZ P (Kd.slice e d) ok t) {enc : TypeId × Value → H} {w : World} {base : Nat} {sp : Nat → Bool} {held : Bool} {A : Option Addr} {len cap : Nat} {dt : DataW H} {ps : List MemPlace}
    (hT:DataW.Trod enc P w base sp held t (.slice A len cap) dt ps) (hz:∀n ∈ dt.weights P t,n≤reachBytes):∃l:List α,l.length=len∧l.length≤cap∧d.C w A l.length l∧ok l:=by
  obtain⟨fuel,hf⟩:=hT;obtain⟨l,⟨A',c,hcs,hl,hC⟩,hok⟩:=h.out enc w base sp held fuel _ _ hf hz
  simp[Value.cells]at hcs
  obtain⟨rfl,rfl,rfl⟩:=hcs;exact⟨l,rfl,hl,hC,hok⟩
theorem Zgi {H:Type} {P:Program} {ts:List TypeId} {ds:List (DataW H)} (h:(DataW.weightsEach P ts ds).all (· ≤reachBytes)=true) {j:Nat} {t:TypeId} {d:DataW H} (ht:ts[j]? =some t) (hd:ds[j]? =some d):∀n ∈ d.weights P t,n≤reachBytes:=fun n hn=>by
  have:=List.all_eq_true.1 h n (DataW.weights_mem_each ht hd n hn)
  simpa using this
end Go.Proofs.YtdpieallpbllkaaGreat.P
namespace Go.Proofs.YtdpieallpbllkaaGreat.meaningGoals
open Go.ChangeShapes Go.WideShapes Go.ChangeAt Go.RowKit
open Go.ChangeMaps (open_string shut_string)
open Go.Proofs.YtdpieallpbllkaaGreat.P
open Go.Proofs.YtdpieallpbllkaaGreatW.PrintWords
theorem own:ownKnob Tryz.prog.godebug=none:=by kernel_rfl
theorem laidOut:laidOutB Tryz.prog=true:=by kernel_rfl
theorem o_string:OpensZ Tryz.prog Kd.string (fun s=>ByteArray.size s≤maxLen) 9:=OpensZ.string Tryz.underlying9
theorem o_int:OpensZ Tryz.prog (Kd.int .i64) (fun n=>(Lit.int .i64 n).wf=true) 3:=OpensZ.int Tryz.underlying3
theorem p_api_Range:OpensZ Tryz.prog (Kd.pair (Kd.int .i64) (Kd.int .i64)) (fun z=>((Lit.int .i64 (z).1).wf=true∧(Lit.int .i64 (z).2).wf=true)) 82:=by
 refine OpensZ.struct (d:=(Kd.pair (Kd.int .i64) (Kd.int .i64))) Tryz.underlying82 (by kernel_rfl) ?_;refine OpensZF.cons (d:=(Kd.int .i64)) (ok:=fun v_:Int=>(Lit.int .i64 v_).wf=true) (ok':=fun z_:(Int)=>(Lit.int .i64 z_).wf=true) (by kernel_rfl) (by kernel_rfl) o_int ?_;exact OpensZF.last (d:=(Kd.int .i64)) (ok:=fun v_:Int=>(Lit.int .i64 v_).wf=true) (by kernel_rfl) (by kernel_rfl) o_int
theorem o_api_Range:OpensZ Tryz.prog k82 (fun b:S82=>((Lit.int .i64 (b).f0).wf=true∧(Lit.int .i64 (b).f1).wf=true)) 82:=OpensZ.iso p_api_Range (fun x:S82=>(x.f0,x.f1)) (fun z=>⟨z.1,z.2⟩) (fun _=>rfl)
theorem o_Lapi_Range:OpensZ Tryz.prog (Kd.slice 82 k82) (fun l=>(List.length l*16≤140737488351232∧∀y1_ ∈ l,((Lit.int .i64 (y1_).f0).wf=true∧(Lit.int .i64 (y1_).f1).wf=true))) 53:=OpensZ.row Tryz.underlying53 (by kernel_rfl) (by kernel_rfl) o_api_Range
theorem p_api_Var:OpensZ Tryz.prog (Kd.pair Kd.string (Kd.slice 82 k82)) (fun z=>(ByteArray.size (z).1≤maxLen∧(List.length (z).2*16≤140737488351232∧∀y1_ ∈ (z).2,((Lit.int .i64 (y1_).f0).wf=true∧(Lit.int .i64 (y1_).f1).wf=true)))) 55:=by
 refine OpensZ.struct (d:=(Kd.pair Kd.string (Kd.slice 82 k82))) Tryz.underlying55 (by kernel_rfl) ?_;refine OpensZF.cons (d:=Kd.string) (ok:=fun v_:ByteArray=>ByteArray.size v_≤maxLen) (ok':=fun z_:((List S82))=>(List.length z_*16≤140737488351232∧∀y1_ ∈ z_,((Lit.int .i64 (y1_).f0).wf=true∧(Lit.int .i64 (y1_).f1).wf=true))) (by kernel_rfl) (by kernel_rfl) o_string ?_;exact OpensZF.last (d:=(Kd.slice 82 k82)) (ok:=fun v_:(List S82)=>(List.length v_*16≤140737488351232∧∀y1_ ∈ v_,((Lit.int .i64 (y1_).f0).wf=true∧(Lit.int .i64 (y1_).f1).wf=true))) (by kernel_rfl) (by kernel_rfl) o_Lapi_Range
theorem o_api_Var:OpensZ Tryz.prog k55 (fun b:S55=>(ByteArray.size (b).f0≤maxLen∧(List.length (b).f1*16≤140737488351232∧∀y1_ ∈ (b).f1,((Lit.int .i64 (y1_).f0).wf=true∧(Lit.int .i64 (y1_).f1).wf=true)))) 55:=OpensZ.iso p_api_Var (fun x:S55=>(x.f0,x.f1)) (fun z=>⟨z.1,z.2⟩) (fun _=>rfl)
theorem o_Lapi_Var:OpensZ Tryz.prog (Kd.slice 55 k55) (fun l=>(List.length l*40≤140737488351232∧∀y1_ ∈ l,(ByteArray.size (y1_).f0≤maxLen∧(List.length (y1_).f1*16≤140737488351232∧∀y2_ ∈ (y1_).f1,((Lit.int .i64 (y2_).f0).wf=true∧(Lit.int .i64 (y2_).f1).wf=true))))) 22:=OpensZ.row Tryz.underlying22 (by kernel_rfl) (by kernel_rfl) o_api_Var
theorem Zhz:OpensZ Tryz.prog (Kd.slice 3 (Kd.int .i64)) (fun l=>(List.length l*8≤140737488351232∧∀y1_ ∈ l,(Lit.int .i64 y1_).wf=true)) 24:=OpensZ.row Tryz.underlying24 (by kernel_rfl) (by kernel_rfl) o_int
theorem o_LLint:OpensZ Tryz.prog (Kd.slice 24 (Kd.slice 3 (Kd.int .i64))) (fun l=>(List.length l*24≤140737488351232∧∀y1_ ∈ l,(List.length y1_*8≤140737488351232∧∀y2_ ∈ y1_,(Lit.int .i64 y2_).wf=true))) 34:=OpensZ.row Tryz.underlying34 (by kernel_rfl) (by kernel_rfl) Zhz
theorem p_api_Con:OpensZ Tryz.prog (Kd.pair (Kd.int .i64) (Kd.pair (Kd.slice 3 (Kd.int .i64)) (Kd.pair (Kd.slice 3 (Kd.int .i64)) (Kd.pair (Kd.int .i64) (Kd.pair (Kd.int .i64) (Kd.pair (Kd.slice 24 (Kd.slice 3 (Kd.int .i64))) (Kd.int .i64))))))) (fun z=>((Lit.int .i64 (z).1).wf=true∧((List.length ((z).2).1*8≤140737488351232∧∀y1_ ∈ ((z).2).1,(Lit.int .i64 y1_).wf=true)∧((List.length (((z).2).2).1*8≤140737488351232∧∀y1_ ∈ (((z).2).2).1,(Lit.int .i64 y1_).wf=true)∧((Lit.int .i64 ((((z).2).2).2).1).wf=true∧((Lit.int .i64 (((((z).2).2).2).2).1).wf=true∧((List.length ((((((z).2).2).2).2).2).1*24≤140737488351232∧∀y1_ ∈ ((((((z).2).2).2).2).2).1,(List.length y1_*8≤140737488351232∧∀y2_ ∈ y1_,(Lit.int .i64 y2_).wf=true))∧(Lit.int .i64 ((((((z).2).2).2).2).2).2).wf=true))))))) 36:=by
 refine OpensZ.struct (d:=(Kd.pair (Kd.int .i64) (Kd.pair (Kd.slice 3 (Kd.int .i64)) (Kd.pair (Kd.slice 3 (Kd.int .i64)) (Kd.pair (Kd.int .i64) (Kd.pair (Kd.int .i64) (Kd.pair (Kd.slice 24 (Kd.slice 3 (Kd.int .i64))) (Kd.int .i64)))))))) Tryz.underlying36 (by kernel_rfl) ?_;refine OpensZF.cons (d:=(Kd.int .i64)) (ok:=fun v_:Int=>(Lit.int .i64 v_).wf=true) (ok':=fun z_:((List Int) × (List Int) × Int × Int × (List (List Int)) × Int)=>((List.length (z_).1*8≤140737488351232∧∀y1_ ∈ (z_).1,(Lit.int .i64 y1_).wf=true)∧((List.length ((z_).2).1*8≤140737488351232∧∀y1_ ∈ ((z_).2).1,(Lit.int .i64 y1_).wf=true)∧((Lit.int .i64 (((z_).2).2).1).wf=true∧((Lit.int .i64 ((((z_).2).2).2).1).wf=true∧((List.length (((((z_).2).2).2).2).1*24≤140737488351232∧∀y1_ ∈ (((((z_).2).2).2).2).1,(List.length y1_*8≤140737488351232∧∀y2_ ∈ y1_,(Lit.int .i64 y2_).wf=true))∧(Lit.int .i64 (((((z_).2).2).2).2).2).wf=true)))))) (by kernel_rfl) (by kernel_rfl) o_int ?_;refine OpensZF.cons (d:=(Kd.slice 3 (Kd.int .i64))) (ok:=fun v_:(List Int)=>(List.length v_*8≤140737488351232∧∀y1_ ∈ v_,(Lit.int .i64 y1_).wf=true)) (ok':=fun z_:((List Int) × Int × Int × (List (List Int)) × Int)=>((List.length (z_).1*8≤140737488351232∧∀y1_ ∈ (z_).1,(Lit.int .i64 y1_).wf=true)∧((Lit.int .i64 ((z_).2).1).wf=true∧((Lit.int .i64 (((z_).2).2).1).wf=true∧((List.length ((((z_).2).2).2).1*24≤140737488351232∧∀y1_ ∈ ((((z_).2).2).2).1,(List.length y1_*8≤140737488351232∧∀y2_ ∈ y1_,(Lit.int .i64 y2_).wf=true))∧(Lit.int .i64 ((((z_).2).2).2).2).wf=true))))) (by kernel_rfl) (by kernel_rfl) Zhz ?_;refine OpensZF.cons (d:=(Kd.slice 3 (Kd.int .i64))) (ok:=fun v_:(List Int)=>(List.length v_*8≤140737488351232∧∀y1_ ∈ v_,(Lit.int .i64 y1_).wf=true)) (ok':=fun z_:(Int × Int × (List (List Int)) × Int)=>((Lit.int .i64 (z_).1).wf=true∧((Lit.int .i64 ((z_).2).1).wf=true∧((List.length (((z_).2).2).1*24≤140737488351232∧∀y1_ ∈ (((z_).2).2).1,(List.length y1_*8≤140737488351232∧∀y2_ ∈ y1_,(Lit.int .i64 y2_).wf=true))∧(Lit.int .i64 (((z_).2).2).2).wf=true)))) (by kernel_rfl) (by kernel_rfl) Zhz ?_;refine OpensZF.cons (d:=(Kd.int .i64)) (ok:=fun v_:Int=>(Lit.int .i64 v_).wf=true) (ok':=fun z_:(Int × (List (List Int)) × Int)=>((Lit.int .i64 (z_).1).wf=true∧((List.length ((z_).2).1*24≤140737488351232∧∀y1_ ∈ ((z_).2).1,(List.length y1_*8≤140737488351232∧∀y2_ ∈ y1_,(Lit.int .i64 y2_).wf=true))∧(Lit.int .i64 ((z_).2).2).wf=true))) (by kernel_rfl) (by kernel_rfl) o_int ?_;refine OpensZF.cons (d:=(Kd.int .i64)) (ok:=fun v_:Int=>(Lit.int .i64 v_).wf=true) (ok':=fun z_:((List (List Int)) × Int)=>((List.length (z_).1*24≤140737488351232∧∀y1_ ∈ (z_).1,(List.length y1_*8≤140737488351232∧∀y2_ ∈ y1_,(Lit.int .i64 y2_).wf=true))∧(Lit.int .i64 (z_).2).wf=true)) (by kernel_rfl) (by kernel_rfl) o_int ?_;refine OpensZF.cons (d:=(Kd.slice 24 (Kd.slice 3 (Kd.int .i64)))) (ok:=fun v_:(List (List Int))=>(List.length v_*24≤140737488351232∧∀y1_ ∈ v_,(List.length y1_*8≤140737488351232∧∀y2_ ∈ y1_,(Lit.int .i64 y2_).wf=true))) (ok':=fun z_:(Int)=>(Lit.int .i64 z_).wf=true) (by kernel_rfl) (by kernel_rfl) o_LLint ?_;exact OpensZF.last (d:=(Kd.int .i64)) (ok:=fun v_:Int=>(Lit.int .i64 v_).wf=true) (by kernel_rfl) (by kernel_rfl) o_int
theorem o_api_Con:OpensZ Tryz.prog k36 (fun b:S36=>((Lit.int .i64 (b).f0).wf=true∧(List.length (b).f1*8≤140737488351232∧∀y1_ ∈ (b).f1,(Lit.int .i64 y1_).wf=true)∧(List.length (b).f2*8≤140737488351232∧∀y1_ ∈ (b).f2,(Lit.int .i64 y1_).wf=true)∧(Lit.int .i64 (b).f3).wf=true∧(Lit.int .i64 (b).f4).wf=true∧(List.length (b).f5*24≤140737488351232∧∀y1_ ∈ (b).f5,(List.length y1_*8≤140737488351232∧∀y2_ ∈ y1_,(Lit.int .i64 y2_).wf=true))∧(Lit.int .i64 (b).f6).wf=true)) 36:=OpensZ.iso p_api_Con (fun x:S36=>(x.f0,x.f1,x.f2,x.f3,x.f4,x.f5,x.f6)) (fun z=>⟨z.1,z.2.1,z.2.2.1,z.2.2.2.1,z.2.2.2.2.1,z.2.2.2.2.2.1,z.2.2.2.2.2.2⟩) (fun _=>rfl)
theorem o_Lapi_Con:OpensZ Tryz.prog (Kd.slice 36 k36) (fun l=>(List.length l*104≤140737488351232∧∀y1_ ∈ l,((Lit.int .i64 (y1_).f0).wf=true∧(List.length (y1_).f1*8≤140737488351232∧∀y2_ ∈ (y1_).f1,(Lit.int .i64 y2_).wf=true)∧(List.length (y1_).f2*8≤140737488351232∧∀y2_ ∈ (y1_).f2,(Lit.int .i64 y2_).wf=true)∧(Lit.int .i64 (y1_).f3).wf=true∧(Lit.int .i64 (y1_).f4).wf=true∧(List.length (y1_).f5*24≤140737488351232∧∀y2_ ∈ (y1_).f5,(List.length y2_*8≤140737488351232∧∀y3_ ∈ y2_,(Lit.int .i64 y3_).wf=true))∧(Lit.int .i64 (y1_).f6).wf=true))) 23:=OpensZ.row Tryz.underlying23 (by kernel_rfl) (by kernel_rfl) o_api_Con
theorem p_api_Goal:OpensZ Tryz.prog (Kd.pair (Kd.int .i64) (Kd.pair (Kd.slice 3 (Kd.int .i64)) (Kd.slice 3 (Kd.int .i64)))) (fun z=>((Lit.int .i64 (z).1).wf=true∧((List.length ((z).2).1*8≤140737488351232∧∀y1_ ∈ ((z).2).1,(Lit.int .i64 y1_).wf=true)∧(List.length ((z).2).2*8≤140737488351232∧∀y1_ ∈ ((z).2).2,(Lit.int .i64 y1_).wf=true)))) 26:=by
 refine OpensZ.struct (d:=(Kd.pair (Kd.int .i64) (Kd.pair (Kd.slice 3 (Kd.int .i64)) (Kd.slice 3 (Kd.int .i64))))) Tryz.underlying26 (by kernel_rfl) ?_;refine OpensZF.cons (d:=(Kd.int .i64)) (ok:=fun v_:Int=>(Lit.int .i64 v_).wf=true) (ok':=fun z_:((List Int) × (List Int))=>((List.length (z_).1*8≤140737488351232∧∀y1_ ∈ (z_).1,(Lit.int .i64 y1_).wf=true)∧(List.length (z_).2*8≤140737488351232∧∀y1_ ∈ (z_).2,(Lit.int .i64 y1_).wf=true))) (by kernel_rfl) (by kernel_rfl) o_int ?_;refine OpensZF.cons (d:=(Kd.slice 3 (Kd.int .i64))) (ok:=fun v_:(List Int)=>(List.length v_*8≤140737488351232∧∀y1_ ∈ v_,(Lit.int .i64 y1_).wf=true)) (ok':=fun z_:((List Int))=>(List.length z_*8≤140737488351232∧∀y1_ ∈ z_,(Lit.int .i64 y1_).wf=true)) (by kernel_rfl) (by kernel_rfl) Zhz ?_;exact OpensZF.last (d:=(Kd.slice 3 (Kd.int .i64))) (ok:=fun v_:(List Int)=>(List.length v_*8≤140737488351232∧∀y1_ ∈ v_,(Lit.int .i64 y1_).wf=true)) (by kernel_rfl) (by kernel_rfl) Zhz
theorem p_api_Model:OpensZ Tryz.prog (Kd.pair (Kd.slice 55 k55) (Kd.pair (Kd.slice 36 k36) (Kd.pair (Kd.int .i64) (Kd.pair (Kd.slice 3 (Kd.int .i64)) (Kd.slice 3 (Kd.int .i64)))))) (fun z=>((List.length (z).1*40≤140737488351232∧∀y1_ ∈ (z).1,(ByteArray.size (y1_).f0≤maxLen∧(List.length (y1_).f1*16≤140737488351232∧∀y2_ ∈ (y1_).f1,((Lit.int .i64 (y2_).f0).wf=true∧(Lit.int .i64 (y2_).f1).wf=true))))∧((List.length ((z).2).1*104≤140737488351232∧∀y1_ ∈ ((z).2).1,((Lit.int .i64 (y1_).f0).wf=true∧(List.length (y1_).f1*8≤140737488351232∧∀y2_ ∈ (y1_).f1,(Lit.int .i64 y2_).wf=true)∧(List.length (y1_).f2*8≤140737488351232∧∀y2_ ∈ (y1_).f2,(Lit.int .i64 y2_).wf=true)∧(Lit.int .i64 (y1_).f3).wf=true∧(Lit.int .i64 (y1_).f4).wf=true∧(List.length (y1_).f5*24≤140737488351232∧∀y2_ ∈ (y1_).f5,(List.length y2_*8≤140737488351232∧∀y3_ ∈ y2_,(Lit.int .i64 y3_).wf=true))∧(Lit.int .i64 (y1_).f6).wf=true))∧((Lit.int .i64 (((z).2).2).1).wf=true∧((List.length ((((z).2).2).2).1*8≤140737488351232∧∀y1_ ∈ ((((z).2).2).2).1,(Lit.int .i64 y1_).wf=true)∧(List.length ((((z).2).2).2).2*8≤140737488351232∧∀y1_ ∈ ((((z).2).2).2).2,(Lit.int .i64 y1_).wf=true)))))) 28:=by
 refine OpensZ.struct (d:=(Kd.pair (Kd.slice 55 k55) (Kd.pair (Kd.slice 36 k36) (Kd.pair (Kd.int .i64) (Kd.pair (Kd.slice 3 (Kd.int .i64)) (Kd.slice 3 (Kd.int .i64))))))) Tryz.underlying28 (by kernel_rfl) ?_;refine OpensZF.cons (d:=(Kd.slice 55 k55)) (ok:=fun v_:(List S55)=>(List.length v_*40≤140737488351232∧∀y1_ ∈ v_,(ByteArray.size (y1_).f0≤maxLen∧(List.length (y1_).f1*16≤140737488351232∧∀y2_ ∈ (y1_).f1,((Lit.int .i64 (y2_).f0).wf=true∧(Lit.int .i64 (y2_).f1).wf=true))))) (ok':=fun z_:((List S36) × (Int × (List Int) × (List Int)))=>((List.length (z_).1*104≤140737488351232∧∀y1_ ∈ (z_).1,((Lit.int .i64 (y1_).f0).wf=true∧(List.length (y1_).f1*8≤140737488351232∧∀y2_ ∈ (y1_).f1,(Lit.int .i64 y2_).wf=true)∧(List.length (y1_).f2*8≤140737488351232∧∀y2_ ∈ (y1_).f2,(Lit.int .i64 y2_).wf=true)∧(Lit.int .i64 (y1_).f3).wf=true∧(Lit.int .i64 (y1_).f4).wf=true∧(List.length (y1_).f5*24≤140737488351232∧∀y2_ ∈ (y1_).f5,(List.length y2_*8≤140737488351232∧∀y3_ ∈ y2_,(Lit.int .i64 y3_).wf=true))∧(Lit.int .i64 (y1_).f6).wf=true))∧((Lit.int .i64 ((z_).2).1).wf=true∧((List.length (((z_).2).2).1*8≤140737488351232∧∀y1_ ∈ (((z_).2).2).1,(Lit.int .i64 y1_).wf=true)∧(List.length (((z_).2).2).2*8≤140737488351232∧∀y1_ ∈ (((z_).2).2).2,(Lit.int .i64 y1_).wf=true))))) (by kernel_rfl) (by kernel_rfl) o_Lapi_Var ?_;refine OpensZF.cons (d:=(Kd.slice 36 k36)) (ok:=fun v_:(List S36)=>(List.length v_*104≤140737488351232∧∀y1_ ∈ v_,((Lit.int .i64 (y1_).f0).wf=true∧(List.length (y1_).f1*8≤140737488351232∧∀y2_ ∈ (y1_).f1,(Lit.int .i64 y2_).wf=true)∧(List.length (y1_).f2*8≤140737488351232∧∀y2_ ∈ (y1_).f2,(Lit.int .i64 y2_).wf=true)∧(Lit.int .i64 (y1_).f3).wf=true∧(Lit.int .i64 (y1_).f4).wf=true∧(List.length (y1_).f5*24≤140737488351232∧∀y2_ ∈ (y1_).f5,(List.length y2_*8≤140737488351232∧∀y3_ ∈ y2_,(Lit.int .i64 y3_).wf=true))∧(Lit.int .i64 (y1_).f6).wf=true))) (ok':=fun z_:((Int × (List Int) × (List Int)))=>((Lit.int .i64 (z_).1).wf=true∧((List.length ((z_).2).1*8≤140737488351232∧∀y1_ ∈ ((z_).2).1,(Lit.int .i64 y1_).wf=true)∧(List.length ((z_).2).2*8≤140737488351232∧∀y1_ ∈ ((z_).2).2,(Lit.int .i64 y1_).wf=true)))) (by kernel_rfl) (by kernel_rfl) o_Lapi_Con ?_;exact OpensZF.last (d:=(Kd.pair (Kd.int .i64) (Kd.pair (Kd.slice 3 (Kd.int .i64)) (Kd.slice 3 (Kd.int .i64))))) (ok:=fun v_:(Int × (List Int) × (List Int))=>((Lit.int .i64 (v_).1).wf=true∧((List.length ((v_).2).1*8≤140737488351232∧∀y1_ ∈ ((v_).2).1,(Lit.int .i64 y1_).wf=true)∧(List.length ((v_).2).2*8≤140737488351232∧∀y1_ ∈ ((v_).2).2,(Lit.int .i64 y1_).wf=true)))) (by kernel_rfl) (by kernel_rfl) p_api_Goal
set_option maxRecDepth 100000 in
theorem lifted (os : Os) (started : os.Started) (H : Type) (enc : TypeId × Value → H) :
  ReturnsInHanded {} Tryz.checked os 7 .any (Rows.meaningGoalsSpec.pre6 enc Tryz.prog Tryz.f7 Rows.meaningGoalsRow.domain false) (Rows.meaningGoalsSpec.post enc Tryz.prog Tryz.f7 false true false false):=by
 refine returnsInHanded_of_change_sized (C := Tryz.checked) own started (by kernel_rfl) Tryz.func7
  (ChangeSpec.witness6 (enc:=enc) (C:=Tryz.checked) false ⟨#[],#[.agg #[.slice none 0 0,.slice none 0 0,.int .i64 0,.slice none 0 0,.slice none 0 0],.slice none 0 0],[]⟩ 8 (by kernel_rfl) (by kernel_rfl) (by kernel_rfl) (by kernel_rfl)) ?_
 intro W base args ds gs before hval0 hW hcnd hsz0 _;have hsz:(DataW.weightsEach Tryz.prog (Tryz.f7.params.toList++Rows.meaningGoalsSpec.plain.varTypes Tryz.prog) (ds++gs)).all (· ≤reachBytes)=true:=hsz0;have hval:∀(j:Nat) t v,Tryz.f7.params[j]? =some t→args[j]? =some v→Value.okWide Tryz.prog W .any base t v:=hval0;have hW':=hW;obtain⟨p,q,hA0,hV,rfl,hfz,hnd⟩:=hW;have hA:DataW.TrodAll enc Tryz.prog W 0 (fun _=>true) true Tryz.f7.params.toList args.toList ds p:=hA0;rw[Tryz.params7]at hA hval hsz;obtain⟨v0,vs0,d0,ds0,p0,q0,hargs,rfl,rfl,h0,r0⟩:=trodAll_cons hA;obtain⟨v1,vs1,d1,ds1,p1,q1,rfl,rfl,rfl,h1,r1⟩:=trodAll_cons r0;obtain⟨rfl,rfl,rfl⟩:=trodAll_nil r1;obtain rfl:args=#[v0,v1]:=by cases args;simp_all
 obtain⟨rfl,rfl⟩:=trodVars_none hV;have k0:=h0;have lt0:∀x ∈ p0,x.block<W.heap.size:=by obtain⟨m,hm⟩:=k0;exact DataW.trod_lt m _ _ _ hm
 obtain⟨cs0,rfl,_⟩:=okWide_struct Tryz.underlying28 (hval 0 28 v0 rfl rfl);obtain⟨fu0,hf0⟩:=h0;obtain⟨⟨x0,⟨x1,⟨x2,⟨x3,x4⟩⟩⟩⟩,hK0,⟨ok0,⟨ok1,⟨ok2,⟨ok3,ok4⟩⟩⟩⟩⟩:=p_api_Model.out _ _ _ _ _ _ _ _ hf0 (Zgi hsz (j:=0) (t:=28) rfl rfl);obtain⟨_,_,e,⟨A0,c0,rfl,hc0,hC0⟩,⟨_,_,rfl,⟨A1,c1,rfl,hc1,hC1⟩,⟨_,_,rfl,rfl,⟨_,_,rfl,⟨A3,c3,rfl,hc3,hC3⟩,⟨A4,c4,rfl,hc4,hC4⟩⟩⟩⟩⟩:=hK0
 obtain rfl:cs0=#[.slice A0 x0.length c0,.slice A1 x1.length c1,.int .i64 x2,.slice A3 x3.length c3,.slice A4 x4.length c4]:=by
  apply Array.ext'
  simpa[Value.cells] using e
 have k1:=h1;have lt1:∀x ∈ p1,x.block<W.heap.size:=by obtain⟨m,hm⟩:=k1;exact DataW.trod_lt m _ _ _ hm
 obtain⟨A5,len5,c5,rfl⟩:=okWide_slice Tryz.underlying24 (hval 1 24 v1 rfl rfl);obtain⟨x5,rfl,hc5,hC5,ok5⟩:=OpensZ.arg Zhz h1 (Zgi hsz (j:=1) (t:=24) rfl rfl);clear hA0 hval0 hsz0 hsz;refine(P.Zgq A0 c0 x0 A1 c1 x1 x2 A3 c3 x3 A4 c4 x4 A5 c5 x5 W hC0 hc0 ok0 hC1 hc1 ok1 ok2 hC3 hc3 ok3 hC4 hc4 ok4 hC5 hc5 ok5).mono fun e W' ⟨he,bel⟩=> ?_
 subst he;exact⟨_,rfl,_,_,_,[],_,[],hW',trodAll_mk1 (shut_bool Tryz.underlying4 _),(trodAll_cons_mk (Below.trod laidOut (by kernel_rfl) (of_decide_eq_true (by kernel_rfl)) k0 bel lt0) (trodAll_cons_mk (Below.trod laidOut (by kernel_rfl) (of_decide_eq_true (by kernel_rfl)) k1 bel lt1) trodAll_mk0)),rfl,bel.frame _,fun h=>by cases h⟩
theorem over:Rows.meaningGoalsRow.holds Tryz.pinned (OpenSpec.ofChange Rows.meaningGoalsSpec):=
 OpenClaim.holds_of_wide 7 Tryz.f7 rfl rfl rfl rfl rfl rfl rfl ⟨rfl, rfl, rfl, rfl, rfl⟩ rfl rfl rfl rfl rfl (by kernel_rfl) Tryz.func7 (by kernel_rfl)
  (of_decide_eq_true (by kernel_rfl)) (by unfold Func.isWrapper;first|(rw[if_pos (by decide+kernel)];kernel_rfl)|(rw[if_neg (by decide+kernel)];exact⟨rfl,rfl⟩))
  (fun os started H enc _=>lifted os started H enc)
theorem proved:Rows.MeaningGoalsSaid:=over
end Go.Proofs.YtdpieallpbllkaaGreat.meaningGoals
namespace Go.Proofs.YtdpieallpbllkaaGreat
theorem meaningGoals_holds:Rows.MeaningGoalsSaid:=meaningGoals.proved
end Go.Proofs.YtdpieallpbllkaaGreat
