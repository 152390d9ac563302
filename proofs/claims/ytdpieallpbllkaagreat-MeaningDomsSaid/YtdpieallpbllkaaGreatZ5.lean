/- Proved: what each function of the program that the statements of this seat reach comes to, for whatever memory and arguments it is called with (on condition that its plain text tells a result). -/
import Derived.Test.YtdpieallpbllkaaGreatZ1
import Derived.Test.YtdpieallpbllkaaGreatZ4
import Derived.Test.YtdpieallpbllkaaGreatZ2
import Derived.Test.YtdpieallpbllkaaGreatZ3
import Derived.Laws.MakeOwn
import Derived.Stop.RegionWithIn
import Derived.Lib.SliceRun
set_option linter.unusedSimpArgs false
set_option linter.unusedVariables false
set_option maxHeartbeats 8000000
namespace Go.Proofs.YtdpieallpbllkaaGreat.P
open Go.RowKit Go.Proofs.YtdpieallpbllkaaGreatW.PrintWords Go.Proofs.YtdpieallpbllkaaGreatW.PrintLast Go.Proofs.YtdpieallpbllkaaGreatW.PrintMore
attribute [local go_sem] Zcv Zcx Zdj Zdk Zcm Zcn Zcw Zcy
mutual
def Zay.j0 : Nat → List (List (S82)) → Bool → Int → List Int → List Int → Int → Int → List (List Int) → Int → Option (Int)
 | 0, _, _, _, _, _, _, _, _, _ => none
 |k+1,x0,x14,vz,vB,qW,vC,qX,vD,vE=>if x14=true then(some 44)else((Zdo.f k vz vB qW vC qX vD vE).bind fun kW=>(Zay.l0 k x0 kW 0 vz vB qW vC qX vD vE))
def Zay.l0 : Nat → List (List (S82)) → List Int → Int → Int → List Int → List Int → Int → Int → List (List Int) → Int → Option (Int)
 | 0, _, _, _, _, _, _, _, _, _, _ => none
 |k+1,x0,x5,x6,vz,vB,qW,vC,qX,vD,vE=>if x6<(x5.length:Int)then(if 0≤x6 then(if(rd x5 x6)<0 then(some 43)else(if(rd x5 x6)≥(x0.length:Int)then(some 43)else(Zay.l0 k x0 x5 (wrap64 (x6+1)) vz vB qW vC qX vD vE)))else(none))else((Zap.f k x0 vz vB qW vC qX vD vE).bind fun OE=>(if OE=true then((Zaz.f k qW qX).bind fun OG=>(if OG=true then(some 45)else(some 0)))else(some 44)))
end
def Zay.f (k:Nat) (l0:List (List (S82))) (aC:Int) (aA:List Int) (aI:List Int) (bT:Int) (bU:Int) (bn:List (List Int)) (bP:Int):Option (Int):=if aC<0 then(Zay.j0 k l0 true aC aA aI bT bU bn bP)else(Zay.j0 k l0 (decide (aC>6)) aC aA aI bT bU bn bP)
set_option maxRecDepth 100000 in
theorem Zay.calls (k : Nat) (A0 : Option Addr) (c0 : Nat) (l0 : List (List (S82))) (aC : Int) (fB : Option Addr) (fC : Nat) (aA : List Int) (eY : Option Addr) (fe : Nat) (aI : List Int) (bT : Int) (bU : Int) (jm : Option Addr) (jo : Nat) (bn : List (List Int)) (bP : Int) (r : Int) (w : World) (hr0 : Kd.C (Kd.slice 82 k82) w A0 l0.length l0) (hc0 : l0.length ≤ c0) (mg : Kd.C (Kd.int .i64) w fB aA.length aA) (lY : aA.length ≤ fC) (mh : Kd.C (Kd.int .i64) w eY aI.length aI) (ma : aI.length ≤ fe) (tq : Kd.C (Kd.slice 3 (Kd.int .i64)) w jm bn.length bn) (sW : bn.length ≤ jo) (h : Zay.f k l0 aC aA aI bT bU bn bP = some r) :
  Calls Tryz.prog 55 #[.slice A0 l0.length c0,.agg #[.int .i64 aC,.slice fB aA.length fC,.slice eY aI.length fe,.int .i64 bT,.int .i64 bU,.slice jm bn.length jo,.int .i64 bP]] w fun e w'=>e= .returned (.int .i64 r)∧Below w.heap.size w w':=by
 have hu36:=Tryz.underlying36;have HR0:=Za.mk hr0;have HC0:=Za.mk hc0;clear hr0 hc0;have fU:=Za.mk mg;have iD:=Za.mk lY;clear mg lY;have fI:=Za.mk mh;have iE:=Za.mk ma;clear mh ma;have jD:=Za.mk tq;have jA:=Za.mk sW;clear tq sW;have HB:=Za.mk (Below.refl w.heap.size w);have H:(if aC<0 then(Zay.j0 k l0 true aC aA aI bT bU bn bP)else(Zay.j0 k l0 (decide (aC>6)) aC aA aI bT bU bn bP))=some r:=h;clear h;have HC3:=Za.mk H;clear H;go_enter Tryz.func55,Tryz.ntmps55
 go_upto_region 1 with (first|((with_reducible refine Zao (N:=3) rfl ?_);(try(refine Zb0 (by rfl) ?_;dsimp only));refine bx 3 #[.int .i64 aC,.slice fB aA.length fC,.slice eY aI.length fe,.int .i64 bT,.int .i64 bU,.slice jm bn.length jo,.int .i64 bP] 36 ?_;intro Lv hg w4 hbox hb;have iI:=Za.mk (hbox);have eaa:=Za.mk ((gE hg HB.out:w.heap.size≤Lv));replace HB:=Za.mk (bS HB.out hb);clear hb hbox hg))
 (try simp only[Act.put,List.setIfInBounds_toArray,List.set_cons_zero,List.set_cons_succ])
 go_cut [14] (fun v14 wc=>∃(kq:Nat) (FC:Bool),v14= .bool FC∧Za (Zay.j0 kq l0 FC aC aA aI bT bU bn bP=some r)∧Za (kq≤k)∧Za (wc.heap[Lv]? =some (.cells #[.int .i64 aC,(.slice fB aA.length fC),(.slice eY aI.length fe),.int .i64 bT,.int .i64 bU,(.slice jm bn.length jo),.int .i64 bP] 36 (0,0)))∧Za (Below w.heap.size w wc))
 case first=>
  have H:=HC3.out;clear HC3;by_cases c5:aC<0
  case neg=>
   rw[if_neg c5]at H;have bY:decide (aC<0)=false:=decide_eq_false c5;clear c5
   (first|rw[bY]|(simp only[Zd0,Zd8];rw[bY])|skip)
   have H':=Za.mk H;clear H;obtain⟨qE,qF,xw,AB,AC,AJ,AL,qC,qD,wQ,Ar,Au,Av,Aw⟩:=cz7 iI.out;go_wp2
   go_meet
   case rel=>exact⟨_,(decide (aC>6)),eS,H',⟨by first|omega|exact Nat.le_refl _⟩,⟨kM iI.out⟩,⟨bM HB.out⟩⟩
  rw[if_pos c5]at H;have bY:decide (aC<0)=true:=decide_eq_true c5;clear c5
  (first|rw[bY]|(simp only[Zd0,Zd8];rw[bY])|skip)
  have H':=Za.mk H;clear H;obtain⟨kJ,kK,ll,ng,ni,EY,Fa,kF,kH,lh,mX,mY,EW,EX⟩:=cz7 iI.out;go_wp2
  go_meet
  case rel=>exact⟨_,(true),eS,H',⟨by first|omega|exact Nat.le_refl _⟩,⟨kM iI.out⟩,⟨bM HB.out⟩⟩
 case rest=>
  clear HC3;try clear c1
  try clear p2
  try clear c5
  try clear bY
  try clear kJ kK ll ng ni EY Fa kF kH lh mX mY EW EX
  try clear qE qF xw AB AC AJ AL qC qD wQ Ar Au Av Aw
  obtain⟨kq,FC,rfl,HA,HJ2,iI,HB⟩:=hcut
  cases kq with
  | zero => exact absurd HA.out (by simp [Zay.j0])
  |succ kj2=>
   have H:=HA.out;clear HA;simp only[Zay.j0]at H;by_cases c8:FC=true
   case pos=>
    subst c8;rw[if_pos rfl]at H;obtain rfl:=sj H;go_wp2;go_ret;exact⟨eR,bM HB.out⟩
   replace c8:=Bool.eq_false_iff.mpr c8;subst c8;replace H:=ifF H;obtain⟨kW,A9,H⟩:=bnd H;try dsimp only at H
   have H':=Za.mk H;clear H;obtain⟨nJ,nK,nL,pE,pF,yU,yV,nz,nA,nC,pq,pz,yL,yM⟩:=cz7 iI.out
   go_wp2_with (first|((with_reducible refine Zak (f:=74) rfl ?_);refine gl 16 Tryz.func74 #[.agg #[.int .i64 aC,.slice fB aA.length fC,.slice eY aI.length fe,.int .i64 bT,.int .i64 bU,.slice jm bn.length jo,.int .i64 bP]] ?_;(with_reducible refine(Zdo.calls kj2 aC _ _ aA _ _ aI bT bU _ _ bn bP kW _ (cM (Kd.Zae fU.out HB.out)) iD.out (cM (Kd.Zae fI.out HB.out)) iE.out (cM (Kd.Zae jD.out HB.out)) jA.out A9.out).mono ?_);rintro e w11 ⟨c3a,rfl,ho0,hb⟩;refine⟨_,rfl,?_⟩;have VV:=Za.mk (Kd.Zbk ho0 (Zac (bM HB.out)));replace iI:=Za.mk (kB iI.out hb);replace HB:=Za.mk (bS HB.out hb);(try clear hb);(try clear hb2);(try clear hk);(try clear hi);(try clear ho0)))
   go_loopg [6] kj2 (fun kq v6 w'=>∃(ae:Int),v6= .int .i64 ae∧Za (Zay.l0 kq l0 kW ae aC aA aI bT bU bn bP=some r)∧Za (kq≤kj2)∧Za (Kd.R (Kd.int .i64) 3 w' w.heap.size (fun _=>True) c3a kW)∧Za (w'.heap[Lv]? =some (.cells #[.int .i64 aC,(.slice fB aA.length fC),(.slice eY aI.length fe),.int .i64 bT,.int .i64 bU,(.slice jm bn.length jo),.int .i64 bP] 36 (0,0)))∧Za (Below w.heap.size w w'))
   case atStart=>exact⟨(0),eS,H',⟨Nat.le_refl _⟩,⟨rM VV.out⟩,⟨kM iI.out⟩,⟨bM HB.out⟩⟩
   case round=>
    clear H';try clear c1
    try clear p2
    try clear c5
    try clear bY
    try clear c7
    try clear c8
    try clear nJ nK nL pE pF yU yV nz nA nC pq pz yL yM
    try clear kJ kK ll ng ni EY Fa kF kH lh mX mY EW EX
    try clear qE qF xw AB AC AJ AL qC qD wQ Ar Au Av Aw
    try clear p2
    obtain⟨ae,rfl,HA,HK2,aW,iI,HB⟩:=hrel
    cases gk with
    | zero => exact absurd HA.out (by simp [Zay.l0])
    |succ k2=>
     have H:=HA.out;clear HA;simp only[Zay.l0]at H;by_cases c12:ae<(kW.length:Int)
     case neg=>
      rw[if_neg c12]at H;have gL:decide (ae<(kW.length:Int))=false:=decide_eq_false c12;clear c12;obtain⟨OE,A19,H⟩:=bnd H;try dsimp only at H
      by_cases c20:OE=true
      case neg=>
       replace c20:=Bool.eq_false_iff.mpr c20;subst c20;replace H:=ifF H;obtain rfl:=sj H;obtain⟨TN,Uk,NQ⟩:=Kd.Zbe aW.out;subst NQ;obtain⟨ava,axa,aya,aza,a0a,a1a,a2a,Yu,Yv,Yw,Yx,Yy,Yz,Y0⟩:=cz7 iI.out
       go_wp2_with (first|((with_reducible refine Zak (f:=75) rfl ?_);refine gl 39 Tryz.func75 #[.slice A0 l0.length c0,.agg #[.int .i64 aC,.slice fB aA.length fC,.slice eY aI.length fe,.int .i64 bT,.int .i64 bU,.slice jm bn.length jo,.int .i64 bP]] ?_;(with_reducible refine(Zap.calls k2 _ _ l0 aC _ _ aA _ _ aI bT bU _ _ bn bP false _ (cM (Kd.Zae HR0.out HB.out)) HC0.out (cM (Kd.Zae fU.out HB.out)) iD.out (cM (Kd.Zae fI.out HB.out)) iE.out (cM (Kd.Zae jD.out HB.out)) jA.out A19.out).mono ?_);rintro e w35 ⟨rfl,hb⟩;refine⟨_,rfl,?_⟩;replace HB:=Za.mk (bS HB.out hb);clear aW iI;(try clear hb);(try clear hb2);(try clear hk);(try clear hi)))
       go_ret;exact⟨eR,bM HB.out⟩
      subst c20;rw[if_pos rfl]at H;obtain⟨OG,A21,H⟩:=bnd H;try dsimp only at H
      by_cases c22:OG=true
      case pos=>
       subst c22;rw[if_pos rfl]at H;obtain rfl:=sj H;obtain⟨TL,Ui,NM⟩:=Kd.Zbe aW.out;subst NM;obtain⟨xk,xm,xn,xq,xu,aka,ala,wJ,wK,wM,wO,wP,Yi,Yj⟩:=cz7 iI.out
       go_wp2_with (first|((with_reducible refine Zak (f:=75) rfl ?_);refine gl 39 Tryz.func75 #[.slice A0 l0.length c0,.agg #[.int .i64 aC,.slice fB aA.length fC,.slice eY aI.length fe,.int .i64 bT,.int .i64 bU,.slice jm bn.length jo,.int .i64 bP]] ?_;(with_reducible refine(Zap.calls k2 _ _ l0 aC _ _ aA _ _ aI bT bU _ _ bn bP true _ (cM (Kd.Zae HR0.out HB.out)) HC0.out (cM (Kd.Zae fU.out HB.out)) iD.out (cM (Kd.Zae fI.out HB.out)) iE.out (cM (Kd.Zae jD.out HB.out)) jA.out A19.out).mono ?_);rintro e w25 ⟨rfl,hb⟩;refine⟨_,rfl,?_⟩;replace iI:=Za.mk (kB iI.out hb);replace HB:=Za.mk (bS HB.out hb);clear aW;(try clear hb);(try clear hb2);(try clear hk);(try clear hi);obtain⟨ama,ana,jDa,jEa,jFa,jGa,jHa,Yk,Yl,fLa,fMa,fNa,fOa,fPa⟩:=cz7 iI.out)|((with_reducible refine Zak (f:=76) rfl ?_);refine gl 45 Tryz.func76 #[.slice eY aI.length fe,.int .i64 bU] ?_;(with_reducible refine(Zaz.calls k2 _ _ aI bU true _ (cM (Kd.Zae fI.out HB.out)) iE.out A21.out).mono ?_);rintro e w27 ⟨rfl,hb⟩;refine⟨_,rfl,?_⟩;replace HB:=Za.mk (bS HB.out hb);clear iI;(try clear hb);(try clear hb2);(try clear hk);(try clear hi)))
       go_ret;exact⟨eR,bM HB.out⟩
      replace c22:=Bool.eq_false_iff.mpr c22;subst c22;replace H:=ifF H;obtain rfl:=sj H;obtain⟨Np,NB,G8⟩:=Kd.Zbe aW.out;subst G8;obtain⟨tL,tN,MK,ML,MM,aoa,apa,tF,tH,Mk,Ml,Mm,Ym,Yn⟩:=cz7 iI.out
      go_wp2_with (first|((with_reducible refine Zak (f:=75) rfl ?_);refine gl 39 Tryz.func75 #[.slice A0 l0.length c0,.agg #[.int .i64 aC,.slice fB aA.length fC,.slice eY aI.length fe,.int .i64 bT,.int .i64 bU,.slice jm bn.length jo,.int .i64 bP]] ?_;(with_reducible refine(Zap.calls k2 _ _ l0 aC _ _ aA _ _ aI bT bU _ _ bn bP true _ (cM (Kd.Zae HR0.out HB.out)) HC0.out (cM (Kd.Zae fU.out HB.out)) iD.out (cM (Kd.Zae fI.out HB.out)) iE.out (cM (Kd.Zae jD.out HB.out)) jA.out A19.out).mono ?_);rintro e w30 ⟨rfl,hb⟩;refine⟨_,rfl,?_⟩;replace iI:=Za.mk (kB iI.out hb);replace HB:=Za.mk (bS HB.out hb);clear aW;(try clear hb);(try clear hb2);(try clear hk);(try clear hi);obtain⟨RQ,RS,RU,RV,RX,jPa,jQa,Ro,Rp,Rq,Rs,Rt,fXa,fYa⟩:=cz7 iI.out)|((with_reducible refine Zak (f:=76) rfl ?_);refine gl 45 Tryz.func76 #[.slice eY aI.length fe,.int .i64 bU] ?_;(with_reducible refine(Zaz.calls k2 _ _ aI bU false _ (cM (Kd.Zae fI.out HB.out)) iE.out A21.out).mono ?_);rintro e w32 ⟨rfl,hb⟩;refine⟨_,rfl,?_⟩;replace HB:=Za.mk (bS HB.out hb);clear iI;(try clear hb);(try clear hb2);(try clear hk);(try clear hi)))
      go_ret;exact⟨eR,bM HB.out⟩
     rw[if_pos c12]at H;have gL:decide (ae<(kW.length:Int))=true:=decide_eq_true c12;clear c12;obtain⟨ny,H⟩:=ifT H;by_cases c14:(rd kW ae)<0
     case pos=>
      rw[if_pos c14]at H;have kS:decide ((rd kW ae)<0)=true:=decide_eq_true c14;clear c14;obtain rfl:=sj H;obtain⟨gU,gW,NL⟩:=Kd.Zbe aW.out;subst NL;have rH:0≤(ae:Int):=odt;have rU:ae<(kW.length:Int):=odt;obtain⟨F8,rfl,J6⟩:=Kd.Zbz (Kd.Zaq aW.out).2.2 ae rH rU;replace rH:=eq_true rH;replace rU:=eq_true rU;go_wp2;go_ret;exact⟨eR,bM HB.out⟩
     rw[if_neg c14]at H;have kS:decide ((rd kW ae)<0)=false:=decide_eq_false c14;clear c14;by_cases c16:(rd kW ae)≥(l0.length:Int)
     case pos=>
      rw[if_pos c16]at H;have sU:decide ((l0.length:Int)≤(rd kW ae))=true:=decide_eq_true c16;clear c16;obtain rfl:=sj H;obtain⟨ek,eu,zh⟩:=Kd.Zbe aW.out;subst zh;have rH:0≤(ae:Int):=odt;have rU:ae<(kW.length:Int):=odt;obtain⟨F8,rfl,J6⟩:=Kd.Zbz (Kd.Zaq aW.out).2.2 ae rH rU;replace rH:=eq_true rH;replace rU:=eq_true rU;have zz:0≤(ae:Int):=odt;have zQ:ae<(kW.length:Int):=odt;obtain⟨KT,e295,Tf⟩:=Kd.Zbz (Kd.Zaq aW.out).2.2 ae zz zQ;obtain rfl:F8=KT:=(by injection e295);replace zz:=eq_true zz;replace zQ:=eq_true zQ;go_wp2;go_ret;exact⟨eR,bM HB.out⟩
     rw[if_neg c16]at H;have sU:decide ((l0.length:Int)≤(rd kW ae))=false:=decide_eq_false c16;clear c16;have H':=Za.mk H;clear H;obtain⟨gG,gI,zi⟩:=Kd.Zbe aW.out;subst zi;have rH:0≤(ae:Int):=odt;have rU:ae<(kW.length:Int):=odt;obtain⟨F8,rfl,J6⟩:=Kd.Zbz (Kd.Zaq aW.out).2.2 ae rH rU;replace rH:=eq_true rH;replace rU:=eq_true rU;have zz:0≤(ae:Int):=odt;have zQ:ae<(kW.length:Int):=odt;obtain⟨KT,e295,Tf⟩:=Kd.Zbz (Kd.Zaq aW.out).2.2 ae zz zQ;obtain rfl:F8=KT:=(by injection e295);replace zz:=eq_true zz;replace zQ:=eq_true zQ;go_wp2
     go_roundg k2
     case measure=>have:=HJ2.out;have:=HK2.out;omega
     case rel=>exact⟨(wrap64 (ae+1)),eS,H',⟨by have:=HJ2.out;have:=HK2.out;omega⟩,⟨rM aW.out⟩,⟨kM iI.out⟩,⟨bM HB.out⟩⟩
def Zbr.j0 : Nat → List (List (S82)) → Bool → Int → List Int → List Int → Option (Int)
 | 0, _, _, _, _, _ => none
 |k+1,x0,x12,Ty,JK,JL=>if x12=true then((Zay.f k x0 0 JK JL 0 0 ([]:List (List Int)) 0).bind fun OH=>(some OH))else(if Ty=0 then(if(JK.length:Int)>0 then(some 44)else(if(JL.length:Int)>0 then(some 44)else(some 0)))else(some 44))
def Zbr.f (k:Nat) (l0:List (List (S82))) (aC:Int) (aA:List Int) (aI:List Int):Option (Int):=if aC=1 then(Zbr.j0 k l0 true aC aA aI)else(Zbr.j0 k l0 (aC==2) aC aA aI)
set_option maxRecDepth 100000 in
theorem Zbr.calls (k : Nat) (A0 : Option Addr) (c0 : Nat) (l0 : List (List (S82))) (aC : Int) (fB : Option Addr) (fC : Nat) (aA : List Int) (eY : Option Addr) (fe : Nat) (aI : List Int) (r : Int) (w : World) (hr0 : Kd.C (Kd.slice 82 k82) w A0 l0.length l0) (hc0 : l0.length ≤ c0) (mg : Kd.C (Kd.int .i64) w fB aA.length aA) (lY : aA.length ≤ fC) (mh : Kd.C (Kd.int .i64) w eY aI.length aI) (ma : aI.length ≤ fe) (h : Zbr.f k l0 aC aA aI = some r) :
  Calls Tryz.prog 56 #[.slice A0 l0.length c0,.agg #[.int .i64 aC,.slice fB aA.length fC,.slice eY aI.length fe]] w fun e w'=>e= .returned (.int .i64 r)∧Below w.heap.size w w':=by
 have hu26:=Tryz.underlying26;have hu36:=Tryz.underlying36;have HR0:=Za.mk hr0;have HC0:=Za.mk hc0;clear hr0 hc0;have fU:=Za.mk mg;have iD:=Za.mk lY;clear mg lY;have fI:=Za.mk mh;have iE:=Za.mk ma;clear mh ma;have HB:=Za.mk (Below.refl w.heap.size w);have H:(if aC=1 then(Zbr.j0 k l0 true aC aA aI)else(Zbr.j0 k l0 (aC==2) aC aA aI))=some r:=h;clear h;have HC3:=Za.mk H;clear H;go_enter Tryz.func56,Tryz.ntmps56
 go_upto_region 1 with (first|((with_reducible refine Zao (N:=3) rfl ?_);(try(refine Zb0 (by rfl) ?_;dsimp only));refine bx 3 #[.int .i64 aC,.slice fB aA.length fC,.slice eY aI.length fe] 26 ?_;intro QV hg w4 hbox hb;have oG:=Za.mk (hbox);have eba:=Za.mk ((gE hg HB.out:w.heap.size≤QV));replace HB:=Za.mk (bS HB.out hb);clear hb hbox hg))
 (try simp only[Act.put,List.setIfInBounds_toArray,List.set_cons_zero,List.set_cons_succ])
 go_cut [12] (fun v12 wc=>∃(kq:Nat) (FB:Bool),v12= .bool FB∧Za (Zbr.j0 kq l0 FB aC aA aI=some r)∧Za (kq≤k)∧Za (wc.heap[QV]? =some (.cells #[.int .i64 aC,(.slice fB aA.length fC),(.slice eY aI.length fe)] 26 (0,0)))∧Za (Below w.heap.size w wc))
 case first=>
  have H:=HC3.out;clear HC3;by_cases c5:aC=1
  case neg=>
   rw[if_neg c5]at H;have bY:(aC==1)=false:=beq_eq_false_iff_ne.mpr c5;have kT:(aC !=1)=true:=bne_iff_ne.mpr c5
   (first|rw[bY]|(simp only[Zd0,Zd8];rw[bY])|skip)
   have H':=Za.mk H;clear H;obtain⟨qE,qF,xw,qC,qD,wQ⟩:=cz3 oG.out;go_wp2
   go_meet
   case rel=>exact⟨_,((aC==2)),eS,H',⟨by first|omega|exact Nat.le_refl _⟩,⟨kM oG.out⟩,⟨bM HB.out⟩⟩
  rw[if_pos c5]at H;have bY:(aC==1)=true:=beq_iff_eq.mpr c5;have kT:(aC !=1)=false:=bne_eq_false_iff_eq.mpr c5;clear c5
  (first|rw[bY]|(simp only[Zd0,Zd8];rw[bY])|skip)
  have H':=Za.mk H;clear H;obtain⟨kJ,kK,ll,kF,kH,lh⟩:=cz3 oG.out;go_wp2
  go_meet
  case rel=>exact⟨_,(true),eS,H',⟨by first|omega|exact Nat.le_refl _⟩,⟨kM oG.out⟩,⟨bM HB.out⟩⟩
 case rest=>
  clear HC3;try clear c1
  try clear p2
  try clear c5
  try clear bY
  try clear kT
  try clear kJ kK ll kF kH lh
  try clear qE qF xw qC qD wQ
  obtain⟨kq,FB,rfl,HA,HJ2,oG,HB⟩:=hcut
  cases kq with
  | zero => exact absurd HA.out (by simp [Zbr.j0])
  |succ kj2=>
   have H:=HA.out;clear HA;simp only[Zbr.j0]at H;by_cases c8:FB=true
   case pos=>
    subst c8;rw[if_pos rfl]at H;obtain⟨OH,A9,H⟩:=bnd H;try dsimp only at H
    obtain rfl:=sj H;obtain⟨nJ,nK,nL,nz,nA,nC⟩:=cz3 oG.out
    go_wp2_with (first|((with_reducible refine Zak (f:=55) rfl ?_);refine gl 19 Tryz.func55 #[.slice A0 l0.length c0,.agg #[.int .i64 0,.slice fB aA.length fC,.slice eY aI.length fe,.int .i64 0,.int .i64 0,.slice none 0 0,.int .i64 0]] ?_;(refine(Zay.calls kj2 _ _ l0 0 _ _ aA _ _ aI 0 0 _ _ ([]:List (List Int)) 0 OH _ ?side1 ?side2 ?side3 ?side4 ?side5 ?side6 ?side7 ?side8 A9.out).mono ?_);(case side1=>repeat(first|exact(Kd.Zae HR0.out HB.out)|(with_reducible refine Kd.C_alloc ?_ _)|(with_reducible refine Kd.Zb7 ?_ _)|(with_reducible refine Kd.Zci ?_)));(case side2=>exact HC0.out);(case side3=>repeat(first|exact(Kd.Zae fU.out HB.out)|(with_reducible refine Kd.C_alloc ?_ _)|(with_reducible refine Kd.Zb7 ?_ _)|(with_reducible refine Kd.Zci ?_)));(case side4=>exact iD.out);(case side5=>repeat(first|exact(Kd.Zae fI.out HB.out)|(with_reducible refine Kd.C_alloc ?_ _)|(with_reducible refine Kd.Zb7 ?_ _)|(with_reducible refine Kd.Zci ?_)));(case side6=>exact iE.out);(case side7=>exact Kd.Zfq _ _);(case side8=>exact Nat.le_refl _);rintro e w11 ⟨rfl,hb⟩;refine⟨_,rfl,?_⟩;replace HB:=Za.mk (bS HB.out hb);clear oG;(try clear hb);(try clear hb2);(try clear hk);(try clear hi)))
    go_ret;exact⟨eR,bM HB.out⟩
   replace c8:=Bool.eq_false_iff.mpr c8;subst c8;replace H:=ifF H;by_cases c12:aC=0
   case neg=>
    rw[if_neg c12]at H;have gL:(aC==0)=false:=beq_eq_false_iff_ne.mpr c12;have sS:(aC !=0)=true:=bne_iff_ne.mpr c12;obtain rfl:=sj H;obtain⟨M4,M5,aca,LU,LV,Yb⟩:=cz3 oG.out;go_wp2;go_ret;exact⟨eR,bM HB.out⟩
   rw[if_pos c12]at H;have gL:(aC==0)=true:=beq_iff_eq.mpr c12;have sS:(aC !=0)=false:=bne_eq_false_iff_eq.mpr c12;clear c12;by_cases c13:(aA.length:Int)>0
   case pos=>
    rw[if_pos c13]at H;have ny:decide (0<(aA.length:Int))=true:=decide_eq_true c13;have Lc:decide (0<aA.length)=true:=decide_eq_true (by omega);clear c13;obtain rfl:=sj H;obtain⟨wY,xc,Eg,wD,wE,DR⟩:=cz3 oG.out;go_wp2;go_ret;exact⟨eR,bM HB.out⟩
   rw[if_neg c13]at H;have ny:decide (0<(aA.length:Int))=false:=decide_eq_false c13;have Lc:decide (0<aA.length)=false:=decide_eq_false (by omega);clear c13;by_cases c15:(aI.length:Int)>0
   case neg=>
    rw[if_neg c15]at H;have jf:decide (0<(aI.length:Int))=false:=decide_eq_false c15;have vR:decide (0<aI.length)=false:=decide_eq_false (by omega);clear c15;obtain rfl:=sj H;obtain⟨Eo,Ep,M3,Ea,Eb,LQ⟩:=cz3 oG.out;go_wp2;go_ret;exact⟨eR,bM HB.out⟩
   rw[if_pos c15]at H;have jf:decide (0<(aI.length:Int))=true:=decide_eq_true c15;have vR:decide (0<aI.length)=true:=decide_eq_true (by omega);clear c15;obtain rfl:=sj H;obtain⟨za,zb,ze,yP,yQ,yR⟩:=cz3 oG.out;go_wp2;go_ret;exact⟨eR,bM HB.out⟩
end Go.Proofs.YtdpieallpbllkaaGreat.P
/- May a constraint be, by the document: the same as model.Con. -/
namespace Go.Proofs.YtdpieallpbllkaaGreat.P
open Go.RowKit Go.Proofs.YtdpieallpbllkaaGreatW.PrintWords Go.Proofs.YtdpieallpbllkaaGreatW.PrintLast Go.Proofs.YtdpieallpbllkaaGreatW.PrintMore
theorem rdLn (xs:List (List Int)) (n:Nat) (h:n<xs.length):Zck xs (n:Int)=xs[n]:=by simp[Zck,List.getD_eq_getElem?_getD,List.getElem?_eq_getElem h]
theorem rdR_dom (xs:List (List Rg)) (v:Int):Zda xs v=domAt xs v:=rfl
theorem insU_len (x : Int) : ∀ l, SS l → (insU x l).length = if x ∈ l then l.length else l.length + 1
  | [], _ => by simp [insU]
  |y::l,h=>by
    obtain⟨hy,hl⟩:=List.pairwise_cons.1 h;unfold insU;by_cases h1:x<y
    · rw [if_pos h1, if_neg]
      · simp
      intro hx
      rcases List.mem_cons.1 hx with e|hx
      · omega
      have:=hy x hx;omega
    rw[if_neg h1];by_cases h2:x=y
    · subst h2;simp
    rw[if_neg h2,List.length_cons,insU_len x l hl];by_cases h3:x ∈ l;rotate_left
    · rw[if_neg h3,if_neg (by simp[h2,h3])];simp
    rw[if_pos h3,if_pos (List.mem_cons_of_mem _ h3)];simp
theorem sd_nodup : ∀ l : List Int, (sd l).length = l.length ↔ l.Nodup
  | [] => by simp [sd]
  |x::l=>by
    have ih:=sd_nodup l;have hl:=Zhp l;have e:=insU_len x (sd l) (sd_ss l);rw[sd,List.nodup_cons,←mem_sd x l];by_cases hx:x ∈ sd l;rotate_left
    · rw [if_neg hx] at e
      rw[e,←ih]
      simp[hx]
    rw[if_pos hx]at e
    constructor
    · intro h
      simp at h
      omega
    exact fun h=>absurd hx h.1
theorem allB_nodup (l:List Int):allB l=decide l.Nodup:=decide_eq_decide.2 (sd_nodup l)
theorem nodup_snoc {l:List Int} {n:Nat} (hn:n<l.length) (h:(l.take n).Nodup) (hd:∀j (hj:j<n),l[n]≠l[j]'(by omega)):(l.take (n+1)).Nodup:=by
  rw[List.take_succ_eq_append_getElem hn,List.nodup_append];refine⟨h,by simp,fun a ha b hb=> ?_⟩;obtain rfl:=List.mem_singleton.1 hb;obtain⟨j,hj,rfl⟩:=List.mem_take_iff_getElem.1 ha;exact fun e=>hd j (by omega) e.symm
theorem others_l0 (l:List Int) (hl:l.length<4611686018427387904):∀(m n:Nat),n+m=l.length→(l.take n).Nodup→Ev (fun k=>Za0.l0 k l (n:Int)) (decide l.Nodup):=by
  intro m
  induction m with
  |zero=>
    intro n h hn;rw[List.take_of_length_le (by omega)]at hn;exact Ev.step (G:=fun _=>some true) (fun k=>by rw[Za0.l0,if_neg (by omega)]) (Ev.const (by simp[hn]))
  |succ m ih=>
    intro n h hn;have hlt:n<l.length:=by omega
    have inner:∀(r q:Nat) (hq:q+r=n),(∀j (hj:j<q),l[n]≠l[j]'(by omega))→Ev (fun k=>Za0.l1 k l (n:Int) (q:Int)) (decide l.Nodup):=by
      intro r
      induction r with
      |zero=>
        intro q hq hd;obtain rfl:q=n:=by omega
        exact Ev.step (fun k=>by rw[Za0.l1,if_neg (by omega),w1 (by omega)]) (ih (q+1) (by omega) (nodup_snoc hlt hn hd))
      |succ r ihr=>
        intro q hq hd;have hql:q<l.length:=by omega
        by_cases e:l[n]=l[q];rotate_left
        · refine Ev.step (fun k => by rw [Za0.l1, if_pos (by omega), if_pos (by omega), if_pos (by omega), if_pos (by omega), if_pos (by omega), Zc2 l n hlt, Zc2 l q hql, if_neg e, w1 (by omega)]) (ihr (q + 1) (by omega) (fun j hj => ?_))
          by_cases hjq:j=q
          · subst hjq;exact e
          exact hd j (by omega)
        have hnn:¬l.Nodup:=fun hN=>by
          exact List.pairwise_iff_getElem.1 hN q n hql hlt (by omega) e.symm
        rw[decide_eq_false hnn];exact Ev.step (G:=fun _=>some false) (fun k=>by rw[Za0.l1,if_pos (by omega),if_pos (by omega),if_pos (by omega),if_pos (by omega),if_pos (by omega),Zc2 l n hlt,Zc2 l q hql,if_pos e]) (Ev.pure _)
    exact Ev.step (fun k=>by rw[Za0.l0,if_pos (by omega)];rfl) (inner n 0 (by omega) (fun j hj=>absurd hj (Nat.not_lt_zero j)))
theorem others_ev (l:List Int) (hl:l.length<4611686018427387904):Ev (fun k=>Za0.f k l) (allB l):=by
  rw[allB_nodup];exact others_l0 l hl l.length 0 (by omega) (by simp)
theorem rtruth_l0 (d : List Rg) (hl : d.length ≤ 3000000) : ∀ (m n : Nat), n + m = d.length → Ev (fun k => Zbg.l0 k d (n : Int)) (truB (d.drop n))
  |0,n,h=>by
    rw[List.drop_eq_nil_of_le (by omega)];exact Ev.step (G:=fun _=>some true) (fun k=>by rw[Zbg.l0,if_neg (by omega)]) (Ev.const rfl)
  |m+1,n,h=>by
    have hn:n<d.length:=by omega
    have hat:=show Zbi d (n:Int)=d[n]from Zfd d n hn
    have ih:=rtruth_l0 d hl m (n+1) (by omega);rw[List.drop_eq_getElem_cons hn];by_cases h0:d[n].f0<0
    · have e:truB (d[n]::d.drop (n+1))=false:=by
        unfold truB;rw[List.all_cons,decide_eq_false (by omega),Bool.false_and,Bool.false_and]
      rw[e];exact Ev.step (G:=fun _=>some false) (fun k=>by rw[Zbg.l0,if_pos (by omega),if_pos (by omega),hat,if_pos h0]) (Ev.const rfl)
    by_cases h1:d[n].f1>1
    · have e:truB (d[n]::d.drop (n+1))=false:=by
        unfold truB;rw[List.all_cons,decide_eq_false (show ¬d[n].f1≤1 by omega),Bool.and_false,Bool.false_and]
      rw[e];exact Ev.step (G:=fun _=>some false) (fun k=>by rw[Zbg.l0,if_pos (by omega),if_pos (by omega),hat,if_neg h0,if_pos h1]) (Ev.const rfl)
    have e:truB (d[n]::d.drop (n+1))=truB (d.drop (n+1)):=by
      unfold truB;rw[List.all_cons,decide_eq_true (show(0:Int)≤d[n].f0 by omega),decide_eq_true (show d[n].f1≤1 by omega),Bool.true_and,Bool.true_and]
    rw[e];exact Ev.step (fun k=>by rw[Zbg.l0,if_pos (by omega),if_pos (by omega),hat,if_neg h0,if_neg h1,w1 (by omega)]) ih
theorem rtruth_ev (d:List Rg) (hl:d.length≤3000000):Ev (fun k=>Zbg.f k d) (truB d):=rtruth_l0 d hl d.length 0 (by omega)
theorem mx_neg {n:Int} (h1: -4611686018427387904≤n) (h2:n≤4611686018427387904):mx n (wrap64 (-n))=(n.natAbs:Int):=by
  rw[w64 (by omega) (by omega)];unfold mx
  split<;>omega
theorem rbig_l0 (l : List Int) (hl : l.length ≤ 1000000) : ∀ (m n : Nat) (room : Int), n + m = l.length → 0 ≤ room → room ≤ 4611686018427387904 → Ev (fun k => Zaz.l0 k l room (n : Int)) (!decide (tot (l.drop n) ≤ room))
  |0,n,room,h,h0,h1=>by
    rw[List.drop_eq_nil_of_le (by omega),decide_eq_true (by unfold tot;omega)];exact Ev.step (G:=fun _=>some false) (fun k=>by rw[Zaz.l0,if_neg (by omega)]) (Ev.const rfl)
  |m+1,n,room,h,h0,h1=>by
    have hn:n<l.length:=by omega
    have hr:rd l (n:Int)=l[n]:=Zc2 l n hn;have ht:=Zen (l.drop (n+1));rw[List.drop_eq_getElem_cons hn,tot];by_cases hb:l[n]>4398046511104
    · rw [decide_eq_false (by omega)]
      exact Ev.step (fun k=>by rw[Zaz.l0,if_pos (by omega),if_pos (by omega),hr,if_pos hb]) (Ev.step (G:=fun _=>some true) (fun k=>by rw[Zaz.j2,if_pos rfl]) (Ev.const rfl))
    refine Ev.step (fun k=>by rw[Zaz.l0,if_pos (by omega),if_pos (by omega),hr,if_neg hb]) ?_;by_cases hc:l[n]< -4398046511104
    · rw [decide_eq_false (show ¬ ((l[n].natAbs : Int) * 1048576 + tot (l.drop (n + 1)) ≤ room) by omega), decide_eq_true hc]
      exact Ev.step (G:=fun _=>some true) (fun k=>by rw[Zaz.j2,if_pos rfl]) (Ev.const rfl)
    rw[decide_eq_false hc];have e1:wrap64 (mx l[n] (wrap64 (-l[n]))*1048576)=(l[n].natAbs:Int)*1048576:=by rw[mx_neg (by omega) (by omega),w64 (by omega) (by omega)]
    have e2:wrap64 (room - (l[n].natAbs:Int)*1048576)=room - (l[n].natAbs:Int)*1048576:=w64 (by omega) (by omega);refine Ev.step (fun k=>by rw[Zaz.j2,if_neg (by simp),if_pos (by omega),if_pos (by omega),hr,e1,e2]) ?_;by_cases hd:room - (l[n].natAbs:Int)*1048576<0
    · rw [decide_eq_false (by omega)]
      exact Ev.Zaj hd (Ev.const rfl)
    have ih:=rbig_l0 l hl m (n+1) (room - (l[n].natAbs:Int)*1048576) (by omega) (by omega) (by omega);rw[decide_eq_decide.2 (show tot (l.drop (n+1))≤room - (l[n].natAbs:Int)*1048576↔(l[n].natAbs:Int)*1048576+tot (l.drop (n+1))≤room by omega)]at ih;refine Ev.Zat hd ?_;rw[w1 (by omega)];exact ih
theorem rbig_ev (l:List Int) (rhs:Int) (hl:l.length≤1000000):Ev (fun k=>Zaz.f k l rhs) (!decide ((rhs.natAbs:Int)+tot l≤4611686018427387904)):=by
  have ht:=Zen l;unfold Zaz.f;by_cases h1:rhs>4611686018427387904
  · rw [decide_eq_false (show ¬ ((rhs.natAbs : Int) + tot l ≤ 4611686018427387904) by omega)]
    refine Ev.Zaj h1 (Ev.step (G:=fun _=>some true) (fun k=>by rw[Zaz.j0,if_pos rfl]) ?_);exact Ev.const rfl
  refine Ev.Zat h1 ?_;by_cases h2:rhs< -4611686018427387904
  · rw [decide_eq_false (show ¬ ((rhs.natAbs : Int) + tot l ≤ 4611686018427387904) by omega), decide_eq_true h2]
    exact Ev.step (G:=fun _=>some true) (fun k=>by rw[Zaz.j0,if_pos rfl]) (Ev.const rfl)
  rw[decide_eq_false h2];have e1:wrap64 (4611686018427387904 - mx rhs (wrap64 (-rhs)))=4611686018427387904 - (rhs.natAbs:Int):=by rw[mx_neg (by omega) (by omega),w64 (by omega) (by omega)]
  have:=rbig_l0 l hl l.length 0 (4611686018427387904 - (rhs.natAbs:Int)) (by omega) (by omega) (by omega);rw[List.drop_zero,decide_eq_decide.2 (show tot l≤4611686018427387904 - (rhs.natAbs:Int)↔(rhs.natAbs:Int)+tot l≤4611686018427387904 by omega)]at this;exact Ev.step (fun k=>by rw[Zaz.j0,if_neg (by simp),e1];rfl) this
theorem rsum_ev (kd:Int) (vars coefs:List Int) (op rhs:Int) (rows:List (List Int)) (b:Int) (h1:vars.length≤1000000) (h2:coefs.length≤1000000):Ev (fun k=>Zb2.f k kd vars coefs op rhs rows b) (sumB vars coefs):=by
  unfold Zb2.f sumB;refine Ev.bind (others_ev vars (by omega)) ?_;by_cases q1:0<vars.length;rotate_left
  · rw [decide_eq_false q1, Bool.false_and]
    cases allB vars with
    | true => exact Ev.Zaj rfl (Ev.Zat (by omega) (Ev.const rfl))
    |false=>exact Ev.Zat (by simp) (Ev.const rfl)
  rw[decide_eq_true q1,Bool.true_and];by_cases q2:vars.length=coefs.length;rotate_left
  · rw [decide_eq_false q2, Bool.false_and]
    cases allB vars with
    | true => exact Ev.Zaj rfl (Ev.Zaj (by omega) (Ev.Zat (by omega) (Ev.const rfl)))
    |false=>exact Ev.Zat (by simp) (Ev.const rfl)
  rw[decide_eq_true q2,Bool.true_and]
  cases allB vars with
  | true => exact Ev.Zaj rfl (Ev.Zaj (by omega) (Ev.Zaj (by omega) (Ev.bind (ref_Has coefs 0 (by omega)) (Ev.const rfl))))
  |false=>exact Ev.Zat (by simp) (Ev.const rfl)
theorem isVal_far (x:Int):isVal x= !farV x:=by
  unfold isVal farV;rw[Bool.eq_iff_iff]
  simp
theorem rrows_l0 (kd : Int) (vars coefs : List Int) (op rhs : Int) (rows : List (List Int)) (b : Int) (hr : rows.length ≤ 1000000) (hin : ∀ x ∈ rows, x.length ≤ 1000000) : ∀ (m n : Nat), n + m = rows.length →
    Ev (fun k=>Zbf.l0 k (n:Int) kd vars coefs op rhs rows b) (((rows.drop n).all (rowOk vars)) && decide (rows.length≤1024)):=by
  intro m
  induction m with
  |zero=>
    intro n h;rw[List.drop_of_length_le (by omega)];exact Ev.step (G:=fun _=>some (decide ((rows.length:Int)≤1024))) (fun k=>by rw[Zbf.l0,if_neg (by omega)]) (Ev.const (by simp;omega))
  |succ m ih=>
    intro n h;have hn:n<rows.length:=by omega
    have hx:=hin _ (List.getElem_mem hn);rw[List.drop_eq_getElem_cons hn,List.all_cons]
    have inner:∀(r q:Nat),q+r=rows[n].length→Ev (fun k=>Zbf.l1 k (n:Int) (q:Int) kd vars coefs op rhs rows b) ((!(rows[n].drop q).any farV && (rows.drop (n+1)).all (rowOk vars)) && decide (rows.length≤1024)):=by
      intro r
      induction r with
      |zero=>
        intro q hq;rw[List.drop_of_length_le (show rows[n].length≤q by omega)];refine Ev.step (fun k=>by rw[Zbf.l1,if_pos (by omega),if_pos (by omega),rdLn rows n hn,if_neg (by omega),w1 (by omega)]) ?_
        simpa using ih (n+1) (by omega)
      |succ r ihr=>
        intro q hq;have hql:q<rows[n].length:=by omega
        refine Ev.step (fun k=>by rw[Zbf.l1,if_pos (by omega),if_pos (by omega),rdLn rows n hn,if_pos (by omega),if_pos (by omega),Zc2 _ q hql,Zds,Option.bind_some,w1 (by omega),isVal_far]) ?_;rw[List.drop_eq_getElem_cons hql,List.any_cons]
        cases hv:farV rows[n][q]with
        | false => simpa using ihr (q + 1) (by omega)
        |true=>simpa using Ev.pure false
    unfold rowOk;by_cases e:rows[n].length=vars.length
    · refine Ev.step (fun k => by rw [Zbf.l0, if_pos (by omega), if_pos (by omega), rdLn rows n hn, if_pos (by omega)]) ?_
      have:=inner rows[n].length 0 (by omega);rw[decide_eq_true (show(rows[n].length:Int)=(vars.length:Int) by omega),Bool.true_and];exact this
    refine Ev.step (G:=fun _=>some false) (fun k=>by rw[Zbf.l0,if_pos (by omega),if_pos (by omega),rdLn rows n hn,if_neg (by omega)]) ?_;rw[decide_eq_false (show ¬(rows[n].length:Int)=(vars.length:Int) by omega),Bool.false_and,Bool.false_and];exact Ev.pure false
theorem rrows_ev (kd : Int) (vars coefs : List Int) (op rhs : Int) (rows : List (List Int)) (b : Int) (hr : rows.length ≤ 1000000) (hin : ∀ x ∈ rows, x.length ≤ 1000000) :
    Ev (fun k=>Zbf.f k kd vars coefs op rhs rows b) (decide (rows.length≤1024) && !(rows.any fun l=> !rowOk vars l)):=by
  have:=rrows_l0 kd vars coefs op rhs rows b hr hin rows.length 0 (by omega);rw[List.drop_zero,Bool.and_comm]at this
  have e:rows.all (rowOk vars)= !(rows.any fun l=> !rowOk vars l):=by
    rw[Bool.eq_iff_iff]
    simp
  rw[←e];exact this
theorem units_l0 (d : List (List Rg)) (hdl : ∀ x ∈ d, x.length ≤ 3000000) (kd : Int) (vars coefs : List Int) (op rhs : Int) (rows : List (List Int)) (b : Int) (hl : vars.length ≤ 1000000) (he : vars.length = coefs.length) (hv : ∀ v ∈ vars, awayV d.length v = false) : ∀ (m n : Nat), n + m = vars.length →
    Ev (fun k=>Zbv.l0 k d (n:Int) kd vars coefs op rhs rows b) (!((coefs.drop n).any oddU) && (vars.drop n).all fun v=>truB (domAt d v))
  |0,n,h=>by
    rw[List.drop_eq_nil_of_le (by omega),List.drop_eq_nil_of_le (by omega)];exact Ev.step (G:=fun _=>some true) (fun k=>by rw[Zbv.l0,if_neg (by omega)]) (Ev.const rfl)
  |m+1,n,h=>by
    have hn:n<vars.length:=by omega
    have hn2:n<coefs.length:=by omega
    have ih:=units_l0 d hdl kd vars coefs op rhs rows b hl he hv m (n+1) (by omega);have ha:=hv _ (List.getElem_mem hn);unfold awayV at ha;simp only[Bool.or_eq_false_iff,decide_eq_false_iff_not]at ha;rw[List.drop_eq_getElem_cons hn,List.drop_eq_getElem_cons hn2,List.any_cons,List.all_cons]
    have hdm:(domAt d vars[n]).length≤3000000:=by
      unfold domAt;rw[List.getD_eq_getElem?_getD]
      cases hq:d[vars[n].toNat]? with
      | none => simp
      |some x=>exact hdl x (List.mem_of_getElem? hq)
    refine Ev.step (fun k=>by rw[Zbv.l0,if_pos (by omega),if_pos (by omega),Zc2 vars n hn,if_pos (by omega),if_pos (by omega),rdR_dom]) (Ev.bind (rtruth_ev _ hdm) ?_);rw[Zc2 coefs n hn2]
    cases truB (domAt d vars[n])with
    |false=>
      rw[Bool.false_and,Bool.and_false];exact Ev.Zat (by simp) (Ev.const rfl)
    |true=>
      refine Ev.Zaj rfl (Ev.Zaj (by omega) ?_);rw[w1 (by omega)];by_cases c1:coefs[n]=1
      · have e : oddU coefs[n] = false := by rw [c1]; rfl
        rw[e,Bool.false_or,Bool.true_and];exact Ev.Zaj c1 ih
      refine Ev.Zat c1 ?_;by_cases c2:coefs[n]= -1
      · have e : oddU coefs[n] = false := by rw [c2]; rfl
        rw[e,Bool.false_or,Bool.true_and];exact Ev.Zaj c2 ih
      have e:oddU coefs[n]=true:=by unfold oddU;simp[c1,c2]
      rw[e,Bool.true_or,Bool.not_true,Bool.false_and];exact Ev.Zat c2 (Ev.const rfl)
theorem units_ev (d : List (List Rg)) (hdl : ∀ x ∈ d, x.length ≤ 3000000) (kd : Int) (vars coefs : List Int) (op rhs : Int) (rows : List (List Int)) (b : Int) (hl : vars.length ≤ 1000000) (he : vars.length = coefs.length) (hv : ∀ v ∈ vars, awayV d.length v = false) :
    Ev (fun k=>Zbv.f k d kd vars coefs op rhs rows b) (!(coefs.any oddU) && vars.all fun v=>truB (domAt d v)):=units_l0 d hdl kd vars coefs op rhs rows b hl he hv vars.length 0 (by omega)
theorem beqd (b:Int):(b==0)=decide (b=0):=by rw[Bool.eq_iff_iff];simp
section
variable (d : List (List Rg)) (hdl : ∀ x ∈ d, x.length ≤ 3000000) (kd : Int) (vars coefs : List Int) (op rhs : Int) (rows : List (List Int)) (b : Int)
  (h1:vars.length≤1000000) (h2:coefs.length≤1000000) (h5:rows.length≤1000000) (hin:∀x ∈ rows,x.length≤1000000) (hv:vars.any (awayV d.length)=false) (hb:kd=4→awayV d.length b=false)
include hdl h1 h2 h5 hin hv hb
theorem rright_j3 (x5 x6 x7 x8 : Bool) (e5 : x5 = (decide (op = 0) && (decide (rhs = 0) && decide (b = 0)))) (e6 : x6 = plainB coefs op rhs b) (e7 : x7 = (decide (0 ≤ op) && decide (op < 3))) (e8 : x8 = (decide (0 < vars.length) && allB vars)) :
    Ev (fun k=>Zap.j3 k d x5 x6 x7 x8 kd vars coefs op rhs rows b) (rightB d kd vars coefs op rhs rows b):=by
  have hvs:∀v ∈ vars,awayV d.length v=false:=fun v hv'=>Bool.eq_false_iff.2 (fun e=>Bool.eq_false_iff.1 hv (List.any_eq_true.2 ⟨v,hv',e⟩))
  have hsum:=rsum_ev kd vars coefs op rhs rows b h1 h2;refine Ev.step (G:=fun k=>_) (fun k=>by rw[Zap.j3]) ?_;unfold rightB;by_cases q2:kd=2
  · subst q2
    rw[if_neg (show ¬((2:Int)≠2∧0<rows.length)from fun h_=>absurd rfl h_.1),if_neg (show ¬(2:Int)=0 by decide),if_neg (show ¬(2:Int)=1 by decide),if_pos rfl];refine Ev.Zat (show ¬(2:Int)=0 by decide) (Ev.Zat (show ¬(2:Int)=1 by decide) (Ev.Zaj rfl ?_));rw[←e6,←Bool.and_assoc (decide (0<vars.length)),←e8]
    cases x6 with
    | false => exact Ev.Zat (by simp) (Ev.const rfl)
    |true=>
      cases x8 with
      | false => exact Ev.Zaj rfl (Ev.Zat (by simp) (Ev.const rfl))
      |true=>exact Ev.Zaj rfl (Ev.Zaj rfl (Ev.bind (rrows_ev 2 vars coefs op rhs rows b h5 hin) (Ev.const rfl)))
  by_cases q0:rows.length=0;rotate_left
  · have qr : kd ≠ 2 ∧ 0 < rows.length := ⟨q2, by omega⟩
    have z:¬(rows.length:Int)=0:=by omega
    rw[if_pos qr];by_cases k0:kd=0
    · exact Ev.Zaj k0 (Ev.Zat z (Ev.const rfl))
    refine Ev.Zat k0 ?_;by_cases k1:kd=1
    · exact Ev.Zaj k1 (Ev.Zat z (Ev.const rfl))
    refine Ev.Zat k1 (Ev.Zat q2 ?_);by_cases k3:kd=3
    · exact Ev.Zaj k3 (Ev.Zat z (Ev.const rfl))
    refine Ev.Zat k3 ?_;by_cases k4:kd=4
    · exact Ev.Zaj k4 (Ev.Zat z (Ev.const rfl))
    refine Ev.Zat k4 ?_;by_cases k5:kd=5
    · exact Ev.Zaj k5 (Ev.Zat z (Ev.const rfl))
    exact Ev.Zat k5 (Ev.Zat z (Ev.const rfl))
  have qr:¬(kd≠2∧0<rows.length):=fun h=>by omega
  have z:(rows.length:Int)=0:=by omega
  rw[if_neg qr];by_cases k0:kd=0
  · rw [if_pos k0]
    refine Ev.Zaj k0 (Ev.Zaj z (Ev.bind hsum ?_));unfold heldB;rw[←e7]
    cases sumB vars coefs with
    | false => exact Ev.Zat (by simp) (Ev.const rfl)
    |true=>
      cases x7 with
      | false => exact Ev.Zaj rfl (Ev.Zat (by simp) (Ev.const rfl))
      |true=>exact Ev.Zaj rfl (Ev.Zaj rfl (Ev.const (by rw[beqd];simp)))
  rw[if_neg k0];refine Ev.Zat k0 ?_;by_cases k1:kd=1
  · rw [if_pos k1, ← e6, ← e8]
    refine Ev.Zaj k1 (Ev.Zaj z ?_)
    cases x6 with
    | false => exact Ev.Zat (by simp) (Ev.const rfl)
    |true=>exact Ev.Zaj rfl (Ev.const rfl)
  rw[if_neg k1,if_neg q2];refine Ev.Zat k1 (Ev.Zat q2 ?_);by_cases k3:kd=3
  · rw [if_pos k3, ← e6]
    refine Ev.Zaj k3 (Ev.Zaj z ?_)
    cases x6 with
    | false => exact Ev.Zat (by simp) (Ev.const rfl)
    |true=>
      refine Ev.Zaj rfl ?_;by_cases hz:0<vars.length;rotate_left
      · rw [decide_eq_false hz, Bool.false_and] at e8
        rw[e8];have:decide (3≤vars.length)=false:=decide_eq_false (by omega);exact Ev.Zat (by simp) (Ev.const (by rw[this];simp))
      rw[decide_eq_true hz,Bool.true_and]at e8;rw[←e8]
      cases x8 with
      | false => exact Ev.Zat (by simp) (Ev.const (by simp))
      |true=>exact Ev.Zaj rfl (Ev.const (by simp;omega))
  rw[if_neg k3];refine Ev.Zat k3 ?_;by_cases k4:kd=4
  · rw [if_pos k4]
    have hbb:0≤b∧b<(d.length:Int):=by
      have:=hb k4;unfold awayV at this;simp only[Bool.or_eq_false_iff,decide_eq_false_iff_not]at this
      omega
    have hdm:(domAt d b).length≤3000000:=by
      unfold domAt;rw[List.getD_eq_getElem?_getD]
      cases hq:d[b.toNat]? with
      | none => simp
      |some x=>exact hdl x (List.mem_of_getElem? hq)
    refine Ev.Zaj k4 (Ev.Zaj z (Ev.bind hsum ?_));unfold heldB;rw[←e7]
    cases sumB vars coefs with
    | false => exact Ev.Zat (by simp) (Ev.const rfl)
    |true=>
      cases x7 with
      | false => exact Ev.Zaj rfl (Ev.Zat (by simp) (Ev.const rfl))
      |true=>
        refine Ev.Zaj rfl (Ev.Zaj rfl (Ev.Zaj hbb.1 (Ev.Zaj hbb.2 ?_)));rw[rdR_dom];refine Ev.bind (rtruth_ev _ hdm) ?_
        cases truB (domAt d b)with
        | false => exact Ev.Zat (by simp) (Ev.const rfl)
        |true=>exact Ev.Zaj rfl (Ev.bind (ref_Has vars b (by omega)) (Ev.const rfl))
  rw[if_neg k4];refine Ev.Zat k4 ?_;by_cases k5:kd=5
  · rw [if_pos k5]
    refine Ev.Zaj k5 (Ev.Zaj z ?_)
    have e:(sumB vars coefs && (decide (op=0) && (decide (rhs=0) && (decide (b=0) && (!(coefs.any oddU) && vars.all fun v=>truB (domAt d v))))))=(x5 && (sumB vars coefs && (!(coefs.any oddU) && vars.all fun v=>truB (domAt d v)))):=by
      rw[e5]
      cases sumB vars coefs<;>cases decide (op=0)<;>cases decide (rhs=0)<;>cases decide (b=0)<;>rfl
    rw[e]
    cases x5 with
    | false => exact Ev.Zat (by simp) (Ev.const rfl)
    |true=>
      refine Ev.Zaj rfl (Ev.bind hsum ?_)
      cases hs:sumB vars coefs with
      | false => exact Ev.Zat (by simp) (Ev.const rfl)
      |true=>
        have hlen:vars.length=coefs.length:=by
          unfold sumB at hs;simp only[Bool.and_eq_true,decide_eq_true_eq]at hs;exact hs.2.1
        exact Ev.Zaj rfl (Ev.bind (units_ev d hdl kd vars coefs op rhs rows b h1 hlen hvs) (Ev.const rfl))
  rw[if_neg k5,←e6];refine Ev.Zat k5 (Ev.Zaj z ?_)
  cases x6 with
  | false => exact Ev.Zat (by simp) (Ev.const rfl)
  |true=>
    refine Ev.Zaj rfl ?_;by_cases hz:2≤vars.length
    · rw [decide_eq_true hz]
      exact Ev.Zaj (by omega) (Ev.const rfl)
    rw[decide_eq_false hz];exact Ev.Zat (by omega) (Ev.const rfl)
theorem rright_j2 (x5 x6 x7 : Bool) (e5 : x5 = (decide (op = 0) && (decide (rhs = 0) && decide (b = 0)))) (e6 : x6 = plainB coefs op rhs b) (e7 : x7 = (decide (0 ≤ op) && decide (op < 3))) :
    Ev (fun k=>Zap.j2 k d x5 x6 x7 kd vars coefs op rhs rows b) (rightB d kd vars coefs op rhs rows b):=by
  refine Ev.step (G:=fun k=>_) (fun k=>by rw[Zap.j2]) ?_;by_cases hz:0<vars.length;rotate_left
  · exact Ev.Zat (by omega) (rright_j3 d hdl kd vars coefs op rhs rows b h1 h2 h5 hin hv hb x5 x6 x7 false e5 e6 e7 (by rw[decide_eq_false hz,Bool.false_and]))
  exact Ev.Zaj (by omega) (Ev.bind (others_ev vars (by omega)) (rright_j3 d hdl kd vars coefs op rhs rows b h1 h2 h5 hin hv hb x5 x6 x7 _ e5 e6 e7 (by rw[decide_eq_true hz,Bool.true_and])))
theorem Zho (x5:Bool) (e5:x5=(decide (op=0) && (decide (rhs=0) && decide (b=0)))):Ev (fun k=>Zap.j0 k d x5 kd vars coefs op rhs rows b) (rightB d kd vars coefs op rhs rows b):=by
  have j1:∀x6,x6=plainB coefs op rhs b→Ev (fun k=>Zap.j1 k d x5 x6 kd vars coefs op rhs rows b) (rightB d kd vars coefs op rhs rows b):=by
    intro x6 e6;refine Ev.step (G:=fun k=>_) (fun k=>by rw[Zap.j1]) ?_;by_cases hz:0≤op;rotate_left
    · exact Ev.Zat hz (rright_j2 d hdl kd vars coefs op rhs rows b h1 h2 h5 hin hv hb x5 x6 false e5 e6 (by rw[decide_eq_false hz,Bool.false_and]))
    exact Ev.Zaj hz (rright_j2 d hdl kd vars coefs op rhs rows b h1 h2 h5 hin hv hb x5 x6 _ e5 e6 (by rw[decide_eq_true hz,Bool.true_and];exact decide_eq_decide.2 (by omega)))
  refine Ev.step (G:=fun k=>_) (fun k=>by rw[Zap.j0]) ?_;have ep:plainB coefs op rhs b=(decide (coefs.length=0) && x5):=by rw[e5];rfl
  cases x5 with
  |true=>
    refine Ev.Zaj rfl (j1 _ ?_);rw[ep,Bool.and_true,Bool.eq_iff_iff]
    simp
  |false=>exact Ev.Zat (by simp) (j1 false (by rw[ep,Bool.and_false]))
theorem rright_ev:Ev (fun k=>Zap.f k d kd vars coefs op rhs rows b) (rightB d kd vars coefs op rhs rows b):=by
  unfold Zap.f;by_cases q1:op=0;rotate_left
  · exact Ev.Zat q1 (Zho d hdl kd vars coefs op rhs rows b h1 h2 h5 hin hv hb false (by rw[decide_eq_false q1];simp))
  refine Ev.Zaj q1 ?_;by_cases q2:rhs=0;rotate_left
  · exact Ev.Zat q2 (Zho d hdl kd vars coefs op rhs rows b h1 h2 h5 hin hv hb false (by rw[decide_eq_false q2];simp))
  refine Ev.Zaj q2 (Zho d hdl kd vars coefs op rhs rows b h1 h2 h5 hin hv hb _ ?_);rw[decide_eq_true q1,decide_eq_true q2,Bool.true_and,Bool.true_and,Bool.eq_iff_iff]
  simp
end
def usesL (kd:Int) (vars:List Int) (b:Int):List Int:=sd (if kd=4 then vars++ [b]else vars)
theorem usesL_length (kd:Int) (vars:List Int) (b:Int):(usesL kd vars b).length≤vars.length+1:=by
  unfold usesL;refine Nat.le_trans (Zhp _) ?_
  split
  · simp
  omega
theorem Zfb (kd:Int) (vars:List Int) (b x:Int):x ∈ usesL kd vars b↔x ∈ vars∨(kd=4∧x=b):=by
  unfold usesL;rw[mem_sd];by_cases h:kd=4
  · rw[if_pos h];simp[h]
  rw[if_neg h];simp[h]
theorem ruses_ev (kd:Int) (vars coefs:List Int) (op rhs:Int) (rows:List (List Int)) (b:Int) (h1:vars.length≤1000000):Ev (fun k=>Zdo.f k kd vars coefs op rhs rows b) (usesL kd vars b):=by
  unfold Zdo.f usesL;refine Ev.bind (a:=([]:List Int)) (Ev.const rfl) (Ev.Zaj (by simp;omega) (Ev.bind (a:=vars) (Ev.const rfl) ?_));by_cases h:kd=4;rotate_left
  · rw [if_neg h]
    exact Ev.Zat h (Ev.bind (Zgl vars (by omega)) (Ev.const rfl))
  rw[if_pos h];exact Ev.Zaj h (Ev.Zaj (by omega) (Ev.bind (Zgl (vars++ [b]) (by simp;omega)) (Ev.const rfl)))
theorem Gd.small {d:List Rg} (h:Gd 1048576 (-1048576) d):d.length≤3000000:=by
  have h1:=Zdw h;have h2:=Zdx h
  omega
theorem rcon_ev (d : List (List Rg)) (hd : ∀ x ∈ d, Gd 1048576 (-1048576) x) (hdn : d.length ≤ 1000000) (kd : Int) (vars coefs : List Int) (op rhs : Int) (rows : List (List Int)) (b : Int) (h1 : vars.length ≤ 1000000) (h2 : coefs.length ≤ 1000000) (h5 : rows.length ≤ 1000000) (hin : ∀ x ∈ rows, x.length ≤ 1000000) :
    Ev (fun k=>Zay.f k d kd vars coefs op rhs rows b) (conE d kd vars coefs op rhs rows b):=by
  have hdl:∀x ∈ d,x.length≤3000000:=fun x hx=>(hd x hx).small
  have hul:=usesL_length kd vars b
  have tail : (usesL kd vars b).any (awayV d.length) = false → ∀ m n : Nat, n + m = (usesL kd vars b).length → Ev (fun k => Zay.l0 k d (usesL kd vars b) (n : Int) kd vars coefs op rhs rows b)
      (if rightB d kd vars coefs op rhs rows b=false then 44 else if(rhs.natAbs:Int)+tot coefs≤4611686018427387904 then 0 else 45):=by
    intro hu m;have hall:∀x ∈ usesL kd vars b,awayV d.length x=false:=fun x hx=>Bool.eq_false_iff.2 (fun e=>Bool.eq_false_iff.1 hu (List.any_eq_true.2 ⟨x,hx,e⟩))
    induction m with
    |zero=>
      intro n h;refine Ev.step (fun k=>by rw[Zay.l0,if_neg (by omega)]) ?_;refine Ev.bind (rright_ev d hdl kd vars coefs op rhs rows b h1 h2 h5 hin (Bool.eq_false_iff.2 (fun e=> ?_)) (fun e=>hall b ((Zfb _ _ _ _).2 (.inr ⟨e,rfl⟩)))) ?_
      · obtain ⟨x, hx, hx2⟩ := List.any_eq_true.1 e
        exact Bool.eq_false_iff.1 (hall x ((Zfb _ _ _ _).2 (.inl hx))) hx2
      cases rightB d kd vars coefs op rhs rows b with
      | false => exact Ev.Zat (by simp) (Ev.const rfl)
      |true=>
        rw[if_neg (by simp)];refine Ev.Zaj rfl (Ev.bind (rbig_ev coefs rhs h2) ?_);by_cases q:(rhs.natAbs:Int)+tot coefs≤4611686018427387904;rotate_left
        · rw [if_neg q, decide_eq_false q]
          exact Ev.Zaj rfl (Ev.const rfl)
        rw[if_pos q,decide_eq_true q];exact Ev.Zat (by simp) (Ev.const rfl)
    |succ m ih=>
      intro n h;have hn:n<(usesL kd vars b).length:=by omega
      have ha:=hall _ (List.getElem_mem hn);unfold awayV at ha;simp only[Bool.or_eq_false_iff,decide_eq_false_iff_not]at ha;exact Ev.step (fun k=>by rw[Zay.l0,if_pos (by omega),if_pos (by omega),Zc2 _ n hn,if_neg (by omega),if_neg (by omega),w1 (by omega)]) (ih (n+1) (by omega))
  have bad:∀m n:Nat,n+m=(usesL kd vars b).length→((usesL kd vars b).drop n).any (awayV d.length)=true→Ev (fun k=>Zay.l0 k d (usesL kd vars b) (n:Int) kd vars coefs op rhs rows b) 43:=by
    intro m
    induction m with
    |zero=>
      intro n h hu;rw[List.drop_eq_nil_of_le (by omega)]at hu;exact absurd hu (by simp)
    |succ m ih=>
      intro n h hu;have hn:n<(usesL kd vars b).length:=by omega
      rw[List.drop_eq_getElem_cons hn,List.any_cons,Bool.or_eq_true]at hu;by_cases q1:(usesL kd vars b)[n]<0
      · exact Ev.step (G:=fun _=>some 43) (fun k=>by rw[Zay.l0,if_pos (by omega),if_pos (by omega),Zc2 _ n hn,if_pos q1]) (Ev.const rfl)
      by_cases q2:(usesL kd vars b)[n]≥(d.length:Int)
      · exact Ev.step (G:=fun _=>some 43) (fun k=>by rw[Zay.l0,if_pos (by omega),if_pos (by omega),Zc2 _ n hn,if_neg q1,if_pos q2]) (Ev.const rfl)
      refine Ev.step (fun k=>by rw[Zay.l0,if_pos (by omega),if_pos (by omega),Zc2 _ n hn,if_neg q1,if_neg q2,w1 (by omega)]) (ih (n+1) (by omega) ?_)
      rcases hu with hu|hu
      · unfold awayV at hu
        simp only[Bool.or_eq_true,decide_eq_true_eq]at hu
        omega
      exact hu
  have main:¬(kd<0∨7≤kd)→Ev (fun k=>Zay.l0 k d (usesL kd vars b) 0 kd vars coefs op rhs rows b) (conE d kd vars coefs op rhs rows b):=by
    intro q0;unfold conE;rw[if_neg q0];by_cases hu:(usesL kd vars b).any (awayV d.length)=true;rotate_left
    · have hu' := Bool.eq_false_iff.2 hu
      have hall:∀x ∈ usesL kd vars b,¬awayV d.length x=true:=fun x hx e=>hu (List.any_eq_true.2 ⟨x,hx,e⟩)
      rw [if_neg (fun q => by
        obtain⟨x,hx,hx2⟩:=List.any_eq_true.1 q
        exact hall x ((Zfb _ _ _ _).2 (.inl hx)) hx2), if_neg (fun q => hall b ((Zfb _ _ _ _).2 (.inr ⟨q.1, rfl⟩)) q.2)]
      exact tail hu' (usesL kd vars b).length 0 (by omega)
    have e:Ev (fun k=>Zay.l0 k d (usesL kd vars b) 0 kd vars coefs op rhs rows b) 43:=bad (usesL kd vars b).length 0 (by omega) hu;obtain⟨x,hx,hx2⟩:=List.any_eq_true.1 hu
    rcases(Zfb kd vars b x).1 hx with hx|⟨h4,rfl⟩
    · rw[if_pos (List.any_eq_true.2 ⟨x,hx,hx2⟩)];exact e
    by_cases q1:vars.any (awayV d.length)=true
    · rw[if_pos q1];exact e
    rw[if_neg q1,if_pos ⟨h4,hx2⟩];exact e
  have j44:∀x:Bool,x=true→Ev (fun k=>Zay.j0 k d x kd vars coefs op rhs rows b) 44:=fun x hx=>Ev.step (G:=fun _=>some 44) (fun k=>by rw[Zay.j0,if_pos hx]) (Ev.const rfl)
  unfold Zay.f;by_cases q1:kd<0
  · have e : conE d kd vars coefs op rhs rows b = 44 := by unfold conE; rw [if_pos (.inl q1)]
    rw[e];exact Ev.Zaj q1 (j44 true rfl)
  refine Ev.Zat q1 ?_;by_cases q2:kd>6
  · have e : conE d kd vars coefs op rhs rows b = 44 := by unfold conE; rw [if_pos (.inr (by omega))]
    rw[e];exact j44 _ (decide_eq_true q2)
  rw[decide_eq_false q2];exact Ev.step (fun k=>by rw[Zay.j0,if_neg (by simp)]) (Ev.bind (ruses_ev kd vars coefs op rhs rows b h1) (main (by omega)))
end Go.Proofs.YtdpieallpbllkaaGreat.P
namespace Go.Proofs.YtdpieallpbllkaaGreat.P
open Go.RowKit Go.Proofs.YtdpieallpbllkaaGreatW.PrintWords Go.Proofs.YtdpieallpbllkaaGreatW.PrintLast Go.Proofs.YtdpieallpbllkaaGreatW.PrintMore
attribute [local go_sem] Zcv Zcx Zdj Zdk Zcm Zcn Zcw Zcy
def Zbp.l0 : Nat → List (List (S82)) → List (List (S82)) → Int → Option ((List (List (S82))))
 | 0, _, _, _ => none
 |k+1,x0,x3,x4=>if x4<(x0.length:Int)then((some (([]:List (S82)):List (S82))).bind fun Am=>(if 0≤x4 then(if Am.length+(Zda x0 x4).length<8796093022208 then(if x3.length<5864062014805 then(Zbp.l0 k x0 (x3++ [(Am++(Zda x0 x4))]) (wrap64 (x4+1)))else(none))else(none))else(none)))else(some x3)
def Zbp.f (k:Nat) (l0:List (List (S82))):Option ((List (List (S82)))):=Zbp.l0 k l0 (([]:List (List (S82)))) 0
set_option maxRecDepth 100000 in
theorem Zbp.calls (k : Nat) (A0 : Option Addr) (c0 : Nat) (l0 : List (List (S82))) (r : List (List (S82))) (w : World) (hr0 : Kd.C (Kd.slice 82 k82) w A0 l0.length l0) (hc0 : l0.length ≤ c0) (h : Zbp.f k l0 = some r) :
  Calls Tryz.prog 57 #[.slice A0 l0.length c0] w fun e w'=>∃v0_:Value,e= .returned (v0_)∧Kd.S (Kd.slice 82 k82) 53 w' w.heap.size (fun _=>True) v0_ r∧Below w.heap.size w w':=by
 have HR0:=Za.mk hr0;have HC0:=Za.mk hc0;clear hr0 hc0;have HB:=Za.mk (Below.refl w.heap.size w);have H:(Zbp.l0 k l0 (([]:List (List (S82)))) 0)=some r:=h;clear h;obtain⟨Vk,Cn⟩:∃y_:List (List (S82)),y_=(([]:List (List (S82)))):=⟨_,rfl⟩;replace H:(Zbp.l0 k l0 Vk 0)=some r:=by first|(rw[Cn];with_reducible exact H)|(have H2_:=(Option.bind_some _ _).symm.trans H;rw[Cn];with_reducible exact H2_)|(have H2_:=(Option.bind_some _ _).symm.trans H;with_reducible exact H2_)|with_reducible exact H|(rw[Cn];exact H)|exact H
 have Qa:=Za.mk Cn;clear Cn;have H':=Za.mk H;clear H;go_enter Tryz.func57,Tryz.ntmps57
 go_wp2_with (first|((with_reducible refine Zao (N:=5) rfl ?_);refine Kd.S_lit (Kd.slice 82 k82) _ 53 ?hg (N:=5) ?hd (xs:=([]:List (List (S82)))) (inner:= []) (ok:=fun _=>True) (okp:=fun _=>True) ?hr ?hp (fun _ hk=>hk) trivial (Below.refl _ _) (Nat.le_refl _) (by simp) ?_;(case hd=>rfl);(case hg=>rfl);(case hr=>first|(go_simp;done)|(go_simp;rfl));(case hp=>exact(Reps.none _ _));intro nQa w2 ho3 hb hg_ hnew_;clear hg_ hnew_;(first|rw[←Qa.out]at ho3|(simp only[Int.reduceToNat]at ho3;rw[←Qa.out]at ho3));have VO:=Za.mk (Kd.Zg0 ho3 (Zac (bM HB.out)));replace HB:=Za.mk (bS HB.out hb);clear hb ho3))
 go_loopg [3,4] k (fun kq v3 v4 w'=>∃(af:List (List (S82))) (ai:Int),v4= .int .i64 ai∧Za (Zbp.l0 kq l0 af ai=some r)∧Za (kq≤k)∧Za (Kd.S (Kd.slice 82 k82) 53 w' w.heap.size (fun _=>True) v3 af)∧Za (Below w.heap.size w w'))
 case atStart=>exact⟨(Vk),(0),eS,H',⟨Nat.le_refl _⟩,⟨sM VO.out⟩,⟨bM HB.out⟩⟩
 case round=>
  clear H';try clear p2
  obtain⟨af,ai,rfl,HA,HK1,aU,HB⟩:=hrel
  cases gk with
  | zero => exact absurd HA.out (by simp [Zbp.l0])
  |succ k1=>
   have H:=HA.out;clear HA;simp only[Zbp.l0]at H;by_cases c4:ai<(l0.length:Int)
   case neg=>
    rw[if_neg c4]at H;have dn:decide (ai<(l0.length:Int))=false:=decide_eq_false c4;clear c4;obtain rfl:=sj H;go_wp2;go_ret;exact⟨_,eR,sM aU.out,bM HB.out⟩
   rw[if_pos c4]at H;have dn:decide (ai<(l0.length:Int))=true:=decide_eq_true c4;clear c4;obtain⟨Am,Co⟩:∃y_:List (S82),y_=(([]:List (S82))):=⟨_,rfl⟩;replace H:(if 0≤ai then(if Am.length+(Zda l0 ai).length<8796093022208 then(if af.length<5864062014805 then(Zbp.l0 k1 l0 (af++ [(Am++(Zda l0 ai))]) (wrap64 (ai+1)))else(none))else(none))else(none))=some r:=by first|(rw[Co];with_reducible exact H)|(have H2_:=(Option.bind_some _ _).symm.trans H;rw[Co];with_reducible exact H2_)|(have H2_:=(Option.bind_some _ _).symm.trans H;with_reducible exact H2_)|with_reducible exact H|(rw[Co];exact H)|exact H
   have Qb:=Za.mk Co;clear Co;obtain⟨bY,H⟩:=ifT H;obtain⟨c6,H⟩:=ifP H;have N8:=Za.mk c6;clear c6;obtain⟨Iu,Cq⟩:∃y_:List (S82),y_=(Am++(Zda l0 ai)):=⟨_,rfl⟩;replace H:(if af.length<5864062014805 then(Zbp.l0 k1 l0 (af++ [Iu]) (wrap64 (ai+1)))else(none))=some r:=by first|(rw[Cq];with_reducible exact H)|(have H2_:=(Option.bind_some _ _).symm.trans H;rw[Cq];with_reducible exact H2_)|(have H2_:=(Option.bind_some _ _).symm.trans H;with_reducible exact H2_)|with_reducible exact H|(rw[Cq];exact H)|exact H
   have WL:=Za.mk Cq;clear Cq;obtain⟨c7,H⟩:=ifP H;have Gv:=Za.mk c7;clear c7;obtain⟨Vl,Cr⟩:∃y_:List (List (S82)),y_=(af++ [Iu]):=⟨_,rfl⟩;replace H:(Zbp.l0 k1 l0 Vl (wrap64 (ai+1)))=some r:=by first|(rw[Cr];with_reducible exact H)|(have H2_:=(Option.bind_some _ _).symm.trans H;rw[Cr];with_reducible exact H2_)|(have H2_:=(Option.bind_some _ _).symm.trans H;with_reducible exact H2_)|with_reducible exact H|(rw[Cr];exact H)|exact H
   have WM:=Za.mk Cr;clear Cr;have H':=Za.mk H;clear H
   go_wp2_with (first|((with_reducible refine Zao (N:=13) rfl ?_);refine Kd.Zdf k82 _ 82 ?hg (N:=13) ?hd (xs:=([]:List (S82))) (inner:= []) (ok:=fun _=>True) (okp:=fun _=>True) ?hr ?hp (fun _ hk=>hk) trivial (Below.refl _ _) (Nat.le_refl _) (by simp) ?_;(case hd=>rfl);(case hg=>rfl);(case hr=>first|(go_simp;done)|(go_simp;rfl));(case hp=>exact(Reps.none _ _));intro c2a w8 ho9 hb hg_ hnew_;clear hg_ hnew_;(first|rw[←Qb.out]at ho9|(simp only[Int.reduceToNat]at ho9;rw[←Qb.out]at ho9));replace aU:=Za.mk (Kd.Zgu (sM aU.out) (Kd.Zct ho9) hb);have PM:=Za.mk (Kd.Zbk ho9 (Zac (bM HB.out)));replace HB:=Za.mk (bS HB.out hb);clear hb ho9;have NY:0≤(ai:Int):=odt;have Oq:ai<(l0.length:Int):=odt;obtain⟨eoa,cXa,dba,bja,Jy,Jk,Ja⟩:=Zft HR0.out ai NY Oq;cases bja;replace Jy:=hB HB.out Jy;have SH:=Za.mk Ja;have cNa:=Za.mk Jk;clear Ja Jk;replace NY:=eq_true NY;replace Oq:=eq_true Oq)|((with_reducible refine Zbl (b:= .append) (xs:=#[.tmp 13,.tmp 17]) rfl ?_);at_builtin;refine Kd.Zc9 k82 (w0:=w) w.heap.size rfl (.tmp 13) (.tmp 17) 53 82 (.agg #[(.int .i64 0),(.int .i64 0)]) 16 rfl Tryz.underlying53 Zh7 rfl (by decide) (by omega) c2a Am (Zda l0 ai) _ _ _ (fun _=>True) (fun _=>False) rfl rfl ?aO ?aR (fun _ _ h=>h) (fun _ h=>h.elim) ?aF ?aB ?aS ?aL ?_;(case aR=>repeat(first|exact(Kd.Zae SH.out HB.out)|(with_reducible refine Kd.C_alloc ?_ _)|(with_reducible refine Kd.Zb7 ?_ _)|(with_reducible refine Kd.Zci ?_)));(case aB=>exact(bM HB.out));(case aF=>exact(fun _ _=>trivial));(case aO=>exact(rM PM.out));(case aS=>exact(Zac (bM HB.out)));(case aL=>have:=N8.out;omega);intro v194 w10 ho hb hg hat;rw[←WL.out]at ho;replace aU:=Za.mk (Kd.S_after (ok:=(fun _=>True)) (sM aU.out) hg hat);replace HB:=Za.mk (hb);have Fu:=Za.mk (ho);clear PM;clear ho hb hg hat;obtain⟨ig,il,oO⟩:=Kd.Zbe Fu.out;subst oO)|((with_reducible refine Zbl (b:= .append) (xs:=#[.tmp 12,.tmp 19]) rfl ?_);at_builtin;refine Kd.S_append (Kd.slice 82 k82) (w0:=w) w.heap.size rfl (.tmp 12) (.tmp 19) 43 53 (.slice none 0 0) 24 rfl Tryz.underlying43 info53 rfl (by decide) (by omega) u3 af Iu [.slice ig Iu.length il] (fun _=>True) (fun k_=>some k_=(.slice ig Iu.length il:Value).ownBlock) rfl rfl ?aP (fun k_ hk_=>((Kd.Za5 (ok':=fun k_=>((fun _=>True)) k_∧some k_≠(u3:Value).ownBlock) (Kd.Zdc (Fu.out) (Kd.Ze aU.out) (by decide)) (fun k_ hk=>⟨trivial,hk.2⟩))).1 k_ hk_.symm) ?aF ?aO ?aB ?aS ?aL ?_;(case aP=>exact Kd.M_row (Kd.Za5 (Kd.Zgf rfl (Kd.Za5 (ok':=fun k_=>((fun _=>True)) k_∧some k_≠(u3:Value).ownBlock) (Kd.Zdc (Fu.out) (Kd.Ze aU.out) (by decide)) (fun k_ hk=>⟨trivial,hk.2⟩))) (fun _ h_=>h_)));(case aB=>exact(bM HB.out));(case aF=>exact(fun _ _=>trivial));(case aO=>exact(sM (Kd.Zd7 aU.out (fun k_ hk=>⟨trivial,fun e_=>hk.2 e_⟩))));(case aS=>exact(Zac (bM HB.out)));(case aL=>have:=Gv.out;omega);intro nRa w11 ho hb hg hat;rw[←WM.out]at ho;replace HB:=Za.mk (hb);have VP:=Za.mk (ho);clear aU Fu;clear ho hb hg hat))
   go_roundg k1
   case measure=>have:=HK1.out;omega
   case rel=>exact⟨(Vl),(wrap64 (ai+1)),eS,H',⟨by have:=HK1.out;omega⟩,⟨sM VP.out⟩,⟨bM HB.out⟩⟩
def Za9.l0 : Nat → List (List (S82)) → Int → List (S55) → List (S36) → Int → List Int → List Int → Option ((List (List (S82))))
 | 0, _, _, _, _, _, _, _ => none
 |k+1,x3,x4,x200000,Tu,Tv,Tw,Tx=>if x4<(x200000.length:Int)then(if 0≤x4 then(if x3.length<5864062014805 then(Za9.l0 k (x3++ [(Zb x200000 x4).f1]) (wrap64 (x4+1)) x200000 Tu Tv Tw Tx)else(none))else(none))else((Zbp.f k x3).bind fun O4=>(some O4))
def Za9.f (k:Nat) (ag:List (S55)) (aa:List (S36)) (ay:Int) (ak:List Int) (ah:List Int):Option ((List (List (S82)))):=Za9.l0 k (([]:List (List (S82)))) 0 ag aa ay ak ah
set_option maxRecDepth 100000 in
theorem Za9.calls (k : Nat) (P0_0_ : Nat → Prop) (dU : Option Addr) (dO : Nat) (ag : List (S55)) (aM : Option Addr) (aJ : Nat) (aa : List (S36)) (ay : Int) (bF : Option Addr) (bG : Nat) (ak : List Int) (bz : Option Addr) (bA : Nat) (ah : List Int) (r : List (List (S82))) (w : World) (hs0_0 : Kd.V k55 55 w w.heap.size (fun k_ => P0_0_ k_) (.slice dU ag.length dO) ag) (dL : Kd.C k36 w aM aa.length aa) (dK : aa.length ≤ aJ) (jK : Kd.C (Kd.int .i64) w bF ak.length ak) (jH : ak.length ≤ bG) (jL : Kd.C (Kd.int .i64) w bz ah.length ah) (jJ : ah.length ≤ bA) (h : Za9.f k ag aa ay ak ah = some r) :
  Calls Tryz.prog 22 #[.agg #[.slice dU ag.length dO,.slice aM aa.length aJ,.int .i64 ay,.slice bF ak.length bG,.slice bz ah.length bA]] w fun e w'=>∃v0_:Value,e= .returned (v0_)∧Kd.N (Kd.slice 82 k82) 53 w' w.heap.size (fun k_=>(P0_0_ k_∨w.heap.size≤k_)) v0_ r∧Below w.heap.size w w':=by
 have hu28:=Tryz.underlying28;have AU:=Za.mk (show Kd.V k55 55 w w.heap.size (fun k_=>(P0_0_ k_∨w.heap.size≤k_)) (.slice dU ag.length dO) ag from Kd.Zfa hs0_0 (fun k_ hk=> .inl hk));have dW:=Za.mk dL;have eO:=Za.mk dK;clear dL dK;have jQ:=Za.mk jK;have jO:=Za.mk jH;clear jK jH;have jR:=Za.mk jL;have jP:=Za.mk jJ;clear jL jJ;have HB:=Za.mk (Below.refl w.heap.size w);have H:(Za9.l0 k (([]:List (List (S82)))) 0 ag aa ay ak ah)=some r:=h;clear h;obtain⟨Vm,Cs⟩:∃y_:List (List (S82)),y_=(([]:List (List (S82)))):=⟨_,rfl⟩;replace H:(Za9.l0 k Vm 0 ag aa ay ak ah)=some r:=by first|(rw[Cs];with_reducible exact H)|(have H2_:=(Option.bind_some _ _).symm.trans H;rw[Cs];with_reducible exact H2_)|(have H2_:=(Option.bind_some _ _).symm.trans H;with_reducible exact H2_)|with_reducible exact H|(rw[Cs];exact H)|exact H
 have Qc:=Za.mk Cs;clear Cs;have H':=Za.mk H;clear H;go_enter Tryz.func22,Tryz.ntmps22
 go_wp2_with (first|((with_reducible refine Zao (N:=1) rfl ?_);refine bx 1 #[.slice dU ag.length dO,.slice aM aa.length aJ,.int .i64 ay,.slice bF ak.length bG,.slice bz ah.length bA] 28 ?_;intro lW hg w2 hbox hb;replace AU:=Za.mk (Kd.V_below (Kd.V_elderB (vM AU.out) lW (Nat.le_of_eq hg.symm)) hb);have lJ:=Za.mk (hbox);have dWa:=Za.mk ((gE hg HB.out:w.heap.size≤lW));replace HB:=Za.mk (bS HB.out hb);clear hb hbox hg)|((with_reducible refine Zao (N:=5) rfl ?_);refine Kd.N_lit (Kd.slice 82 k82) _ 53 ?hg (N':=5) ?hd (xs:=([]:List (List (S82)))) (inner:= []) (ok:=(fun k_=>(P0_0_ k_∨w.heap.size≤k_)∧k_≠lW)) (okp:=(fun k_=>(P0_0_ k_∨w.heap.size≤k_)∧k_≠lW)) ?hr ?hp (fun _ hk=>hk) ((show ∀k_,w2.heap.size≤k_→(fun k_=>(P0_0_ k_∨w.heap.size≤k_)∧k_≠lW) k_ from fun k_ hk=>⟨(.inr (Nat.le_trans (Zac (bM HB.out)) hk)),Kd.freshB (kM lJ.out) k_ hk⟩) _ (Nat.le_refl _)) (Below.refl _ _) (Nat.le_refl _) (by simp) ?_;(case hd=>rfl);(case hg=>rfl);(case hr=>first|(go_simp;done)|(go_simp;rfl));(case hp=>exact(Reps.none _ _));intro v201 w3 ho4 hb hg_ hnew_;clear hg_ hnew_;(first|rw[←Qc.out]at ho4|(simp only[Int.reduceToNat]at ho4;rw[←Qc.out]at ho4));replace AU:=Za.mk (Kd.V_elder' (vM AU.out) (Kd.Zew ho4) hb);have VQ:=Za.mk (Kd.Zc0 ho4 (Zac (bM HB.out)));replace lJ:=Za.mk (kB lJ.out hb);replace HB:=Za.mk (bS HB.out hb);clear hb ho4))
 go_loopg [3,4] k (fun kq v3 v4 w'=>∃(af:List (List (S82))) (ai:Int),v4= .int .i64 ai∧Za (Za9.l0 kq af ai ag aa ay ak ah=some r)∧Za (kq≤k)∧Za (Kd.N (Kd.slice 82 k82) 53 w' w.heap.size (fun k_=>(P0_0_ k_∨w.heap.size≤k_)∧k_≠lW) v3 af)∧Za (Kd.V k55 55 w' w.heap.size (fun k_=>(P0_0_ k_∨w.heap.size≤k_)∧some k_≠(v3:Value).ownBlock∧k_≠lW) (.slice dU ag.length dO) ag)∧Za (w'.heap[lW]? =some (.cells #[(.slice dU ag.length dO),(.slice aM aa.length aJ),.int .i64 ay,(.slice bF ak.length bG),(.slice bz ah.length bA)] 28 (0,0)))∧Za (Below w.heap.size w w'))
 case atStart=>exact⟨(Vm),(0),eS,H',⟨Nat.le_refl _⟩,⟨nM VQ.out⟩,⟨vM (Kd.Zfa AU.out (fun _ hk=>⟨hk.1.1,⟨hk.2,hk.1.2⟩⟩))⟩,⟨kM lJ.out⟩,⟨bM HB.out⟩⟩
 case round=>
  clear H';try clear c2
  try clear p2
  obtain⟨af,ai,rfl,HA,HK1,aU,mi,lJ,HB⟩:=hrel
  cases gk with
  | zero => exact absurd HA.out (by simp [Za9.l0])
  |succ k1=>
   have H:=HA.out;clear HA;simp only[Za9.l0]at H;by_cases c5:ai<(ag.length:Int)
   case neg=>
    rw[if_neg c5]at H;have bY:decide (ai<(ag.length:Int))=false:=decide_eq_false c5;clear c5;obtain⟨O4,A10,H⟩:=bnd H;try dsimp only at H
    obtain rfl:=sj H;obtain⟨Ee,Ef,Ga,Mt,Mw,DL,DN,FJ,LH,LJ⟩:=cz5 lJ.out;obtain⟨ig,il,oO⟩:=Kd.Zcu aU.out;subst oO
    go_wp2_with (first|((with_reducible refine Zak (f:=57) rfl ?_);refine gl 23 Tryz.func57 #[.slice ig af.length il] ?_;(with_reducible refine(Zbp.calls k1 _ _ af O4 _ (cM ((Kd.Zbm aU.out).2.2)) ((Kd.Zbm aU.out).2.1) A10.out).mono ?_);rintro e w13 ⟨v208,rfl,ho0,hb⟩;refine⟨_,rfl,?_⟩;have VS:=Za.mk (Kd.Zc0 (Kd.Zb4 (ok':=fun k_=>(P0_0_ k_∨w.heap.size≤k_)∧some k_≠(.slice ig af.length il:Value).ownBlock∧k_≠lW) (Kd.S_N (Kd.Ze6 ho0)) (fun k_ hk_=>⟨(.inr (Nat.le_trans (Zac (bM HB.out)) hk_.2.1)),(Kd.fresh' (Kd.N_lt (nM aU.out)) k_ hk_.2.1),(Kd.freshB (kM lJ.out) k_ hk_.2.1)⟩)) (Zac (bM HB.out)));replace HB:=Za.mk (bS HB.out hb);clear aU mi lJ;(try clear hb);(try clear hb2);(try clear hk);(try clear hi);(try clear ho0)))
    go_ret;exact⟨_,eR,nM (Kd.Zb4 VS.out (fun _ hk=>hk.1)),bM HB.out⟩
   rw[if_pos c5]at H;have bY:decide (ai<(ag.length:Int))=true:=decide_eq_true c5;clear c5;obtain⟨iQ,H⟩:=ifT H;obtain⟨c7,H⟩:=ifP H;have Gv:=Za.mk c7;clear c7;obtain⟨Vn,Ct⟩:∃y_:List (List (S82)),y_=(af++ [(Zb ag ai).f1]):=⟨_,rfl⟩;replace H:(Za9.l0 k1 Vn (wrap64 (ai+1)) ag aa ay ak ah)=some r:=by first|(rw[Ct];with_reducible exact H)|(have H2_:=(Option.bind_some _ _).symm.trans H;rw[Ct];with_reducible exact H2_)|(have H2_:=(Option.bind_some _ _).symm.trans H;with_reducible exact H2_)|with_reducible exact H|(rw[Ct];exact H)|exact H
   have WN:=Za.mk Ct;clear Ct;have H':=Za.mk H;clear H;obtain⟨xx,xy,xz,xA,xB,wS,wT,wU,wV,wW⟩:=cz5 lJ.out;have L8:0≤(ai:Int):=odt;have LB:ai<(ag.length:Int):=odt;obtain⟨epa,Tz,TT,rfl,cRa,SV,Jl,Jb⟩:=Zes (Kd.Zfx mi.out).2.2 ai L8 LB;obtain⟨ce203,hce203,hMe203,hcc203⟩:=Kd.V_get mi.out z55 ai L8 (by first|exact LB|exact odt|(have e_:=(Kd.Zfx mi.out).1;omega));obtain⟨ua203_1,uc203_1,rfl,ul203_1,ge203_1⟩:=k55_openF hMe203;have hv203_1:=hcc203 1 _ rfl;rw[Zeg _ _ 1 (by omega)]at hv203_1;replace hv203_1:=Option.some.inj (hv203_1.symm.trans SV)
   injection hv203_1 with hva_ hvn_ hvc_
   rw[hva_]at ge203_1;rw[hvc_]at ul203_1;have HL203_1:=Za.mk (show Kd.V k82 82 _ w.heap.size _ _ ((Zb ag ai).f1)from Kd.V_mk ul203_1 ge203_1);clear hva_ hvn_ hvc_ ge203_1 ul203_1 hcc203 hce203;have cQa:=Za.mk Jb;have cOa:=Za.mk Jl;clear Jb Jl;replace L8:=eq_true L8;replace LB:=eq_true LB
   go_wp2_with (first|((with_reducible refine Zbl (b:= .append) (xs:=#[.tmp 13,.tmp 20]) rfl ?_);at_builtin;refine Kd.N_append (Kd.slice 82 k82) (w0:=w) w.heap.size rfl (.tmp 13) (.tmp 20) 43 53 (.slice none 0 0) 24 rfl Tryz.underlying43 info53 rfl (by decide) (by omega) u3 af ((Zb ag ai).f1) [.slice Tz ((Zb ag ai).f1).length TT] (fun k_=>(P0_0_ k_∨w.heap.size≤k_)∧k_≠lW) (fun k_=>((fun k_=>(P0_0_ k_∨w.heap.size≤k_)∧k_≠lW)) k_∧some k_≠(u3:Value).ownBlock) rfl rfl ?aP (fun _ hk=>hk) ?aF ?aO ?aB ?aS ?aL ?_;(case aP=>exact(Kd.Zel (Kd.Zfx (Kd.Zfa (ok':=(fun k_=>((fun k_=>(P0_0_ k_∨w.heap.size≤k_)∧k_≠lW)) k_∧some k_≠(u3:Value).ownBlock)) (HL203_1.out) (fun k_ hk=>⟨⟨hk.1,hk.2.2⟩,hk.2.1⟩))).2.1 (Kd.V_F (Kd.Zfa (ok':=(fun k_=>((fun k_=>(P0_0_ k_∨w.heap.size≤k_)∧k_≠lW)) k_∧some k_≠(u3:Value).ownBlock)) (HL203_1.out) (fun k_ hk=>⟨⟨hk.1,hk.2.2⟩,hk.2.1⟩)))));(case aB=>exact(bM HB.out));(case aF=>exact(fun k_ hk=>⟨(.inr (Nat.le_trans (Zac (bM HB.out)) hk)),Kd.freshB (kM lJ.out) k_ hk⟩));(case aO=>exact(nM aU.out));(case aS=>exact(Zac (bM HB.out)));(case aL=>have:=Gv.out;omega);intro nSa w9 ho hb hg hat;rw[←WN.out]at ho;replace mi:=Za.mk (Kd.V_afterv (ok:=(fun k_=>(P0_0_ k_∨w.heap.size≤k_)∧k_≠lW)) (vM (Kd.Zfa mi.out (fun _ hk=>⟨⟨hk.1,hk.2.2⟩,hk.2.1⟩))) hg hat);replace lJ:=Za.mk (kG lJ.out hg (Kd.N_ne aU.out lJ.out (by decide)));replace HB:=Za.mk (hb);have VR:=Za.mk (ho);clear HL203_1 aU;clear ho hb hg hat))
   go_roundg k1
   case measure=>have:=HK1.out;omega
   case rel=>exact⟨(Vn),(wrap64 (ai+1)),eS,H',⟨by have:=HK1.out;omega⟩,⟨nM VR.out⟩,⟨vM (Kd.Zfa mi.out (fun _ hk=>⟨hk.1.1,⟨hk.2,hk.1.2⟩⟩))⟩,⟨kM lJ.out⟩,⟨bM HB.out⟩⟩
def Za4.l0 : Nat → ByteArray → Int → Option (Bool)
 | 0, _, _ => none
 |k+1,x0,x3=>if x3<(x0.size:Int)then(if 0≤x3 then(if(bt x0 x3)≥97 then(if((bt x0 x3)≤122)then(Za4.l0 k x0 (wrap64 (x3+1)))else(if x3=0 then(some false)else(if(bt x0 x3)=95 then(Za4.l0 k x0 (wrap64 (x3+1)))else(if(bt x0 x3)<48 then(some false)else(if(bt x0 x3)>57 then(some false)else(Za4.l0 k x0 (wrap64 (x3+1))))))))else(if x3=0 then(some false)else(if(bt x0 x3)=95 then(Za4.l0 k x0 (wrap64 (x3+1)))else(if(bt x0 x3)<48 then(some false)else(if(bt x0 x3)>57 then(some false)else(Za4.l0 k x0 (wrap64 (x3+1))))))))else(none))else(if x0.toList=([]:List UInt8)then(some false)else(some (decide ((x0.size:Int)≤16))))
def Za4.f (k:Nat) (a0:ByteArray):Option (Bool):=Za4.l0 k a0 0
set_option maxRecDepth 100000 in
theorem Za4.calls (k : Nat) (a0 : ByteArray) (r : Bool) (w : World) (h : Za4.f k a0 = some r) :
  Calls Tryz.prog 53 #[.string a0] w fun e w'=>e= .returned (.bool r)∧Zav w w':=by
 have H:(Za4.l0 k a0 0)=some r:=h;clear h;have H':=Za.mk H;clear H;go_enter Tryz.func53,Tryz.ntmps53;go_wp2
 go_loopg [3] k (fun kq v3 w'=>∃(af:Int),v3= .int .i64 af∧Za (Za4.l0 kq a0 af=some r)∧Za (kq≤k)∧Zav w w')
 case atStart=>exact⟨(0),eS,H',⟨Nat.le_refl _⟩,by repeat(first|exact Zav.refl _|apply Zav.step)⟩
 case round=>
  clear H';obtain⟨af,rfl,HA,HK1,⟨m1,rfl⟩⟩:=hrel
  cases gk with
  | zero => exact absurd HA.out (by simp [Za4.l0])
  |succ k1=>
   have H:=HA.out;clear HA;simp only[Za4.l0]at H;by_cases c2:af<(a0.size:Int)
   case neg=>
    rw[if_neg c2]at H;have jq:decide (af<(a0.size:Int))=false:=decide_eq_false c2;clear c2;by_cases c22:a0.toList=([]:List UInt8)
    case neg=>
     rw[if_neg c22]at H;have vS:(a0.toList==([]:List UInt8))=false:=beq_eq_false_iff_ne.mpr c22;have Lh:(a0.toList !=([]:List UInt8))=true:=bne_iff_ne.mpr c22;obtain rfl:=sj H;go_wp2;go_ret;exact⟨eS,by repeat(first|exact Zav.refl _|apply Zav.step)⟩
    rw[if_pos c22]at H;have vS:(a0.toList==([]:List UInt8))=true:=beq_iff_eq.mpr c22;have Lh:(a0.toList !=([]:List UInt8))=false:=bne_eq_false_iff_eq.mpr c22;clear c22;obtain rfl:=sj H;go_wp2;go_ret;exact⟨eS,by repeat(first|exact Zav.refl _|apply Zav.step)⟩
   rw[if_pos c2]at H;have jq:decide (af<(a0.size:Int))=true:=decide_eq_true c2;clear c2;obtain⟨eD,H⟩:=ifT H;by_cases c5:(bt a0 af)≥97
   case neg=>
    rw[if_neg c5]at H;have bY:decide (97≤(bt a0 af))=false:=decide_eq_false c5;clear c5;by_cases c15:af=0
    case pos=>
     rw[if_pos c15]at H;have jf:(af==0)=true:=beq_iff_eq.mpr c15;have vR:(af !=0)=false:=bne_eq_false_iff_eq.mpr c15;clear c15;obtain rfl:=sj H;have p4:0≤(af:Int):=odt;have q4:af<(a0.size:Int):=odt;have hx4:=Zd2 a0 af;replace p4:=eq_true p4;replace q4:=eq_true q4;go_wp2;go_ret;exact⟨eS,by repeat(first|exact Zav.refl _|apply Zav.step)⟩
    rw[if_neg c15]at H;have jf:(af==0)=false:=beq_eq_false_iff_ne.mpr c15;have vR:(af !=0)=true:=bne_iff_ne.mpr c15;by_cases c17:(bt a0 af)=95
    case pos=>
     rw[if_pos c17]at H;have yz:((bt a0 af)==95)=true:=beq_iff_eq.mpr c17;have Le:((bt a0 af) !=95)=false:=bne_eq_false_iff_eq.mpr c17;clear c17;have H':=Za.mk H;clear H;have p4:0≤(af:Int):=odt;have q4:af<(a0.size:Int):=odt;have hx4:=Zd2 a0 af;replace p4:=eq_true p4;replace q4:=eq_true q4;have p16:0≤(af:Int):=odt;have q16:af<(a0.size:Int):=odt;have hx16:=Zd2 a0 af;replace p16:=eq_true p16;replace q16:=eq_true q16;go_wp2
     go_roundg k1
     case measure=>have:=HK1.out;omega
     case rel=>exact⟨(wrap64 (af+1)),eS,H',⟨by have:=HK1.out;omega⟩,by repeat(first|exact Zav.refl _|apply Zav.step)⟩
    rw[if_neg c17]at H;have yz:((bt a0 af)==95)=false:=beq_eq_false_iff_ne.mpr c17;have Le:((bt a0 af) !=95)=true:=bne_iff_ne.mpr c17;by_cases c19:(bt a0 af)<48
    case pos=>
     rw[if_pos c19]at H;have BN:decide ((bt a0 af)<48)=true:=decide_eq_true c19;clear c19;obtain rfl:=sj H;have p4:0≤(af:Int):=odt;have q4:af<(a0.size:Int):=odt;have hx4:=Zd2 a0 af;replace p4:=eq_true p4;replace q4:=eq_true q4;have p16:0≤(af:Int):=odt;have q16:af<(a0.size:Int):=odt;have hx16:=Zd2 a0 af;replace p16:=eq_true p16;replace q16:=eq_true q16;have p18:0≤(af:Int):=odt;have q18:af<(a0.size:Int):=odt;have Ut:=Zd2 a0 af;replace p18:=eq_true p18;replace q18:=eq_true q18;go_wp2;go_ret;exact⟨eS,by repeat(first|exact Zav.refl _|apply Zav.step)⟩
    rw[if_neg c19]at H;have BN:decide ((bt a0 af)<48)=false:=decide_eq_false c19;clear c19;by_cases c21:(bt a0 af)>57
    case pos=>
     rw[if_pos c21]at H;have Lg:decide (57<(bt a0 af))=true:=decide_eq_true c21;clear c21;obtain rfl:=sj H;have p4:0≤(af:Int):=odt;have q4:af<(a0.size:Int):=odt;have hx4:=Zd2 a0 af;replace p4:=eq_true p4;replace q4:=eq_true q4;have p16:0≤(af:Int):=odt;have q16:af<(a0.size:Int):=odt;have hx16:=Zd2 a0 af;replace p16:=eq_true p16;replace q16:=eq_true q16;have p18:0≤(af:Int):=odt;have q18:af<(a0.size:Int):=odt;have Ut:=Zd2 a0 af;replace p18:=eq_true p18;replace q18:=eq_true q18;have p20:0≤(af:Int):=odt;have q20:af<(a0.size:Int):=odt;have bNa:=Zd2 a0 af;replace p20:=eq_true p20;replace q20:=eq_true q20;go_wp2;go_ret;exact⟨eS,by repeat(first|exact Zav.refl _|apply Zav.step)⟩
    rw[if_neg c21]at H;have Lg:decide (57<(bt a0 af))=false:=decide_eq_false c21;clear c21;have H':=Za.mk H;clear H;have p4:0≤(af:Int):=odt;have q4:af<(a0.size:Int):=odt;have hx4:=Zd2 a0 af;replace p4:=eq_true p4;replace q4:=eq_true q4;have p16:0≤(af:Int):=odt;have q16:af<(a0.size:Int):=odt;have hx16:=Zd2 a0 af;replace p16:=eq_true p16;replace q16:=eq_true q16;have p18:0≤(af:Int):=odt;have q18:af<(a0.size:Int):=odt;have Ut:=Zd2 a0 af;replace p18:=eq_true p18;replace q18:=eq_true q18;have p20:0≤(af:Int):=odt;have q20:af<(a0.size:Int):=odt;have bNa:=Zd2 a0 af;replace p20:=eq_true p20;replace q20:=eq_true q20;go_wp2
    go_roundg k1
    case measure=>have:=HK1.out;omega
    case rel=>exact⟨(wrap64 (af+1)),eS,H',⟨by have:=HK1.out;omega⟩,by repeat(first|exact Zav.refl _|apply Zav.step)⟩
   rw[if_pos c5]at H;have bY:decide (97≤(bt a0 af))=true:=decide_eq_true c5;clear c5;by_cases c7:((bt a0 af)≤122)
   case pos=>
    rw[if_pos c7]at H;have l9:decide ((bt a0 af)≤122)=true:=decide_eq_true c7;clear c7;have H':=Za.mk H;clear H;have p4:0≤(af:Int):=odt;have q4:af<(a0.size:Int):=odt;have hx4:=Zd2 a0 af;replace p4:=eq_true p4;replace q4:=eq_true q4;have p6:0≤(af:Int):=odt;have q6:af<(a0.size:Int):=odt;have hx6:=Zd2 a0 af;replace p6:=eq_true p6;replace q6:=eq_true q6;go_wp2
    go_roundg k1
    case measure=>have:=HK1.out;omega
    case rel=>exact⟨(wrap64 (af+1)),eS,H',⟨by have:=HK1.out;omega⟩,by repeat(first|exact Zav.refl _|apply Zav.step)⟩
   rw[if_neg c7]at H;have l9:decide ((bt a0 af)≤122)=false:=decide_eq_false c7;clear c7;by_cases c8:af=0
   case pos=>
    rw[if_pos c8]at H;have mq:(af==0)=true:=beq_iff_eq.mpr c8;have Gy:(af !=0)=false:=bne_eq_false_iff_eq.mpr c8;clear c8;obtain rfl:=sj H;have p4:0≤(af:Int):=odt;have q4:af<(a0.size:Int):=odt;have hx4:=Zd2 a0 af;replace p4:=eq_true p4;replace q4:=eq_true q4;have p6:0≤(af:Int):=odt;have q6:af<(a0.size:Int):=odt;have hx6:=Zd2 a0 af;replace p6:=eq_true p6;replace q6:=eq_true q6;go_wp2;go_ret;exact⟨eS,by repeat(first|exact Zav.refl _|apply Zav.step)⟩
   rw[if_neg c8]at H;have mq:(af==0)=false:=beq_eq_false_iff_ne.mpr c8;have Gy:(af !=0)=true:=bne_iff_ne.mpr c8;by_cases c10:(bt a0 af)=95
   case pos=>
    rw[if_pos c10]at H;have lU:((bt a0 af)==95)=true:=beq_iff_eq.mpr c10;have Lb:((bt a0 af) !=95)=false:=bne_eq_false_iff_eq.mpr c10;clear c10;have H':=Za.mk H;clear H;have p4:0≤(af:Int):=odt;have q4:af<(a0.size:Int):=odt;have hx4:=Zd2 a0 af;replace p4:=eq_true p4;replace q4:=eq_true q4;have p6:0≤(af:Int):=odt;have q6:af<(a0.size:Int):=odt;have hx6:=Zd2 a0 af;replace p6:=eq_true p6;replace q6:=eq_true q6;have p9:0≤(af:Int):=odt;have q9:af<(a0.size:Int):=odt;have hx9:=Zd2 a0 af;replace p9:=eq_true p9;replace q9:=eq_true q9;go_wp2
    go_roundg k1
    case measure=>have:=HK1.out;omega
    case rel=>exact⟨(wrap64 (af+1)),eS,H',⟨by have:=HK1.out;omega⟩,by repeat(first|exact Zav.refl _|apply Zav.step)⟩
   rw[if_neg c10]at H;have lU:((bt a0 af)==95)=false:=beq_eq_false_iff_ne.mpr c10;have Lb:((bt a0 af) !=95)=true:=bne_iff_ne.mpr c10;by_cases c12:(bt a0 af)<48
   case pos=>
    rw[if_pos c12]at H;have gL:decide ((bt a0 af)<48)=true:=decide_eq_true c12;clear c12;obtain rfl:=sj H;have p4:0≤(af:Int):=odt;have q4:af<(a0.size:Int):=odt;have hx4:=Zd2 a0 af;replace p4:=eq_true p4;replace q4:=eq_true q4;have p6:0≤(af:Int):=odt;have q6:af<(a0.size:Int):=odt;have hx6:=Zd2 a0 af;replace p6:=eq_true p6;replace q6:=eq_true q6;have p9:0≤(af:Int):=odt;have q9:af<(a0.size:Int):=odt;have hx9:=Zd2 a0 af;replace p9:=eq_true p9;replace q9:=eq_true q9;have p11:0≤(af:Int):=odt;have q11:af<(a0.size:Int):=odt;have Us:=Zd2 a0 af;replace p11:=eq_true p11;replace q11:=eq_true q11;go_wp2;go_ret;exact⟨eS,by repeat(first|exact Zav.refl _|apply Zav.step)⟩
   rw[if_neg c12]at H;have gL:decide ((bt a0 af)<48)=false:=decide_eq_false c12;clear c12;by_cases c14:(bt a0 af)>57
   case pos=>
    rw[if_pos c14]at H;have kS:decide (57<(bt a0 af))=true:=decide_eq_true c14;clear c14;obtain rfl:=sj H;have p4:0≤(af:Int):=odt;have q4:af<(a0.size:Int):=odt;have hx4:=Zd2 a0 af;replace p4:=eq_true p4;replace q4:=eq_true q4;have p6:0≤(af:Int):=odt;have q6:af<(a0.size:Int):=odt;have hx6:=Zd2 a0 af;replace p6:=eq_true p6;replace q6:=eq_true q6;have p9:0≤(af:Int):=odt;have q9:af<(a0.size:Int):=odt;have hx9:=Zd2 a0 af;replace p9:=eq_true p9;replace q9:=eq_true q9;have p11:0≤(af:Int):=odt;have q11:af<(a0.size:Int):=odt;have Us:=Zd2 a0 af;replace p11:=eq_true p11;replace q11:=eq_true q11;have p13:0≤(af:Int):=odt;have q13:af<(a0.size:Int):=odt;have L6:=Zd2 a0 af;replace p13:=eq_true p13;replace q13:=eq_true q13;go_wp2;go_ret;exact⟨eS,by repeat(first|exact Zav.refl _|apply Zav.step)⟩
   rw[if_neg c14]at H;have kS:decide (57<(bt a0 af))=false:=decide_eq_false c14;clear c14;have H':=Za.mk H;clear H;have p4:0≤(af:Int):=odt;have q4:af<(a0.size:Int):=odt;have hx4:=Zd2 a0 af;replace p4:=eq_true p4;replace q4:=eq_true q4;have p6:0≤(af:Int):=odt;have q6:af<(a0.size:Int):=odt;have hx6:=Zd2 a0 af;replace p6:=eq_true p6;replace q6:=eq_true q6;have p9:0≤(af:Int):=odt;have q9:af<(a0.size:Int):=odt;have hx9:=Zd2 a0 af;replace p9:=eq_true p9;replace q9:=eq_true q9;have p11:0≤(af:Int):=odt;have q11:af<(a0.size:Int):=odt;have Us:=Zd2 a0 af;replace p11:=eq_true p11;replace q11:=eq_true q11;have p13:0≤(af:Int):=odt;have q13:af<(a0.size:Int):=odt;have L6:=Zd2 a0 af;replace p13:=eq_true p13;replace q13:=eq_true q13;go_wp2
   go_roundg k1
   case measure=>have:=HK1.out;omega
   case rel=>exact⟨(wrap64 (af+1)),eS,H',⟨by have:=HK1.out;omega⟩,by repeat(first|exact Zav.refl _|apply Zav.step)⟩
mutual
def Zal.j0 : Nat → Bool → List (S55) → List (S36) → Int → List Int → List Int → Option (Int)
 | 0, _, _, _, _, _, _ => none
 |k+1,x17,gD,gT,kz,kC,kD=>if x17=true then(some 2)else(Zal.l0 k 0 gD gT kz kC kD)
def Zal.l0 : Nat → Int → List (S55) → List (S36) → Int → List Int → List Int → Option (Int)
 | 0, _, _, _, _, _, _ => none
 |k+1,x3,gD,gT,kz,kC,kD=>if x3<(gD.length:Int)then(if 0≤x3 then((Za4.f k ((Zb gD x3).f0)).bind fun OI=>(if OI=true then(Zal.l1 k x3 0 gD gT kz kC kD)else(some 40)))else(none))else((Za9.f k gD gT kz kC kD).bind fun mU=>(Zal.l2 k mU 0 gD gT kz kC kD))
def Zal.l1 : Nat → Int → Int → List (S55) → List (S36) → Int → List Int → List Int → Option (Int)
 | 0, _, _, _, _, _, _, _ => none
 |k+1,x3,x4,gD,gT,kz,kC,kD=>if x4<x3 then(if 0≤x4 then(if x4<(gD.length:Int)then(if 0≤x3 then(if x3<(gD.length:Int)then(if((Zb gD x4).f0).toList=((Zb gD x3).f0).toList then(some 41)else(Zal.l1 k x3 (wrap64 (x4+1)) gD gT kz kC kD))else(none))else(none))else(none))else(none))else(if 0≤x3 then(if x3<(gD.length:Int)then(if(((Zb gD x3).f1).length:Int)=0 then(some 42)else((Za7.f k ((Zb gD x3).f1)).bind fun qm=>(if qm=0 then(Zal.l0 k (wrap64 (x3+1)) gD gT kz kC kD)else(some 42))))else(none))else(none))
def Zal.l2 : Nat → List (List (S82)) → Int → List (S55) → List (S36) → Int → List Int → List Int → Option (Int)
 | 0, _, _, _, _, _, _, _ => none
 |k+1,x5,x6,gD,gT,kz,kC,kD=>if x6<(gT.length:Int)then(if 0≤x6 then((Zay.f k x5 ((Zaf gT x6).f0) ((Zaf gT x6).f1) ((Zaf gT x6).f2) ((Zaf gT x6).f3) ((Zaf gT x6).f4) ((Zaf gT x6).f5) ((Zaf gT x6).f6)).bind fun oW=>(if oW=0 then(Zal.l2 k x5 (wrap64 (x6+1)) gD gT kz kC kD)else(some oW)))else(none))else((Zbr.f k x5 kz kC kD).bind fun Hz=>(some Hz))
end
def Zal.f (k:Nat) (ag:List (S55)) (aa:List (S36)) (ay:Int) (ak:List Int) (ah:List Int):Option (Int):=if(ag.length:Int)>64 then(Zal.j0 k true ag aa ay ak ah)else(Zal.j0 k (decide ((aa.length:Int)>256)) ag aa ay ak ah)
set_option maxRecDepth 100000 in
theorem Zal.calls (k : Nat) (dU : Option Addr) (dO : Nat) (ag : List (S55)) (aM : Option Addr) (aJ : Nat) (aa : List (S36)) (ay : Int) (bF : Option Addr) (bG : Nat) (ak : List Int) (bz : Option Addr) (bA : Nat) (ah : List Int) (r : Int) (w : World) (mf : Kd.C k55 w dU ag.length ag) (lX : ag.length ≤ dO) (dL : Kd.C k36 w aM aa.length aa) (dK : aa.length ≤ aJ) (jK : Kd.C (Kd.int .i64) w bF ak.length ak) (jH : ak.length ≤ bG) (jL : Kd.C (Kd.int .i64) w bz ah.length ah) (jJ : ah.length ≤ bA) (h : Zal.f k ag aa ay ak ah = some r) :
  Calls Tryz.prog 20 #[.agg #[.slice dU ag.length dO,.slice aM aa.length aJ,.int .i64 ay,.slice bF ak.length bG,.slice bz ah.length bA]] w fun e w'=>e= .returned (.int .i64 r)∧Below w.heap.size w w':=by
 have hu28:=Tryz.underlying28;have hu36:=Tryz.underlying36;have hu26:=Tryz.underlying26;have iF:=Za.mk mf;have oI:=Za.mk lX;clear mf lX;have dW:=Za.mk dL;have eO:=Za.mk dK;clear dL dK;have jQ:=Za.mk jK;have jO:=Za.mk jH;clear jK jH;have jR:=Za.mk jL;have jP:=Za.mk jJ;clear jL jJ;have HB:=Za.mk (Below.refl w.heap.size w);have H:(if(ag.length:Int)>64 then(Zal.j0 k true ag aa ay ak ah)else(Zal.j0 k (decide ((aa.length:Int)>256)) ag aa ay ak ah))=some r:=h;clear h;have HC2:=Za.mk H;clear H;go_enter Tryz.func20,Tryz.ntmps20
 go_upto_region 1 with (first|((with_reducible refine Zao (N:=1) rfl ?_);(try(refine Zb0 (by rfl) ?_;dsimp only));refine bx 1 #[.slice dU ag.length dO,.slice aM aa.length aJ,.int .i64 ay,.slice bF ak.length bG,.slice bz ah.length bA] 28 ?_;intro jU hg w3 hbox hb;have dh:=Za.mk (hbox);have GW300:=Za.mk ((gE hg HB.out:w.heap.size≤jU));have P9:=Za.mk ((gE hg HB.out:w.heap.size≤jU));replace HB:=Za.mk (bS HB.out hb);clear hb hbox hg))
 repeat(go_quiet (first|((with_reducible refine Zao (N:=1) rfl ?_);(try(refine Zb0 (by rfl) ?_;dsimp only));refine bx 1 #[.slice dU ag.length dO,.slice aM aa.length aJ,.int .i64 ay,.slice bF ak.length bG,.slice bz ah.length bA] 28 ?_;intro jU hg w3 hbox hb;have dh:=Za.mk (hbox);have GW300:=Za.mk ((gE hg HB.out:w.heap.size≤jU));have P9:=Za.mk ((gE hg HB.out:w.heap.size≤jU));replace HB:=Za.mk (bS HB.out hb);clear hb hbox hg));go_upto_region 1 with (first|((with_reducible refine Zao (N:=1) rfl ?_);(try(refine Zb0 (by rfl) ?_;dsimp only));refine bx 1 #[.slice dU ag.length dO,.slice aM aa.length aJ,.int .i64 ay,.slice bF ak.length bG,.slice bz ah.length bA] 28 ?_;intro jU hg w3 hbox hb;have dh:=Za.mk (hbox);have GW300:=Za.mk ((gE hg HB.out:w.heap.size≤jU));have P9:=Za.mk ((gE hg HB.out:w.heap.size≤jU));replace HB:=Za.mk (bS HB.out hb);clear hb hbox hg)))
 (try simp only[Act.put,List.setIfInBounds_toArray,List.set_cons_zero,List.set_cons_succ])
 go_cut [17] (fun v17 wc=>∃(kq:Nat) (FE:Bool),v17= .bool FE∧Za (Zal.j0 kq FE ag aa ay ak ah=some r)∧Za (kq≤k)∧Za (wc.heap[jU]? =some (.cells #[(.slice dU ag.length dO),(.slice aM aa.length aJ),.int .i64 ay,(.slice bF ak.length bG),(.slice bz ah.length bA)] 28 (0,0)))∧Za (Below w.heap.size w wc))
 case first=>
  have H:=HC2.out;clear HC2;by_cases c4:(ag.length:Int)>64
  case neg=>
   rw[if_neg c4]at H;have dn:decide (64<(ag.length:Int))=false:=decide_eq_false c4;have rA:decide (64<ag.length)=false:=decide_eq_false (by omega);clear c4
   (first|rw[dn]|(simp only[Zd0,Zd8];rw[dn])|skip)
   have H':=Za.mk H;clear H;obtain⟨kJ,kK,ll,ng,ni,kF,kH,lh,mX,mY⟩:=cz5 dh.out;go_wp2
   repeat(go_quiet (fail);try go_wp2)
   go_meet
   case rel=>exact⟨_,(decide ((aa.length:Int)>256)),eS,H',⟨by first|omega|exact Nat.le_refl _⟩,⟨kM dh.out⟩,⟨bM HB.out⟩⟩
  rw[if_pos c4]at H;have dn:decide (64<(ag.length:Int))=true:=decide_eq_true c4;have rA:decide (64<ag.length)=true:=decide_eq_true (by omega);clear c4
  (first|rw[dn]|(simp only[Zd0,Zd8];rw[dn])|skip)
  have H':=Za.mk H;clear H;obtain⟨IB,IC,IE,MP,MQ,I1,I4,I5,Mr,Ms⟩:=cz5 dh.out;go_wp2
  repeat(go_quiet (fail);try go_wp2)
  go_meet
  case rel=>exact⟨_,(true),eS,H',⟨by first|omega|exact Nat.le_refl _⟩,⟨kM dh.out⟩,⟨bM HB.out⟩⟩
 case rest=>
  clear HC2;try clear c2
  try clear p2
  try clear c4
  try clear dn
  try clear rA
  try clear IB IC IE MP MQ I1 I4 I5 Mr Ms
  try clear kJ kK ll ng ni kF kH lh mX mY
  obtain⟨kq,FE,rfl,HA,HJ1,dh,HB⟩:=hcut
  cases kq with
  | zero => exact absurd HA.out (by simp [Zal.j0])
  |succ kj1=>
   have H:=HA.out;clear HA;simp only[Zal.j0]at H;by_cases c7:FE=true
   case pos=>
    subst c7;rw[if_pos rfl]at H;obtain rfl:=sj H;go_wp2
    repeat(go_quiet (fail);try go_wp2)
    go_ret;exact⟨eR,bM HB.out⟩
   replace c7:=Bool.eq_false_iff.mpr c7;subst c7;replace H:=ifF H;have H':=Za.mk H;clear H;go_wp2
   repeat(go_quiet (fail);try go_wp2)
   go_loopg [3] kj1 (fun kq v3 w'=>∃(cu:Int),v3= .int .i64 cu∧Za (Zal.l0 kq cu ag aa ay ak ah=some r)∧Za (kq≤kj1)∧Za (w'.heap[jU]? =some (.cells #[(.slice dU ag.length dO),(.slice aM aa.length aJ),.int .i64 ay,(.slice bF ak.length bG),(.slice bz ah.length bA)] 28 (0,0)))∧Za (Below w.heap.size w w'))
   case atStart=>exact⟨(0),eS,H',⟨Nat.le_refl _⟩,⟨kM dh.out⟩,⟨bM HB.out⟩⟩
   case round=>
    clear H';try clear c2
    try clear p2
    try clear c4
    try clear dn
    try clear rA
    try clear c7
    try clear IB IC IE MP MQ I1 I4 I5 Mr Ms
    try clear kJ kK ll ng ni kF kH lh mX mY
    try clear p2
    obtain⟨cu,rfl,HA,HK2,dh,HB⟩:=hrel
    cases gk with
    | zero => exact absurd HA.out (by simp [Zal.l0])
    |succ k2=>
     have H:=HA.out;clear HA;simp only[Zal.l0]at H;by_cases c8:cu<(ag.length:Int)
     case neg=>
      rw[if_neg c8]at H;have mq:decide (cu<(ag.length:Int))=false:=decide_eq_false c8;clear c8;obtain⟨mU,A32,H⟩:=bnd H;try dsimp only at H
      have H':=Za.mk H;clear H;obtain⟨Sc,Sd,asa,ata,aua,Rx,Ry,Yq,Yr,Yt⟩:=cz5 dh.out
      go_wp2_with (first|(go_at_call 22;(with_reducible refine(Za9.calls k2 (fun k_=>k_<w.heap.size) _ _ ag _ _ aa ay _ _ ak _ _ ah mU _ (Kd.V_mk oI.out (Kd.Zgd (Kd.C_F k55_heap iF.out) (bM HB.out))) (cM (Kd.Zae dW.out HB.out)) eO.out (cM (Kd.Zae jQ.out HB.out)) jO.out (cM (Kd.Zae jR.out HB.out)) jP.out A32.out).mono ?_);rintro e w34 ⟨Po,rfl,ho0,hb⟩;have Ki:=Za.mk (Kd.Zc0 (Kd.Zb4 (ok':=fun k_=>k_≠jU) ho0 (fun k_ hk_=>Or.elim hk_ (fun hs_=>fun e_=>Nat.not_le.2 hs_ (by rw[e_];exact GW300.out)) (fun hn_=>(Kd.freshB (kM dh.out) k_ hn_)))) (Zac (bM HB.out)));replace dh:=Za.mk (kB dh.out hb);replace HB:=Za.mk (bS HB.out hb);(try clear hb);(try clear hb2);(try clear hk);(try clear hi);(try clear ho0)))
      repeat(go_quiet (first|(go_at_call 22;(with_reducible refine(Za9.calls k2 (fun k_=>k_<w.heap.size) _ _ ag _ _ aa ay _ _ ak _ _ ah mU _ (Kd.V_mk oI.out (Kd.Zgd (Kd.C_F k55_heap iF.out) (bM HB.out))) (cM (Kd.Zae dW.out HB.out)) eO.out (cM (Kd.Zae jQ.out HB.out)) jO.out (cM (Kd.Zae jR.out HB.out)) jP.out A32.out).mono ?_);rintro e w34 ⟨Po,rfl,ho0,hb⟩;have Ki:=Za.mk (Kd.Zc0 (Kd.Zb4 (ok':=fun k_=>k_≠jU) ho0 (fun k_ hk_=>Or.elim hk_ (fun hs_=>fun e_=>Nat.not_le.2 hs_ (by rw[e_];exact GW300.out)) (fun hn_=>(Kd.freshB (kM dh.out) k_ hn_)))) (Zac (bM HB.out)));replace dh:=Za.mk (kB dh.out hb);replace HB:=Za.mk (bS HB.out hb);(try clear hb);(try clear hb2);(try clear hk);(try clear hi);(try clear ho0)));try go_wp2_with (first|(go_at_call 22;(with_reducible refine(Za9.calls k2 (fun k_=>k_<w.heap.size) _ _ ag _ _ aa ay _ _ ak _ _ ah mU _ (Kd.V_mk oI.out (Kd.Zgd (Kd.C_F k55_heap iF.out) (bM HB.out))) (cM (Kd.Zae dW.out HB.out)) eO.out (cM (Kd.Zae jQ.out HB.out)) jO.out (cM (Kd.Zae jR.out HB.out)) jP.out A32.out).mono ?_);rintro e w34 ⟨Po,rfl,ho0,hb⟩;have Ki:=Za.mk (Kd.Zc0 (Kd.Zb4 (ok':=fun k_=>k_≠jU) ho0 (fun k_ hk_=>Or.elim hk_ (fun hs_=>fun e_=>Nat.not_le.2 hs_ (by rw[e_];exact GW300.out)) (fun hn_=>(Kd.freshB (kM dh.out) k_ hn_)))) (Zac (bM HB.out)));replace dh:=Za.mk (kB dh.out hb);replace HB:=Za.mk (bS HB.out hb);(try clear hb);(try clear hb2);(try clear hk);(try clear hi);(try clear ho0))))
      go_loopg [6] k2 (fun kq v6 w'=>∃(dM:Int),v6= .int .i64 dM∧Za (Zal.l2 kq mU dM ag aa ay ak ah=some r)∧Za (kq≤k2)∧Za (Kd.N (Kd.slice 82 k82) 53 w' w.heap.size (fun k_=>k_≠jU) Po mU)∧Za (w'.heap[jU]? =some (.cells #[(.slice dU ag.length dO),(.slice aM aa.length aJ),.int .i64 ay,(.slice bF ak.length bG),(.slice bz ah.length bA)] 28 (0,0)))∧Za (Below w.heap.size w w'))
      case atStart=>exact⟨(0),eS,H',⟨Nat.le_refl _⟩,⟨nM Ki.out⟩,⟨kM dh.out⟩,⟨bM HB.out⟩⟩
      case round=>
       clear H';try clear c1
       try clear c2
       try clear p2
       try clear c3
       try clear p3
       try clear q3
       try clear hx3
       try clear c4
       try clear dn
       try clear rA
       try clear p6
       try clear c7
       try clear c8
       try clear mq
       try clear c9
       try clear oN
       try clear c11
       try clear c13
       try clear ny
       try clear c14
       try clear kS
       try clear c15
       try clear jf
       try clear c16
       try clear sU
       try clear c17
       try clear yz
       try clear c18
       try clear jT
       try clear qp
       try clear c20
       try clear c21
       try clear Lg
       try clear c22
       try clear vS
       try clear c23
       try clear vT
       try clear F9
       try clear QN
       try clear c26
       try clear yA
       try clear QO
       try clear c30
       try clear p30
       try clear q30
       try clear n8a
       try clear nN nO nP nQ nR nD nE nG nH nI
       try clear M6 M7 M8 M9 MB LW LX LY Ma Mc
       try clear zf zg Gf MC ME yS yT FN Md Me
       try clear xk xm xn xq xu wJ wK wM wO wP
       try clear MI MJ RN RO RP Mi Mj Rl Rm Rn
       try clear tL tN MK ML MM tF tH Mk Ml Mm
       try clear RQ RS RU RV RX Ro Rp Rq Rs Rt
       try clear Sc Sd asa ata aua Rx Ry Yq Yr Yt
       try clear IB IC IE MP MQ I1 I4 I5 Mr Ms
       try clear kJ kK ll ng ni kF kH lh mX mY
       try clear qj
       try clear ql
       try clear qN
       try clear qO
       try clear qP
       try clear qQ
       try clear mM
       try clear kr
       try clear qR
       try clear o9
       try clear p2
       try clear p3
       try clear Og
       try clear U0
       try clear U1
       try clear Oh
       try clear U2
       try clear q3
       try clear Oy
       try clear U7
       try clear U8
       try clear Oz
       try clear U9
       obtain⟨dM,rfl,HA,HK3,aW,dh,HB⟩:=hrel
       cases gk with
       | zero => exact absurd HA.out (by simp [Zal.l2])
       |succ k3=>
        have H:=HA.out;clear HA;simp only[Zal.l2]at H;by_cases c35:dM<(aa.length:Int)
        case neg=>
         rw[if_neg c35]at H;have Li:decide (dM<(aa.length:Int))=false:=decide_eq_false c35;clear c35;obtain⟨Hz,A45,H⟩:=bnd H;try dsimp only at H
         obtain rfl:=sj H;obtain⟨kha,kia,kja,kka,kla,gpa,gqa,gra,gta,gua⟩:=cz5 dh.out;obtain⟨TR,Un,NT⟩:=Kd.Zcu aW.out;subst NT
         go_wp2_with (first|(go_at_call 56;(with_reducible refine(Zbr.calls k3 _ _ mU ay _ _ ak _ _ ah Hz _ (cM ((Kd.Zbm aW.out).2.2)) ((Kd.Zbm aW.out).2.1) (cM (Kd.Zae jQ.out HB.out)) jO.out (cM (Kd.Zae jR.out HB.out)) jP.out A45.out).mono ?_);rintro e w48 ⟨rfl,hb⟩;replace aW:=Za.mk (Kd.Zcs (nM aW.out) hb);replace HB:=Za.mk (bS HB.out hb);clear dh;(try clear hb);(try clear hb2);(try clear hk);(try clear hi)))
         repeat(go_quiet (first|(go_at_call 56;(with_reducible refine(Zbr.calls k3 _ _ mU ay _ _ ak _ _ ah Hz _ (cM ((Kd.Zbm aW.out).2.2)) ((Kd.Zbm aW.out).2.1) (cM (Kd.Zae jQ.out HB.out)) jO.out (cM (Kd.Zae jR.out HB.out)) jP.out A45.out).mono ?_);rintro e w48 ⟨rfl,hb⟩;replace aW:=Za.mk (Kd.Zcs (nM aW.out) hb);replace HB:=Za.mk (bS HB.out hb);(try clear hb);(try clear hb2);(try clear hk);(try clear hi)));try go_wp2_with (first|(go_at_call 56;(with_reducible refine(Zbr.calls k3 _ _ mU ay _ _ ak _ _ ah Hz _ (cM ((Kd.Zbm aW.out).2.2)) ((Kd.Zbm aW.out).2.1) (cM (Kd.Zae jQ.out HB.out)) jO.out (cM (Kd.Zae jR.out HB.out)) jP.out A45.out).mono ?_);rintro e w48 ⟨rfl,hb⟩;replace HB:=Za.mk (bS HB.out hb);clear aW;(try clear hb);(try clear hb2);(try clear hk);(try clear hi))))
         go_ret;exact⟨eR,bM HB.out⟩
        rw[if_pos c35]at H;have Li:decide (dM<(aa.length:Int))=true:=decide_eq_true c35;clear c35;obtain⟨QP,H⟩:=ifT H;obtain⟨oW,A37,H⟩:=bnd H;try dsimp only at H
        by_cases c38:oW=0
        case neg=>
         rw[if_neg c38]at H;have Xy:(oW==0)=false:=beq_eq_false_iff_ne.mpr c38;have Xz:(oW !=0)=true:=bne_iff_ne.mpr c38;obtain rfl:=sj H;obtain⟨Gg,Gh,Gi,Gj,Gl,FO,FP,FQ,FR,FT⟩:=cz5 dh.out;have bQa:(0≤(dM:Int))=True:=teq;have caa:(dM<(aa.length:Int))=True:=teq;obtain⟨Xf,TG,Ud,TH,Ue,TI,Uf,rfl,uR,uS,uT,uU,uV,uW,uX,uD,ul,uE,um,uF,uo⟩:=at_T36 dW.out dM odt odt;replace uR:=hB HB.out uR;replace uS:=hB HB.out uS;replace uT:=hB HB.out uT;replace uU:=hB HB.out uU;replace uV:=hB HB.out uV;replace uW:=hB HB.out uW;replace uX:=hB HB.out uX;have pV:=Za.mk ul;have pJ:=Za.mk uD;clear ul uD;have pW:=Za.mk um;have pK:=Za.mk uE;clear um uE;have pX:=Za.mk uo;have pM:=Za.mk uF;clear uo uF;obtain⟨Nq,NC,NS⟩:=Kd.Zcu aW.out;subst NS
         go_wp2_with (first|(go_at_call 55;(with_reducible refine(Zay.calls k3 _ _ mU ((Zaf aa dM).f0) _ _ ((Zaf aa dM).f1) _ _ ((Zaf aa dM).f2) ((Zaf aa dM).f3) ((Zaf aa dM).f4) _ _ ((Zaf aa dM).f5) ((Zaf aa dM).f6) oW _ (cM ((Kd.Zbm aW.out).2.2)) ((Kd.Zbm aW.out).2.1) (cM (Kd.Zae pV.out HB.out)) pJ.out (cM (Kd.Zae pW.out HB.out)) pK.out (cM (Kd.Zae pX.out HB.out)) pM.out A37.out).mono ?_);rintro e w44 ⟨rfl,hb⟩;replace aW:=Za.mk (Kd.Zcs (nM aW.out) hb);replace HB:=Za.mk (bS HB.out hb);clear dh;(try clear hb);(try clear hb2);(try clear hk);(try clear hi)))
         repeat(go_quiet (first|(go_at_call 55;(with_reducible refine(Zay.calls k3 _ _ mU ((Zaf aa dM).f0) _ _ ((Zaf aa dM).f1) _ _ ((Zaf aa dM).f2) ((Zaf aa dM).f3) ((Zaf aa dM).f4) _ _ ((Zaf aa dM).f5) ((Zaf aa dM).f6) oW _ (cM ((Kd.Zbm aW.out).2.2)) ((Kd.Zbm aW.out).2.1) (cM (Kd.Zae pV.out HB.out)) pJ.out (cM (Kd.Zae pW.out HB.out)) pK.out (cM (Kd.Zae pX.out HB.out)) pM.out A37.out).mono ?_);rintro e w44 ⟨rfl,hb⟩;replace aW:=Za.mk (Kd.Zcs (nM aW.out) hb);replace HB:=Za.mk (bS HB.out hb);(try clear hb);(try clear hb2);(try clear hk);(try clear hi)));try go_wp2_with (first|(go_at_call 55;(with_reducible refine(Zay.calls k3 _ _ mU ((Zaf aa dM).f0) _ _ ((Zaf aa dM).f1) _ _ ((Zaf aa dM).f2) ((Zaf aa dM).f3) ((Zaf aa dM).f4) _ _ ((Zaf aa dM).f5) ((Zaf aa dM).f6) oW _ (cM ((Kd.Zbm aW.out).2.2)) ((Kd.Zbm aW.out).2.1) (cM (Kd.Zae pV.out HB.out)) pJ.out (cM (Kd.Zae pW.out HB.out)) pK.out (cM (Kd.Zae pX.out HB.out)) pM.out A37.out).mono ?_);rintro e w44 ⟨rfl,hb⟩;replace HB:=Za.mk (bS HB.out hb);clear aW;(try clear hb);(try clear hb2);(try clear hk);(try clear hi))))
         go_ret;exact⟨eR,bM HB.out⟩
        rw[if_pos c38]at H;have Xy:(oW==0)=true:=beq_iff_eq.mpr c38;have Xz:(oW !=0)=false:=bne_eq_false_iff_eq.mpr c38;clear c38;have H':=Za.mk H;clear H;obtain⟨aDa,aEa,aFa,aGa,aHa,YB,YC,YD,YE,YF⟩:=cz5 dh.out;have bQa:(0≤(dM:Int))=True:=teq;have caa:(dM<(aa.length:Int))=True:=teq;obtain⟨Xf,TG,Ud,TH,Ue,TI,Uf,rfl,uR,uS,uT,uU,uV,uW,uX,uD,ul,uE,um,uF,uo⟩:=at_T36 dW.out dM odt odt;replace uR:=hB HB.out uR;replace uS:=hB HB.out uS;replace uT:=hB HB.out uT;replace uU:=hB HB.out uU;replace uV:=hB HB.out uV;replace uW:=hB HB.out uW;replace uX:=hB HB.out uX;have pV:=Za.mk ul;have pJ:=Za.mk uD;clear ul uD;have pW:=Za.mk um;have pK:=Za.mk uE;clear um uE;have pX:=Za.mk uo;have pM:=Za.mk uF;clear uo uF;obtain⟨mXa,npa,bta⟩:=Kd.Zcu aW.out;subst bta
        go_wp2_with (first|(go_at_call 55;(with_reducible refine(Zay.calls k3 _ _ mU ((Zaf aa dM).f0) _ _ ((Zaf aa dM).f1) _ _ ((Zaf aa dM).f2) ((Zaf aa dM).f3) ((Zaf aa dM).f4) _ _ ((Zaf aa dM).f5) ((Zaf aa dM).f6) oW _ (cM ((Kd.Zbm aW.out).2.2)) ((Kd.Zbm aW.out).2.1) (cM (Kd.Zae pV.out HB.out)) pJ.out (cM (Kd.Zae pW.out HB.out)) pK.out (cM (Kd.Zae pX.out HB.out)) pM.out A37.out).mono ?_);rintro e w41 ⟨rfl,hb⟩;replace aW:=Za.mk (Kd.Zcs (nM aW.out) hb);replace dh:=Za.mk (kB dh.out hb);replace HB:=Za.mk (bS HB.out hb);(try clear hb);(try clear hb2);(try clear hk);(try clear hi)))
        repeat(go_quiet (first|(go_at_call 55;(with_reducible refine(Zay.calls k3 _ _ mU ((Zaf aa dM).f0) _ _ ((Zaf aa dM).f1) _ _ ((Zaf aa dM).f2) ((Zaf aa dM).f3) ((Zaf aa dM).f4) _ _ ((Zaf aa dM).f5) ((Zaf aa dM).f6) oW _ (cM ((Kd.Zbm aW.out).2.2)) ((Kd.Zbm aW.out).2.1) (cM (Kd.Zae pV.out HB.out)) pJ.out (cM (Kd.Zae pW.out HB.out)) pK.out (cM (Kd.Zae pX.out HB.out)) pM.out A37.out).mono ?_);rintro e w41 ⟨rfl,hb⟩;replace aW:=Za.mk (Kd.Zcs (nM aW.out) hb);replace dh:=Za.mk (kB dh.out hb);replace HB:=Za.mk (bS HB.out hb);(try clear hb);(try clear hb2);(try clear hk);(try clear hi)));try go_wp2_with (first|(go_at_call 55;(with_reducible refine(Zay.calls k3 _ _ mU ((Zaf aa dM).f0) _ _ ((Zaf aa dM).f1) _ _ ((Zaf aa dM).f2) ((Zaf aa dM).f3) ((Zaf aa dM).f4) _ _ ((Zaf aa dM).f5) ((Zaf aa dM).f6) oW _ (cM ((Kd.Zbm aW.out).2.2)) ((Kd.Zbm aW.out).2.1) (cM (Kd.Zae pV.out HB.out)) pJ.out (cM (Kd.Zae pW.out HB.out)) pK.out (cM (Kd.Zae pX.out HB.out)) pM.out A37.out).mono ?_);rintro e w41 ⟨rfl,hb⟩;replace aW:=Za.mk (Kd.Zcs (nM aW.out) hb);replace dh:=Za.mk (kB dh.out hb);replace HB:=Za.mk (bS HB.out hb);(try clear hb);(try clear hb2);(try clear hk);(try clear hi))))
        go_roundg k3
        case measure=>have:=HJ1.out;have:=HK2.out;have:=HK3.out;omega
        case rel=>exact⟨(wrap64 (dM+1)),eS,H',⟨by have:=HJ1.out;have:=HK2.out;have:=HK3.out;omega⟩,⟨nM aW.out⟩,⟨kM dh.out⟩,⟨bM HB.out⟩⟩
     rw[if_pos c8]at H;have mq:decide (cu<(ag.length:Int))=true:=decide_eq_true c8;clear c8;obtain⟨oN,H⟩:=ifT H;obtain⟨OI,A10,H⟩:=bnd H;try dsimp only at H
     by_cases c11:OI=true
     case neg=>
      replace c11:=Bool.eq_false_iff.mpr c11;subst c11;replace H:=ifF H;obtain rfl:=sj H;obtain⟨RQ,RS,RU,RV,RX,Ro,Rp,Rq,Rs,Rt⟩:=cz5 dh.out;have Og:(0≤(cu:Int))=True:=teq;have Oy:(cu<(ag.length:Int))=True:=teq;obtain⟨oL,TC,TY,rfl,qj,ql,u6,uh⟩:=Zes iF.out cu odt odt;replace qj:=hB HB.out qj;replace ql:=hB HB.out ql;have SK:=Za.mk uh;have Sy:=Za.mk u6;clear uh u6
      go_wp2_with (first|(go_at_call 53;(with_reducible refine(Za4.calls k2 ((Zb ag cu).f0) false _ A10.out).mono ?_);rintro e w' ⟨rfl,⟨nd,rfl⟩⟩;(try first|exact⟨rfl,_,World.drewN_drewN _ _ _⟩|exact⟨rfl,_,Eq.trans (World.drewN_drewN _ _ _) (congrArg (World.drewN _) (Nat.add_assoc _ _ _))⟩)))
      repeat(go_quiet (first|(go_at_call 53;(with_reducible refine(Za4.calls k2 ((Zb ag cu).f0) false _ A10.out).mono ?_);rintro e w' ⟨rfl,⟨nd,rfl⟩⟩;(try first|exact⟨rfl,_,World.drewN_drewN _ _ _⟩|exact⟨rfl,_,Eq.trans (World.drewN_drewN _ _ _) (congrArg (World.drewN _) (Nat.add_assoc _ _ _))⟩)));try go_wp2_with (first|(go_at_call 53;(with_reducible refine(Za4.calls k2 ((Zb ag cu).f0) false _ A10.out).mono ?_);rintro e w' ⟨rfl,⟨nd,rfl⟩⟩;(try first|exact⟨rfl,_,World.drewN_drewN _ _ _⟩|exact⟨rfl,_,Eq.trans (World.drewN_drewN _ _ _) (congrArg (World.drewN _) (Nat.add_assoc _ _ _))⟩))))
      go_ret;exact⟨eR,bM HB.out⟩
     subst c11;rw[if_pos rfl]at H;have H':=Za.mk H;clear H;obtain⟨nN,nO,nP,nQ,nR,nD,nE,nG,nH,nI⟩:=cz5 dh.out;have Og:(0≤(cu:Int))=True:=teq;have Oy:(cu<(ag.length:Int))=True:=teq;obtain⟨oL,TC,TY,rfl,qj,ql,u6,uh⟩:=Zes iF.out cu odt odt;replace qj:=hB HB.out qj;replace ql:=hB HB.out ql;have SK:=Za.mk uh;have Sy:=Za.mk u6;clear uh u6
     go_wp2_with (first|(go_at_call 53;(with_reducible refine(Za4.calls k2 ((Zb ag cu).f0) true _ A10.out).mono ?_);rintro e w' ⟨rfl,⟨nd,rfl⟩⟩;(try first|exact⟨rfl,_,World.drewN_drewN _ _ _⟩|exact⟨rfl,_,Eq.trans (World.drewN_drewN _ _ _) (congrArg (World.drewN _) (Nat.add_assoc _ _ _))⟩)))
     repeat(go_quiet (first|(go_at_call 53;(with_reducible refine(Za4.calls k2 ((Zb ag cu).f0) true _ A10.out).mono ?_);rintro e w' ⟨rfl,⟨nd,rfl⟩⟩;(try first|exact⟨rfl,_,World.drewN_drewN _ _ _⟩|exact⟨rfl,_,Eq.trans (World.drewN_drewN _ _ _) (congrArg (World.drewN _) (Nat.add_assoc _ _ _))⟩)));try go_wp2_with (first|(go_at_call 53;(with_reducible refine(Za4.calls k2 ((Zb ag cu).f0) true _ A10.out).mono ?_);rintro e w' ⟨rfl,⟨nd,rfl⟩⟩;(try first|exact⟨rfl,_,World.drewN_drewN _ _ _⟩|exact⟨rfl,_,Eq.trans (World.drewN_drewN _ _ _) (congrArg (World.drewN _) (Nat.add_assoc _ _ _))⟩))))
     go_loopg [4] k2 (fun kq v4 w'=>∃(lG:Int),v4= .int .i64 lG∧Za (Zal.l1 kq cu lG ag aa ay ak ah=some r)∧Za (kq≤k2)∧Za (w'.heap[jU]? =some (.cells #[(.slice (some oL) ag.length dO),(.slice aM aa.length aJ),.int .i64 ay,(.slice bF ak.length bG),(.slice bz ah.length bA)] 28 (0,0)))∧Za (Below w.heap.size w w'))
     case atStart=>exact⟨(0),eS,H',⟨Nat.le_refl _⟩,⟨kM dh.out⟩,⟨bM HB.out⟩⟩
     case round=>
      clear H';try clear c1
      try clear c2
      try clear p2
      try clear c3
      try clear p3
      try clear q3
      try clear hx3
      try clear c4
      try clear dn
      try clear rA
      try clear c7
      try clear c8
      try clear mq
      try clear c9
      try clear oN
      try clear c11
      try clear nN nO nP nQ nR nD nE nG nH nI
      try clear IB IC IE MP MQ I1 I4 I5 Mr Ms
      try clear kJ kK ll ng ni kF kH lh mX mY
      try clear qj
      try clear ql
      try clear p2
      try clear Og
      try clear Oy
      obtain⟨lG,rfl,HA,HK3,dh,HB⟩:=hrel
      cases gk with
      | zero => exact absurd HA.out (by simp [Zal.l1])
      |succ k3=>
       have H:=HA.out;clear HA;simp only[Zal.l1]at H;by_cases c13:lG<cu
       case pos=>
        rw[if_pos c13]at H;have ny:decide (lG<cu)=true:=decide_eq_true c13;clear c13;obtain⟨kS,H⟩:=ifT H;obtain⟨jf,H⟩:=ifT H;obtain⟨sU,H⟩:=ifT H;obtain⟨yz,H⟩:=ifT H;by_cases c18:((Zb ag lG).f0).toList=((Zb ag cu).f0).toList
        case pos=>
         rw[if_pos c18]at H;have jT:(((Zb ag lG).f0).toList==((Zb ag cu).f0).toList)=true:=beq_iff_eq.mpr c18;have qp:(((Zb ag lG).f0).toList !=((Zb ag cu).f0).toList)=false:=bne_eq_false_iff_eq.mpr c18;clear c18;obtain rfl:=sj H;obtain⟨M6,M7,M8,M9,MB,LW,LX,LY,Ma,Mc⟩:=cz5 dh.out;have U0:(0≤(lG:Int))=True:=teq;have U7:(lG<(ag.length:Int))=True:=teq;obtain⟨KU,TD,Ua,e303,qN,qO,uA,ui⟩:=Zes iF.out lG odt odt;obtain rfl:oL=KU:=(by injection e303);replace qN:=hB HB.out qN;replace qO:=hB HB.out qO;have SL:=Za.mk ui;have Sz:=Za.mk uA;clear ui uA;have U1:(0≤(cu:Int))=True:=teq;have U8:(cu<(ag.length:Int))=True:=teq;obtain⟨KV,TE,Ub,e304,qP,qQ,uB,uj⟩:=Zes iF.out cu odt odt;obtain rfl:oL=KV:=(by injection e304);replace qP:=hB HB.out qP;replace qQ:=hB HB.out qQ;have SN:=Za.mk uj;have S9:=Za.mk uB;clear uj uB;go_wp2
         repeat(go_quiet (fail);try go_wp2)
         go_ret;exact⟨eR,bM HB.out⟩
        rw[if_neg c18]at H;have jT:(((Zb ag lG).f0).toList==((Zb ag cu).f0).toList)=false:=beq_eq_false_iff_ne.mpr c18;have qp:(((Zb ag lG).f0).toList !=((Zb ag cu).f0).toList)=true:=bne_iff_ne.mpr c18;have H':=Za.mk H;clear H;obtain⟨zf,zg,Gf,MC,ME,yS,yT,FN,Md,Me⟩:=cz5 dh.out;have U0:(0≤(lG:Int))=True:=teq;have U7:(lG<(ag.length:Int))=True:=teq;obtain⟨KU,TD,Ua,e303,qN,qO,uA,ui⟩:=Zes iF.out lG odt odt;obtain rfl:oL=KU:=(by injection e303);replace qN:=hB HB.out qN;replace qO:=hB HB.out qO;have SL:=Za.mk ui;have Sz:=Za.mk uA;clear ui uA;have U1:(0≤(cu:Int))=True:=teq;have U8:(cu<(ag.length:Int))=True:=teq;obtain⟨KV,TE,Ub,e304,qP,qQ,uB,uj⟩:=Zes iF.out cu odt odt;obtain rfl:oL=KV:=(by injection e304);replace qP:=hB HB.out qP;replace qQ:=hB HB.out qQ;have SN:=Za.mk uj;have S9:=Za.mk uB;clear uj uB;go_wp2
        repeat(go_quiet (fail);try go_wp2)
        go_roundg k3
        case measure=>have:=HJ1.out;have:=HK2.out;have:=HK3.out;omega
        case rel=>exact⟨(wrap64 (lG+1)),eS,H',⟨by have:=HJ1.out;have:=HK2.out;have:=HK3.out;omega⟩,⟨kM dh.out⟩,⟨bM HB.out⟩⟩
       rw[if_neg c13]at H;have ny:decide (lG<cu)=false:=decide_eq_false c13;clear c13;obtain⟨Lg,H⟩:=ifT H;obtain⟨vS,H⟩:=ifT H;by_cases c23:(((Zb ag cu).f1).length:Int)=0
       case pos=>
        rw[if_pos c23]at H;have vT:((((Zb ag cu).f1).length:Int)==0)=true:=beq_iff_eq.mpr c23;have F9:((((Zb ag cu).f1).length:Int) !=0)=false:=bne_eq_false_iff_eq.mpr c23;clear c23;obtain rfl:=sj H;obtain⟨xk,xm,xn,xq,xu,wJ,wK,wM,wO,wP⟩:=cz5 dh.out;have Oh:(0≤(cu:Int))=True:=teq;have Oz:(cu<(ag.length:Int))=True:=teq;obtain⟨BC,MS,Ni,e305,mM,kr,o7,o5⟩:=Zes iF.out cu odt odt;obtain rfl:oL=BC:=(by injection e305);replace mM:=hB HB.out mM;replace kr:=hB HB.out kr;have IQ:=Za.mk o5;have IM:=Za.mk o7;clear o5 o7;go_wp2
        repeat(go_quiet (fail);try go_wp2)
        go_ret;exact⟨eR,bM HB.out⟩
       rw[if_neg c23]at H;have vT:((((Zb ag cu).f1).length:Int)==0)=false:=beq_eq_false_iff_ne.mpr c23;have F9:((((Zb ag cu).f1).length:Int) !=0)=true:=bne_iff_ne.mpr c23;have QN:¬(((Zb ag cu).f1)= []):=fun h_=>c23 (by rw[h_];rfl)
       obtain⟨qm,A25,H⟩:=bnd H;try dsimp only at H
       by_cases c26:qm=0
       case neg=>
        rw[if_neg c26]at H;have yA:(qm==0)=false:=beq_eq_false_iff_ne.mpr c26;have QO:(qm !=0)=true:=bne_iff_ne.mpr c26;obtain rfl:=sj H;obtain⟨tL,tN,MK,ML,MM,tF,tH,Mk,Ml,Mm⟩:=cz5 dh.out;have Oh:(0≤(cu:Int))=True:=teq;have Oz:(cu<(ag.length:Int))=True:=teq;obtain⟨BC,MS,Ni,e305,mM,kr,o7,o5⟩:=Zes iF.out cu odt odt;obtain rfl:oL=BC:=(by injection e305);replace mM:=hB HB.out mM;replace kr:=hB HB.out kr;have IQ:=Za.mk o5;have IM:=Za.mk o7;clear o5 o7;have U2:(0≤(cu:Int))=True:=teq;have U9:(cu<(ag.length:Int))=True:=teq;obtain⟨KW,TF,Uc,e306,qR,o9,uC,uk⟩:=Zes iF.out cu odt odt;obtain rfl:oL=KW:=(by injection e306);replace qR:=hB HB.out qR;replace o9:=hB HB.out o9;have pU:=Za.mk uk;have pI:=Za.mk uC;clear uk uC;have ea_:=Option.some.inj (kr.symm.trans o9)
        injection ea_ with ea_ en_ ec_
        subst ea_;subst ec_;clear en_
        go_wp2_with (first|(go_at_call 54;(with_reducible refine(Za7.calls k3 _ _ ((Zb ag cu).f1) qm _ (cM (Kd.Zae pU.out HB.out)) pI.out A25.out).mono ?_);rintro e w30 ⟨rfl,hb⟩;replace HB:=Za.mk (bS HB.out hb);clear dh;(try clear hb);(try clear hb2);(try clear hk);(try clear hi)))
        repeat(go_quiet (first|(go_at_call 54;(with_reducible refine(Za7.calls k3 _ _ ((Zb ag cu).f1) qm _ (cM (Kd.Zae pU.out HB.out)) pI.out A25.out).mono ?_);rintro e w30 ⟨rfl,hb⟩;replace HB:=Za.mk (bS HB.out hb);(try clear hb);(try clear hb2);(try clear hk);(try clear hi)));try go_wp2_with (first|(go_at_call 54;(with_reducible refine(Za7.calls k3 _ _ ((Zb ag cu).f1) qm _ (cM (Kd.Zae pU.out HB.out)) pI.out A25.out).mono ?_);rintro e w30 ⟨rfl,hb⟩;replace HB:=Za.mk (bS HB.out hb);(try clear hb);(try clear hb2);(try clear hk);(try clear hi))))
        go_ret;exact⟨eR,bM HB.out⟩
       rw[if_pos c26]at H;have yA:(qm==0)=true:=beq_iff_eq.mpr c26;have QO:(qm !=0)=false:=bne_eq_false_iff_eq.mpr c26;clear c26;have H':=Za.mk H;clear H;obtain⟨MI,MJ,RN,RO,RP,Mi,Mj,Rl,Rm,Rn⟩:=cz5 dh.out;have Oh:(0≤(cu:Int))=True:=teq;have Oz:(cu<(ag.length:Int))=True:=teq;obtain⟨BC,MS,Ni,e305,mM,kr,o7,o5⟩:=Zes iF.out cu odt odt;obtain rfl:oL=BC:=(by injection e305);replace mM:=hB HB.out mM;replace kr:=hB HB.out kr;have IQ:=Za.mk o5;have IM:=Za.mk o7;clear o5 o7;have U2:(0≤(cu:Int))=True:=teq;have U9:(cu<(ag.length:Int))=True:=teq;obtain⟨KW,TF,Uc,e306,qR,o9,uC,uk⟩:=Zes iF.out cu odt odt;obtain rfl:oL=KW:=(by injection e306);replace qR:=hB HB.out qR;replace o9:=hB HB.out o9;have pU:=Za.mk uk;have pI:=Za.mk uC;clear uk uC;have ea_:=Option.some.inj (kr.symm.trans o9)
       injection ea_ with ea_ en_ ec_
       subst ea_;subst ec_;clear en_
       go_wp2_with (first|(go_at_call 54;(with_reducible refine(Za7.calls k3 _ _ ((Zb ag cu).f1) qm _ (cM (Kd.Zae pU.out HB.out)) pI.out A25.out).mono ?_);rintro e w28 ⟨rfl,hb⟩;replace dh:=Za.mk (kB dh.out hb);replace HB:=Za.mk (bS HB.out hb);(try clear hb);(try clear hb2);(try clear hk);(try clear hi)))
       repeat(go_quiet (first|(go_at_call 54;(with_reducible refine(Za7.calls k3 _ _ ((Zb ag cu).f1) qm _ (cM (Kd.Zae pU.out HB.out)) pI.out A25.out).mono ?_);rintro e w28 ⟨rfl,hb⟩;replace dh:=Za.mk (kB dh.out hb);replace HB:=Za.mk (bS HB.out hb);(try clear hb);(try clear hb2);(try clear hk);(try clear hi)));try go_wp2_with (first|(go_at_call 54;(with_reducible refine(Za7.calls k3 _ _ ((Zb ag cu).f1) qm _ (cM (Kd.Zae pU.out HB.out)) pI.out A25.out).mono ?_);rintro e w28 ⟨rfl,hb⟩;replace dh:=Za.mk (kB dh.out hb);replace HB:=Za.mk (bS HB.out hb);(try clear hb);(try clear hb2);(try clear hk);(try clear hi))))
       go_roundg k3
       case measure=>have:=HJ1.out;have:=HK2.out;have:=HK3.out;omega
       case rel=>exact⟨(wrap64 (cu+1)),eS,H',⟨by have:=HJ1.out;have:=HK2.out;have:=HK3.out;omega⟩,⟨kM dh.out⟩,⟨bM HB.out⟩⟩
end Go.Proofs.YtdpieallpbllkaaGreat.P
/- May a model be, by the document: the same as model.Check. -/
namespace Go.Proofs.YtdpieallpbllkaaGreat.P
open Go.RowKit Go.Proofs.YtdpieallpbllkaaGreatW.PrintWords Go.Proofs.YtdpieallpbllkaaGreatW.PrintLast Go.Proofs.YtdpieallpbllkaaGreatW.PrintMore
theorem Zd2 (s:ByteArray) (i:Nat) (h:i<s.size):bt s (i:Int)=((s[i]'h).toNat:Int):=by
  unfold bt
  simp[h]
theorem okAt_iff (i c:Nat):okAt i c=true↔(97≤c∧c≤122)∨(i≠0∧(c=95∨(48≤c∧c≤57))):=by
  unfold okAt
  simp
theorem Zf5 (s : ByteArray) (hs : s.size ≤ 140737488351232) : ∀ (d i : Nat), i + d = s.size → Ev (fun k => Za4.l0 k s (i : Int)) (nameGo s d i && (!decide (s.size = 0) && decide (s.size ≤ 16)))
  |0,i,h=>by
    obtain rfl:i=s.size:=by omega
    refine Ev.step (G:=fun _=>some (nameGo s 0 s.size && (!decide (s.size=0) && decide (s.size≤16)))) (fun k=> ?_) (Ev.const rfl);rw[Za4.l0,if_neg (by omega)];by_cases h0:s.size=0
    · rw [if_pos (by
        rw[ByteArray.toList_eq]
        exact List.length_eq_zero_iff.1 (by rw [Array.length_toList]; exact h0))]
      simp[h0]
    rw [if_neg (by
      rw[ByteArray.toList_eq];intro e
      exact h0 (show s.data.size = 0 by rw [← Array.length_toList, e]; rfl))]
    have:decide ((s.size:Int)≤16)=decide (s.size≤16):=decide_eq_decide.2 (by omega);rw[this]
    simp[nameGo,h0]
  |d+1,i,h=>by
    have hi:i<s.size:=by omega
    have ih:=Zf5 s hs d (i+1) (by omega);have hb:=Zd2 s i hi;have hw:wrap64 ((i:Int)+1)=((i+1:Nat):Int):=by unfold wrap64;omega
    have hz:((i:Int)=0)=(i=0):=propext (by omega);rw[nameGo,dif_pos hi]
    generalize (s[i]'hi).toNat=c at hb ⊢
    have cont:okAt i c=true→(∀k,Za4.l0 (k+1) s (i:Int)=Za4.l0 k s ((i+1:Nat):Int))→Ev (fun k=>Za4.l0 k s (i:Int)) ((okAt i c && nameGo s d (i+1)) && (!decide (s.size=0) && decide (s.size≤16))):=fun h1 h2=>by
      rw[h1,Bool.true_and];exact Ev.step h2 ih
    have stop:okAt i c=false→(∀k,Za4.l0 (k+1) s (i:Int)=some false)→Ev (fun k=>Za4.l0 k s (i:Int)) ((okAt i c && nameGo s d (i+1)) && (!decide (s.size=0) && decide (s.size≤16))):=fun h1 h2=>by
      rw[h1,Bool.false_and,Bool.false_and];exact Ev.step (G:=fun _=>some false) h2 (Ev.const rfl)
    by_cases q1:97≤c<;>by_cases q2:c≤122<;>by_cases q3:i=0<;>by_cases q4:c=95<;>by_cases q5:c<48<;>by_cases q6:57<c
    all_goals first
      | (exfalso; omega)
      | (refine cont ((okAt_iff i c).2 (by omega)) (fun k => ?_)
         rw[Za4.l0,hb,hw]
         repeat (first | rw [if_pos (by omega)] | rw [if_neg (by omega)]))
      | (refine stop (Bool.eq_false_iff.2 (fun h_ => absurd ((okAt_iff i c).1 h_) (by omega))) (fun k => ?_)
         rw[Za4.l0,hb,hw]
         repeat (first | rw [if_pos (by omega)] | rw [if_neg (by omega)]))
theorem rname_ev (s:ByteArray) (hs:s.size≤1000000):Ev (fun k=>Za4.f k s) (nameB s):=by
  have hr:=Zf5 s (by omega) s.size 0 (by omega)
  have e:nameB s=(nameGo s s.size 0 && (!decide (s.size=0) && decide (s.size≤16))):=by
    unfold nameB
    cases nameGo s s.size 0<;>cases decide (s.size=0)<;>cases decide (s.size≤16)<;>rfl
  rw[e];exact hr
theorem Zhc (l : List (List Rg)) (hl : l.length ≤ 1000000) (hr : ∀ r ∈ l, r.length ≤ 3000000) : ∀ (d n : Nat) (acc : List (List Rg)), n + d = l.length → acc.length ≤ n → Ev (fun k => Zbp.l0 k l acc (n : Int)) (acc ++ l.drop n)
  |0,n,acc,h,ha=>by
    obtain rfl:n=l.length:=by omega
    rw[List.drop_length,List.append_nil];exact Ev.step (G:=fun _=>some acc) (fun k=>by rw[Zbp.l0,if_neg (by omega)]) (Ev.const rfl)
  |d+1,n,acc,h,ha=>by
    have hn:n<l.length:=by omega
    have hrd:Zda l (n:Int)=l[n]:=by simp[Zda,List.getD_eq_getElem?_getD,List.getElem?_eq_getElem hn]
    have hq:=hr _ (List.getElem_mem hn);have ih:=Zhc l hl hr d (n+1) (acc++ [l[n]]) (by omega) (by simp;omega);rw[List.append_assoc,List.singleton_append,←List.drop_eq_getElem_cons hn]at ih;refine Ev.step (fun k=>by rw[Zbp.l0,if_pos (by omega),hrd]) (Ev.bind (a:=([]:List Rg)) (Ev.const rfl) ?_);rw[w1 (by omega),List.nil_append];refine Ev.Zaj (Int.natCast_nonneg n) ?_;refine Ev.Zaj ?_ ?_
    · show 0 + l[n].length < _
      omega
    exact Ev.Zaj (by omega) ih
theorem lists3_ev (l:List (List Rg)) (hl:l.length≤1000000) (hr:∀r ∈ l,r.length≤3000000):Ev (fun k=>Zbp.f k l) l:=Zhc l hl hr l.length 0 [] (by omega) (by simp)
theorem Zia (vars : List S55) (cons : List S36) (gk : Int) (gv gc : List Int) (hl : vars.length ≤ 1000000) (hr : ∀ v ∈ vars, v.f1.length ≤ 3000000) : ∀ (d n : Nat) (acc : List (List Rg)), n + d = vars.length → acc = (vars.take n).map (fun v => v.f1) → Ev (fun k => Za9.l0 k acc (n : Int) vars cons gk gv gc) (domsOf vars)
  |0,n,acc,h,ha=>by
    rw[List.take_of_length_le (by omega)]at ha;have:acc=domsOf vars:=ha;subst this;exact Ev.step (fun k=>by rw[Za9.l0,if_neg (by omega)]) (Ev.bind (lists3_ev (domsOf vars) (by unfold domsOf;rw[List.length_map];exact hl) (fun r hr'=>by obtain⟨v,hv,rfl⟩:=List.mem_map.1 hr';exact hr v hv)) (Ev.const rfl))
  |d+1,n,acc,h,ha=>by
    have hn:n<vars.length:=by omega
    have hrd:Zb vars (n:Int)=vars[n]:=by simp[Zb,List.getD_eq_getElem?_getD,List.getElem?_eq_getElem hn]
    have hal:acc.length<5864062014805:=by rw[ha,List.length_map,List.length_take];omega
    have ih:=Zia vars cons gk gv gc hl hr d (n+1) (acc++ [vars[n].f1]) (by omega) (by rw[List.take_succ_eq_append_getElem hn,List.map_append,ha];rfl);exact Ev.step (fun k=>by rw[Za9.l0,if_pos (by omega),if_pos (by omega),if_pos hal,hrd,w1 (by omega)]) ih
theorem rdoms_ev (vars:List S55) (cons:List S36) (gk:Int) (gv gc:List Int) (hl:vars.length≤1000000) (hr:∀v ∈ vars,v.f1.length≤3000000):Ev (fun k=>Za9.f k vars cons gk gv gc) (domsOf vars):=Zia vars cons gk gv gc hl hr vars.length 0 [] (by omega) (by simp)
theorem rgoal_ev (d:List (List Rg)) (hd:∀x ∈ d,Gd 1048576 (-1048576) x) (hdn:d.length≤1000000) (gk:Int) (gv gc:List Int) (h1:gv.length≤1000000) (h2:gc.length≤1000000):Ev (fun k=>Zbr.f k d gk gv gc) (goalE d gk gv gc):=by
  have hc:=rcon_ev d hd hdn 0 gv gc 0 0 [] 0 h1 h2 (by simp) (by simp);have j1:∀x:Bool,x=true→Ev (fun k=>Zbr.j0 k d x gk gv gc) (conE d 0 gv gc 0 0 [] 0):=fun x hx=>Ev.step (fun k=>by rw[Zbr.j0,if_pos hx]) (Ev.bind hc (Ev.const rfl))
  unfold Zbr.f goalE;by_cases q1:gk=1
  · rw [if_neg (by omega), if_pos (.inl q1)]
    exact Ev.Zaj q1 (j1 true rfl)
  refine Ev.Zat q1 ?_;by_cases q2:gk=2
  · rw [if_neg (show ¬ gk = 0 by omega), if_pos (.inr q2)]
    exact j1 _ (by rw[q2];rfl)
  have e:(gk==2)=false:=beq_eq_false_iff_ne.2 q2;rw[e];by_cases q0:gk=0;rotate_left
  · rw [if_neg q0, if_neg (by omega)]
    exact Ev.step (G:=fun _=>some 44) (fun k=>by rw[Zbr.j0,if_neg (by simp),if_neg q0]) (Ev.const rfl)
  rw[if_pos q0];refine Ev.step (fun k=>by rw[Zbr.j0,if_neg (by simp),if_pos q0]) ?_;by_cases q3:0<gv.length
  · rw[if_pos q3];exact Ev.Zaj (by omega) (Ev.const rfl)
  rw[if_neg q3];refine Ev.Zat (by omega) ?_;by_cases q4:0<gc.length
  · rw[if_pos q4];exact Ev.Zaj (by omega) (Ev.const rfl)
  rw[if_neg q4];exact Ev.Zat (by omega) (Ev.const rfl)
section
variable (vars:List S55) (cons:List S36) (gk:Int) (gv gc:List Int)
structure SmallM : Prop where
  vs:vars.length≤1000000
  nm:∀v ∈ vars,v.f0.size≤1000000
  dm:∀v ∈ vars,v.f1.length≤1000000
  cl:cons.length≤1000000
  cs:∀c ∈ cons,c.f1.length≤1000000∧c.f2.length≤1000000∧c.f5.length≤1000000∧∀r ∈ c.f5,r.length≤1000000
  gv:gv.length≤1000000
  gc:gc.length≤1000000
theorem rcheck_l2 (hs : SmallM vars cons gv gc) (D : List (List Rg)) (hd : ∀ x ∈ D, Gd 1048576 (-1048576) x) (hdn : D.length ≤ 1000000) : ∀ d n : Nat, n + d = cons.length →
    Ev (fun k=>Zal.l2 k D (n:Int) vars cons gk gv gc) (if chkC D (cons.drop n)=0 then goalE D gk gv gc else chkC D (cons.drop n))
  |0,n,h=>by
    rw[List.drop_eq_nil_of_le (by omega)];exact Ev.step (fun k=>by rw[Zal.l2,if_neg (by omega)]) (Ev.bind (rgoal_ev D hd hdn gk gv gc hs.gv hs.gc) (Ev.const rfl))
  |d+1,n,h=>by
    have hcl:=hs.cl;have hn:n<cons.length:=by omega
    have hrd:Zaf cons (n:Int)=cons[n]:=by simp[Zaf,List.getD_eq_getElem?_getD,List.getElem?_eq_getElem hn]
    obtain⟨c1,c2,c5,c6⟩:=hs.cs _ (List.getElem_mem hn);have ih:=rcheck_l2 hs D hd hdn d (n+1) (by omega);rw[List.drop_eq_getElem_cons hn,chkC];refine Ev.step (fun k=>by rw[Zal.l2,if_pos (by omega),if_pos (by omega),hrd]) (Ev.bind (rcon_ev D hd hdn cons[n].f0 cons[n].f1 cons[n].f2 cons[n].f3 cons[n].f4 cons[n].f5 cons[n].f6 c1 c2 c5 c6) ?_);rw[w1 (by omega)];by_cases q:conC D cons[n]=0
    · rw [if_pos q]
      exact Ev.Zaj q ih
    rw[if_neg q,if_neg q];exact Ev.Zat q (Ev.const rfl)
theorem hasN_cons (y:ByteArray) (l:List ByteArray) (x:ByteArray):hasN (y::l) x=(y.toList==x.toList||hasN l x):=rfl
theorem rcheck_l1 (hs : SmallM vars cons gv gc) (n : Nat) (hn : n < vars.length) (X : Int) (next : vars[n].f1.length ≠ 0 → checkSpec vars[n].f1 = 0 → Ev (fun k => Zal.l0 k ((n + 1 : Nat) : Int) vars cons gk gv gc) X) : ∀ d m : Nat, m + d = n →
    Ev (fun k=>Zal.l1 k (n:Int) (m:Int) vars cons gk gv gc) (if hasN (((vars.take n).drop m).map (·.f0)) vars[n].f0=true then 41 else if vars[n].f1.length=0 then 42 else if checkSpec vars[n].f1=0 then X else 42)
  |0,m,h=>by
    have hvs:=hs.vs;have hdm:=hs.dm _ (List.getElem_mem hn);have hrd:Zb vars (n:Int)=vars[n]:=by simp[Zb,List.getD_eq_getElem?_getD,List.getElem?_eq_getElem hn]
    rw[List.drop_eq_nil_of_le (by rw[List.length_take];omega),List.map_nil,if_neg (show ¬hasN [] vars[n].f0=true from Bool.false_ne_true)];refine Ev.step (fun k=>by rw[Zal.l1,if_neg (by omega),if_pos (by omega),if_pos (by omega),hrd,w1 (by omega)]) ?_;by_cases q1:vars[n].f1.length=0
    · rw[if_pos q1];exact Ev.Zaj (by omega) (Ev.const rfl)
    rw[if_neg q1];refine Ev.Zat (by omega) (Ev.bind (ref_Check_ev vars[n].f1 (by omega)) ?_);by_cases q2:checkSpec vars[n].f1=0
    · rw[if_pos q2];exact Ev.Zaj q2 (next q1 q2)
    rw[if_neg q2];exact Ev.Zat q2 (Ev.const rfl)
  |d+1,m,h=>by
    have hvs:=hs.vs;have hm:m<vars.length:=by omega
    have ih:=rcheck_l1 hs n hn X next d (m+1) (by omega);have hrd:Zb vars (n:Int)=vars[n]:=by simp[Zb,List.getD_eq_getElem?_getD,List.getElem?_eq_getElem hn]
    have hrm:Zb vars (m:Int)=vars[m]:=by simp[Zb,List.getD_eq_getElem?_getD,List.getElem?_eq_getElem hm]
    rw[List.drop_eq_getElem_cons (by rw[List.length_take];omega),List.getElem_take,List.map_cons,hasN_cons];refine Ev.step (fun k=>by rw[Zal.l1,if_pos (by omega),if_pos (by omega),if_pos (by omega),if_pos (by omega),if_pos (by omega),hrd,hrm,w1 (by omega)]) ?_;by_cases q:vars[m].f0.toList=vars[n].f0.toList;rotate_left
    · rw [beq_eq_false_iff_ne.2 q, Bool.false_or]
      exact Ev.Zat q ih
    rw[beq_iff_eq.2 q,Bool.true_or,if_pos rfl];exact Ev.Zaj q (Ev.const rfl)
theorem rcheck_l0 (hs : SmallM vars cons gv gc) : ∀ d n : Nat, n + d = vars.length → (∀ v ∈ vars.take n, Gd 1048576 (-1048576) v.f1) →
    Ev (fun k=>Zal.l0 k (n:Int) vars cons gk gv gc) (if chkV (vars.drop n) ((vars.take n).map (·.f0))=0 then(if chkC (domsOf vars) cons=0 then goalE (domsOf vars) gk gv gc else chkC (domsOf vars) cons)else chkV (vars.drop n) ((vars.take n).map (·.f0)))
  |0,n,h,hg=>by
    have hvs:=hs.vs;rw[List.take_of_length_le (by omega)]at hg
    have hd:∀x ∈ domsOf vars,Gd 1048576 (-1048576) x:=fun x hx=>by
      obtain⟨v,hv,rfl⟩:=List.mem_map.1 hx;exact hg v hv
    rw[List.drop_eq_nil_of_le (by omega),chkV,if_pos rfl];refine Ev.step (fun k=>by rw[Zal.l0,if_neg (by omega)]) (Ev.bind (rdoms_ev vars cons gk gv gc hvs (fun v hv=>by have:=hs.dm v hv;omega)) ?_);have:=rcheck_l2 vars cons gk gv gc hs (domsOf vars) hd (by unfold domsOf;rw[List.length_map];exact hvs) cons.length 0 (by omega);rw[List.drop_zero]at this;exact this
  |d+1,n,h,hg=>by
    have hvs:=hs.vs;have hn:n<vars.length:=by omega
    have hrd:Zb vars (n:Int)=vars[n]:=by simp[Zb,List.getD_eq_getElem?_getD,List.getElem?_eq_getElem hn]
    rw[List.drop_eq_getElem_cons hn,chkV];refine Ev.step (fun k=>by rw[Zal.l0,if_pos (by omega),if_pos (by omega),hrd]) (Ev.bind (rname_ev vars[n].f0 (hs.nm _ (List.getElem_mem hn))) ?_)
    cases hnm:nameB vars[n].f0 with
    |false=>
      rw[if_pos rfl,if_neg (show ¬(40:Int)=0 by decide)];exact Ev.Zat (by simp) (Ev.const rfl)
    |true=>
      rw[if_neg (show ¬(true=false) by decide)];refine Ev.Zaj rfl ?_
      have h1 := rcheck_l1 vars cons gk gv gc hs n hn _ (fun a1 a2 => rcheck_l0 hs d (n + 1) (by omega) (fun v hv => by
        rw[List.take_succ_eq_append_getElem hn,List.mem_append,List.mem_singleton]at hv
        rcases hv with hv|rfl
        · exact hg v hv
        exact Zgq a2)) n 0 (by omega)
      rw[List.drop_zero]at h1;have et:(vars.take (n+1)).map (·.f0)=(vars.take n).map (·.f0)++ [vars[n].f0]:=by rw[List.take_succ_eq_append_getElem hn,List.map_append];rfl
      rw[et]at h1;by_cases q2:hasN ((vars.take n).map (·.f0)) vars[n].f0=true
      · rw [if_pos q2] at h1 ⊢
        rw[if_neg (show ¬(41:Int)=0 by decide)];exact h1
      rw[if_neg q2]at h1 ⊢;by_cases q3:vars[n].f1.length=0
      · rw [if_pos q3] at h1 ⊢
        rw[if_neg (show ¬(42:Int)=0 by decide)];exact h1
      rw[if_neg q3]at h1 ⊢;by_cases q4:checkSpec vars[n].f1=0
      · rw [if_pos q4] at h1 ⊢
        exact h1
      rw[if_neg q4]at h1 ⊢;rw[if_neg (show ¬(42:Int)=0 by decide)];exact h1
theorem rcheck_ev (hs:SmallM vars cons gv gc):Ev (fun k=>Zal.f k vars cons gk gv gc) (chkE vars cons gk gv gc):=by
  have j2:∀x:Bool,x=true→Ev (fun k=>Zal.j0 k x vars cons gk gv gc) 2:=fun x hx=>Ev.step (G:=fun _=>some 2) (fun k=>by rw[Zal.j0,if_pos hx]) (Ev.const rfl)
  unfold Zal.f chkE;by_cases q1:64<vars.length
  · rw [if_pos (.inl q1)]
    exact Ev.Zaj (by omega) (j2 true rfl)
  refine Ev.Zat (by omega) ?_;by_cases q2:256<cons.length
  · rw [if_pos (.inr q2)]
    exact j2 _ (decide_eq_true (by omega))
  rw[if_neg (fun h=>h.elim q1 q2),decide_eq_false (show ¬(cons.length:Int)>256 by omega)];have:=rcheck_l0 vars cons gk gv gc hs vars.length 0 (by omega) (fun v hv=>by simp at hv);rw[List.drop_zero,List.take_zero,List.map_nil]at this;exact Ev.step (fun k=>by rw[Zal.j0,if_neg (by simp)];rfl) this
end
end Go.Proofs.YtdpieallpbllkaaGreat.P
namespace Go.Proofs.YtdpieallpbllkaaGreat.P
open Go.RowKit Go.Proofs.YtdpieallpbllkaaGreatW.PrintWords Go.Proofs.YtdpieallpbllkaaGreatW.PrintLast Go.Proofs.YtdpieallpbllkaaGreatW.PrintMore
attribute [local go_sem] Zcv Zcx Zdj Zdk Zcm Zcn Zcw Zcy
mutual
def Zax.l0 : Nat → List (S82) → List Int → Int → Option (List Int)
 | 0, _, _, _ => none
 |k+1,x0,x3,x4=>if x4<(x0.length:Int)then(if 0≤x4 then(Zax.l1 k x0 x3 x4 ((Zbi x0 x4).f0))else(none))else(some x3)
def Zax.l1 : Nat → List (S82) → List Int → Int → Int → Option (List Int)
 | 0, _, _, _, _ => none
 |k+1,x0,x3,x4,x5=>if 0≤x4 then(if x4<(x0.length:Int)then(if x5≤((Zbi x0 x4).f1)then(if x3.length<17592186044416 then(Zax.l1 k x0 (x3++ [x5]) x4 (wrap64 (x5+1)))else(none))else(Zax.l0 k x0 x3 (wrap64 (x4+1))))else(none))else(none)
end
def Zax.f (k:Nat) (l0:List (S82)):Option (List Int):=Zax.l0 k l0 (([]:List Int)) 0
set_option maxRecDepth 100000 in
theorem Zax.calls (k : Nat) (A0 : Option Addr) (c0 : Nat) (l0 : List (S82)) (r : List Int) (w : World) (hr0 : Kd.C k82 w A0 l0.length l0) (hc0 : l0.length ≤ c0) (h : Zax.f k l0 = some r) :
  Calls Tryz.prog 50 #[.slice A0 l0.length c0] w fun e w'=>∃v0_:Value,e= .returned (v0_)∧Kd.R (Kd.int .i64) 3 w' w.heap.size (fun _=>True) v0_ r∧Below w.heap.size w w':=by
 have HR0:=Za.mk hr0;have HC0:=Za.mk hc0;clear hr0 hc0;have HB:=Za.mk (Below.refl w.heap.size w);have H:(Zax.l0 k l0 (([]:List Int)) 0)=some r:=h;clear h;obtain⟨Vu,CJ⟩:∃y_:List Int,y_=(([]:List Int)):=⟨_,rfl⟩;replace H:(Zax.l0 k l0 Vu 0)=some r:=by first|(rw[CJ];with_reducible exact H)|(have H2_:=(Option.bind_some _ _).symm.trans H;rw[CJ];with_reducible exact H2_)|(have H2_:=(Option.bind_some _ _).symm.trans H;with_reducible exact H2_)|with_reducible exact H|(rw[CJ];exact H)|exact H
 have Qe:=Za.mk CJ;clear CJ;have H':=Za.mk H;clear H;go_enter Tryz.func50,Tryz.ntmps50
 go_wp2_with (first|((with_reducible refine Zao (N:=6) rfl ?_);refine Kd.Zdf (Kd.int .i64) _ 3 ?hg (N:=6) ?hd (xs:=([]:List Int)) (inner:= []) (ok:=fun _=>True) (okp:=fun _=>True) ?hr ?hp (fun _ hk=>hk) trivial (Below.refl _ _) (Nat.le_refl _) (by simp) ?_;(case hd=>rfl);(case hg=>rfl);(case hr=>first|(go_simp;done)|(go_simp;rfl));(case hp=>exact(Reps.none _ _));intro nWa w2 ho3 hb hg_ hnew_;clear hg_ hnew_;(first|rw[←Qe.out]at ho3|(simp only[Int.reduceToNat]at ho3;rw[←Qe.out]at ho3));have VW:=Za.mk (Kd.Zbk ho3 (Zac (bM HB.out)));replace HB:=Za.mk (bS HB.out hb);clear hb ho3))
 go_loopg [3,4] k (fun kq v3 v4 w'=>∃(af:List Int) (ai:Int),v4= .int .i64 ai∧Za (Zax.l0 kq l0 af ai=some r)∧Za (kq≤k)∧Za (Kd.R (Kd.int .i64) 3 w' w.heap.size (fun _=>True) v3 af)∧Za (Below w.heap.size w w'))
 case atStart=>exact⟨(Vu),(0),eS,H',⟨Nat.le_refl _⟩,⟨rM VW.out⟩,⟨bM HB.out⟩⟩
 case round=>
  clear H';try clear p2
  obtain⟨af,ai,rfl,HA,HK1,aU,HB⟩:=hrel
  cases gk with
  | zero => exact absurd HA.out (by simp [Zax.l0])
  |succ k1=>
   have H:=HA.out;clear HA;simp only[Zax.l0]at H;by_cases c4:ai<(l0.length:Int)
   case neg=>
    rw[if_neg c4]at H;have dn:decide (ai<(l0.length:Int))=false:=decide_eq_false c4;clear c4;obtain rfl:=sj H;go_wp2;go_ret;exact⟨_,eR,rM aU.out,bM HB.out⟩
   rw[if_pos c4]at H;have dn:decide (ai<(l0.length:Int))=true:=decide_eq_true c4;clear c4;obtain⟨bY,H⟩:=ifT H;have H':=Za.mk H;clear H;have bRa:(0≤(ai:Int))=True:=teq;have cba:(ai<(l0.length:Int))=True:=teq;obtain⟨QC,rfl,EG,EH⟩:=Zek HR0.out ai odt odt;replace EG:=hB HB.out EG;replace EH:=hB HB.out EH;go_wp2
   go_loopg [3,5] k1 (fun kq v3 v5 w'=>∃(cu:List Int) (cO:Int),v5= .int .i64 cO∧Za (Zax.l1 kq l0 cu ai cO=some r)∧Za (kq≤k1)∧Za (Kd.R (Kd.int .i64) 3 w' w.heap.size (fun _=>True) v3 cu)∧Za (Below w.heap.size w w'))
   case atStart=>exact⟨(af),((Zbi l0 ai).f0),eS,H',⟨Nat.le_refl _⟩,⟨rM aU.out⟩,⟨bM HB.out⟩⟩
   case round=>
    clear H';try clear p2
    try clear p3
    try clear q3
    try clear hx3
    try clear c4
    try clear dn
    try clear c5
    try clear bY
    try clear EG
    try clear EH
    try clear p2
    try clear bRa
    try clear cba
    obtain⟨cu,cO,rfl,HA,HK2,aU,HB⟩:=hrel
    cases gk with
    | zero => exact absurd HA.out (by simp [Zax.l1])
    |succ k2=>
     have H:=HA.out;clear HA;simp only[Zax.l1]at H;obtain⟨iQ,H⟩:=ifT H;obtain⟨l9,H⟩:=ifT H;by_cases c8:cO≤((Zbi l0 ai).f1)
     case neg=>
      rw[if_neg c8]at H;have mq:decide (cO≤((Zbi l0 ai).f1))=false:=decide_eq_false c8;clear c8;have H':=Za.mk H;clear H;have bSa:(0≤(ai:Int))=True:=teq;have cca:(ai<(l0.length:Int))=True:=teq;obtain⟨KX,e318,uY,vk⟩:=Zek HR0.out ai odt odt;obtain rfl:QC=KX:=(by injection e318);replace uY:=hB HB.out uY;replace vk:=hB HB.out vk;go_wp2
      go_roundg k2
      case measure=>have:=HK1.out;have:=HK2.out;omega
      case rel=>exact⟨(cu),(wrap64 (ai+1)),eS,H',⟨by have:=HK1.out;have:=HK2.out;omega⟩,⟨rM aU.out⟩,⟨bM HB.out⟩⟩
     rw[if_pos c8]at H;have mq:decide (cO≤((Zbi l0 ai).f1))=true:=decide_eq_true c8;clear c8;obtain⟨c9,H⟩:=ifP H;have bca:=Za.mk c9;clear c9;obtain⟨Vv,CK⟩:∃y_:List Int,y_=(cu++ [cO]):=⟨_,rfl⟩;replace H:(Zax.l1 k2 l0 Vv ai (wrap64 (cO+1)))=some r:=by first|(rw[CK];with_reducible exact H)|(have H2_:=(Option.bind_some _ _).symm.trans H;rw[CK];with_reducible exact H2_)|(have H2_:=(Option.bind_some _ _).symm.trans H;with_reducible exact H2_)|with_reducible exact H|(rw[CK];exact H)|exact H
     have WP:=Za.mk CK;clear CK;have H':=Za.mk H;clear H;have bSa:(0≤(ai:Int))=True:=teq;have cca:(ai<(l0.length:Int))=True:=teq;obtain⟨KX,e318,uY,vk⟩:=Zek HR0.out ai odt odt;obtain rfl:QC=KX:=(by injection e318);replace uY:=hB HB.out uY;replace vk:=hB HB.out vk
     go_wp2_with (first|((with_reducible refine Zbl (b:= .append) (xs:=#[.tmp 27,.tmp 29]) rfl ?_);at_builtin;refine Kd.Zc8 (Kd.int .i64) (w0:=w) w.heap.size rfl (.tmp 27) (.tmp 29) 24 3 (.int .i64 0) 8 rfl Tryz.underlying24 info3 rfl (by decide) (by omega) u3 cu cO [.int .i64 cO] (fun _=>True) (fun _=>False) rfl rfl ?aP (fun _ hk=>hk.elim) ?aF ?aO ?aB ?aS ?aL ?_;(case aP=>exact rfl);(case aB=>exact(bM HB.out));(case aF=>exact(fun _ _=>trivial));(case aO=>exact(rM aU.out));(case aS=>exact(Zac (bM HB.out)));(case aL=>have:=bca.out;omega);intro nXa w10 ho hb hg hat;rw[←WP.out]at ho;replace HB:=Za.mk (hb);have VX:=Za.mk (ho);clear aU;clear ho hb hg hat))
     go_roundg k2
     case measure=>have:=HK1.out;have:=HK2.out;omega
     case rel=>exact⟨(Vv),(wrap64 (cO+1)),eS,H',⟨by have:=HK1.out;have:=HK2.out;omega⟩,⟨rM VX.out⟩,⟨bM HB.out⟩⟩
end Go.Proofs.YtdpieallpbllkaaGreat.P
/- The document's Values. -/
namespace Go.Proofs.YtdpieallpbllkaaGreat.P
open Go.RowKit Go.Proofs.YtdpieallpbllkaaGreatW.PrintWords Go.Proofs.YtdpieallpbllkaaGreatW.PrintLast Go.Proofs.YtdpieallpbllkaaGreatW.PrintMore
theorem ref_Values_l1 (d : List Rg) (i : Nat) (hi : i < d.length) (h1 : d[i].f1 ≤ 1048576) {b : List Int} : ∀ (r : Nat) (v : Int) (acc : List Int), -1048576 ≤ v → r = (d[i].f1 + 1 - v).toNat → acc.length + r < 17592186044416 →
    Ev (fun k=>Zax.l0 k d (acc++upTo r v d[i].f1) (wrap64 ((i:Int)+1))) b→Ev (fun k=>Zax.l1 k d acc (i:Int) v) b:=by
  intro r
  induction r with
  |zero=>
    intro v acc hv hr hb h;simp only[upTo,List.append_nil]at h;exact Ev.step (fun k=>by rw[Zax.l1,if_pos (by omega),if_pos (by omega),show Zbi d (i:Int)=d[i]from Zfd d i hi,if_neg (by omega)]) h
  |succ r ih=>
    intro v acc hv hr hb h;have hle:v≤d[i].f1:=by omega
    rw[upTo,if_pos hle]at h
    exact Ev.step (fun k => by rw [Zax.l1, if_pos (by omega), if_pos (by omega), show Zbi d (i : Int) = d[i] from Zfd d i hi, if_pos hle, if_pos (by omega), w64 (n := v + 1) (by omega) (by omega)])
      (ih (v+1) (acc++ [v]) (by omega) (by omega) (by simp;omega) (by simpa using h))
theorem ref_Values_l0 (d : List Rg) (hl : d.length < 4611686018427387904) {b : Int} (hd : Gd 1048576 b d) (hb : -1048576 ≤ b) : ∀ (m n : Nat) (acc : List Int), n + m = d.length → acc.length + (vals (d.drop n)).length < 17592186044416 →
    Ev (fun k=>Zax.l0 k d acc (n:Int)) (acc++vals (d.drop n)):=by
  intro m
  induction m with
  |zero=>
    intro n acc h _;rw[drop_nil' h];exact Ev.step (G:=fun _=>some acc) (fun k=>by rw[Zax.l0,if_neg (by omega)]) (Ev.const (by simp[vals]))
  |succ m ih=>
    intro n acc h hs;have hn:n<d.length:=by omega
    have hg:=hd.drop n;rw[List.drop_eq_getElem_cons hn]at hs hg ⊢;obtain⟨g1,g2,g3,g4⟩:=hg;rw[vals]at hs ⊢;rw[List.length_append]at hs;have hu:=Zf9 (d[n].f1+1 - d[n].f0).toNat d[n].f0 d[n].f1;refine Ev.step (fun k=>by rw[Zax.l0,if_pos (by omega),if_pos (by omega),show Zbi d (n:Int)=d[n]from Zfd d n hn]) (ref_Values_l1 d n hn g3 (d[n].f1+1 - d[n].f0).toNat d[n].f0 acc (by omega) rfl (by omega) ?_);rw[w1 (by omega),←List.append_assoc];exact ih (n+1) _ (by omega) (by rw[List.length_append];omega)
theorem Zib (d:List Rg) {b:Int} (hd:Gd 1048576 b d) (hb: -1048576≤b):Ev (fun k=>Zax.f k d) (vals d):=by
  have h1:=Zdx hd;have h2:=Zdw hd;exact ref_Values_l0 d (by omega) hd hb d.length 0 [] (by omega) (by simp;omega)
end Go.Proofs.YtdpieallpbllkaaGreat.P
namespace Go.Proofs.YtdpieallpbllkaaGreat.P
open Go.RowKit Go.Proofs.YtdpieallpbllkaaGreatW.PrintWords Go.Proofs.YtdpieallpbllkaaGreatW.PrintLast Go.Proofs.YtdpieallpbllkaaGreatW.PrintMore
attribute [local go_sem] Zcv Zcx Zdj Zdk Zcm Zcn Zcw Zcy
def Zbn.f (k:Nat) (aQ:Int) (aa:List Int) (au:List Int) (l1:List Int):Option (Int):=if aQ=0 then(some 0)else((Zcf.f l1 aa).bind fun Ab=>((Zcc.f k au Ab).bind fun La=>(some La.1)))
theorem Zbn.mono:∀a0 a1 a2 a3 k,LeO (Zbn.f k a0 a1 a2 a3) (Zbn.f (k+1) a0 a1 a2 a3):=by
 intro a0 a1 a2 a3 k;unfold Zbn.f
 repeat' first
   | (with_reducible exact Zcc.mono _ _ _)
   | (with_reducible exact LeO.refl _)
   | (with_reducible exact LeO.none _)
   | (with_reducible refine LeO.ite ?_ ?_)
   |(with_reducible refine LeO.bind ?_ (fun _=> ?_))
def Zbn.T3:Bool × List (List Nat × List Nat):=(true,[([],[]),([0],[0]),([],[]),([],[]),([3],[3]),([2,4],[2,4]),([1,5,5],[1,5]),([6],[6]),([7],[7]),([7],[7]),([8,6,0,1,2,3,4,5,6,7,8],[8]),([9,10,0,1,2,3,4,5,6,7,8,9,10],[9])])
def Zbn.B3:List Nat:= [0,1,0,0,8,28,63,127,255,255,511,2047]
theorem Zbn.tab3:rtab .any (opsOf Tryz.f17 3)=Zbn.T3:=by kernel_rfl
theorem Zbn.bits3:waitsOk Zbn.T3.2 Zbn.B3=true:=by kernel_rfl
set_option maxRecDepth 100000 in
theorem Zbn.calls (k : Nat) (aQ : Int) (aM : Option Addr) (aJ : Nat) (aa : List Int) (bW : Option Addr) (bX : Nat) (au : List Int) (A1 : Option Addr) (c1 : Nat) (l1 : List Int) (r : Int) (w : World) (dL : Kd.C (Kd.int .i64) w aM aa.length aa) (dK : aa.length ≤ aJ) (gP : Kd.C (Kd.int .i64) w bW au.length au) (gN : au.length ≤ bX) (hr1 : Kd.C (Kd.int .i64) w A1 l1.length l1) (hc1 : l1.length ≤ c1) (h : Zbn.f k aQ aa au l1 = some r) :
  Calls Tryz.prog 17 #[.agg #[.int .i64 aQ,.slice aM aa.length aJ,.slice bW au.length bX],.slice A1 l1.length c1] w fun e w'=>e= .returned (.int .i64 r)∧Below w.heap.size w w':=by
 have hu26:=Tryz.underlying26;have dW:=Za.mk dL;have eO:=Za.mk dK;clear dL dK;have jk:=Za.mk gP;have j6:=Za.mk gN;clear gP gN;have HR1:=Za.mk hr1;have HC1:=Za.mk hc1;clear hr1 hc1;have HB:=Za.mk (Below.refl w.heap.size w);have H:(if aQ=0 then(some 0)else((Zcf.f l1 aa).bind fun Ab=>((Zcc.f k au Ab).bind fun La=>(some La.1))))=some r:=h;clear h;by_cases c3:aQ=0
 case pos=>
  rw[if_pos c3]at H;have eD:(aQ==0)=true:=beq_iff_eq.mpr c3;have jc:(aQ !=0)=false:=bne_eq_false_iff_eq.mpr c3;clear c3;obtain rfl:=sj H;go_enter Tryz.func17,Tryz.ntmps17
  go_wp2_with (first|((with_reducible refine Zao (N:=2) rfl ?_);refine bx 2 #[.int .i64 aQ,.slice aM aa.length aJ,.slice bW au.length bX] 26 ?_;intro yC hg w4 hbox hb;have je:=Za.mk (hbox);have VI:=Za.mk ((gE hg HB.out:w.heap.size≤yC));replace HB:=Za.mk (bS HB.out hb);clear hb hbox hg;obtain⟨IB,IC,IE,I1,I4,I5⟩:=cz3 je.out))
  go_ret;exact⟨eR,bM HB.out⟩
 rw[if_neg c3]at H;have eD:(aQ==0)=false:=beq_eq_false_iff_ne.mpr c3;have jc:(aQ !=0)=true:=bne_iff_ne.mpr c3;obtain⟨Ab,A6,H⟩:=bnd H;try dsimp only at H
 obtain⟨⟨cha,cia⟩,A7,H⟩:=bnd H;try dsimp only at H
 obtain rfl:=sj H;go_enter Tryz.func17,Tryz.ntmps17;try go_wp2_with (first|((with_reducible refine Zao (N:=2) rfl ?_);refine bx 2 #[.int .i64 aQ,.slice aM aa.length aJ,.slice bW au.length bX] 26 ?_;intro yC hg w8 hbox hb;have je:=Za.mk (hbox);have VI:=Za.mk ((gE hg HB.out:w.heap.size≤yC));replace HB:=Za.mk (bS HB.out hb);clear hb hbox hg;obtain⟨AO,AP,AQ,Ay,Az,AA⟩:=cz3 je.out))
 replace je:=Za.mk (Zah je.out);replace HB:=Za.mk (Zc4 HB.out);refine Zfp (n:=12) (S:=fun w'=>w'.cell? ⟨yC,0,none⟩=some (.int .i64 aQ)∧w'.cell? ⟨yC,1,none⟩=some (.slice aM aa.length aJ)∧w'.cell? ⟨yC,2,none⟩=some (.slice bW au.length bX)) (ds:= []) #[false,false,false,false,false,false,false,false,false,false,false,false] (by kernel_rfl) rfl rfl ⟨bc je.out 0,bc je.out 1,bc je.out 2⟩ (fun hHeld=> ?_);refine Zej Zbn.tab3 Zbn.bits3 (fun HT_ HW_=> ?_)
 generalize w8.drew=w10 at je HB hHeld ⊢
 refine pu HT_ 0 11 ?_;refine pu HT_ 2 13 ?_;refine pu HT_ 3 14 ?_;refine tk HT_ HW_ hHeld 1 12 ?_;refine tk HT_ HW_ hHeld 4 15 ?_;refine on1 HT_ 5 16 (fun K hK=> ?_);refine gs Tryz.func31 #[.slice A1 l1.length c1,.slice aM aa.length aJ] ?_
 with_reducible refine(Zcf.calls _ _ l1 _ _ aa Ab _ (cM (Kd.Zae HR1.out HB.out)) HC1.out (cM (Kd.Zae dW.out HB.out)) eO.out A6.out).mono ?_
 rintro e w11 ⟨oaa,rfl,ho0,hb⟩;refine⟨_,rfl,?_⟩;have Bb:=Za.mk (Kd.Zbk ho0 (Zac (bM HB.out)));replace je:=Za.mk (kB je.out hb);replace HB:=Za.mk (bS HB.out hb)
 (try clear hb)
 (try clear hb2)
 (try clear hk)
 (try clear hi)
 (try clear ho0)
 obtain⟨ig,il,oO⟩:=Kd.Zbe Bb.out
 (first|subst oO|(injection oO with f1_ f2_ f3_;have f4_:=f1_.symm;have f5_:=f3_.symm;clear f1_ f2_ f3_;subst f4_;subst f5_))
 refine hK.out _ _ ⟨bc je.out 0,bc je.out 1,bc je.out 2⟩ (fun hHeld=> ?_);clear hK K;refine nmp 16 ?_;refine on1 HT_ 6 17 (fun K hK=> ?_);refine gs Tryz.func51 #[.slice bW au.length bX,.slice ig Ab.length il] ?_
 with_reducible refine(Zcc.calls k _ _ au _ _ Ab cha cia _ (cM (Kd.Zae jk.out HB.out)) j6.out (cM ((Kd.Zaq Bb.out).2.2)) ((Kd.Zaq Bb.out).2.1) A7.out).mono ?_
 rintro e w13 ⟨rfl,hb⟩;refine⟨_,rfl,?_⟩;replace Bb:=Za.mk (Kd.Zc (rM Bb.out) hb);replace je:=Za.mk (kB je.out hb);replace HB:=Za.mk (bS HB.out hb)
 (try clear hb)
 (try clear hb2)
 (try clear hk)
 (try clear hi)
 refine hK.out _ _ ⟨bc je.out 0,bc je.out 1,bc je.out 2⟩ (fun hHeld=> ?_);clear hK K;refine nmp 17 ?_;refine pu HT_ 7 10 ?_;refine pu HT_ 8 18 ?_;refine pu HT_ 9 19 ?_;refine pu HT_ 10 5 ?_;refine pu HT_ 11 6 ?_;refine Zhw (Ze7 HT_.out (by kernel_rfl)) ?_;try go_wp2
 go_ret;exact⟨eR,bM HB.out⟩
def Zar.l0 : Nat → List (List Int) → List (List Int) → Int → Option (Bool)
 | 0, _, _, _ => none
 |k+1,x0,x1,x5=>if x5<(x0.length:Int)then(if 0≤x5 then(if x5<(x1.length:Int)then((Zaw.f k (Zck x0 x5) (Zck x1 x5)).bind fun OM=>(if OM=true then(Zar.l0 k x0 x1 (wrap64 (x5+1)))else(some false)))else(none))else(none))else(some true)
def Zar.f (k:Nat) (l0:List (List Int)) (l1:List (List Int)):Option (Bool):=if(l0.length:Int)=(l1.length:Int)then(Zar.l0 k l0 l1 0)else(some false)
theorem Zar.Zdb : ∀ k, (∀ y0 y1 y2, LeO (Zar.l0 k y0 y1 y2) (Zar.l0 (k + 1) y0 y1 y2))
 | 0 => fun _ _ _ r h => by simp [Zar.l0] at h
 |k+1=>by
  have ih0:=Zar.Zdb k;intro y0 y1 y2;unfold Zar.l0
  repeat' first
  | (with_reducible exact ih0 _ _ _)
  | (with_reducible exact Zaw.mono _ _ _)
  | (with_reducible exact LeO.refl _)
  | (with_reducible exact LeO.none _)
  | (with_reducible refine LeO.ite ?_ ?_)
  |(with_reducible refine LeO.bind ?_ (fun _=> ?_))
theorem Zar.mono:∀a0 a1 k,LeO (Zar.f k a0 a1) (Zar.f (k+1) a0 a1):=by
 intro a0 a1 k;have ih0:=Zar.Zdb k;unfold Zar.f
 repeat' first
   | (with_reducible exact ih0 _ _ _)
   | (with_reducible exact Zaw.mono _ _ _)
   | (with_reducible exact LeO.refl _)
   | (with_reducible exact LeO.none _)
   | (with_reducible refine LeO.ite ?_ ?_)
   |(with_reducible refine LeO.bind ?_ (fun _=> ?_))
set_option maxRecDepth 100000 in
theorem Zar.calls (k : Nat) (A0 : Option Addr) (c0 : Nat) (l0 : List (List Int)) (A1 : Option Addr) (c1 : Nat) (l1 : List (List Int)) (r : Bool) (w : World) (hr0 : Kd.C (Kd.slice 3 (Kd.int .i64)) w A0 l0.length l0) (hc0 : l0.length ≤ c0) (hr1 : Kd.C (Kd.slice 3 (Kd.int .i64)) w A1 l1.length l1) (hc1 : l1.length ≤ c1) (h : Zar.f k l0 l1 = some r) :
  Calls Tryz.prog 25 #[.slice A0 l0.length c0,.slice A1 l1.length c1] w fun e w'=>e= .returned (.bool r)∧Zav w w':=by
 have HR0:=Za.mk hr0;have HC0:=Za.mk hc0;clear hr0 hc0;have HR1:=Za.mk hr1;have HC1:=Za.mk hc1;clear hr1 hc1;have H:(if(l0.length:Int)=(l1.length:Int)then(Zar.l0 k l0 l1 0)else(some false))=some r:=h;clear h;by_cases c3:(l0.length:Int)=(l1.length:Int)
 case neg=>
  rw[if_neg c3]at H;have eD:((l0.length:Int)==(l1.length:Int))=false:=beq_eq_false_iff_ne.mpr c3;have jc:((l0.length:Int) !=(l1.length:Int))=true:=bne_iff_ne.mpr c3;have qd:(l0.length==l1.length)=false:=by first|simpa using c3|(simp at c3 ⊢;omega)
  obtain rfl:=sj H;go_enter Tryz.func25,Tryz.ntmps25;go_wp2
  repeat(go_quiet (fail);try go_wp2)
  go_ret;exact⟨eS,by repeat(first|exact Zav.refl _|apply Zav.step)⟩
 rw[if_pos c3]at H;have eD:((l0.length:Int)==(l1.length:Int))=true:=beq_iff_eq.mpr c3;have jc:((l0.length:Int) !=(l1.length:Int))=false:=bne_eq_false_iff_eq.mpr c3;have qd:(l0.length==l1.length)=true:=by first|simpa using c3|(simp at c3 ⊢;omega)
 clear c3;have H':=Za.mk H;clear H;go_enter Tryz.func25,Tryz.ntmps25;go_wp2
 repeat(go_quiet (fail);try go_wp2)
 go_loopg [5] k (fun kq v5 w'=>∃(ax:Int),v5= .int .i64 ax∧Za (Zar.l0 kq l0 l1 ax=some r)∧Za (kq≤k)∧Zav w w')
 case atStart=>exact⟨(0),eS,H',⟨Nat.le_refl _⟩,by repeat(first|exact Zav.refl _|apply Zav.step)⟩
 case round=>
  clear H';try clear c1
  try clear c2
  try clear p2
  try clear c3
  try clear eD
  try clear jc
  try clear qd
  obtain⟨ax,rfl,HA,HK1,⟨m1,rfl⟩⟩:=hrel
  cases gk with
  | zero => exact absurd HA.out (by simp [Zar.l0])
  |succ k1=>
   have H:=HA.out;clear HA;simp only[Zar.l0]at H;by_cases c4:ax<(l0.length:Int)
   case neg=>
    rw[if_neg c4]at H;have dn:decide (ax<(l0.length:Int))=false:=decide_eq_false c4;clear c4;obtain rfl:=sj H;go_wp2
    repeat(go_quiet (fail);try go_wp2)
    go_ret;exact⟨eS,by repeat(first|exact Zav.refl _|apply Zav.step)⟩
   rw[if_pos c4]at H;have dn:decide (ax<(l0.length:Int))=true:=decide_eq_true c4;clear c4;obtain⟨bY,H⟩:=ifT H;obtain⟨iQ,H⟩:=ifT H;obtain⟨OM,A7,H⟩:=bnd H;try dsimp only at H
   by_cases c8:OM=true
   case pos=>
    subst c8;rw[if_pos rfl]at H;have H':=Za.mk H;clear H;have bVa:(0≤(ax:Int))=True:=teq;have cfa:(ax<(l0.length:Int))=True:=teq;obtain⟨Xo,TJ,Ug,rfl,Tp,uH,ut⟩:=Zfs HR0.out ax odt odt;have pY:=Za.mk ut;have pO:=Za.mk uH;clear ut uH;have bWa:(0≤(ax:Int))=True:=teq;have cga:(ax<(l1.length:Int))=True:=teq;obtain⟨Xp,TK,Uh,rfl,Tq,uI,uu⟩:=Zfs HR1.out ax odt odt;have qc:=Za.mk uu;have pQ:=Za.mk uI;clear uu uI
    go_wp2_with (first|(go_at_call 27;(with_reducible refine(Zaw.calls k1 _ _ (Zck l0 ax) _ _ (Zck l1 ax) true _ (cM pY.out) pO.out (cM qc.out) pQ.out A7.out).mono ?_);rintro e w' ⟨rfl,⟨nd,rfl⟩⟩;(try first|exact⟨rfl,_,World.drewN_drewN _ _ _⟩|exact⟨rfl,_,Eq.trans (World.drewN_drewN _ _ _) (congrArg (World.drewN _) (Nat.add_assoc _ _ _))⟩)))
    repeat(go_quiet (first|(go_at_call 27;(with_reducible refine(Zaw.calls k1 _ _ (Zck l0 ax) _ _ (Zck l1 ax) true _ (cM pY.out) pO.out (cM qc.out) pQ.out A7.out).mono ?_);rintro e w' ⟨rfl,⟨nd,rfl⟩⟩;(try first|exact⟨rfl,_,World.drewN_drewN _ _ _⟩|exact⟨rfl,_,Eq.trans (World.drewN_drewN _ _ _) (congrArg (World.drewN _) (Nat.add_assoc _ _ _))⟩)));try go_wp2_with (first|(go_at_call 27;(with_reducible refine(Zaw.calls k1 _ _ (Zck l0 ax) _ _ (Zck l1 ax) true _ (cM pY.out) pO.out (cM qc.out) pQ.out A7.out).mono ?_);rintro e w' ⟨rfl,⟨nd,rfl⟩⟩;(try first|exact⟨rfl,_,World.drewN_drewN _ _ _⟩|exact⟨rfl,_,Eq.trans (World.drewN_drewN _ _ _) (congrArg (World.drewN _) (Nat.add_assoc _ _ _))⟩))))
    go_roundg k1
    case measure=>have:=HK1.out;omega
    case rel=>exact⟨(wrap64 (ax+1)),eS,H',⟨by have:=HK1.out;omega⟩,by repeat(first|exact Zav.refl _|apply Zav.step)⟩
   replace c8:=Bool.eq_false_iff.mpr c8;subst c8;replace H:=ifF H;obtain rfl:=sj H;have bVa:(0≤(ax:Int))=True:=teq;have cfa:(ax<(l0.length:Int))=True:=teq;obtain⟨Xo,TJ,Ug,rfl,Tp,uH,ut⟩:=Zfs HR0.out ax odt odt;have pY:=Za.mk ut;have pO:=Za.mk uH;clear ut uH;have bWa:(0≤(ax:Int))=True:=teq;have cga:(ax<(l1.length:Int))=True:=teq;obtain⟨Xp,TK,Uh,rfl,Tq,uI,uu⟩:=Zfs HR1.out ax odt odt;have qc:=Za.mk uu;have pQ:=Za.mk uI;clear uu uI
   go_wp2_with (first|(go_at_call 27;(with_reducible refine(Zaw.calls k1 _ _ (Zck l0 ax) _ _ (Zck l1 ax) false _ (cM pY.out) pO.out (cM qc.out) pQ.out A7.out).mono ?_);rintro e w' ⟨rfl,⟨nd,rfl⟩⟩;(try first|exact⟨rfl,_,World.drewN_drewN _ _ _⟩|exact⟨rfl,_,Eq.trans (World.drewN_drewN _ _ _) (congrArg (World.drewN _) (Nat.add_assoc _ _ _))⟩)))
   repeat(go_quiet (first|(go_at_call 27;(with_reducible refine(Zaw.calls k1 _ _ (Zck l0 ax) _ _ (Zck l1 ax) false _ (cM pY.out) pO.out (cM qc.out) pQ.out A7.out).mono ?_);rintro e w' ⟨rfl,⟨nd,rfl⟩⟩;(try first|exact⟨rfl,_,World.drewN_drewN _ _ _⟩|exact⟨rfl,_,Eq.trans (World.drewN_drewN _ _ _) (congrArg (World.drewN _) (Nat.add_assoc _ _ _))⟩)));try go_wp2_with (first|(go_at_call 27;(with_reducible refine(Zaw.calls k1 _ _ (Zck l0 ax) _ _ (Zck l1 ax) false _ (cM pY.out) pO.out (cM qc.out) pQ.out A7.out).mono ?_);rintro e w' ⟨rfl,⟨nd,rfl⟩⟩;(try first|exact⟨rfl,_,World.drewN_drewN _ _ _⟩|exact⟨rfl,_,Eq.trans (World.drewN_drewN _ _ _) (congrArg (World.drewN _) (Nat.add_assoc _ _ _))⟩))))
   go_ret;exact⟨eS,by repeat(first|exact Zav.refl _|apply Zav.step)⟩
def Zbt.f (k:Nat) (l0:List Int) (l1:List Int):Option (Bool):=(Za3.f k l0 l1).bind fun Ij=>(some (decide (Ij<0)))
theorem Zbt.mono:∀a0 a1 k,LeO (Zbt.f k a0 a1) (Zbt.f (k+1) a0 a1):=by
 intro a0 a1 k;unfold Zbt.f
 repeat' first
   | (with_reducible exact Za3.mono _ _ _)
   | (with_reducible exact LeO.refl _)
   | (with_reducible exact LeO.none _)
   | (with_reducible refine LeO.ite ?_ ?_)
   |(with_reducible refine LeO.bind ?_ (fun _=> ?_))
set_option maxRecDepth 100000 in
theorem Zbt.calls (k : Nat) (A0 : Option Addr) (c0 : Nat) (l0 : List Int) (A1 : Option Addr) (c1 : Nat) (l1 : List Int) (r : Bool) (w : World) (hr0 : Kd.C (Kd.int .i64) w A0 l0.length l0) (hc0 : l0.length ≤ c0) (hr1 : Kd.C (Kd.int .i64) w A1 l1.length l1) (hc1 : l1.length ≤ c1) (h : Zbt.f k l0 l1 = some r) :
  Calls Tryz.prog 26 #[.slice A0 l0.length c0,.slice A1 l1.length c1] w fun e w'=>e= .returned (.bool r)∧Zav w w':=by
 have HR0:=Za.mk hr0;have HC0:=Za.mk hc0;clear hr0 hc0;have HR1:=Za.mk hr1;have HC1:=Za.mk hc1;clear hr1 hc1;have H:((Za3.f k l0 l1).bind fun Ij=>(some (decide (Ij<0))))=some r:=h;clear h;obtain⟨Ij,A3,H⟩:=bnd H;try dsimp only at H
 obtain rfl:=sj H;go_enter Tryz.func26,Tryz.ntmps26
 go_wp2_with (first|((with_reducible refine Zak (f:=39) rfl ?_);refine gl 7 Tryz.func39 #[.slice A0 l0.length c0,.slice A1 l1.length c1] ?_;(with_reducible refine(Za3.calls k _ _ l0 _ _ l1 Ij _ (cM HR0.out) HC0.out (cM HR1.out) HC1.out A3.out).mono ?_);rintro e w' ⟨rfl,⟨nd,rfl⟩⟩;refine⟨_,rfl,?_⟩))
 go_ret;exact⟨eS,by repeat(first|exact Zav.refl _|apply Zav.step)⟩
def Zam.f:Option ((List (S55)) × (List (S36)) × Int × List Int × List Int):=(some (([(⟨0,1⟩:S82)]:List (S82)):List (S82))).bind fun kE=>(some ((([(⟨(⟨#[120]⟩:ByteArray),kE⟩:S55),(⟨(⟨#[121]⟩:ByteArray),kE⟩:S55)]:List (S55))),(([(⟨0,(([0,1]:List Int)),(([1,1]:List Int)),1,1,([]:List (List Int)),0⟩:S36)]:List (S36))),2,(([0]:List Int)),(([3]:List Int))))
set_option maxRecDepth 100000 in
theorem Zam.calls  (r1 : List (S55)) (r2 : List (S36)) (r3 : Int) (r4 : List Int) (r5 : List Int) (w : World) (h : Zam.f  = some (r1, r2, r3, r4, r5)) :
  Calls Tryz.prog 30 #[] w fun e w'=>∃v0_ v1_ v3_ v4_:Value,e= .returned (.agg #[v0_,v1_,.int .i64 r3,v3_,v4_])∧Kd.N k55 55 w' w.heap.size (fun k_=>(w.heap.size≤k_)∧some k_≠(v1_:Value).ownBlock∧some k_≠(v3_:Value).ownBlock∧some k_≠(v4_:Value).ownBlock) v0_ r1∧Kd.N k36 36 w' w.heap.size (fun k_=>(w.heap.size≤k_)∧some k_≠(v0_:Value).ownBlock∧some k_≠(v3_:Value).ownBlock∧some k_≠(v4_:Value).ownBlock) v1_ r2∧Kd.R (Kd.int .i64) 3 w' w.heap.size (fun k_=>(w.heap.size≤k_)∧some k_≠(v4_:Value).ownBlock) v3_ r4∧Kd.R (Kd.int .i64) 3 w' w.heap.size (fun k_=>(w.heap.size≤k_)∧some k_≠(v3_:Value).ownBlock) v4_ r5∧Below w.heap.size w w':=by
 have hu28:=Tryz.underlying28;have hu82:=Tryz.underlying82;have hu55:=Tryz.underlying55;have hu36:=Tryz.underlying36;have hu26:=Tryz.underlying26;have HB:=Za.mk (Below.refl w.heap.size w);have H:((some (([(⟨0,1⟩:S82)]:List (S82)):List (S82))).bind fun kE=>(some ((([(⟨(⟨#[120]⟩:ByteArray),kE⟩:S55),(⟨(⟨#[121]⟩:ByteArray),kE⟩:S55)]:List (S55))),(([(⟨0,(([0,1]:List Int)),(([1,1]:List Int)),1,1,([]:List (List Int)),0⟩:S36)]:List (S36))),2,(([0]:List Int)),(([3]:List Int)))))=some (r1,r2,r3,r4,r5):=h;clear h;obtain⟨kE,Db⟩:∃y_:List (S82),y_=(([(⟨0,1⟩:S82)]:List (S82))):=⟨_,rfl⟩;replace H:(some ((([(⟨(⟨#[120]⟩:ByteArray),kE⟩:S55),(⟨(⟨#[121]⟩:ByteArray),kE⟩:S55)]:List (S55))),(([(⟨0,(([0,1]:List Int)),(([1,1]:List Int)),1,1,([]:List (List Int)),0⟩:S36)]:List (S36))),2,(([0]:List Int)),(([3]:List Int))))=some (r1,r2,r3,r4,r5):=by first|(rw[Db];with_reducible exact H)|(have H2_:=(Option.bind_some _ _).symm.trans H;rw[Db];with_reducible exact H2_)|(have H2_:=(Option.bind_some _ _).symm.trans H;with_reducible exact H2_)|with_reducible exact H|(rw[Db];exact H)|exact H
 have Qg:=Za.mk Db;clear Db;obtain⟨ow,Dc⟩:∃y_:List (S55),y_=(([(⟨(⟨#[120]⟩:ByteArray),kE⟩:S55),(⟨(⟨#[121]⟩:ByteArray),kE⟩:S55)]:List (S55))):=⟨_,rfl⟩;replace H:(some (ow,(([(⟨0,(([0,1]:List Int)),(([1,1]:List Int)),1,1,([]:List (List Int)),0⟩:S36)]:List (S36))),2,(([0]:List Int)),(([3]:List Int))))=some (r1,r2,r3,r4,r5):=by first|(rw[Dc];with_reducible exact H)|(have H2_:=(Option.bind_some _ _).symm.trans H;rw[Dc];with_reducible exact H2_)|(have H2_:=(Option.bind_some _ _).symm.trans H;with_reducible exact H2_)|with_reducible exact H|(rw[Dc];exact H)|exact H
 have Qh:=Za.mk Dc;clear Dc;obtain⟨xW,De⟩:∃y_:List Int,y_=(([0,1]:List Int)):=⟨_,rfl⟩;replace H:(some (ow,(([(⟨0,xW,(([1,1]:List Int)),1,1,([]:List (List Int)),0⟩:S36)]:List (S36))),2,(([0]:List Int)),(([3]:List Int))))=some (r1,r2,r3,r4,r5):=by first|(rw[De];with_reducible exact H)|(have H2_:=(Option.bind_some _ _).symm.trans H;rw[De];with_reducible exact H2_)|(have H2_:=(Option.bind_some _ _).symm.trans H;with_reducible exact H2_)|with_reducible exact H|(rw[De];exact H)|exact H
 have Qi:=Za.mk De;clear De;obtain⟨Ao,Df⟩:∃y_:List Int,y_=(([1,1]:List Int)):=⟨_,rfl⟩;replace H:(some (ow,(([(⟨0,xW,Ao,1,1,([]:List (List Int)),0⟩:S36)]:List (S36))),2,(([0]:List Int)),(([3]:List Int))))=some (r1,r2,r3,r4,r5):=by first|(rw[Df];with_reducible exact H)|(have H2_:=(Option.bind_some _ _).symm.trans H;rw[Df];with_reducible exact H2_)|(have H2_:=(Option.bind_some _ _).symm.trans H;with_reducible exact H2_)|with_reducible exact H|(rw[Df];exact H)|exact H
 have Qj:=Za.mk Df;clear Df;obtain⟨sw,Dh⟩:∃y_:List (S36),y_=(([(⟨0,xW,Ao,1,1,([]:List (List Int)),0⟩:S36)]:List (S36))):=⟨_,rfl⟩;replace H:(some (ow,sw,2,(([0]:List Int)),(([3]:List Int))))=some (r1,r2,r3,r4,r5):=by first|(rw[Dh];with_reducible exact H)|(have H2_:=(Option.bind_some _ _).symm.trans H;rw[Dh];with_reducible exact H2_)|(have H2_:=(Option.bind_some _ _).symm.trans H;with_reducible exact H2_)|with_reducible exact H|(rw[Dh];exact H)|exact H
 have Qk:=Za.mk Dh;clear Dh;obtain⟨xX,Di⟩:∃y_:List Int,y_=(([0]:List Int)):=⟨_,rfl⟩;replace H:(some (ow,sw,2,xX,(([3]:List Int))))=some (r1,r2,r3,r4,r5):=by first|(rw[Di];with_reducible exact H)|(have H2_:=(Option.bind_some _ _).symm.trans H;rw[Di];with_reducible exact H2_)|(have H2_:=(Option.bind_some _ _).symm.trans H;with_reducible exact H2_)|with_reducible exact H|(rw[Di];exact H)|exact H
 have Ql:=Za.mk Di;clear Di;obtain⟨ER,Dj⟩:∃y_:List Int,y_=(([3]:List Int)):=⟨_,rfl⟩;replace H:(some (ow,sw,2,xX,ER))=some (r1,r2,r3,r4,r5):=by first|(rw[Dj];with_reducible exact H)|(have H2_:=(Option.bind_some _ _).symm.trans H;rw[Dj];with_reducible exact H2_)|(have H2_:=(Option.bind_some _ _).symm.trans H;with_reducible exact H2_)|with_reducible exact H|(rw[Dj];exact H)|exact H
 have Qm:=Za.mk Dj;clear Dj;simp only[Option.some.injEq,Prod.mk.injEq]at H;obtain⟨rfl,rfl,rfl,rfl,rfl⟩:=H;go_enter Tryz.func30,Tryz.ntmps30
 go_wp2_with (first|((with_reducible refine Zao (N:=0) rfl ?_);refine bx 0 #[.slice none 0 0,.slice none 0 0,.int .i64 0,.slice none 0 0,.slice none 0 0] 28 ?_;intro eG hg w1 hbox hb;have fT:=Za.mk (hbox);have eha:=Za.mk ((gE hg HB.out:w.heap.size≤eG));replace HB:=Za.mk (bS HB.out hb);clear hb hbox hg)|((with_reducible refine Zao (N:=3) rfl ?_);refine Kd.Zdf k82 _ 82 ?hg (N:=3) ?hd (xs:=([(⟨0,1⟩:S82)]:List (S82))) (inner:= [.int .i64 0,.int .i64 1]) (ok:=fun _=>True) (okp:=fun _=>True) ?hr ?hp (fun _ hk=>hk) trivial (Below.refl _ _) (Nat.le_refl _) (by simp) ?_;(case hd=>rfl);(case hg=>rfl);(case hr=>first|(go_simp;done)|(go_simp;rfl));(case hp=>exact(Reps.c2 (show Kd.M k82 _ _ _ (⟨0,1⟩:S82) [.int .i64 0,.int .i64 1]from(Zha _ _ _ (⟨0,1⟩:S82))) (Reps.none _ _)));intro oha w2 ho3 hb hg_ hnew_;clear hg_ hnew_;(first|rw[←Qg.out]at ho3|(simp only[Int.reduceToNat]at ho3;rw[←Qg.out]at ho3));have ym:=Za.mk (Kd.Zbk (Kd.Zf (M:=fun k_=>(w.heap.size≤k_)) ho3 (Zac (bM HB.out)) (fun k_ h_=>h_)) (Zac (bM HB.out)));replace fT:=Za.mk (kB fT.out hb);replace HB:=Za.mk (bS HB.out hb);clear hb ho3;obtain⟨Ao4,co4,eo4⟩:=Kd.Zbe ym.out;subst eo4)|((with_reducible refine Zao (N:=8) rfl ?_);refine Kd.N_lit k55 _ 55 ?hg (N':=8) ?hd (xs:=([(⟨(⟨#[120]⟩:ByteArray),kE⟩:S55),(⟨(⟨#[121]⟩:ByteArray),kE⟩:S55)]:List (S55))) (inner:= [.string (⟨#[120]⟩:ByteArray),.slice Ao4 kE.length co4,.string (⟨#[121]⟩:ByteArray),.slice Ao4 kE.length co4]) (ok:=(fun k_=>(w.heap.size≤k_)∧k_≠eG)) (okp:=(fun k_=>(w.heap.size≤k_)∧k_≠eG)) ?hr ?hp (fun _ hk=>hk) ((show ∀k_,w2.heap.size≤k_→(fun k_=>(w.heap.size≤k_)∧k_≠eG) k_ from fun k_ hk=>⟨(Nat.le_trans (Zac (bM HB.out)) hk),Kd.freshB (kM fT.out) k_ hk⟩) _ (Nat.le_refl _)) (Below.refl _ _) (Nat.le_refl _) (by simp) ?_;(case hd=>rfl);(case hg=>rfl);(case hr=>first|(go_simp;done)|(go_simp;rfl));(case hp=>exact(Reps.c2 (show Kd.FK k55 _ _ (⟨(⟨#[120]⟩:ByteArray),kE⟩:S55) [.string (⟨#[120]⟩:ByteArray),.slice Ao4 kE.length co4]from(k55_mkF _ _ (⟨(⟨#[120]⟩:ByteArray),kE⟩:S55) (Kd.Zaq (Kd.Za5 (ok':=(fun k_=>(w.heap.size≤k_)∧k_≠eG)) (Kd.Zca (ym.out) fT.out (by decide)) (fun k_ hk=>⟨hk.1.1,hk.2⟩))).2.1 (Kd.R_F (Kd.Za5 (ok':=(fun k_=>(w.heap.size≤k_)∧k_≠eG)) (Kd.Zca (ym.out) fT.out (by decide)) (fun k_ hk=>⟨hk.1.1,hk.2⟩))))) (Reps.c2 (show Kd.FK k55 _ _ (⟨(⟨#[121]⟩:ByteArray),kE⟩:S55) [.string (⟨#[121]⟩:ByteArray),.slice Ao4 kE.length co4]from(k55_mkF _ _ (⟨(⟨#[121]⟩:ByteArray),kE⟩:S55) (Kd.Zaq (Kd.Za5 (ok':=(fun k_=>(w.heap.size≤k_)∧k_≠eG)) (Kd.Zca (ym.out) fT.out (by decide)) (fun k_ hk=>⟨hk.1.1,hk.2⟩))).2.1 (Kd.R_F (Kd.Za5 (ok':=(fun k_=>(w.heap.size≤k_)∧k_≠eG)) (Kd.Zca (ym.out) fT.out (by decide)) (fun k_ hk=>⟨hk.1.1,hk.2⟩))))) (Reps.none _ _))));intro Ai w5 ho6 hb hg_ hnew_;clear hg_ hnew_;(first|rw[←Qh.out]at ho6|(simp only[Int.reduceToNat]at ho6;rw[←Qh.out]at ho6));have jC:=Za.mk (Kd.Zc0 ho6 (Zac (bM HB.out)));replace fT:=Za.mk (kB fT.out hb);replace HB:=Za.mk (bS HB.out hb);clear ym;clear hb ho6)|((with_reducible refine Zao (N:=9) rfl ?_);refine Kd.Zdf (Kd.int .i64) _ 3 ?hg (N:=9) ?hd (xs:=([0,1]:List Int)) (inner:= [.int .i64 0,.int .i64 1]) (ok:=fun _=>True) (okp:=fun _=>True) ?hr ?hp (fun _ hk=>hk) trivial (Below.refl _ _) (Nat.le_refl _) (by simp) ?_;(case hd=>rfl);(case hg=>rfl);(case hr=>first|(go_simp;done)|(go_simp;rfl));(case hp=>exact(Reps.one (show Kd.M (Kd.int .i64) _ _ _ 0 [.int .i64 0]from rfl) (Reps.one (show Kd.M (Kd.int .i64) _ _ _ 1 [.int .i64 1]from rfl) (Reps.none _ _))));intro oia w7 ho8 hb hg_ hnew_;clear hg_ hnew_;(first|rw[←Qi.out]at ho8|(simp only[Int.reduceToNat]at ho8;rw[←Qi.out]at ho8));replace jC:=Za.mk (Kd.Zdm (nM jC.out) (Kd.Zct ho8) hb);have vK:=Za.mk (Kd.Zbk (Kd.Zf (M:=fun k_=>(w.heap.size≤k_)) ho8 (Zac (bM HB.out)) (fun k_ h_=>h_)) (Zac (bM HB.out)));replace fT:=Za.mk (kB fT.out hb);replace HB:=Za.mk (bS HB.out hb);clear hb ho8)|((with_reducible refine Zao (N:=10) rfl ?_);refine Kd.Zdf (Kd.int .i64) _ 3 ?hg (N:=10) ?hd (xs:=([1,1]:List Int)) (inner:= [.int .i64 1,.int .i64 1]) (ok:=fun _=>True) (okp:=fun _=>True) ?hr ?hp (fun _ hk=>hk) trivial (Below.refl _ _) (Nat.le_refl _) (by simp) ?_;(case hd=>rfl);(case hg=>rfl);(case hr=>first|(go_simp;done)|(go_simp;rfl));(case hp=>exact(Reps.one (show Kd.M (Kd.int .i64) _ _ _ 1 [.int .i64 1]from rfl) (Reps.one (show Kd.M (Kd.int .i64) _ _ _ 1 [.int .i64 1]from rfl) (Reps.none _ _))));intro oja w9 qg hb hg_ hnew_;clear hg_ hnew_;(first|rw[←Qj.out]at qg|(simp only[Int.reduceToNat]at qg;rw[←Qj.out]at qg));replace jC:=Za.mk (Kd.Zdm (nM jC.out) (Kd.Zct qg) hb);have Fw:=Za.mk (Kd.Zbk (Kd.Ze9 (Kd.Zf (M:=fun k_=>(w.heap.size≤k_)) qg (Zac (bM HB.out)) (fun k_ h_=>h_)) (Kd.R_lt (rM vK.out))) (Zac (bM HB.out)));replace vK:=Za.mk (Kd.Zed (rM vK.out) (Kd.Zct qg) hb);replace fT:=Za.mk (kB fT.out hb);replace HB:=Za.mk (bS HB.out hb);clear hb qg;obtain⟨JO,Ll,NJ⟩:=Kd.Zbe Fw.out;subst NJ;obtain⟨ig,il,oO⟩:=Kd.Zbe vK.out;subst oO)|((with_reducible refine Zao (N:=12) rfl ?_);refine Kd.N_lit k36 _ 36 ?hg (N':=12) ?hd (xs:=([(⟨0,xW,Ao,1,1,([]:List (List Int)),0⟩:S36)]:List (S36))) (inner:= [.int .i64 0,.slice ig xW.length il,.slice JO Ao.length Ll,.int .i64 1,.int .i64 1,.slice none 0 0,.int .i64 0]) (ok:=(fun k_=>(w.heap.size≤k_)∧some k_≠(Ai:Value).ownBlock∧k_≠eG)) (okp:=(fun k_=>(w.heap.size≤k_)∧some k_≠(Ai:Value).ownBlock∧k_≠eG)) ?hr ?hp (fun _ hk=>hk) ((show ∀k_,w9.heap.size≤k_→(fun k_=>(w.heap.size≤k_)∧some k_≠(Ai:Value).ownBlock∧k_≠eG) k_ from fun k_ hk=>⟨(Nat.le_trans (Zac (bM HB.out)) hk),Kd.fresh' (Kd.N_lt (nM jC.out)) k_ hk,Kd.freshB (kM fT.out) k_ hk⟩) _ (Nat.le_refl _)) (Below.refl _ _) (Nat.le_refl _) (by simp) ?_;(case hd=>rfl);(case hg=>rfl);(case hr=>first|(go_simp;done)|(go_simp;rfl));(case hp=>exact(Reps.c7 (show Kd.FK k36 _ _ (⟨0,xW,Ao,1,1,([]:List (List Int)),0⟩:S36) [.int .i64 0,.slice ig xW.length il,.slice JO Ao.length Ll,.int .i64 1,.int .i64 1,.slice none 0 0,.int .i64 0]from(k36_mkF _ _ (⟨0,xW,Ao,1,1,([]:List (List Int)),0⟩:S36) (Kd.Zaq (Kd.Za5 (ok':=(fun k_=>(w.heap.size≤k_)∧some k_≠(Ai:Value).ownBlock∧k_≠eG)) (Kd.Zca (Kd.Zdc (vK.out) (Kd.Ze4 jC.out) (by decide)) fT.out (by decide)) (fun k_ hk=>⟨hk.1.1.1.1,⟨hk.1.2,hk.2⟩⟩))).2.1 (Kd.R_F (Kd.Za5 (ok':=(fun k_=>(w.heap.size≤k_)∧some k_≠(Ai:Value).ownBlock∧k_≠eG)) (Kd.Zca (Kd.Zdc (vK.out) (Kd.Ze4 jC.out) (by decide)) fT.out (by decide)) (fun k_ hk=>⟨hk.1.1.1.1,⟨hk.1.2,hk.2⟩⟩))) (Kd.Zaq (Kd.Za5 (ok':=(fun k_=>(w.heap.size≤k_)∧some k_≠(Ai:Value).ownBlock∧k_≠eG)) (Kd.Zca (Kd.Zdc (Fw.out) (Kd.Ze4 jC.out) (by decide)) fT.out (by decide)) (fun k_ hk=>⟨hk.1.1.1.1,⟨hk.1.2,hk.2⟩⟩))).2.1 (Kd.R_F (Kd.Za5 (ok':=(fun k_=>(w.heap.size≤k_)∧some k_≠(Ai:Value).ownBlock∧k_≠eG)) (Kd.Zca (Kd.Zdc (Fw.out) (Kd.Ze4 jC.out) (by decide)) fT.out (by decide)) (fun k_ hk=>⟨hk.1.1.1.1,⟨hk.1.2,hk.2⟩⟩))) (Nat.le_refl _) (Kd.F_nil _ _ _))) (Reps.none _ _)));intro oka w13 EA hb hg_ hnew_;clear hg_ hnew_;(first|rw[←Qk.out]at EA|(simp only[Int.reduceToNat]at EA;rw[←Qk.out]at EA));replace jC:=Za.mk (Kd.Zdm (nM jC.out) (Kd.Zew EA) hb);have yn:=Za.mk (Kd.Zc0 EA (Zac (bM HB.out)));replace fT:=Za.mk (kB fT.out hb);replace HB:=Za.mk (bS HB.out hb);clear vK Fw;clear hb EA)|((with_reducible refine Zao (N:=13) rfl ?_);refine Kd.Zdf (Kd.int .i64) _ 3 ?hg (N:=13) ?hd (xs:=([0]:List Int)) (inner:= [.int .i64 0]) (ok:=fun _=>True) (okp:=fun _=>True) ?hr ?hp (fun _ hk=>hk) trivial (Below.refl _ _) (Nat.le_refl _) (by simp) ?_;(case hd=>rfl);(case hg=>rfl);(case hr=>first|(go_simp;done)|(go_simp;rfl));(case hp=>exact(Reps.one (show Kd.M (Kd.int .i64) _ _ _ 0 [.int .i64 0]from rfl) (Reps.none _ _)));intro ola w15 qh hb hg_ hnew_;clear hg_ hnew_;(first|rw[←Ql.out]at qh|(simp only[Int.reduceToNat]at qh;rw[←Ql.out]at qh));replace jC:=Za.mk (Kd.Zdm (nM jC.out) (Kd.Zct qh) hb);replace yn:=Za.mk (Kd.Zdm (nM yn.out) (Kd.Zct qh) hb);have Bd:=Za.mk (Kd.Zbk (Kd.Zf (M:=fun k_=>(w.heap.size≤k_)) qh (Zac (bM HB.out)) (fun k_ h_=>h_)) (Zac (bM HB.out)));replace fT:=Za.mk (kB fT.out hb);replace HB:=Za.mk (bS HB.out hb);clear hb qh)|((with_reducible refine Zao (N:=14) rfl ?_);refine Kd.Zdf (Kd.int .i64) _ 3 ?hg (N:=14) ?hd (xs:=([3]:List Int)) (inner:= [.int .i64 3]) (ok:=fun _=>True) (okp:=fun _=>True) ?hr ?hp (fun _ hk=>hk) trivial (Below.refl _ _) (Nat.le_refl _) (by simp) ?_;(case hd=>rfl);(case hg=>rfl);(case hr=>first|(go_simp;done)|(go_simp;rfl));(case hp=>exact(Reps.one (show Kd.M (Kd.int .i64) _ _ _ 3 [.int .i64 3]from rfl) (Reps.none _ _)));intro oma w17 oQ hb hg_ hnew_;clear hg_ hnew_;(first|rw[←Qm.out]at oQ|(simp only[Int.reduceToNat]at oQ;rw[←Qm.out]at oQ));replace jC:=Za.mk (Kd.Zdm (nM jC.out) (Kd.Zct oQ) hb);replace yn:=Za.mk (Kd.Zdm (nM yn.out) (Kd.Zct oQ) hb);have PN:=Za.mk (Kd.Zbk (Kd.Ze9 (Kd.Zf (M:=fun k_=>(w.heap.size≤k_)) oQ (Zac (bM HB.out)) (fun k_ h_=>h_)) (Kd.R_lt (rM Bd.out))) (Zac (bM HB.out)));replace Bd:=Za.mk (Kd.Zed (rM Bd.out) (Kd.Zct oQ) hb);replace fT:=Za.mk (kB fT.out hb);replace HB:=Za.mk (bS HB.out hb);clear hb oQ;obtain⟨Gt,Gz,boa⟩:=Kd.Zbe PN.out;subst boa;obtain⟨Et,E8,bpa⟩:=Kd.Zbe Bd.out;subst bpa;obtain⟨jV,ja,G7⟩:=Kd.Zcu yn.out;subst G7;obtain⟨nS,nU,vU⟩:=Kd.Zcu jC.out;subst vU;obtain⟨RH,RI,RL,aia,aja,Ri,Rj,Rk,Yg,Yh⟩:=cz5 fT.out))
 refine bodyPost_ret (results_cell_row rfl _ _ eG 28 #[.slice nS ow.length nU,.slice jV sw.length ja,.int .i64 2,.slice Et xX.length E8,.slice Gt ER.length Gz] (0,0) _ rfl (by(with_reducible repeat(first|refine Zag ?_ _|refine Zah ?_|refine Zaa ?_ _));refine Zau (cs:=#[.slice nS ow.length nU,.slice jV sw.length ja,.int .i64 2,.slice Et xX.length E8,.slice none 0 0]) ?_ 4 _ rfl;(with_reducible repeat(first|refine Zag ?_ _|refine Zah ?_|refine Zaa ?_ _));refine Zau (cs:=#[.slice nS ow.length nU,.slice jV sw.length ja,.int .i64 2,.slice none 0 0,.slice none 0 0]) ?_ 3 _ rfl;(with_reducible repeat(first|refine Zag ?_ _|refine Zah ?_|refine Zaa ?_ _));refine Zau (cs:=#[.slice nS ow.length nU,.slice jV sw.length ja,.int .i64 0,.slice none 0 0,.slice none 0 0]) ?_ 2 _ rfl;(with_reducible repeat(first|refine Zag ?_ _|refine Zah ?_|refine Zaa ?_ _));refine Zau (cs:=#[.slice nS ow.length nU,.slice none 0 0,.int .i64 0,.slice none 0 0,.slice none 0 0]) ?_ 1 _ rfl;(with_reducible repeat(first|refine Zag ?_ _|refine Zah ?_|refine Zaa ?_ _));refine Zau (cs:=#[.slice none 0 0,.slice none 0 0,.int .i64 0,.slice none 0 0,.slice none 0 0]) ?_ 0 _ rfl;(with_reducible repeat(first|refine Zag ?_ _|refine Zah ?_|refine Zaa ?_ _));exact fT.out) Tryz.underlying28 rfl (by kernel_rfl)) rfl ?_;exact⟨_,_,_,_,eR,nM (Kd.Zb4 (Kd.Zcg (p:=⟨eG,4,none⟩) (Kd.Zcg (p:=⟨eG,3,none⟩) (Kd.Zcg (p:=⟨eG,2,none⟩) (Kd.Zcg (p:=⟨eG,1,none⟩) (Kd.Zcg (p:=⟨eG,0,none⟩) (Kd.Zb4 jC.out (fun k_ hk=>(⟨hk,hk.1.1.1.1.1.2⟩:_∧k_≠eG))) (fun _ hk=>hk.2) (.slice nS ow.length nU)) (fun _ hk=>hk.2) (.slice jV sw.length ja)) (fun _ hk=>hk.2) (.int .i64 2)) (fun _ hk=>hk.2) (.slice Et xX.length E8)) (fun _ hk=>hk.2) (.slice Gt ER.length Gz)) (fun _ hk=>⟨hk.1.1.1.1.1.1.1,⟨hk.1.1.1.2,⟨hk.1.1.2,hk.1.2⟩⟩⟩)),nM (Kd.Zb4 (Kd.Zcg (p:=⟨eG,4,none⟩) (Kd.Zcg (p:=⟨eG,3,none⟩) (Kd.Zcg (p:=⟨eG,2,none⟩) (Kd.Zcg (p:=⟨eG,1,none⟩) (Kd.Zcg (p:=⟨eG,0,none⟩) (Kd.Zb4 yn.out (fun k_ hk=>(⟨hk,hk.1.1.2.2⟩:_∧k_≠eG))) (fun _ hk=>hk.2) (.slice nS ow.length nU)) (fun _ hk=>hk.2) (.slice jV sw.length ja)) (fun _ hk=>hk.2) (.int .i64 2)) (fun _ hk=>hk.2) (.slice Et xX.length E8)) (fun _ hk=>hk.2) (.slice Gt ER.length Gz)) (fun _ hk=>⟨hk.1.1.1.1,⟨hk.1.1.1.2.1,⟨hk.1.1.2,hk.1.2⟩⟩⟩)),rM (Kd.Za5 (Kd.Zbs (p:=⟨eG,4,none⟩) (Kd.Zbs (p:=⟨eG,3,none⟩) (Kd.Zbs (p:=⟨eG,2,none⟩) (Kd.Zbs (p:=⟨eG,1,none⟩) (Kd.Zbs (p:=⟨eG,0,none⟩) (Kd.Zca Bd.out fT.out (by decide)) (fun _ hk=>hk.2) (.slice nS ow.length nU)) (fun _ hk=>hk.2) (.slice jV sw.length ja)) (fun _ hk=>hk.2) (.int .i64 2)) (fun _ hk=>hk.2) (.slice Et xX.length E8)) (fun _ hk=>hk.2) (.slice Gt ER.length Gz)) (fun _ hk=>⟨hk.1.1.1,hk.1.2⟩)),rM (Kd.Za5 (Kd.Zbs (p:=⟨eG,4,none⟩) (Kd.Zbs (p:=⟨eG,3,none⟩) (Kd.Zbs (p:=⟨eG,2,none⟩) (Kd.Zbs (p:=⟨eG,1,none⟩) (Kd.Zbs (p:=⟨eG,0,none⟩) (Kd.Zca PN.out fT.out (by decide)) (fun _ hk=>hk.2) (.slice nS ow.length nU)) (fun _ hk=>hk.2) (.slice jV sw.length ja)) (fun _ hk=>hk.2) (.int .i64 2)) (fun _ hk=>hk.2) (.slice Et xX.length E8)) (fun _ hk=>hk.2) (.slice Gt ER.length Gz)) (fun _ hk=>⟨hk.1.1.1,hk.1.2⟩)),bM HB.out⟩
end Go.Proofs.YtdpieallpbllkaaGreat.P
/- meaning.all's closure: the iterator. UNDER WAY. -/
namespace Go.Proofs.YtdpieallpbllkaaGreat.P
open Go.RowKit Go.Shelf Go.Proofs.YtdpieallpbllkaaGreatW.PrintWords Go.Proofs.YtdpieallpbllkaaGreatW.PrintLast Go.Proofs.YtdpieallpbllkaaGreatW.PrintMore
attribute [local go_sem] Oper.semAt_some
def KpI (n₀:Nat) (W W':World):Prop:=Below n₀ W W'∧KeepsTy 3 W W'∧KeepsTy 43 W W'
theorem blkC {w:World} {g:Nat} {x:List Int} (h:w.heap[g]? =some (.cells (x.map (Value.int .i64)).toArray 3 (0,0))) (hl:x.length≤9223372036854775807):Kd.C (Kd.int .i64) w (some ⟨g,0,none⟩) x.length x:=by
  refine Kd.Zea (d:=(0:Int)) (h1:=fun _=>rfl) ⟨rfl,hl,fun _=>⟨_,rfl,fun j hj=> ?_⟩⟩;have ea:(⟨g,0,none⟩:Addr).add j=⟨g,j,none⟩:=by cases j<;>simp[Addr.add]
  rw[ea,Zan h j]
  simp[hj,List.getD_eq_getElem?_getD]
def restW (ds:List (List S82)) (m g:Nat) (w:World):Nat:=
  match w.heap[g]? with
  | some (.cells cs _ _) => ((seqV ds m (cs.toList.map intOf)).getD []).length
  |_=>0
theorem ints_back (y:List Int):((y.map (Value.int .i64)).toArray.toList.map intOf)=y:=by
  rw[List.toList_toArray,List.map_map];exact(List.map_congr_left (fun a _=>rfl)).trans (List.map_id y)
theorem restW_at {ds:List (List S82)} {m g:Nat} {w:World} {t:TypeId} {x:List Int} {s:List (List Int)} (h:w.heap[g]? =some (.cells (x.map (Value.int .i64)).toArray t (0,0))) (hs:seqV ds m x=some s):restW ds m g w=s.length:=by
  unfold restW;rw[h]
  show((seqV ds m ((x.map (Value.int .i64)).toArray.toList.map intOf)).getD []).length=_
  rw[ints_back,hs]
  rfl
theorem Zhj {w:World} {g:Nat} {t:TypeId} {cs:Array Value} (h:w.heap[g]? =some (.cells cs t (0,0))) (i:Nat) (u:Value):w.grownBy (w.setCell ⟨g,i,none⟩ u) (some g):=by
  simp only[World.setCell];refine⟨rfl,rfl,rfl,by simp,fun k hk hne=> ?_⟩;have:g≠k:=fun e=>hne (by rw[e])
  simp[Array.getElem?_modify,this]
set_option maxRecDepth 100000 in
theorem mall1_in (n : Nat) (hn : 2 ≤ n) (l Bs : Nat) (w : World) (A : Option Addr) (c : Nat) (ds : List (List S82)) (hr : Kd.C (Kd.slice 82 k82) w A ds.length ds) (hlen : ds.length ≤ 1000000)     (m : Nat) (ys : List (List Int)) (hseq : seqV ds m (startV ds) = some ys) (J Jx : List (List Int) → World → Prop) (W : World) (hW : Below w.heap.size w W) (hBs : W.heap[Bs]? = some (.cells #[.slice A ds.length c] 43 (0, 0)))
    (hY : ∀ pre x W', J pre W' → pre ++ [x] <+: ys → x.length = ds.length → W.heap.size < W'.heap.size → Kd.C (Kd.int .i64) W' (some ⟨W.heap.size, 0, none⟩) x.length x → YieldAt Fence.wide (n - 1) Tryz.prog l #[.slice (some ⟨W.heap.size, 0, none⟩) ds.length ds.length] W' fun e W2 =>
      (e = .returned (.bool true) ∧ J (pre ++ [x]) W2 ∧ KpI w.heap.size W' W2) ∨ (e = .returned (.bool false) ∧ Jx (pre ++ [x]) W2))
    (hJ:∀s W1 W2 row,J s W1→W1.grownBy W2 row→(∀r,row=some r→r=W.heap.size)→J s W2) (h0:J [] W):
    CallsIn Fence.wide n Tryz.prog 82 #[.func (.yield l) #[] #[],.pointer (some ⟨Bs,0,none⟩)] W fun e W'=>(∃v,e= .returned v)∧(J ys W'∨(∃pre,pre<+:ys∧Jx pre W')):=by
  refine callsIn_of_wp Tryz.func82 rfl trivial ?_ rfl;simp only[Tryz.ntmps82,List.size_toArray,List.length_cons,List.length_nil,Nat.reduceAdd,Nat.reduceSub,Array.replicate_succ,Array.replicate_zero,List.push_toArray,List.append_toArray,List.nil_append,List.cons_append];have h1n:1≤n:=by omega
  have f2_:Fence.wide.fn 83:=trivial;have f3_:Fence.wide.fn 84:=trivial;have hz:W.cell? ⟨Bs,0,none⟩=some (.slice A ds.length c):=bc hBs 0;have hne_:Za (Bs≠W.heap.size):=⟨Nat.ne_of_lt (Zc5 hBs)⟩;have HR:=Za.mk hr;have HSQ:=Za.mk hseq;have HY:=Za.mk hY;have HJ:=Za.mk hJ;have H0:=Za.mk h0;clear hr hseq hY hJ h0;obtain⟨i0,hi0,hz0,hsz0,hby0⟩:=info_parts info3;have hmk:=run_makeSlice (P:=Tryz.prog) (w:=W) 24 3 i0 (.int .i64 0) Tryz.underlying24 hi0 hz0 .i64 .i64 (ds.length:Int) (ds.length:Int) (by omega) (Int.le_refl _) (by rw[hsz0];simp;omega) (by rw[hby0];omega) (by omega);simp only[Int.toNat_natCast,hsz0,Nat.mul_one]at hmk;clear hi0 hz0 hsz0 hby0;have hb0:Below w.heap.size w (W.alloc (.cells (madeCells #[.int .i64 0] ds.length) 3)):=hW.alloc hW.size _;have hx1:=Zaa hBs (.cells (madeCells #[.int .i64 0] ds.length) 3);have hz1:(W.alloc (.cells (madeCells #[.int .i64 0] ds.length) 3)).cell? ⟨Bs,0,none⟩=some (.slice A ds.length c):=bc hx1 0;have hJ0:=HJ.out _ _ _ none H0.out (World.grownBy_alloc W (.cells (madeCells #[.int .i64 0] ds.length) 3) none) (fun r e=>by cases e)
  have hbk:(W.alloc (.cells (madeCells #[.int .i64 0] ds.length) 3)).heap[W.heap.size]? =some (.cells ((List.replicate ds.length (0:Int)).map (Value.int .i64)).toArray 3 (0,0)):=by
    rw[World.alloc_heap_new]
    congr 2
    simp only[madeCells];refine Array.ext (by simp) (fun i h1 h2=>by simp[Nat.mod_one])
  gi_wp2
  clear hmk hz hz1
  generalize W.alloc (.cells (madeCells #[.int .i64 0] ds.length) 3)=Wa at hb0 hJ0 hbk hx1 ⊢
  have HB0:=Za.mk hb0;have HJ0:=Za.mk hJ0;have HBK:=Za.mk hbk;have HBS:=Za.mk hx1;clear hb0 hJ0 hbk hBs hx1
  gi_loopw [13] (fun i13 wr => ∃ (k : Nat) (xs : List Int), k ≤ ds.length ∧ i13 = .int .i64 k ∧ Za (xs.length = ds.length ∧ xs.take k = (startV ds).take k) ∧ Za (Below w.heap.size w wr) ∧ Za (wr.heap[W.heap.size]? = some (.cells (xs.map (Value.int .i64)).toArray 3 (0, 0))) ∧ Za (wr.heap[Bs]? = some (.cells #[.slice A ds.length c] 43 (0, 0))) ∧ Za (J [] wr))
    (fun i _=>ds.length - (intOf i).toNat)
  case atStart=>exact⟨0,List.replicate ds.length 0,Nat.zero_le _,rfl,⟨by simp⟩,HB0,HBK,HBS,HJ0⟩
  case round=>
    clear HB0 HJ0 HBK HBS;obtain⟨k,xs,hk,rfl,HX,HB,HBK,HBS,HJ0⟩:=hrel;by_cases hlt:k<ds.length
    · obtain ⟨ad, A5, c5, rfl, hx0, hl0, hi0⟩ := Zft HR.out (k : Int) (by omega) (by omega)
      have hx0:=(HB.out.cell (World.block_lt_of_cell? w _ hx0)).trans hx0;have hzs:wr.cell? ⟨Bs,0,none⟩=some (.slice _ ds.length c):=bc HBS.out 0;simp only[Int.toNat_natCast]at hx0;have HI:=Za.mk (Kd.Zae hi0 HB.out);clear hi0;have cL:=fun W_=>least_in Fence.wide (n - 1) trivial rfl A5 c5 (Zda ds (k:Int)) W_
      have hfz:=Za1 HBK.out k;have hkx:k<xs.length:=by have:=HX.out.1;omega
      have hcz:wr.cell? ⟨W.heap.size,k,none⟩=some (.int .i64 xs[k]):=(Zan HBK.out k).trans (by simp[hkx])
      generalize hy_:(leastV (Zda ds (k:Int))).1=y at cL
      gi_wp2_with (gi_at_call 83;refine(cL _ HI.out).mono ?_;rintro e w' ⟨rfl,rfl⟩)
      go_roundw
      case measure=>simp[intOf];omega
      case rel=>
        have hput:=Zau (cs':=((xs.set k y).map (Value.int .i64)).toArray) HBK.out k (.int .i64 y) (by simp[List.map_set]);refine⟨k+1,xs.set k y,by omega,by first|rfl|go_num,⟨by simp[HX.out.1],?_⟩,?_,⟨hput⟩,⟨Zcr (p:=⟨W.heap.size,k,none⟩) HBS.out hne_.out _⟩,?_⟩
        · have hk2 : k < (startV ds).length := by simpa [startV] using hlt
          have e1:(startV ds)[k]=y:=by rw[←hy_];simp[startV,Zda,List.getD_eq_getElem?_getD,List.getElem?_eq_getElem hlt]
          rw[List.take_succ_eq_append_getElem (by simpa using hkx),List.take_succ_eq_append_getElem hk2,e1,←HX.out.2]
          simp[List.take_set]
          exact List.set_eq_of_length_le (by simp;omega)
        · exact⟨Zbb HB.out hW.size⟩
        exact⟨HJ.out _ _ _ (some W.heap.size) HJ0.out (Zhj HBK.out k _) (fun r e=>by cases e;rfl)⟩
    obtain rfl:k=ds.length:=by omega
    obtain rfl:xs=startV ds:=by
      have e_:=HX.out.2;rw[List.take_of_length_le (by have:=HX.out.1;omega),List.take_of_length_le (by simp[startV])]at e_;exact e_
    gi_wp2
    gi_loopw [] (fun wr => ∃ (pre : List (List Int)) (x : List Int) (rest : List (List Int)), Za (x.length = ds.length) ∧ Za (seqV ds m x = some rest ∧ pre ++ rest = ys) ∧ Za (Below w.heap.size w wr) ∧ Za (wr.heap[W.heap.size]? = some (.cells (x.map (Value.int .i64)).toArray 3 (0, 0))) ∧ Za (wr.heap[Bs]? = some (.cells #[.slice A ds.length c] 43 (0, 0))) ∧ Za (J pre wr))
      (fun wr=>restW ds m W.heap.size wr)
    case atStart=>exact⟨[],startV ds,ys,⟨by simp[startV]⟩,⟨HSQ.out,rfl⟩,HB,HBK,HBS,HJ0⟩
    case round=>
      clear HX HB HBK HBS HJ0;obtain⟨pre,x,rest,HX,HS,HB,HBK,HBS,HJ0⟩:=hrel;have hzs:wr.cell? ⟨Bs,0,none⟩=some (.slice _ ds.length c):=bc HBS.out 0;have hrow:Kd.C (Kd.int .i64) wr (some ⟨W.heap.size,0,none⟩) x.length x:=blkC HBK.out (by have:=HX.out;omega);obtain⟨fn,tmps,assign,body,hy,hR⟩:=HY.out pre x wr HJ0.out (by obtain⟨s_,e_⟩:=seqV_head HS.out.1;exact⟨s_,by rw[List.append_assoc,List.singleton_append,←e_];exact HS.out.2⟩) HX.out (Zc5 HBK.out) hrow
      gi_wp2
      refine hR.mono ?_;rintro e W3 (⟨rfl,hJ3,hk3⟩|⟨rfl,hJx3⟩)
      · clear hR hy hrow
        have HB3:=Za.mk (HB.out.trans hk3.1);have HBK3:=Za.mk (hk3.2.1 _ _ _ HBK.out);have HBS3:=Za.mk (hk3.2.2 _ _ _ HBS.out);have HJ3:=Za.mk hJ3;have hzs3:W3.cell? ⟨Bs,0,none⟩=some (.slice _ ds.length c):=bc HBS3.out 0;clear hzs hJ3 hk3;have HM:Za (restW ds m W.heap.size wr=rest.length):=⟨restW_at HBK.out HS.out.1⟩
        gi_wp2
        gi_loopw [5] (fun i5 wr => ∃ (i : Nat) (y : List Int), i5 = .int .i64 ((i : Int) - 1) ∧ i ≤ ds.length ∧ Za (y.length = ds.length ∧ incR ds ds.length x = incR ds i y) ∧ Za (Below w.heap.size w wr) ∧ Za (wr.heap[W.heap.size]? = some (.cells (y.map (Value.int .i64)).toArray 3 (0, 0))) ∧ Za (wr.heap[Bs]? = some (.cells #[.slice A ds.length c] 43 (0, 0))) ∧ Za (J (pre ++ [x]) wr))
          (fun i5 _=>(intOf i5+1).toNat)
        case atStart=>exact⟨ds.length,x,by first|rfl|simp,Nat.le_refl _,⟨HX.out,rfl⟩,HB3,HBK3,HBS3,HJ3⟩
        case round=>
          clear HB HBK HBS HJ0 HB3 HBK3 HBS3 HJ3 hzs3;obtain⟨i,y,rfl,hi,HY2,HB,HBK,HBS,HJ0⟩:=hrel;have hzs:wr.cell? ⟨Bs,0,none⟩=some (.slice _ ds.length c):=bc HBS.out 0
          cases i with
          |zero=>
            have d1_:decide ((0:Int)≤((0:Nat):Int) - 1)=false:=by decide
            gi_wp2
            refine bodyPost_ret (results_none rfl _ _ _) rfl ?_;have e_:=seqV_last HS.out.1 (by rw[HY2.out.2];rfl);have e2_:=HS.out.2;rw[e_]at e2_;refine⟨⟨_,rfl⟩,.inl ?_⟩;rw[←e2_];exact HJ0.out
          |succ i=>
            rw[show((i+1:Nat):Int) - 1=(i:Int)from by omega];have d1_:decide ((0:Int)≤(i:Int))=true:=decide_eq_true (by omega);have hlt:i<ds.length:=by omega
            obtain⟨ad,A5,c5,rfl,hx0,hl0,hi0⟩:=Zft HR.out (i:Int) (by omega) (by omega);have hx0:=(HB.out.cell (World.block_lt_of_cell? w _ hx0)).trans hx0;simp only[Int.toNat_natCast]at hx0;have HI:=Za.mk (Kd.Zae hi0 HB.out);clear hi0;have hky:i<y.length:=by have:=HY2.out.1;omega
            have hcz:wr.cell? ⟨W.heap.size,i,none⟩=some (.int .i64 y[i]):=(Zan HBK.out i).trans (by simp[hky]);have cN:=fun v_ W_=>next_in Fence.wide (n - 1) trivial rfl A5 c5 (Zda ds (i:Int)) v_ W_
            gi_wp2
            gi_region_with (gi_at_call 84;refine(cN _ _ (Kd.Zci HI.out)).mono ?_;rintro e w' ⟨rfl,hbn⟩)
            all_goals (
              have HBb:=Za.mk hbn;have HB1:Za (Below w.heap.size w w'):=⟨bS HB.out hbn⟩;have HBK1:=Za.mk (kB HBK.out hbn);have HJ1:=Za.mk (HJ.out _ _ _ none HJ0.out (Zfl (⟨hbn.os,hbn.tape,hbn.output,hbn.size,hbn.block⟩:Below wr.heap.size wr w') none) (fun r e=>by cases e));have HBS1:=Za.mk (kB HBS.out hbn);have hzs1:w'.cell? ⟨Bs,0,none⟩=some (.slice _ ds.length c):=bc HBS1.out 0;have hx1:=(Zeh (w:=wr) (⟨hbn.os,hbn.tape,hbn.output,hbn.size,hbn.block⟩:Below wr.heap.size wr w') hx0);have hfz:=Za1 HBK1.out i;have HI1:Za (Kd.C k82 w' A5 (Zda ds (i:Int)).length (Zda ds (i:Int))):=⟨Kd.Zae HI.out (⟨hbn.os,hbn.tape,hbn.output,hbn.size,hbn.block⟩:Below wr.heap.size wr w')⟩;have hin:=HY2.out.2;have egd:ds.getD i []=Zda ds (i:Int):=by simp[Zda]
              have eyd:y.getD i 0=y[i]:=by simp[List.getD_eq_getElem?_getD,List.getElem?_eq_getElem hky]
              rw[incR,egd,eyd]at hin;have kU:w'.cell? ⟨W.heap.size,i,none⟩=some (.int .i64 y[i]):=(Zan HBK1.out i).trans (by simp[hky]);clear hbn hx0 hzs hcz;have HL:=Za.mk HY2.out.1;clear HY2 cN
              generalize hN_:nextV y[i] (Zda ds (i:Int))=Nx at hin ⊢
              clear hN_;obtain⟨nv,nb⟩:=Nx
              cases nb with
              |true=>
                rw[if_pos rfl]at hin;have HIN:=Za.mk hin;clear hin;have hput:=Zau (cs':=((y.set i nv).map (Value.int .i64)).toArray) HBK1.out i (.int .i64 nv) (by simp[List.map_set]);have HPUT:=Za.mk hput;have d2_:decide ((i:Int)<0)=false:=decide_eq_false (by omega);clear hput;obtain⟨s,es,hs⟩:=seqV_next HS.out.1 (by rw[HIN.out]);rw[HIN.out]at hs;have ES:=Za.mk es;have HSS:=Za.mk hs;clear es hs
                gi_wp2
                go_roundw
                case measure=>
                  have e1_:restW ds m W.heap.size (w'.setCell ⟨W.heap.size,i,none⟩ (.int .i64 nv))=s.length:=restW_at HPUT.out HSS.out;have e2_:=ES.out;rw[e1_,HM.out,e2_]
                  simp
                case rel=>
                  refine⟨pre++ [x],y.set i nv,s,⟨by simp[HL.out]⟩,⟨HSS.out,by have e_:=HS.out.2;rw[ES.out]at e_;simpa using e_⟩,⟨Zbb HB1.out hW.size⟩,HPUT,⟨Zcr (p:=⟨W.heap.size,i,none⟩) HBS1.out hne_.out _⟩,⟨HJ.out _ _ _ (some W.heap.size) HJ1.out (Zhj HBK1.out i _) (fun r e=>by cases e;rfl)⟩⟩
              |false=>
                rw[if_neg (by simp)]at hin;have HIN:=Za.mk hin;clear hin;have cL:=fun W_=>least_in Fence.wide (n - 1) trivial rfl A5 c5 (Zda ds (i:Int)) W_
                generalize hy_:(leastV (Zda ds (i:Int))).1=lv at cL HIN
                have hput:=Zau (cs':=((y.set i lv).map (Value.int .i64)).toArray) HBK1.out i (.int .i64 lv) (by simp[List.map_set]);have HPUT:=Za.mk hput;clear hput
                gi_wp2_with (gi_at_call 83;refine(cL _ HI1.out).mono ?_;rintro e w4 ⟨rfl,rfl⟩)
                go_roundw
                case measure=>simp[intOf]
                case rel=>
                  refine ⟨i, y.set i lv, by first | rfl | go_num, by omega, ⟨by simp [HL.out], HIN.out⟩, ⟨Zbb HB1.out hW.size⟩, HPUT, ⟨Zcr (p := ⟨W.heap.size, i, none⟩) HBS1.out hne_.out _⟩, ⟨HJ.out _ _ _ (some W.heap.size) HJ1.out (Zhj HBK1.out i _) (fun r e => by cases e; rfl)⟩⟩)
      gi_wp2
      go_end0
      obtain⟨s,e_⟩:=seqV_head HS.out.1;refine⟨⟨_,rfl⟩,.inr ⟨pre++ [x],⟨s,?_⟩,hJx3⟩⟩;rw[List.append_assoc,List.singleton_append,←e_];exact HS.out.2
theorem mall_in (F : Fence) (n : Nat) (h : F.fn 61) (hro : F.round = none) (A : Option Addr) (len cap : Nat) (w : World) :
    CallsIn F n Tryz.prog 61 #[.slice A len cap] w fun e w'=>e= .returned (.func (.func 82) #[] #[.pointer (some ⟨w.heap.size,0,none⟩)])∧w'=w.alloc (.cells #[.slice A len cap] 43):=by
  refine callsIn_of_wp Tryz.func61 rfl h ?_ hro;simp only[Tryz.ntmps61,List.size_toArray,List.length_cons,List.length_nil,Nat.reduceAdd,Nat.reduceSub,Array.replicate_succ,Array.replicate_zero,List.push_toArray,List.append_toArray,List.nil_append,List.cons_append]
  gi_wp2
  go_ret;exact⟨rfl,rfl⟩
end Go.Proofs.YtdpieallpbllkaaGreat.P
/- A loop over an iterator that yields one row of numbers, changed in place between the rounds: the row lies in the first block that the iterator lays (w.heap.size + 2). -/
namespace Go.Proofs.YtdpieallpbllkaaGreat.P
open Go Go.RowKit Go.Proofs.YtdpieallpbllkaaGreatW.PrintWords
section
variable {F:Fence} {n:Nat} {P:Program}
theorem cell_putObj {W:World} {l:Nat} {o o':Obj} (hl:W.heap[l]? =some o) (ho:o.isCells=false) {a:Addr} {u:Value} (h:W.cell? a=some u):(W.putObj l o').cell? a=some u:=by
  have hne:a.block≠l:=by
    rintro rfl;simp only[World.cell?,hl]at h
    cases o<;>first|(simp[Obj.isCells]at ho;done)|(simp at h;done)|cases h
  have e:(W.putObj l o').heap[a.block]? =W.heap[a.block]? :=World.putObj_heap_other hne;simp only[World.cell?,e]
  simpa only[World.cell?] using h
theorem C_putObj {W:World} {l:Nat} {o o':Obj} (hl:W.heap[l]? =some o) (ho:o.isCells=false) {A:Option Addr} {n:Nat} {xs:List Int} (h:Kd.C (Kd.int .i64) W A n xs):Kd.C (Kd.int .i64) (W.putObj l o') A n xs:=by
  obtain⟨q1,q2,q3⟩:=h;refine⟨q1,q2,fun hne=> ?_⟩;obtain⟨ad,hb,hbb⟩:=q3 hne
  exact ⟨ad, hb, fun j p hj => by
    obtain⟨c,c1,c2,c3⟩:=hbb j p hj
    exact ⟨c, c1, c2, fun i u hu => cell_putObj hl ho (c3 i u hu)⟩⟩
def RowSeq (F:Fence) (n:Nat) (P:Program) (gf:Nat) (lb:Array Value) (m:Nat) (Kp:World→World→Prop) (ys:List (List Int)) (w:World):Prop:=
  ∀ (l : Nat) (J Jx : List (List Int) → World → Prop) (W : World), Below w.heap.size w W →
    (∀ pre x W', J pre W' → pre ++ [x] <+: ys → x.length = m → W.heap.size < W'.heap.size → Kd.C (Kd.int .i64) W' (some ⟨W.heap.size, 0, none⟩) x.length x → YieldAt F (n - 1) P l #[.slice (some ⟨W.heap.size, 0, none⟩) m m] W' fun e W2 =>
      (e = .returned (.bool true) ∧ J (pre ++ [x]) W2 ∧ Kp W' W2) ∨ (e = .returned (.bool false) ∧ Jx (pre ++ [x]) W2)) →
    (∀s W1 W2 row,J s W1→W1.grownBy W2 row→(∀r,row=some r→r=W.heap.size)→J s W2)→J [] W→
    CallsIn F n P gf (#[.func (.yield l) #[] #[]]++lb) W fun e W'=>(∃v,e= .returned v)∧(J ys W'∨(∃pre,pre<+:ys∧Jx pre W'))
theorem Zgb {g : Operand} {ps : Array Tmp} {assign body : Code} {Q : Exit → Act → World → Prop} {a : Act} {w : World}
    (hro:F.round=none) (h1:1≤n) {gf:Nat} {lb:Array Value} (hg:a.eval g= .func (.func gf) #[] lb) (hFg:F.fn gf) (eg:∀args w,(callFunc gf args).run P w= .ok (.enter gf args) w)
    {m:Nat} {Kp:World→World→Prop} {ys:List (List Int)} {w0:World} (hseq:RowSeq F (n - 1) P gf lb m Kp ys w0)
    (hKt:∀ {A B C:World},Kp A B→Kp B C→Kp A C) (hKb:∀(W:World) (l:Nat) (o o':Obj),w.heap.size≤l→W.heap[l]? =some o→o.isCells=false→o.isWalk=false→Kp W (W.putObj l o')) (hb0:Below w0.heap.size w0 w) (hps:1=ps.size)
    (I:List (List Int)→World→Prop) (hI:OwnFrom w.heap.size I) (hIg:∀s W1 W2 row,I s W1→W1.grownBy W2 row→(∀r,row=some r→r=w.heap.size+2)→I s W2) (h0:I [] w) (a₁:Act)
    (hassign : ∀ (l : Nat) (W : World) (K : Act → World → Prop), K a₁ W →
      assign.wpIn (F.inRound l) (n - 1 - 1) P (Exit.then K (fun _ _ _ => False)) { tmps := (ps.zip #[Value.slice (some ⟨w.heap.size + 2, 0, none⟩) m m]).foldl (fun t (p, v) => t.setIfInBounds p v) a.tmps, defers := [] } W)
    (hbody:∀(l:Nat) (pre:List (List Int)) (x:List Int) (W:World),I pre W→pre++ [x]<+:ys→x.length=m→Kd.C (Kd.int .i64) W (some ⟨w.heap.size+2,0,none⟩) x.length x→w.heap.size+2<W.heap.size→body.wpIn (F.inRound l) (n - 1 - 1) P (ownPostG w.heap.size Kp I (fun _ _ _=>False) (pre++ [x]) W) a₁ W)
    (hdone:∀(D:Nat) (W:World),w.heap.size≤D→I ys W→W.heap[D]? =some (.deferred (some []))→Q .normal { a with defers:={ target:= .collected D,args:=#[] } ::a.defers } W):
    (Code.rangeFunc g ps assign body).wpIn F n P Q a w:=by
  refine wpIn_rangeFunc ?_;intro fn hfn;rw[hro];obtain⟨rec,hrec⟩:∃rec:LoopState→Option Code→Loop,rec=fun st pe=>{ state:=st,pending:=pe,fn,tmps:=a.tmps,params:=ps,assign,body,defers:=w.heap.size } :=⟨_,rfl⟩
  obtain⟨W1,hW1⟩:∃W1,(w.alloc (.deferred (some []))).alloc (.loop (rec .ready none))=W1:=⟨_,rfl⟩;have hs1:W1.heap.size=w.heap.size+2:=by rw[←hW1];simp
  have hL1:W1.heap[w.heap.size+1]? =some (.loop (rec .ready none)):=by
    rw[←hW1];have:=World.alloc_heap_new (w.alloc (.deferred (some []))) (.loop (rec .ready none));rwa [World.size_alloc]at this
  have hK1:W1.heap[w.heap.size]? =some (.deferred (some [])):=by
    rw[←hW1];exact(Below.heap_alloc _ _ _ (by simp)).trans (World.alloc_heap_new w _)
  have hI1:I [] W1:=by rw[←hW1];exact hI.alloc _ (hI.alloc _ h0)
  have hb1:Below w0.heap.size w0 W1:=by
    rw[←hW1];exact hb0.trans ((((Below.refl _ w).alloc (Nat.le_refl _) _).alloc (by simp) _).mono hb0.size)
  refine ⟨w.heap.size + 1, [{ target := .collected w.heap.size, args := #[] }], W1, { target := .fn (.func gf) lb, args := #[.func (.yield (w.heap.size + 1)) #[] #[]] }, W1, gf,
    #[.func (.yield (w.heap.size + 1)) #[] #[]] ++ lb, W1, ?_, ?_, ?_, ?_, fun _ => h1, ?_⟩
  · rw[←hW1,hrec];exact run_enterLoop_outer _ _ _ _ _
  · simp only [resolve, hg]
    simp[go_sem]
  · intro f' hf';simp[Target.leads]at hf';subst hf';exact hFg
  · simp[invoke,go_sem,eg]
  have hfar:∀ {A B:World} {row:Option Nat} {j:Nat} {o:Obj},A.grownBy B row→(∀r,row=some r→r=W1.heap.size)→j<w.heap.size+2→A.heap[j]? =some o→B.heap[j]? =some o:=
    fun hg' hr hj ho=>(hg'.block _ (Array.getElem?_eq_some_iff.1 ho).1 (fun e=>by have:=hr _ e.symm;omega)).trans ho
  refine (hseq (w.heap.size + 1)
    (fun pre W=>I pre W∧W.heap[w.heap.size+1]? =some (.loop (rec .ready none))∧W.heap[w.heap.size]? =some (.deferred (some [])))
    (fun pre W=>False)
    W1 hb1 ?_
    (fun s A B row hs hg' hr=>⟨hIg s A B row hs.1 hg' (fun r e=>by rw[←hs1];exact hr r e),hfar hg' hr (by omega) hs.2.1,hfar hg' hr (by omega) hs.2.2⟩)
    ⟨hI1, hL1, hK1⟩).mono ?_
  · rintro pre x W ⟨hi, hl, hk⟩ hpy hxl hga hxr
    rw[hs1]at hxr hga ⊢;have hlt:w.heap.size+1<W.heap.size:=(Array.getElem?_eq_some_iff.1 hl).1;have hy:=run_yield (P:=P) (args:=#[Value.slice (some ⟨w.heap.size+2,0,none⟩) m m]) hl (by rw[hrec];exact hps);rw[hrec]at hy;refine⟨fn,_,assign,body,hy,roundIn_of_wpIn hfn (hassign _ W _ ⟨_,run_beginRound hl (by rw[hrec]),?_⟩)⟩;have hl2:(W.putObj (w.heap.size+1) (.loop { rec .ready none with state:= .busy })).heap[w.heap.size+1]? =some (.loop { rec .ready none with state:= .busy }):=World.putObj_heap_same hlt;have hk2:(W.putObj (w.heap.size+1) (.loop { rec .ready none with state:= .busy })).heap[w.heap.size]? =some (.deferred (some [])):=(World.putObj_heap_other (by omega)).trans hk;have hw2:Kp W (W.putObj (w.heap.size+1) (.loop { rec .ready none with state:= .busy })):=hKb _ _ _ _ (by omega) hl rfl rfl
    have hxr2:Kd.C (Kd.int .i64) (W.putObj (w.heap.size+1) (.loop { rec .ready none with state:= .busy })) (some ⟨w.heap.size+2,0,none⟩) x.length x:=by
      exact C_putObj hl rfl hxr
    refine wpIn_mono (hbody _ pre x _ (hI.putObj _ hi (by omega) hl rfl) hpy hxl hxr2 (Nat.lt_of_lt_of_eq hga (by simp[World.putObj]))) ?_
    have fin : ∀ (W3 : World), KeepsFrom w.heap.size (W.putObj (w.heap.size + 1) (.loop { rec .ready none with state := .busy })) W3 →
        (Instr.endRound (w.heap.size+1) none).run P W3= .ok (.bool true) (W3.putObj (w.heap.size+1) (.loop (rec .ready none)))∧
        W3.heap[w.heap.size+1]? =some (.loop { rec .ready none with state:= .busy })∧
        (W3.putObj (w.heap.size+1) (.loop (rec .ready none))).heap[w.heap.size+1]? =some (.loop (rec .ready none))∧
        (W3.putObj (w.heap.size+1) (.loop (rec .ready none))).heap[w.heap.size]? =some (.deferred (some [])):=fun W3 hk3=>by
      have hl3:=hk3.same _ _ (by omega) hl2 rfl;have:=run_endRound (P:=P) none hl3;rw[hrec]at this ⊢;exact⟨this,by rw[hrec]at hl3;exact hl3,World.putObj_heap_same (Array.getElem?_eq_some_iff.1 hl3).1,(World.putObj_heap_other (by omega)).trans (hk3.same _ _ (Nat.le_refl _) hk2 rfl)⟩
    rintro e a3 W3 hp
    cases e with
    |normal=>
      obtain⟨hk3,hkp3,hi3⟩:=hp;obtain⟨hr,hl3,hl4,hk4⟩:=fin W3 hk3;exact⟨_,_,hr,.inl ⟨rfl,⟨hI.putObj _ hi3 (by omega) hl3 rfl,hl4,hk4⟩,hKt (hKt hw2 hkp3) (hKb _ _ _ _ (by omega) hl3 rfl rfl)⟩⟩
    | ret => exact hp.2.elim
    | exit id => exact hp.2.elim
    | goto t => exact hp.2.elim
    | panic ch => exact hp.elim
    |outgrown=>exact hp.elim
  rintro e W2 ⟨⟨v,rfl⟩,(⟨hi,hl,hk⟩|⟨pre,hSp,h⟩)⟩
  · exact⟨none,_,by have:=run_endLoop (P:=P) hl (by rw[hrec];simp);rw[hrec]at this;exact this,hdone _ _ (Nat.le_refl _) (hI.putObj _ hi (by omega) hl rfl) ((World.putObj_heap_other (by omega)).trans hk)⟩
  exact h.elim
end
theorem mall_row (n : Nat) (hn : 2 ≤ n) (Bs : Nat) (wL w0 : World) (A : Option Addr) (c : Nat) (ds : List (List S82)) (hr : Kd.C (Kd.slice 82 k82) wL A ds.length ds) (hlen : ds.length ≤ 1000000) (hw : Below wL.heap.size wL w0)
    (hBs:w0.heap[Bs]? =some (.cells #[.slice A ds.length c] 43 (0,0))) (m:Nat) (ys:List (List Int)) (hseq:seqV ds m (startV ds)=some ys):
    RowSeq Fence.wide n Tryz.prog 82 #[.pointer (some ⟨Bs,0,none⟩)] ds.length (KpI wL.heap.size) ys w0:=fun l J Jx W hW hY hJ h0=>
  mall1_in n hn l Bs wL A c ds hr hlen m ys hseq J Jx W (hw.trans (hW.mono hw.size)) ((hW.block _ (Array.getElem?_eq_some_iff.1 hBs).1).trans hBs) hY hJ h0
end Go.Proofs.YtdpieallpbllkaaGreat.P
/- slices.Clone of whole numbers. -/
namespace Go.Proofs.YtdpieallpbllkaaGreat.P
open Go.RowKit Go.Proofs.YtdpieallpbllkaaGreatW.PrintWords Go.Proofs.YtdpieallpbllkaaGreatW.PrintLast Go.Proofs.YtdpieallpbllkaaGreatW.PrintMore
def cloneI.f (l0:List Int):Option (List Int):=if l0.length<17592186044416 then some l0 else none
set_option maxRecDepth 100000 in
theorem cloneI.calls (A0 : Option Addr) (c0 : Nat) (l0 : List Int) (r : List Int) (w : World) (hr0 : Kd.C (Kd.int .i64) w A0 l0.length l0) (hc0 : l0.length ≤ c0) (h : cloneI.f l0 = some r) :
    Calls Tryz.prog 62 #[.slice A0 l0.length c0] w fun e w'=>∃v0_:Value,e= .returned (v0_)∧Kd.R (Kd.int .i64) 3 w' w.heap.size (fun _=>True) v0_ r∧Below w.heap.size w w':=by
  have hu:=Tryz.underlying3;have q22:∀(w:World) (a:Option Addr) (n c n' c':Nat),(binOp .eql 24 (.slice a n c) (.slice none n' c')).run Tryz.prog w= .ok (.bool a.isNone) w:=fun w a n c n' c'=>Lib.run_eql_slice_nil w _ _ a n c n' c' Tryz.underlying24
  unfold cloneI.f at h
  split at h
  case isFalse=>cases h
  case isTrue hl=>
    obtain rfl:=Option.some.inj h;have HL:=Za.mk hl;clear h hl;have HR:=Za.mk hr0;have hlen:l0.length≤9223372036854775807:=hr0.2.1
    cases A0 with
    |none=>
      have h0:l0= []:=by
        rcases Nat.eq_zero_or_pos l0.length with h|h
        · exact List.length_eq_zero_iff.1 h
        obtain⟨ad,e,_⟩:=hr0.2.2 h;cases e
      subst h0;clear hr0;go_enter Tryz.func62,Tryz.ntmps62;go_wp2;go_ret;exact⟨_,rfl,Kd.R_nil _ _ _ _ _,Below.refl _ _⟩
    |some ad=>
      clear hr0;have HB:=Za.mk (Below.refl w.heap.size w);go_enter Tryz.func62,Tryz.ntmps62
      go_wp2_with (first|((with_reducible refine Zao (N:=5) rfl ?_);refine Kd.Zdf (Kd.int .i64) _ 3 ?hg (N:=5) ?hd (xs:=([]:List Int)) (inner:= []) (ok:=fun _=>True) (okp:=fun _=>True) ?hr ?hp (fun _ hk=>hk) trivial (Below.refl w.heap.size w) (Nat.le_refl _) (by simp) ?_;(case hd=>rfl);(case hg=>rfl);(case hr=>first|(go_simp;done)|(go_simp;rfl));(case hp=>exact(Reps.none _ _));intro v1 w1 ho hb hg_ hnew_;have HO:=Za.mk ho;have HB:=Za.mk hb;clear ho hb hg_ hnew_)|((with_reducible refine Zbl (b:= .append) (xs:=#[.tmp 5,.tmp 6]) rfl ?_);at_builtin;go_loud (refine Kd.Zc9 (Kd.int .i64) (Rr:=(Kd.int .i64).K w1) (w0:=w) w.heap.size rfl (.tmp 5) (.tmp 6) 24 3 (.int .i64 0) 8 rfl Tryz.underlying24 info3 rfl (by decide) (by omega) v1 ([]:List Int) l0 _ _ _ (fun _=>True) (fun _=>False) rfl rfl ?aO ?aR ?aK (fun _ h=>h.elim) ?aF ?aB ?aS ?aL ?_;(case aR=>exact Kd.Zae HR.out HB.out);(case aK=>intro x cs h;have e_:=h;subst e_;rfl);(case aB=>exact HB.out);(case aF=>exact(fun _ _=>trivial));(case aO=>exact HO.out);(case aS=>exact HB.out.size);(case aL=>have:=HL.out;simp;omega);intro v2 w2 ho2 hb2 hg hat;have HO2:=Za.mk ho2;have HB2:=Za.mk hb2;clear ho2 hb2 hg hat)))
      go_ret;exact⟨_,rfl,by simpa using HO2.out,HB2.out⟩
end Go.Proofs.YtdpieallpbllkaaGreat.P
/- meaning.All: its plain words; what it keeps of the lists that solve, between two rounds. -/
namespace Go.Proofs.YtdpieallpbllkaaGreat.P
open Go Go.RowKit Go.Shelf Go.Proofs.YtdpieallpbllkaaGreatW.PrintWords Go.Proofs.YtdpieallpbllkaaGreatW.PrintLast Go.Proofs.YtdpieallpbllkaaGreatW.PrintMore
def bigV (k : Nat) : List (List S82) → Int → Option Bool
  | [], _ => some false
  |d::ds,n=>(Zcl.f k d).bind fun s=>if wrap64 (n*s)>65536 then some true else bigV k ds (wrap64 (n*s))
theorem bigV_mono : ∀ ds n k, LeO (bigV k ds n) (bigV (k + 1) ds n)
  | [], n, k => LeO.refl _
  |d::ds,n,k=>by
    unfold bigV;exact LeO.bind (Zcl.mono _ _) (fun s=>LeO.ite (LeO.refl _) (bigV_mono ds _ k))
def solF (k:Nat) (vars:List S55) (cons:List S36) (gk:Int) (gv gc a:List Int):Option Bool:=Za2.f k vars cons gk gv gc a
def selF (k:Nat) (vars:List S55) (cons:List S36) (gk:Int) (gv gc a:List Int):Bool:=decide (solF k vars cons gk gv gc a=some true)
def solL (k:Nat) (vars:List S55) (cons:List S36) (gk:Int) (gv gc:List Int) (ys:List (List Int)):Option (List (List Int)):=
  if ys.all (fun a=>(solF k vars cons gk gv gc a).isSome)=true then some (ys.filter (selF k vars cons gk gv gc))else none
theorem solL_mono (vars:List S55) (cons:List S36) (gk:Int) (gv gc:List Int) (ys:List (List Int)) (k:Nat):LeO (solL k vars cons gk gv gc ys) (solL (k+1) vars cons gk gv gc ys):=by
  intro r h;unfold solL at h;by_cases q:ys.all (fun a=>(solF k vars cons gk gv gc a).isSome)=true;rotate_left
  · rw [if_neg q] at h
    cases h
  rw[if_pos q]at h;have hm:∀a b,solF k vars cons gk gv gc a=some b→solF (k+1) vars cons gk gv gc a=some b:=fun a b h_=>Za2.mono _ _ _ _ _ _ _ _ h_
  have q2:=List.all_eq_true.1 q;unfold solL;rw[if_pos]
  · rw [← h]
    congr 1
    refine List.filter_congr (fun a ha=> ?_);obtain⟨b,hb⟩:=Option.isSome_iff_exists.1 (q2 a ha);unfold selF;rw[hb,hm a b hb]
  rw[List.all_eq_true];intro a ha;obtain⟨b,hb⟩:=Option.isSome_iff_exists.1 (q2 a ha);rw[hm a b hb]
  rfl
def Zcj.f (k:Nat) (vars:List S55) (cons:List S36) (gk:Int) (gv gc:List Int):Option (List (List Int) × Int):=
  (Zdp.f k vars cons gk gv gc).bind fun e=>if e=0 then((Zb5.f k vars cons gk gv gc).bind fun ds=>if ds.length≤1000000 then((bigV k ds 1).bind fun b=>if b=true then some ([],2)else((seqV ds 70000 (startV ds)).bind fun ys=>(solL k vars cons gk gv gc ys).bind fun l=>some (l,0)))else none)else some ([],e)
theorem Zcj.mono:∀a0 a1 a2 a3 a4 k,LeO (Zcj.f k a0 a1 a2 a3 a4) (Zcj.f (k+1) a0 a1 a2 a3 a4):=by
  intro a0 a1 a2 a3 a4 k;unfold Zcj.f;refine LeO.bind (Zdp.mono _ _ _ _ _ _) (fun e=>LeO.ite (LeO.bind (Zb5.mono _ _ _ _ _ _) (fun ds=>LeO.ite (LeO.bind (bigV_mono _ _ _) (fun b=>LeO.ite (LeO.refl _) (LeO.bind (LeO.refl _) (fun ys=>LeO.bind (solL_mono _ _ _ _ _ _ _) (fun _=>LeO.refl _))))) (LeO.none _))) (LeO.refl _))
theorem seqV_len {ds : List (List S82)} : ∀ {m : Nat} {a : List Int} {r : List (List Int)}, seqV ds m a = some r → r.length ≤ m
  | 0, _, _, h => by cases h
  |m+1,a,r,h=>by
    rw[seqV]at h
    split at h
    · cases e:seqV ds m (incR ds ds.length a).1 with
      | none => rw [e] at h; cases h
      |some s=>
        rw[e]at h;obtain rfl:=Option.some.inj h;have:=seqV_len e
        simp;omega
    obtain rfl:=Option.some.inj h
    simp
def OutI (wL:World) (g:Nat) (sel:List Int→Bool) (pre:List (List Int)) (W:World):Prop:=
  ∃v,W.heap[wL.heap.size]? =some (.cells #[v] 34 (0,0))∧Kd.S (Kd.slice 3 (Kd.int .i64)) 24 W wL.heap.size (fun k=>k≠g) v (pre.filter sel)∧Below wL.heap.size wL W
theorem Zh3 {α:Type} {d:Kd α} {e base:Nat} {ok:Nat→Prop} {v:Value} {xs:List α} {W W':World} {row:Option Nat} (h:Kd.S d e W base ok v xs) (hg:W.grownBy W' row) (hr:∀r,row=some r→∃o:Obj,W.heap[r]? =some o∧o.isCells=false):Kd.S d e W' base ok v xs:=by
  refine Kd.Zd7 (Kd.S_move (Kd.Ze6 h) (fun k hk=> ?_)) (fun _ hk=>hk.1);obtain⟨_,_,hlt,q,_,cells,hc⟩:=hk;refine hg.block k hlt (fun e_=> ?_);obtain⟨o,ho,hn⟩:=hr k e_.symm;rw[hc]at ho;obtain rfl:=Option.some.inj ho
  simp[Obj.isCells]at hn
theorem OutI.own {wL:World} {g:Nat} {sel:List Int→Bool} {B:Nat} (hB:wL.heap.size≤B):OwnFrom B (OutI wL g sel):=by
  rintro s W W' row ⟨v,h1,h2,h3⟩ hg hr;refine⟨v,(hg.block _ (Array.getElem?_eq_some_iff.1 h1).1 (fun e_=> ?_)).trans h1,Zh3 h2 hg (fun r e=>(hr r e).2),h3.grown hg h3.size (fun k e=>Nat.le_trans hB (hr k e).1)⟩;obtain⟨_,o,ho,hn⟩:=hr _ e_.symm;rw[h1]at ho;obtain rfl:=Option.some.inj ho
  simp[Obj.isCells]at hn
theorem OutI.row {wL:World} {g:Nat} {sel:List Int→Bool} (hg0:wL.heap.size<g) (s:List (List Int)) (W1 W2:World) (row:Option Nat) (h:OutI wL g sel s W1) (hg:W1.grownBy W2 row) (hr:∀r,row=some r→r=g):OutI wL g sel s W2:=by
  obtain⟨v,h1,h2,h3⟩:=h;exact⟨v,(hg.block _ (Array.getElem?_eq_some_iff.1 h1).1 (fun e_=>by have:=hr _ e_.symm;omega)).trans h1,Kd.S_grown h2 hg (fun k hk e_=>hk (hr _ e_.symm)),h3.grown hg h3.size (fun k e=>by have:=hr k e;omega)⟩
theorem OutI.skip {wL:World} {g:Nat} {sel:List Int→Bool} {pre:List (List Int)} {x:List Int} {W W':World} (h:OutI wL g sel pre W) (hb:Below W.heap.size W W') (hx:sel x=false):OutI wL g sel (pre++ [x]) W':=by
  obtain⟨v,h1,h2,h3⟩:=h;refine⟨v,(hb.block _ (Array.getElem?_eq_some_iff.1 h1).1).trans h1,?_,h3.trans (hb.mono h3.size)⟩;rw[List.filter_append,show [x].filter sel= [] by simp[hx],List.append_nil];exact Kd.Ze0 h2 hb
theorem body_skip {B n0:Nat} {W W':World} (hb:Below W.heap.size W W') (hn:n0≤W.heap.size):KeepsFrom B W W'∧KpI n0 W W':=
  ⟨⟨hb.size,fun k o _ ho _=>(hb.block k (Array.getElem?_eq_some_iff.1 ho).1).trans ho⟩,hb.mono hn,fun k cs fr h=>(hb.block k (Array.getElem?_eq_some_iff.1 h).1).trans h,fun k cs fr h=>(hb.block k (Array.getElem?_eq_some_iff.1 h).1).trans h⟩
theorem Zfy {B g : Nat} {sel : List Int → Bool} {pre : List (List Int)} {x : List Int} {wL W W2 w4 : World} {v v1 : Value} (hg0 : wL.heap.size < g) (h1 : W.heap[wL.heap.size]? = some (.cells #[v] 34 (0, 0))) (h2 : Kd.S (Kd.slice 3 (Kd.int .i64)) 24 W wL.heap.size (fun k => k ≠ g) v (pre.filter sel)) (h3 : Below wL.heap.size wL W)
    (hb:Below W.heap.size W W2) (hg:W2.grownBy w4 v.ownBlock) (hS:Kd.S (Kd.slice 3 (Kd.int .i64)) 24 w4 wL.heap.size (fun k=>k≠g) v1 (pre.filter sel++ [x])) (hx:sel x=true):
    KeepsFrom B W (w4.setCell ⟨wL.heap.size,0,none⟩ v1)∧KpI wL.heap.size W (w4.setCell ⟨wL.heap.size,0,none⟩ v1)∧OutI wL g sel (pre++ [x]) (w4.setCell ⟨wL.heap.size,0,none⟩ v1):=by
  have hty:=Kd.Ze h2
  have hne:some wL.heap.size≠v.ownBlock:=fun e=>by
    obtain⟨cells,hc⟩:=hty _ e.symm;rw[h1]at hc
    simp at hc
  have h14:w4.heap[wL.heap.size]? =some (.cells #[v] 34 (0,0)):=Ze1 ((hb.block _ (Array.getElem?_eq_some_iff.1 h1).1).trans h1) hg hne;have hsz:W.heap.size≤w4.heap.size:=Nat.le_trans hb.size hg.size;have hsc:(w4.setCell ⟨wL.heap.size,0,none⟩ v1).heap.size=w4.heap.size:=by simp[World.setCell]
  have keep:∀k,k<W.heap.size→k≠wL.heap.size→some k≠v.ownBlock→(w4.setCell ⟨wL.heap.size,0,none⟩ v1).heap[k]? =W.heap[k]? :=fun k hk hk1 hk2=>
    (Below.heap_setCell w4 ⟨wL.heap.size,0,none⟩ v1 k hk1).trans ((hg.block k (Nat.lt_of_lt_of_le hk hb.size) hk2).trans (hb.block k hk))
  have hbase:=Kd.Zev h2
  have hB2:Below wL.heap.size W (w4.setCell ⟨wL.heap.size,0,none⟩ v1):=by
    refine⟨hg.os.trans hb.os,hg.tape.trans hb.tape,hg.output.trans hb.output,by rw[hsc];exact hsz,fun k hk=> ?_⟩;exact keep k (Nat.lt_of_lt_of_le hk h3.size) (by omega) (fun e=>by have:=hbase k e.symm;omega)
  refine⟨⟨by rw[hsc];exact hsz,fun k o _ ho hc=> ?_⟩,⟨hB2,fun k cs fr h=> ?_,fun k cs fr h=> ?_⟩,⟨v1,Zau h14 0 v1 rfl,?_,h3.trans hB2⟩⟩
  · refine (keep k (Array.getElem?_eq_some_iff.1 ho).1 (fun e => ?_) (fun e => ?_)).trans ho
    · subst e
      rw[h1]at ho;obtain rfl:=Option.some.inj ho
      simp[Obj.isCells]at hc
    obtain⟨cells,hc2⟩:=hty _ e.symm;rw[hc2]at ho;obtain rfl:=Option.some.inj ho
    simp[Obj.isCells]at hc
  · refine (keep k (Array.getElem?_eq_some_iff.1 h).1 (fun e => ?_) (fun e => ?_)).trans h
    · subst e
      rw[h1]at h
      simp at h
    obtain⟨cells,hc2⟩:=hty _ e.symm;rw[hc2]at h
    simp at h
  · refine (keep k (Array.getElem?_eq_some_iff.1 h).1 (fun e => ?_) (fun e => ?_)).trans h
    · subst e
      rw[h1]at h
      simp at h
    obtain⟨cells,hc2⟩:=hty _ e.symm;rw[hc2]at h
    simp at h
  rw[List.filter_append,show [x].filter sel= [x] by simp[hx]];exact Kd.S_set hS h14 (by decide) 0 v1
theorem Zgk {g : Nat} {x : List Int} {wL W wa w7 : World} {v v7 : Value} {xs : List (List Int)} (hga : g < W.heap.size) (h2 : Kd.S (Kd.slice 3 (Kd.int .i64)) 24 W wL.heap.size (fun k => k ≠ g) v xs) (h3 : Below wL.heap.size wL W) (hb : Below W.heap.size W wa)
    (ho:Kd.R (Kd.int .i64) 3 w7 wa.heap.size (fun _=>True) v7 x) (hb7:Below wa.heap.size wa w7):
    (Kd.slice 3 (Kd.int .i64)).M w7 wL.heap.size (fun k=>some k=v7.ownBlock) x [v7]∧(∀k,some k=v7.ownBlock→k≠g∧some k≠v.ownBlock)∧(∀k,w7.heap.size≤k→k≠g)∧Kd.S (Kd.slice 3 (Kd.int .i64)) 24 w7 wL.heap.size (fun k=>k≠g∧¬some k=v7.ownBlock) v xs∧Below wL.heap.size wL w7∧wL.heap.size≤w7.heap.size∧Below W.heap.size W w7:=by
  have hs:=hb.size;have hs7:=hb7.size;have hs3:=h3.size;have hW7:Below W.heap.size W w7:=Zad hb hb7;refine⟨⟨v7,rfl,Kd.Zgf rfl (Kd.Zbk ho (by omega))⟩,fun k hk=>⟨fun e=> ?_,fun e=> ?_⟩,fun k hk e=>by omega,?_,h3.trans (hW7.mono hs3),by omega,hW7⟩
  · have := Kd.Zct ho k hk.symm
    omega
  · have h1_ := Kd.Zct ho k hk.symm
    have h2_:=Kd.S_lt h2 k e.symm
    omega
  refine Kd.Zd7 (Kd.S_old h2 hW7) (fun k hk=>⟨hk.1,fun e=> ?_⟩);have h1_:=Kd.Zct ho k e.symm;have h2_:=hk.2
  omega
section
variable {F:Fence} {n:Nat} {P:Program} {ops:Array Oper} {o:Oper} {a:Act} {Q:Exit→Act→World→Prop} {Kc:Act→World→Prop} {α:Type}
open Classical in
theorem Zef (d : Kd α) {w0 W : World} (base : Nat) (hw : Region.wanted o (yielded ops a.tmps) = true) (s x : Operand) (t e : TypeId) (z : Value) (bytes : Nat)
    (ho:o.op= .call { callee:= .builtin .append,args:=#[s,x],argTypes:=#[t,t] })
    (ht:P.underlying t=some (.slice e)) (hinfo:(P.info? e).map (fun i=>(i.zero,i.size,i.bytes))=some (some z,d.sz,bytes)) (hz:z.cells.size=d.sz) (hs0:0<d.sz) (hb0:0<bytes)
    (v:Value) (xs:List α) (p:α) (cs:List Value) (ok okp:Nat→Prop) (hs:a.eval s=v) (hx:a.eval x= .slice (some ⟨W.heap.size,0,none⟩) 1 1) (hp:d.M W base okp p cs) (hokp:∀k,okp k→ok k∧some k≠v.ownBlock) (hfresh:∀k,W.heap.size≤k→ok k)
    (HO:Kd.S d e W base (fun k=>ok k∧¬okp k) v xs) (HB:Below base w0 W) (hbase:base≤W.heap.size) (hl:(xs.length+1)*bytes≤140737488355328)
    (h:∀v1 w1,Kd.S d e w1 base ok v1 (xs++ [p])→W.grownBy w1 v.ownBlock→Kc (a.put o.dst v1) w1):
    if Region.wanted o (yielded ops a.tmps)=true then Oper.wpIn F n P o a (W.alloc (.cells cs.toArray e)) Kc Q else(∀f,o.about P (W.alloc (.cells cs.toArray e)) a.eval=some f→F.fn f)∧Kc (a.put o.dst undef) (W.alloc (.cells cs.toArray e)):=by
  obtain⟨f,hf,hR⟩:=Kd.S_tag HO xs.length okp (fun _ hk h2=>h2.2 hk);have hp':(Kd.tag f d).M W base okp (p,xs.length) cs:=d.M_mono (fun k hk=>⟨hk,hf k hk⟩) hp;have hR':=Kd.Za5 hR (fun k (hk:ok k∧¬okp k)=>hk.1);obtain⟨h0,inner,hown,hr⟩:=hR';obtain⟨i0,hi,hzz⟩:=Option.map_eq_some_iff.1 hinfo;simp only[Prod.mk.injEq]at hzz;obtain⟨hz0,hz1,hz2⟩:=hzz;rw[List.length_zipIdx]at hown;have hlen:xs.length+1≤140737488355328:=Nat.le_trans (Nat.le_mul_of_pos_right _ hb0) hl;rw[if_pos hw]
  obtain ⟨v1, w1, hrun, hown1, hg, _, hat⟩ := run_append_own_at (P := P) (W.alloc (.cells cs.toArray e)) base t o.type e i0 z d.sz bytes ht hi hz0 hz1 hz2 hz hs0 v xs.length inner (hown.alloc _) ⟨W.heap.size, 0, none⟩ 1 1 cs (by rw [d.K_len (d.K_of_M hp)]; simp)
    (by simpa using World.news_of_block (cs:=cs.toArray) (t:=e) (fr:=(0,0)) (World.alloc_heap_new W (.cells cs.toArray e))) (d.K_one (d.K_of_M hp)) (by simp only[maxLen];omega) hl (by simp;omega)
  have hg2:W.grownBy w1 v.ownBlock:=World.grownBy.trans (World.grownBy_alloc W _ _) hg
  have hat2:v1.ownBlock=v.ownBlock∨∃b,v1.ownBlock=some b∧W.heap.size≤b:=by
    rcases hat with hat|hat
    · exact .inl hat
    exact .inr ⟨_,hat,by simp⟩
  have hS:Kd.S d e w1 base ok v1 (xs++ [p]):=by
    have:=Kd.Zge (d:=Kd.tag f d) (xs:=xs.zipIdx) (p:=(p,xs.length)) h0 hr hp' hokp hfresh (by rw[List.length_zipIdx];exact hown1) hg2 hat2;rw[←Kd.zip_snoc]at this;exact⟨f,this⟩
  unfold Oper.wpIn;refine⟨?_,?_⟩
  · simp[Oper.about,ho,resolve,Target.leads,Sem.run_pure]
  rw[Oper.semAt_plain F _ _ (by rw[ho];intro c hc';cases hc')]
  simp[execOp,ho,resolve,invoke,builtin,hs,hx,hrun,Result.andThen]
  exact h v1 w1 hS hg2
end
end Go.Proofs.YtdpieallpbllkaaGreat.P
