/- Proved: what each function of the program that the statements of this seat reach comes to, for whatever memory and arguments it is called with (on condition that its plain text tells a result). -/
import Derived.Test.YtdpieallpbllkaaGreatZ1
import Derived.Test.YtdpieallpbllkaaGreatZ4
import Derived.Test.YtdpieallpbllkaaGreatZ2
import Derived.Test.YtdpieallpbllkaaGreatZ3
import Derived.Laws.MakeOwn
import Derived.Stop.RegionWithIn
import Derived.Lib.SliceRun
set_option linter.unusedSimpArgs false
set_option linter.unusedVariables false
set_option maxHeartbeats 8000000
namespace Go.Proofs.YtdpieallpbllkaaGreat.P
open Go.RowKit Go.Proofs.YtdpieallpbllkaaGreatW.PrintWords Go.Proofs.YtdpieallpbllkaaGreatW.PrintLast Go.Proofs.YtdpieallpbllkaaGreatW.PrintMore
attribute [local go_sem] Zcw Zcy Zdg Zdh Zco Zcp Zcx Zcz
mutual
def Zaw.j0 : Nat → List (List (S82)) → Bool → Int → List Int → List Int → Int → Int → List (List Int) → Int → Option (Int)
 | 0, _, _, _, _, _, _, _, _, _ => none
 |k+1,x0,x14,wD,wE,rX,wF,rY,wG,wH=>if x14=true then(some 44)else((Zdl.f k wD wE rX wF rY wG wH).bind fun l8=>(Zaw.l0 k x0 l8 0 wD wE rX wF rY wG wH))
def Zaw.l0 : Nat → List (List (S82)) → List Int → Int → Int → List Int → List Int → Int → Int → List (List Int) → Int → Option (Int)
 | 0, _, _, _, _, _, _, _, _, _, _ => none
 |k+1,x0,x5,x6,wD,wE,rX,wF,rY,wG,wH=>if x6<(x5.length:Int)then(if 0≤x6 then(if(rd x5 x6)<0 then(some 43)else(if(rd x5 x6)≥(x0.length:Int)then(some 43)else(Zaw.l0 k x0 x5 (wrap64 (x6+1)) wD wE rX wF rY wG wH)))else(none))else((Zaq.f k x0 wD wE rX wF rY wG wH).bind fun Pw=>(if Pw=true then((Zax.f k rX rY).bind fun Px=>(if Px=true then(some 45)else(some 0)))else(some 44)))
end
def Zaw.f (k:Nat) (l0:List (List (S82))) (aC:Int) (aA:List Int) (aJ:List Int) (di:Int) (dn:Int) (bu:List (List Int)) (cz:Int):Option (Int):=if aC<0 then(Zaw.j0 k l0 true aC aA aJ di dn bu cz)else(Zaw.j0 k l0 (decide (aC>6)) aC aA aJ di dn bu cz)
set_option maxRecDepth 100000 in
theorem Zaw.calls (k : Nat) (A0 : Option Addr) (c0 : Nat) (l0 : List (List (S82))) (aC : Int) (fO : Option Addr) (fQ : Nat) (aA : List Int) (fH : Option Addr) (fI : Nat) (aJ : List Int) (di : Int) (dn : Int) (j6 : Option Addr) (jB : Nat) (bu : List (List Int)) (cz : Int) (r : Int) (w : World) (hr0 : Kd.C (Kd.slice 82 k82) w A0 l0.length l0) (hc0 : l0.length ≤ c0) (mK : Kd.C (Kd.int .i64) w fO aA.length aA) (mH : aA.length ≤ fQ) (mM : Kd.C (Kd.int .i64) w fH aJ.length aJ) (mI : aJ.length ≤ fI) (ut : Kd.C (Kd.slice 3 (Kd.int .i64)) w j6 bu.length bu) (uq : bu.length ≤ jB) (h : Zaw.f k l0 aC aA aJ di dn bu cz = some r) :
  Calls Tryz.prog 55 #[.slice A0 l0.length c0,.agg #[.int .i64 aC,.slice fO aA.length fQ,.slice fH aJ.length fI,.int .i64 di,.int .i64 dn,.slice j6 bu.length jB,.int .i64 cz]] w fun e w'=>e= .returned (.int .i64 r)∧Below w.heap.size w w':=by
 have hu36:=Tryz.underlying36;have HR0:=Za.mk hr0;have HC0:=Za.mk hc0;clear hr0 hc0;have gL:=Za.mk mK;have iN:=Za.mk mH;clear mK mH;have gz:=Za.mk mM;have iO:=Za.mk mI;clear mM mI;have jP:=Za.mk ut;have jM:=Za.mk uq;clear ut uq;have HB:=Za.mk (Below.refl w.heap.size w);have H:(if aC<0 then(Zaw.j0 k l0 true aC aA aJ di dn bu cz)else(Zaw.j0 k l0 (decide (aC>6)) aC aA aJ di dn bu cz))=some r:=h;clear h;have HC3:=Za.mk H;clear H;go_enter Tryz.func55,Tryz.ntmps55
 go_upto_region 1 with (first|((with_reducible refine Zar (N:=3) rfl ?_);(try(refine Zb2 (by rfl) ?_;dsimp only));refine bx 3 #[.int .i64 aC,.slice fO aA.length fQ,.slice fH aJ.length fI,.int .i64 di,.int .i64 dn,.slice j6 bu.length jB,.int .i64 cz] 36 ?_;intro Mc hg w4 hbox hb;have iU:=Za.mk (hbox);have f4a:=Za.mk ((gE hg HB.out:w.heap.size≤Mc));replace HB:=Za.mk (bS HB.out hb);clear hb hbox hg))
 (try simp only[Act.put,List.setIfInBounds_toArray,List.set_cons_zero,List.set_cons_succ])
 go_cut [14] (fun v14 wc=>∃(kq:Nat) (FX:Bool),v14= .bool FX∧Za (Zaw.j0 kq l0 FX aC aA aJ di dn bu cz=some r)∧Za (kq≤k)∧Za (wc.heap[Mc]? =some (.cells #[.int .i64 aC,(.slice fO aA.length fQ),(.slice fH aJ.length fI),.int .i64 di,.int .i64 dn,(.slice j6 bu.length jB),.int .i64 cz] 36 (0,0)))∧Za (Below w.heap.size w wc))
 case first=>
  have H:=HC3.out;clear HC3;by_cases c5:aC<0
  case neg=>
   rw[if_neg c5]at H;have dw:decide (aC<0)=false:=decide_eq_false c5;clear c5
   (first|rw[dw]|(simp only[Zd5,Zeo];rw[dw])|skip)
   have H':=Za.mk H;clear H;obtain⟨qY,rf,xW,Bi,Bj,Bl,Bn,qW,qX,xI,Bb,Bc,Bd,Be⟩:=cz7 iU.out;go_wp2
   go_meet
   case rel=>exact⟨_,(decide (aC>6)),eS,H',⟨by first|omega|exact Nat.le_refl _⟩,⟨kM iU.out⟩,⟨bM HB.out⟩⟩
  rw[if_pos c5]at H;have dw:decide (aC<0)=true:=decide_eq_true c5;clear c5
  (first|rw[dw]|(simp only[Zd5,Zeo];rw[dw])|skip)
  have H':=Za.mk H;clear H;obtain⟨kY,lc,lG,oo,oq,Fy,Fz,kW,kX,lF,ol,om,Fw,Fx⟩:=cz7 iU.out;go_wp2
  go_meet
  case rel=>exact⟨_,(true),eS,H',⟨by first|omega|exact Nat.le_refl _⟩,⟨kM iU.out⟩,⟨bM HB.out⟩⟩
 case rest=>
  clear HC3;try clear c1
  try clear p2
  try clear c5
  try clear dw
  try clear kY lc lG oo oq Fy Fz kW kX lF ol om Fw Fx
  try clear qY rf xW Bi Bj Bl Bn qW qX xI Bb Bc Bd Be
  obtain⟨kq,FX,rfl,HA,HJ2,iU,HB⟩:=hcut
  cases kq with
  | zero => exact absurd HA.out (by simp [Zaw.j0])
  |succ kj2=>
   have H:=HA.out;clear HA;simp only[Zaw.j0]at H;by_cases c8:FX=true
   case pos=>
    subst c8;rw[if_pos rfl]at H;obtain rfl:=sj H;go_wp2;go_ret;exact⟨eR,bM HB.out⟩
   replace c8:=Bool.eq_false_iff.mpr c8;subst c8;replace H:=ifF H;obtain⟨l8,A9,H⟩:=bnd H;try dsimp only at H
   have H':=Za.mk H;clear H;obtain⟨o9,oC,oD,qf,qg,zz,z8,o6,o7,o8,pY,qc,zo,zq⟩:=cz7 iU.out
   go_wp2_with (first|((with_reducible refine Zal (f:=74) rfl ?_);refine gl 16 Tryz.func74 #[.agg #[.int .i64 aC,.slice fO aA.length fQ,.slice fH aJ.length fI,.int .i64 di,.int .i64 dn,.slice j6 bu.length jB,.int .i64 cz]] ?_;(with_reducible refine(Zdl.calls kj2 aC _ _ aA _ _ aJ di dn _ _ bu cz l8 _ (cM (Kd.Zac gL.out HB.out)) iN.out (cM (Kd.Zac gz.out HB.out)) iO.out (cM (Kd.Zac jP.out HB.out)) jM.out A9.out).mono ?_);rintro e w11 ⟨dXa,rfl,ho0,hb⟩;refine⟨_,rfl,?_⟩;have WP:=Za.mk (Kd.Zbm ho0 (Zaf (bM HB.out)));replace iU:=Za.mk (kB iU.out hb);replace HB:=Za.mk (bS HB.out hb);(try clear hb);(try clear hb2);(try clear hk);(try clear hi);(try clear ho0)))
   go_loopg [6] kj2 (fun kq v6 w'=>∃(ae:Int),v6= .int .i64 ae∧Za (Zaw.l0 kq l0 l8 ae aC aA aJ di dn bu cz=some r)∧Za (kq≤kj2)∧Za (Kd.R (Kd.int .i64) 3 w' w.heap.size (fun _=>True) dXa l8)∧Za (w'.heap[Mc]? =some (.cells #[.int .i64 aC,(.slice fO aA.length fQ),(.slice fH aJ.length fI),.int .i64 di,.int .i64 dn,(.slice j6 bu.length jB),.int .i64 cz] 36 (0,0)))∧Za (Below w.heap.size w w'))
   case atStart=>exact⟨(0),eS,H',⟨Nat.le_refl _⟩,⟨rM WP.out⟩,⟨kM iU.out⟩,⟨bM HB.out⟩⟩
   case round=>
    clear H';try clear c1
    try clear p2
    try clear c5
    try clear dw
    try clear c7
    try clear c8
    try clear o9 oC oD qf qg zz z8 o6 o7 o8 pY qc zo zq
    try clear kY lc lG oo oq Fy Fz kW kX lF ol om Fw Fx
    try clear qY rf xW Bi Bj Bl Bn qW qX xI Bb Bc Bd Be
    try clear p2
    obtain⟨ae,rfl,HA,HK2,bz,iU,HB⟩:=hrel
    cases gk with
    | zero => exact absurd HA.out (by simp [Zaw.l0])
    |succ k2=>
     have H:=HA.out;clear HA;simp only[Zaw.l0]at H;by_cases c12:ae<(l8.length:Int)
     case neg=>
      rw[if_neg c12]at H;have iV:decide (ae<(l8.length:Int))=false:=decide_eq_false c12;clear c12;obtain⟨Pw,A19,H⟩:=bnd H;try dsimp only at H
      by_cases c20:Pw=true
      case neg=>
       replace c20:=Bool.eq_false_iff.mpr c20;subst c20;replace H:=ifF H;obtain rfl:=sj H;obtain⟨U5,UN,O5⟩:=Kd.Zbe bz.out;subst O5;obtain⟨bwa,bxa,bya,bza,b0a,b1a,b2a,afa,aga,aha,aia,aja,aka,ala⟩:=cz7 iU.out
       go_wp2_with (first|((with_reducible refine Zal (f:=75) rfl ?_);refine gl 39 Tryz.func75 #[.slice A0 l0.length c0,.agg #[.int .i64 aC,.slice fO aA.length fQ,.slice fH aJ.length fI,.int .i64 di,.int .i64 dn,.slice j6 bu.length jB,.int .i64 cz]] ?_;(with_reducible refine(Zaq.calls k2 _ _ l0 aC _ _ aA _ _ aJ di dn _ _ bu cz false _ (cM (Kd.Zac HR0.out HB.out)) HC0.out (cM (Kd.Zac gL.out HB.out)) iN.out (cM (Kd.Zac gz.out HB.out)) iO.out (cM (Kd.Zac jP.out HB.out)) jM.out A19.out).mono ?_);rintro e w35 ⟨rfl,hb⟩;refine⟨_,rfl,?_⟩;replace HB:=Za.mk (bS HB.out hb);clear bz iU;(try clear hb);(try clear hb2);(try clear hk);(try clear hi)))
       go_ret;exact⟨eR,bM HB.out⟩
      subst c20;rw[if_pos rfl]at H;obtain⟨Px,A21,H⟩:=bnd H;try dsimp only at H
      by_cases c22:Px=true
      case pos=>
       subst c22;rw[if_pos rfl]at H;obtain rfl:=sj H;obtain⟨U3,UL,O3⟩:=Kd.Zbe bz.out;subst O3;obtain⟨xQ,xR,xS,xU,xV,bfa,bga,xC,xD,xE,xG,xH,YM,YN⟩:=cz7 iU.out
       go_wp2_with (first|((with_reducible refine Zal (f:=75) rfl ?_);refine gl 39 Tryz.func75 #[.slice A0 l0.length c0,.agg #[.int .i64 aC,.slice fO aA.length fQ,.slice fH aJ.length fI,.int .i64 di,.int .i64 dn,.slice j6 bu.length jB,.int .i64 cz]] ?_;(with_reducible refine(Zaq.calls k2 _ _ l0 aC _ _ aA _ _ aJ di dn _ _ bu cz true _ (cM (Kd.Zac HR0.out HB.out)) HC0.out (cM (Kd.Zac gL.out HB.out)) iN.out (cM (Kd.Zac gz.out HB.out)) iO.out (cM (Kd.Zac jP.out HB.out)) jM.out A19.out).mono ?_);rintro e w25 ⟨rfl,hb⟩;refine⟨_,rfl,?_⟩;replace iU:=Za.mk (kB iU.out hb);replace HB:=Za.mk (bS HB.out hb);clear bz;(try clear hb);(try clear hb2);(try clear hk);(try clear hi);obtain⟨Nt,Nu,SK,SL,SN,kEa,kFa,MK,ML,RP,RQ,RS,hma,hpa⟩:=cz7 iU.out)|((with_reducible refine Zal (f:=76) rfl ?_);refine gl 45 Tryz.func76 #[.slice fH aJ.length fI,.int .i64 dn] ?_;(with_reducible refine(Zax.calls k2 _ _ aJ dn true _ (cM (Kd.Zac gz.out HB.out)) iO.out A21.out).mono ?_);rintro e w27 ⟨rfl,hb⟩;refine⟨_,rfl,?_⟩;replace HB:=Za.mk (bS HB.out hb);clear iU;(try clear hb);(try clear hb2);(try clear hk);(try clear hi)))
       go_ret;exact⟨eR,bM HB.out⟩
      replace c22:=Bool.eq_false_iff.mpr c22;subst c22;replace H:=ifF H;obtain rfl:=sj H;obtain⟨U4,UM,O4⟩:=Kd.Zbe bz.out;subst O4;obtain⟨uE,uF,Ny,Nz,N7,bma,bna,u6,u7,MO,MP,MQ,YT,YU⟩:=cz7 iU.out
      go_wp2_with (first|((with_reducible refine Zal (f:=75) rfl ?_);refine gl 39 Tryz.func75 #[.slice A0 l0.length c0,.agg #[.int .i64 aC,.slice fO aA.length fQ,.slice fH aJ.length fI,.int .i64 di,.int .i64 dn,.slice j6 bu.length jB,.int .i64 cz]] ?_;(with_reducible refine(Zaq.calls k2 _ _ l0 aC _ _ aA _ _ aJ di dn _ _ bu cz true _ (cM (Kd.Zac HR0.out HB.out)) HC0.out (cM (Kd.Zac gL.out HB.out)) iN.out (cM (Kd.Zac gz.out HB.out)) iO.out (cM (Kd.Zac jP.out HB.out)) jM.out A19.out).mono ?_);rintro e w30 ⟨rfl,hb⟩;refine⟨_,rfl,?_⟩;replace iU:=Za.mk (kB iU.out hb);replace HB:=Za.mk (bS HB.out hb);clear bz;(try clear hb);(try clear hb2);(try clear hk);(try clear hi);obtain⟨SY,Ta,Tc,Td,Te,kNa,kOa,RY,Sa,Sb,Sc,Sd,h4a,h5a⟩:=cz7 iU.out)|((with_reducible refine Zal (f:=76) rfl ?_);refine gl 45 Tryz.func76 #[.slice fH aJ.length fI,.int .i64 dn] ?_;(with_reducible refine(Zax.calls k2 _ _ aJ dn false _ (cM (Kd.Zac gz.out HB.out)) iO.out A21.out).mono ?_);rintro e w32 ⟨rfl,hb⟩;refine⟨_,rfl,?_⟩;replace HB:=Za.mk (bS HB.out hb);clear iU;(try clear hb);(try clear hb2);(try clear hk);(try clear hi)))
      go_ret;exact⟨eR,bM HB.out⟩
     rw[if_pos c12]at H;have iV:decide (ae<(l8.length:Int))=true:=decide_eq_true c12;clear c12;obtain⟨o5,H⟩:=ifT H;by_cases c14:(rd l8 ae)<0
     case pos=>
      rw[if_pos c14]at H;have lm:decide ((rd l8 ae)<0)=true:=decide_eq_true c14;clear c14;obtain rfl:=sj H;obtain⟨iq,iy,O1⟩:=Kd.Zbe bz.out;subst O1;have sS:0≤(ae:Int):=odt;have tF:ae<(l8.length:Int):=odt;obtain⟨FT,rfl,JP⟩:=Kd.Zb1 (Kd.Zan bz.out).2.2 ae sS tF;replace sS:=eq_true sS;replace tF:=eq_true tF;go_wp2;go_ret;exact⟨eR,bM HB.out⟩
     rw[if_neg c14]at H;have lm:decide ((rd l8 ae)<0)=false:=decide_eq_false c14;clear c14;by_cases c16:(rd l8 ae)≥(l0.length:Int)
     case pos=>
      rw[if_pos c16]at H;have um:decide ((l0.length:Int)≤(rd l8 ae))=true:=decide_eq_true c16;clear c16;obtain rfl:=sj H;obtain⟨bQ,bN,zI⟩:=Kd.Zbe bz.out;subst zI;have sS:0≤(ae:Int):=odt;have tF:ae<(l8.length:Int):=odt;obtain⟨FT,rfl,JP⟩:=Kd.Zb1 (Kd.Zan bz.out).2.2 ae sS tF;replace sS:=eq_true sS;replace tF:=eq_true tF;have zU:0≤(ae:Int):=odt;have Aq:ae<(l8.length:Int):=odt;obtain⟨Lr,e295,Ua⟩:=Kd.Zb1 (Kd.Zan bz.out).2.2 ae zU Aq;obtain rfl:FT=Lr:=(by injection e295);replace zU:=eq_true zU;replace Aq:=eq_true Aq;go_wp2;go_ret;exact⟨eR,bM HB.out⟩
     rw[if_neg c16]at H;have um:decide ((l0.length:Int)≤(rd l8 ae))=false:=decide_eq_false c16;clear c16;have H':=Za.mk H;clear H;obtain⟨dH,dE,zJ⟩:=Kd.Zbe bz.out;subst zJ;have sS:0≤(ae:Int):=odt;have tF:ae<(l8.length:Int):=odt;obtain⟨FT,rfl,JP⟩:=Kd.Zb1 (Kd.Zan bz.out).2.2 ae sS tF;replace sS:=eq_true sS;replace tF:=eq_true tF;have zU:0≤(ae:Int):=odt;have Aq:ae<(l8.length:Int):=odt;obtain⟨Lr,e295,Ua⟩:=Kd.Zb1 (Kd.Zan bz.out).2.2 ae zU Aq;obtain rfl:FT=Lr:=(by injection e295);replace zU:=eq_true zU;replace Aq:=eq_true Aq;go_wp2
     go_roundg k2
     case measure=>have:=HJ2.out;have:=HK2.out;omega
     case rel=>exact⟨(wrap64 (ae+1)),eS,H',⟨by have:=HJ2.out;have:=HK2.out;omega⟩,⟨rM bz.out⟩,⟨kM iU.out⟩,⟨bM HB.out⟩⟩
def Zbu.j0 : Nat → List (List (S82)) → Bool → Int → List Int → List Int → Option (Int)
 | 0, _, _, _, _, _ => none
 |k+1,x0,x12,Un,Kj,Kk=>if x12=true then((Zaw.f k x0 0 Kj Kk 0 0 ([]:List (List Int)) 0).bind fun Py=>(some Py))else(if Un=0 then(if(Kj.length:Int)>0 then(some 44)else(if(Kk.length:Int)>0 then(some 44)else(some 0)))else(some 44))
def Zbu.f (k:Nat) (l0:List (List (S82))) (aC:Int) (aA:List Int) (aJ:List Int):Option (Int):=if aC=1 then(Zbu.j0 k l0 true aC aA aJ)else(Zbu.j0 k l0 (aC==2) aC aA aJ)
set_option maxRecDepth 100000 in
theorem Zbu.calls (k : Nat) (A0 : Option Addr) (c0 : Nat) (l0 : List (List (S82))) (aC : Int) (fO : Option Addr) (fQ : Nat) (aA : List Int) (fH : Option Addr) (fI : Nat) (aJ : List Int) (r : Int) (w : World) (hr0 : Kd.C (Kd.slice 82 k82) w A0 l0.length l0) (hc0 : l0.length ≤ c0) (mK : Kd.C (Kd.int .i64) w fO aA.length aA) (mH : aA.length ≤ fQ) (mM : Kd.C (Kd.int .i64) w fH aJ.length aJ) (mI : aJ.length ≤ fI) (h : Zbu.f k l0 aC aA aJ = some r) :
  Calls Tryz.prog 56 #[.slice A0 l0.length c0,.agg #[.int .i64 aC,.slice fO aA.length fQ,.slice fH aJ.length fI]] w fun e w'=>e= .returned (.int .i64 r)∧Below w.heap.size w w':=by
 have hu26:=Tryz.underlying26;have hu36:=Tryz.underlying36;have HR0:=Za.mk hr0;have HC0:=Za.mk hc0;clear hr0 hc0;have gL:=Za.mk mK;have iN:=Za.mk mH;clear mK mH;have gz:=Za.mk mM;have iO:=Za.mk mI;clear mM mI;have HB:=Za.mk (Below.refl w.heap.size w);have H:(if aC=1 then(Zbu.j0 k l0 true aC aA aJ)else(Zbu.j0 k l0 (aC==2) aC aA aJ))=some r:=h;clear h;have HC3:=Za.mk H;clear H;go_enter Tryz.func56,Tryz.ntmps56
 go_upto_region 1 with (first|((with_reducible refine Zar (N:=3) rfl ?_);(try(refine Zb2 (by rfl) ?_;dsimp only));refine bx 3 #[.int .i64 aC,.slice fO aA.length fQ,.slice fH aJ.length fI] 26 ?_;intro R3 hg w4 hbox hb;have pF:=Za.mk (hbox);have f5a:=Za.mk ((gE hg HB.out:w.heap.size≤R3));replace HB:=Za.mk (bS HB.out hb);clear hb hbox hg))
 (try simp only[Act.put,List.setIfInBounds_toArray,List.set_cons_zero,List.set_cons_succ])
 go_cut [12] (fun v12 wc=>∃(kq:Nat) (FW:Bool),v12= .bool FW∧Za (Zbu.j0 kq l0 FW aC aA aJ=some r)∧Za (kq≤k)∧Za (wc.heap[R3]? =some (.cells #[.int .i64 aC,(.slice fO aA.length fQ),(.slice fH aJ.length fI)] 26 (0,0)))∧Za (Below w.heap.size w wc))
 case first=>
  have H:=HC3.out;clear HC3;by_cases c5:aC=1
  case neg=>
   rw[if_neg c5]at H;have dw:(aC==1)=false:=beq_eq_false_iff_ne.mpr c5;have lq:(aC !=1)=true:=bne_iff_ne.mpr c5
   (first|rw[dw]|(simp only[Zd5,Zeo];rw[dw])|skip)
   have H':=Za.mk H;clear H;obtain⟨qY,rf,xW,qW,qX,xI⟩:=cz3 pF.out;go_wp2
   go_meet
   case rel=>exact⟨_,((aC==2)),eS,H',⟨by first|omega|exact Nat.le_refl _⟩,⟨kM pF.out⟩,⟨bM HB.out⟩⟩
  rw[if_pos c5]at H;have dw:(aC==1)=true:=beq_iff_eq.mpr c5;have lq:(aC !=1)=false:=bne_eq_false_iff_eq.mpr c5;clear c5
  (first|rw[dw]|(simp only[Zd5,Zeo];rw[dw])|skip)
  have H':=Za.mk H;clear H;obtain⟨kY,lc,lG,kW,kX,lF⟩:=cz3 pF.out;go_wp2
  go_meet
  case rel=>exact⟨_,(true),eS,H',⟨by first|omega|exact Nat.le_refl _⟩,⟨kM pF.out⟩,⟨bM HB.out⟩⟩
 case rest=>
  clear HC3;try clear c1
  try clear p2
  try clear c5
  try clear dw
  try clear lq
  try clear kY lc lG kW kX lF
  try clear qY rf xW qW qX xI
  obtain⟨kq,FW,rfl,HA,HJ2,pF,HB⟩:=hcut
  cases kq with
  | zero => exact absurd HA.out (by simp [Zbu.j0])
  |succ kj2=>
   have H:=HA.out;clear HA;simp only[Zbu.j0]at H;by_cases c8:FW=true
   case pos=>
    subst c8;rw[if_pos rfl]at H;obtain⟨Py,A9,H⟩:=bnd H;try dsimp only at H
    obtain rfl:=sj H;obtain⟨o9,oC,oD,o6,o7,o8⟩:=cz3 pF.out
    go_wp2_with (first|((with_reducible refine Zal (f:=55) rfl ?_);refine gl 19 Tryz.func55 #[.slice A0 l0.length c0,.agg #[.int .i64 0,.slice fO aA.length fQ,.slice fH aJ.length fI,.int .i64 0,.int .i64 0,.slice none 0 0,.int .i64 0]] ?_;(refine(Zaw.calls kj2 _ _ l0 0 _ _ aA _ _ aJ 0 0 _ _ ([]:List (List Int)) 0 Py _ ?side1 ?side2 ?side3 ?side4 ?side5 ?side6 ?side7 ?side8 A9.out).mono ?_);(case side1=>repeat(first|exact(Kd.Zac HR0.out HB.out)|(with_reducible refine Kd.C_alloc ?_ _)|(with_reducible refine Kd.Zbt ?_ _)|(with_reducible refine Kd.Zb4 ?_)));(case side2=>exact HC0.out);(case side3=>repeat(first|exact(Kd.Zac gL.out HB.out)|(with_reducible refine Kd.C_alloc ?_ _)|(with_reducible refine Kd.Zbt ?_ _)|(with_reducible refine Kd.Zb4 ?_)));(case side4=>exact iN.out);(case side5=>repeat(first|exact(Kd.Zac gz.out HB.out)|(with_reducible refine Kd.C_alloc ?_ _)|(with_reducible refine Kd.Zbt ?_ _)|(with_reducible refine Kd.Zb4 ?_)));(case side6=>exact iO.out);(case side7=>exact Kd.Zgq _ _);(case side8=>exact Nat.le_refl _);rintro e w11 ⟨rfl,hb⟩;refine⟨_,rfl,?_⟩;replace HB:=Za.mk (bS HB.out hb);clear pF;(try clear hb);(try clear hb2);(try clear hk);(try clear hi)))
    go_ret;exact⟨eR,bM HB.out⟩
   replace c8:=Bool.eq_false_iff.mpr c8;subst c8;replace H:=ifF H;by_cases c12:aC=0
   case neg=>
    rw[if_neg c12]at H;have iV:(aC==0)=false:=beq_eq_false_iff_ne.mpr c12;have ul:(aC !=0)=true:=bne_iff_ne.mpr c12;obtain rfl:=sj H;obtain⟨Nb,Nc,aXa,M4,M5,YF⟩:=cz3 pF.out;go_wp2;go_ret;exact⟨eR,bM HB.out⟩
   rw[if_pos c12]at H;have iV:(aC==0)=true:=beq_iff_eq.mpr c12;have ul:(aC !=0)=false:=bne_eq_false_iff_eq.mpr c12;clear c12;by_cases c13:(aA.length:Int)>0
   case pos=>
    rw[if_pos c13]at H;have o5:decide (0<(aA.length:Int))=true:=decide_eq_true c13;have LA:decide (0<aA.length)=true:=decide_eq_true (by omega);clear c13;obtain rfl:=sj H;obtain⟨xO,xP,Ex,xz,xA,Ej⟩:=cz3 pF.out;go_wp2;go_ret;exact⟨eR,bM HB.out⟩
   rw[if_neg c13]at H;have o5:decide (0<(aA.length:Int))=false:=decide_eq_false c13;have LA:decide (0<aA.length)=false:=decide_eq_false (by omega);clear c13;by_cases c15:(aJ.length:Int)>0
   case neg=>
    rw[if_neg c15]at H;have jo:decide (0<(aJ.length:Int))=false:=decide_eq_false c15;have wT:decide (0<aJ.length)=false:=decide_eq_false (by omega);clear c15;obtain rfl:=sj H;obtain⟨EB,EC,Na,Es,Et,M3⟩:=cz3 pF.out;go_wp2;go_ret;exact⟨eR,bM HB.out⟩
   rw[if_pos c15]at H;have jo:decide (0<(aJ.length:Int))=true:=decide_eq_true c15;have wT:decide (0<aJ.length)=true:=decide_eq_true (by omega);clear c15;obtain rfl:=sj H;obtain⟨zA,zB,zC,zt,zu,zw⟩:=cz3 pF.out;go_wp2;go_ret;exact⟨eR,bM HB.out⟩
end Go.Proofs.YtdpieallpbllkaaGreat.P
/- May a constraint be, by the document: the same as model.Con. -/
namespace Go.Proofs.YtdpieallpbllkaaGreat.P
open Go.RowKit Go.Proofs.YtdpieallpbllkaaGreatW.PrintWords Go.Proofs.YtdpieallpbllkaaGreatW.PrintLast Go.Proofs.YtdpieallpbllkaaGreatW.PrintMore
theorem rdLn (xs:List (List Int)) (n:Nat) (h:n<xs.length):Zb3 xs (n:Int)=xs[n]:=by simp[Zb3,List.getD_eq_getElem?_getD,List.getElem?_eq_getElem h]
theorem rdR_dom (xs:List (List Rg)) (v:Int):Zdo xs v=domAt xs v:=rfl
theorem insU_len (x : Int) : ∀ l, SS l → (insU x l).length = if x ∈ l then l.length else l.length + 1
  | [], _ => by simp [insU]
  |y::l,h=>by
    obtain⟨hy,hl⟩:=List.pairwise_cons.1 h;unfold insU;by_cases h1:x<y
    · rw [if_pos h1, if_neg]
      · simp
      intro hx
      rcases List.mem_cons.1 hx with e|hx
      · omega
      have:=hy x hx;omega
    rw[if_neg h1];by_cases h2:x=y
    · subst h2;simp
    rw[if_neg h2,List.length_cons,insU_len x l hl];by_cases h3:x ∈ l;rotate_left
    · rw[if_neg h3,if_neg (by simp[h2,h3])];simp
    rw[if_pos h3,if_pos (List.mem_cons_of_mem _ h3)];simp
theorem sd_nodup : ∀ l : List Int, (sd l).length = l.length ↔ l.Nodup
  | [] => by simp [sd]
  |x::l=>by
    have ih:=sd_nodup l;have hl:=Zhl l;have e:=insU_len x (sd l) (sd_ss l);rw[sd,List.nodup_cons,←mem_sd x l];by_cases hx:x ∈ sd l;rotate_left
    · rw [if_neg hx] at e
      rw[e,←ih]
      simp[hx]
    rw[if_pos hx]at e
    constructor
    · intro h
      simp at h
      omega
    exact fun h=>absurd hx h.1
theorem allB_nodup (l:List Int):allB l=decide l.Nodup:=decide_eq_decide.2 (sd_nodup l)
theorem nodup_snoc {l:List Int} {n:Nat} (hn:n<l.length) (h:(l.take n).Nodup) (hd:∀j (hj:j<n),l[n]≠l[j]'(by omega)):(l.take (n+1)).Nodup:=by
  rw[List.take_succ_eq_append_getElem hn,List.nodup_append];refine⟨h,by simp,fun a ha b hb=> ?_⟩;obtain rfl:=List.mem_singleton.1 hb;obtain⟨j,hj,rfl⟩:=List.mem_take_iff_getElem.1 ha;exact fun e=>hd j (by omega) e.symm
theorem others_l0 (l:List Int) (hl:l.length<4611686018427387904):∀(m n:Nat),n+m=l.length→(l.take n).Nodup→Ev (fun k=>Zay.l0 k l (n:Int)) (decide l.Nodup):=by
  intro m
  induction m with
  |zero=>
    intro n h hn;rw[List.take_of_length_le (by omega)]at hn;exact Ev.step (G:=fun _=>some true) (fun k=>by rw[Zay.l0,if_neg (by omega)]) (Ev.const (by simp[hn]))
  |succ m ih=>
    intro n h hn;have hlt:n<l.length:=by omega
    have inner:∀(r q:Nat) (hq:q+r=n),(∀j (hj:j<q),l[n]≠l[j]'(by omega))→Ev (fun k=>Zay.l1 k l (n:Int) (q:Int)) (decide l.Nodup):=by
      intro r
      induction r with
      |zero=>
        intro q hq hd;obtain rfl:q=n:=by omega
        exact Ev.step (fun k=>by rw[Zay.l1,if_neg (by omega),w1 (by omega)]) (ih (q+1) (by omega) (nodup_snoc hlt hn hd))
      |succ r ihr=>
        intro q hq hd;have hql:q<l.length:=by omega
        by_cases e:l[n]=l[q];rotate_left
        · refine Ev.step (fun k => by rw [Zay.l1, if_pos (by omega), if_pos (by omega), if_pos (by omega), if_pos (by omega), if_pos (by omega), Zc2 l n hlt, Zc2 l q hql, if_neg e, w1 (by omega)]) (ihr (q + 1) (by omega) (fun j hj => ?_))
          by_cases hjq:j=q
          · subst hjq;exact e
          exact hd j (by omega)
        have hnn:¬l.Nodup:=fun hN=>by
          exact List.pairwise_iff_getElem.1 hN q n hql hlt (by omega) e.symm
        rw[decide_eq_false hnn];exact Ev.step (G:=fun _=>some false) (fun k=>by rw[Zay.l1,if_pos (by omega),if_pos (by omega),if_pos (by omega),if_pos (by omega),if_pos (by omega),Zc2 l n hlt,Zc2 l q hql,if_pos e]) (Ev.pure _)
    exact Ev.step (fun k=>by rw[Zay.l0,if_pos (by omega)];rfl) (inner n 0 (by omega) (fun j hj=>absurd hj (Nat.not_lt_zero j)))
theorem others_ev (l:List Int) (hl:l.length<4611686018427387904):Ev (fun k=>Zay.f k l) (allB l):=by
  rw[allB_nodup];exact others_l0 l hl l.length 0 (by omega) (by simp)
theorem rtruth_l0 (d : List Rg) (hl : d.length ≤ 3000000) : ∀ (m n : Nat), n + m = d.length → Ev (fun k => Zbf.l0 k d (n : Int)) (truB (d.drop n))
  |0,n,h=>by
    rw[List.drop_eq_nil_of_le (by omega)];exact Ev.step (G:=fun _=>some true) (fun k=>by rw[Zbf.l0,if_neg (by omega)]) (Ev.const rfl)
  |m+1,n,h=>by
    have hn:n<d.length:=by omega
    have hat:=show Zbk d (n:Int)=d[n]from Zfe d n hn
    have ih:=rtruth_l0 d hl m (n+1) (by omega);rw[List.drop_eq_getElem_cons hn];by_cases h0:d[n].f0<0
    · have e:truB (d[n]::d.drop (n+1))=false:=by
        unfold truB;rw[List.all_cons,decide_eq_false (by omega),Bool.false_and,Bool.false_and]
      rw[e];exact Ev.step (G:=fun _=>some false) (fun k=>by rw[Zbf.l0,if_pos (by omega),if_pos (by omega),hat,if_pos h0]) (Ev.const rfl)
    by_cases h1:d[n].f1>1
    · have e:truB (d[n]::d.drop (n+1))=false:=by
        unfold truB;rw[List.all_cons,decide_eq_false (show ¬d[n].f1≤1 by omega),Bool.and_false,Bool.false_and]
      rw[e];exact Ev.step (G:=fun _=>some false) (fun k=>by rw[Zbf.l0,if_pos (by omega),if_pos (by omega),hat,if_neg h0,if_pos h1]) (Ev.const rfl)
    have e:truB (d[n]::d.drop (n+1))=truB (d.drop (n+1)):=by
      unfold truB;rw[List.all_cons,decide_eq_true (show(0:Int)≤d[n].f0 by omega),decide_eq_true (show d[n].f1≤1 by omega),Bool.true_and,Bool.true_and]
    rw[e];exact Ev.step (fun k=>by rw[Zbf.l0,if_pos (by omega),if_pos (by omega),hat,if_neg h0,if_neg h1,w1 (by omega)]) ih
theorem rtruth_ev (d:List Rg) (hl:d.length≤3000000):Ev (fun k=>Zbf.f k d) (truB d):=rtruth_l0 d hl d.length 0 (by omega)
theorem mx_neg {n:Int} (h1: -4611686018427387904≤n) (h2:n≤4611686018427387904):mx n (wrap64 (-n))=(n.natAbs:Int):=by
  rw[w64 (by omega) (by omega)];unfold mx
  split<;>omega
theorem rbig_l0 (l : List Int) (hl : l.length ≤ 1000000) : ∀ (m n : Nat) (room : Int), n + m = l.length → 0 ≤ room → room ≤ 4611686018427387904 → Ev (fun k => Zax.l0 k l room (n : Int)) (!decide (tot (l.drop n) ≤ room))
  |0,n,room,h,h0,h1=>by
    rw[List.drop_eq_nil_of_le (by omega),decide_eq_true (by unfold tot;omega)];exact Ev.step (G:=fun _=>some false) (fun k=>by rw[Zax.l0,if_neg (by omega)]) (Ev.const rfl)
  |m+1,n,room,h,h0,h1=>by
    have hn:n<l.length:=by omega
    have hr:rd l (n:Int)=l[n]:=Zc2 l n hn;have ht:=Zeq (l.drop (n+1));rw[List.drop_eq_getElem_cons hn,tot];by_cases hb:l[n]>4398046511104
    · rw [decide_eq_false (by omega)]
      exact Ev.step (fun k=>by rw[Zax.l0,if_pos (by omega),if_pos (by omega),hr,if_pos hb]) (Ev.step (G:=fun _=>some true) (fun k=>by rw[Zax.j2,if_pos rfl]) (Ev.const rfl))
    refine Ev.step (fun k=>by rw[Zax.l0,if_pos (by omega),if_pos (by omega),hr,if_neg hb]) ?_;by_cases hc:l[n]< -4398046511104
    · rw [decide_eq_false (show ¬ ((l[n].natAbs : Int) * 1048576 + tot (l.drop (n + 1)) ≤ room) by omega), decide_eq_true hc]
      exact Ev.step (G:=fun _=>some true) (fun k=>by rw[Zax.j2,if_pos rfl]) (Ev.const rfl)
    rw[decide_eq_false hc];have e1:wrap64 (mx l[n] (wrap64 (-l[n]))*1048576)=(l[n].natAbs:Int)*1048576:=by rw[mx_neg (by omega) (by omega),w64 (by omega) (by omega)]
    have e2:wrap64 (room - (l[n].natAbs:Int)*1048576)=room - (l[n].natAbs:Int)*1048576:=w64 (by omega) (by omega);refine Ev.step (fun k=>by rw[Zax.j2,if_neg (by simp),if_pos (by omega),if_pos (by omega),hr,e1,e2]) ?_;by_cases hd:room - (l[n].natAbs:Int)*1048576<0
    · rw [decide_eq_false (by omega)]
      exact Ev.Zak hd (Ev.const rfl)
    have ih:=rbig_l0 l hl m (n+1) (room - (l[n].natAbs:Int)*1048576) (by omega) (by omega) (by omega);rw[decide_eq_decide.2 (show tot (l.drop (n+1))≤room - (l[n].natAbs:Int)*1048576↔(l[n].natAbs:Int)*1048576+tot (l.drop (n+1))≤room by omega)]at ih;refine Ev.Zat hd ?_;rw[w1 (by omega)];exact ih
theorem rbig_ev (l:List Int) (rhs:Int) (hl:l.length≤1000000):Ev (fun k=>Zax.f k l rhs) (!decide ((rhs.natAbs:Int)+tot l≤4611686018427387904)):=by
  have ht:=Zeq l;unfold Zax.f;by_cases h1:rhs>4611686018427387904
  · rw [decide_eq_false (show ¬ ((rhs.natAbs : Int) + tot l ≤ 4611686018427387904) by omega)]
    refine Ev.Zak h1 (Ev.step (G:=fun _=>some true) (fun k=>by rw[Zax.j0,if_pos rfl]) ?_);exact Ev.const rfl
  refine Ev.Zat h1 ?_;by_cases h2:rhs< -4611686018427387904
  · rw [decide_eq_false (show ¬ ((rhs.natAbs : Int) + tot l ≤ 4611686018427387904) by omega), decide_eq_true h2]
    exact Ev.step (G:=fun _=>some true) (fun k=>by rw[Zax.j0,if_pos rfl]) (Ev.const rfl)
  rw[decide_eq_false h2];have e1:wrap64 (4611686018427387904 - mx rhs (wrap64 (-rhs)))=4611686018427387904 - (rhs.natAbs:Int):=by rw[mx_neg (by omega) (by omega),w64 (by omega) (by omega)]
  have:=rbig_l0 l hl l.length 0 (4611686018427387904 - (rhs.natAbs:Int)) (by omega) (by omega) (by omega);rw[List.drop_zero,decide_eq_decide.2 (show tot l≤4611686018427387904 - (rhs.natAbs:Int)↔(rhs.natAbs:Int)+tot l≤4611686018427387904 by omega)]at this;exact Ev.step (fun k=>by rw[Zax.j0,if_neg (by simp),e1];rfl) this
theorem rsum_ev (kd:Int) (vars coefs:List Int) (op rhs:Int) (rows:List (List Int)) (b:Int) (h1:vars.length≤1000000) (h2:coefs.length≤1000000):Ev (fun k=>Zb5.f k kd vars coefs op rhs rows b) (sumB vars coefs):=by
  unfold Zb5.f sumB;refine Ev.bind (others_ev vars (by omega)) ?_;by_cases q1:0<vars.length;rotate_left
  · rw [decide_eq_false q1, Bool.false_and]
    cases allB vars with
    | true => exact Ev.Zak rfl (Ev.Zat (by omega) (Ev.const rfl))
    |false=>exact Ev.Zat (by simp) (Ev.const rfl)
  rw[decide_eq_true q1,Bool.true_and];by_cases q2:vars.length=coefs.length;rotate_left
  · rw [decide_eq_false q2, Bool.false_and]
    cases allB vars with
    | true => exact Ev.Zak rfl (Ev.Zak (by omega) (Ev.Zat (by omega) (Ev.const rfl)))
    |false=>exact Ev.Zat (by simp) (Ev.const rfl)
  rw[decide_eq_true q2,Bool.true_and]
  cases allB vars with
  | true => exact Ev.Zak rfl (Ev.Zak (by omega) (Ev.Zak (by omega) (Ev.bind (ref_Has coefs 0 (by omega)) (Ev.const rfl))))
  |false=>exact Ev.Zat (by simp) (Ev.const rfl)
theorem isVal_far (x:Int):isVal x= !farV x:=by
  unfold isVal farV;rw[Bool.eq_iff_iff]
  simp
theorem rrows_l0 (kd : Int) (vars coefs : List Int) (op rhs : Int) (rows : List (List Int)) (b : Int) (hr : rows.length ≤ 1000000) (hin : ∀ x ∈ rows, x.length ≤ 1000000) : ∀ (m n : Nat), n + m = rows.length →
    Ev (fun k=>Zbd.l0 k (n:Int) kd vars coefs op rhs rows b) (((rows.drop n).all (rowOk vars)) && decide (rows.length≤1024)):=by
  intro m
  induction m with
  |zero=>
    intro n h;rw[List.drop_of_length_le (by omega)];exact Ev.step (G:=fun _=>some (decide ((rows.length:Int)≤1024))) (fun k=>by rw[Zbd.l0,if_neg (by omega)]) (Ev.const (by simp;omega))
  |succ m ih=>
    intro n h;have hn:n<rows.length:=by omega
    have hx:=hin _ (List.getElem_mem hn);rw[List.drop_eq_getElem_cons hn,List.all_cons]
    have inner:∀(r q:Nat),q+r=rows[n].length→Ev (fun k=>Zbd.l1 k (n:Int) (q:Int) kd vars coefs op rhs rows b) ((!(rows[n].drop q).any farV && (rows.drop (n+1)).all (rowOk vars)) && decide (rows.length≤1024)):=by
      intro r
      induction r with
      |zero=>
        intro q hq;rw[List.drop_of_length_le (show rows[n].length≤q by omega)];refine Ev.step (fun k=>by rw[Zbd.l1,if_pos (by omega),if_pos (by omega),rdLn rows n hn,if_neg (by omega),w1 (by omega)]) ?_
        simpa using ih (n+1) (by omega)
      |succ r ihr=>
        intro q hq;have hql:q<rows[n].length:=by omega
        refine Ev.step (fun k=>by rw[Zbd.l1,if_pos (by omega),if_pos (by omega),rdLn rows n hn,if_pos (by omega),if_pos (by omega),Zc2 _ q hql,Zdr,Option.bind_some,w1 (by omega),isVal_far]) ?_;rw[List.drop_eq_getElem_cons hql,List.any_cons]
        cases hv:farV rows[n][q]with
        | false => simpa using ihr (q + 1) (by omega)
        |true=>simpa using Ev.pure false
    unfold rowOk;by_cases e:rows[n].length=vars.length
    · refine Ev.step (fun k => by rw [Zbd.l0, if_pos (by omega), if_pos (by omega), rdLn rows n hn, if_pos (by omega)]) ?_
      have:=inner rows[n].length 0 (by omega);rw[decide_eq_true (show(rows[n].length:Int)=(vars.length:Int) by omega),Bool.true_and];exact this
    refine Ev.step (G:=fun _=>some false) (fun k=>by rw[Zbd.l0,if_pos (by omega),if_pos (by omega),rdLn rows n hn,if_neg (by omega)]) ?_;rw[decide_eq_false (show ¬(rows[n].length:Int)=(vars.length:Int) by omega),Bool.false_and,Bool.false_and];exact Ev.pure false
theorem rrows_ev (kd : Int) (vars coefs : List Int) (op rhs : Int) (rows : List (List Int)) (b : Int) (hr : rows.length ≤ 1000000) (hin : ∀ x ∈ rows, x.length ≤ 1000000) :
    Ev (fun k=>Zbd.f k kd vars coefs op rhs rows b) (decide (rows.length≤1024) && !(rows.any fun l=> !rowOk vars l)):=by
  have:=rrows_l0 kd vars coefs op rhs rows b hr hin rows.length 0 (by omega);rw[List.drop_zero,Bool.and_comm]at this
  have e:rows.all (rowOk vars)= !(rows.any fun l=> !rowOk vars l):=by
    rw[Bool.eq_iff_iff]
    simp
  rw[←e];exact this
theorem units_l0 (d : List (List Rg)) (hdl : ∀ x ∈ d, x.length ≤ 3000000) (kd : Int) (vars coefs : List Int) (op rhs : Int) (rows : List (List Int)) (b : Int) (hl : vars.length ≤ 1000000) (he : vars.length = coefs.length) (hv : ∀ v ∈ vars, awayV d.length v = false) : ∀ (m n : Nat), n + m = vars.length →
    Ev (fun k=>Zbx.l0 k d (n:Int) kd vars coefs op rhs rows b) (!((coefs.drop n).any oddU) && (vars.drop n).all fun v=>truB (domAt d v))
  |0,n,h=>by
    rw[List.drop_eq_nil_of_le (by omega),List.drop_eq_nil_of_le (by omega)];exact Ev.step (G:=fun _=>some true) (fun k=>by rw[Zbx.l0,if_neg (by omega)]) (Ev.const rfl)
  |m+1,n,h=>by
    have hn:n<vars.length:=by omega
    have hn2:n<coefs.length:=by omega
    have ih:=units_l0 d hdl kd vars coefs op rhs rows b hl he hv m (n+1) (by omega);have ha:=hv _ (List.getElem_mem hn);unfold awayV at ha;simp only[Bool.or_eq_false_iff,decide_eq_false_iff_not]at ha;rw[List.drop_eq_getElem_cons hn,List.drop_eq_getElem_cons hn2,List.any_cons,List.all_cons]
    have hdm:(domAt d vars[n]).length≤3000000:=by
      unfold domAt;rw[List.getD_eq_getElem?_getD]
      cases hq:d[vars[n].toNat]? with
      | none => simp
      |some x=>exact hdl x (List.mem_of_getElem? hq)
    refine Ev.step (fun k=>by rw[Zbx.l0,if_pos (by omega),if_pos (by omega),Zc2 vars n hn,if_pos (by omega),if_pos (by omega),rdR_dom]) (Ev.bind (rtruth_ev _ hdm) ?_);rw[Zc2 coefs n hn2]
    cases truB (domAt d vars[n])with
    |false=>
      rw[Bool.false_and,Bool.and_false];exact Ev.Zat (by simp) (Ev.const rfl)
    |true=>
      refine Ev.Zak rfl (Ev.Zak (by omega) ?_);rw[w1 (by omega)];by_cases c1:coefs[n]=1
      · have e : oddU coefs[n] = false := by rw [c1]; rfl
        rw[e,Bool.false_or,Bool.true_and];exact Ev.Zak c1 ih
      refine Ev.Zat c1 ?_;by_cases c2:coefs[n]= -1
      · have e : oddU coefs[n] = false := by rw [c2]; rfl
        rw[e,Bool.false_or,Bool.true_and];exact Ev.Zak c2 ih
      have e:oddU coefs[n]=true:=by unfold oddU;simp[c1,c2]
      rw[e,Bool.true_or,Bool.not_true,Bool.false_and];exact Ev.Zat c2 (Ev.const rfl)
theorem units_ev (d : List (List Rg)) (hdl : ∀ x ∈ d, x.length ≤ 3000000) (kd : Int) (vars coefs : List Int) (op rhs : Int) (rows : List (List Int)) (b : Int) (hl : vars.length ≤ 1000000) (he : vars.length = coefs.length) (hv : ∀ v ∈ vars, awayV d.length v = false) :
    Ev (fun k=>Zbx.f k d kd vars coefs op rhs rows b) (!(coefs.any oddU) && vars.all fun v=>truB (domAt d v)):=units_l0 d hdl kd vars coefs op rhs rows b hl he hv vars.length 0 (by omega)
theorem beqd (b:Int):(b==0)=decide (b=0):=by rw[Bool.eq_iff_iff];simp
section
variable (d : List (List Rg)) (hdl : ∀ x ∈ d, x.length ≤ 3000000) (kd : Int) (vars coefs : List Int) (op rhs : Int) (rows : List (List Int)) (b : Int)
  (h1:vars.length≤1000000) (h2:coefs.length≤1000000) (h5:rows.length≤1000000) (hin:∀x ∈ rows,x.length≤1000000) (hv:vars.any (awayV d.length)=false) (hb:kd=4→awayV d.length b=false)
include hdl h1 h2 h5 hin hv hb
theorem rright_j3 (x5 x6 x7 x8 : Bool) (e5 : x5 = (decide (op = 0) && (decide (rhs = 0) && decide (b = 0)))) (e6 : x6 = plainB coefs op rhs b) (e7 : x7 = (decide (0 ≤ op) && decide (op < 3))) (e8 : x8 = (decide (0 < vars.length) && allB vars)) :
    Ev (fun k=>Zaq.j3 k d x5 x6 x7 x8 kd vars coefs op rhs rows b) (rightB d kd vars coefs op rhs rows b):=by
  have hvs:∀v ∈ vars,awayV d.length v=false:=fun v hv'=>Bool.eq_false_iff.2 (fun e=>Bool.eq_false_iff.1 hv (List.any_eq_true.2 ⟨v,hv',e⟩))
  have hsum:=rsum_ev kd vars coefs op rhs rows b h1 h2;refine Ev.step (G:=fun k=>_) (fun k=>by rw[Zaq.j3]) ?_;unfold rightB;by_cases q2:kd=2
  · subst q2
    rw[if_neg (show ¬((2:Int)≠2∧0<rows.length)from fun h_=>absurd rfl h_.1),if_neg (show ¬(2:Int)=0 by decide),if_neg (show ¬(2:Int)=1 by decide),if_pos rfl];refine Ev.Zat (show ¬(2:Int)=0 by decide) (Ev.Zat (show ¬(2:Int)=1 by decide) (Ev.Zak rfl ?_));rw[←e6,←Bool.and_assoc (decide (0<vars.length)),←e8]
    cases x6 with
    | false => exact Ev.Zat (by simp) (Ev.const rfl)
    |true=>
      cases x8 with
      | false => exact Ev.Zak rfl (Ev.Zat (by simp) (Ev.const rfl))
      |true=>exact Ev.Zak rfl (Ev.Zak rfl (Ev.bind (rrows_ev 2 vars coefs op rhs rows b h5 hin) (Ev.const rfl)))
  by_cases q0:rows.length=0;rotate_left
  · have qr : kd ≠ 2 ∧ 0 < rows.length := ⟨q2, by omega⟩
    have z:¬(rows.length:Int)=0:=by omega
    rw[if_pos qr];by_cases k0:kd=0
    · exact Ev.Zak k0 (Ev.Zat z (Ev.const rfl))
    refine Ev.Zat k0 ?_;by_cases k1:kd=1
    · exact Ev.Zak k1 (Ev.Zat z (Ev.const rfl))
    refine Ev.Zat k1 (Ev.Zat q2 ?_);by_cases k3:kd=3
    · exact Ev.Zak k3 (Ev.Zat z (Ev.const rfl))
    refine Ev.Zat k3 ?_;by_cases k4:kd=4
    · exact Ev.Zak k4 (Ev.Zat z (Ev.const rfl))
    refine Ev.Zat k4 ?_;by_cases k5:kd=5
    · exact Ev.Zak k5 (Ev.Zat z (Ev.const rfl))
    exact Ev.Zat k5 (Ev.Zat z (Ev.const rfl))
  have qr:¬(kd≠2∧0<rows.length):=fun h=>by omega
  have z:(rows.length:Int)=0:=by omega
  rw[if_neg qr];by_cases k0:kd=0
  · rw [if_pos k0]
    refine Ev.Zak k0 (Ev.Zak z (Ev.bind hsum ?_));unfold heldB;rw[←e7]
    cases sumB vars coefs with
    | false => exact Ev.Zat (by simp) (Ev.const rfl)
    |true=>
      cases x7 with
      | false => exact Ev.Zak rfl (Ev.Zat (by simp) (Ev.const rfl))
      |true=>exact Ev.Zak rfl (Ev.Zak rfl (Ev.const (by rw[beqd];simp)))
  rw[if_neg k0];refine Ev.Zat k0 ?_;by_cases k1:kd=1
  · rw [if_pos k1, ← e6, ← e8]
    refine Ev.Zak k1 (Ev.Zak z ?_)
    cases x6 with
    | false => exact Ev.Zat (by simp) (Ev.const rfl)
    |true=>exact Ev.Zak rfl (Ev.const rfl)
  rw[if_neg k1,if_neg q2];refine Ev.Zat k1 (Ev.Zat q2 ?_);by_cases k3:kd=3
  · rw [if_pos k3, ← e6]
    refine Ev.Zak k3 (Ev.Zak z ?_)
    cases x6 with
    | false => exact Ev.Zat (by simp) (Ev.const rfl)
    |true=>
      refine Ev.Zak rfl ?_;by_cases hz:0<vars.length;rotate_left
      · rw [decide_eq_false hz, Bool.false_and] at e8
        rw[e8];have:decide (3≤vars.length)=false:=decide_eq_false (by omega);exact Ev.Zat (by simp) (Ev.const (by rw[this];simp))
      rw[decide_eq_true hz,Bool.true_and]at e8;rw[←e8]
      cases x8 with
      | false => exact Ev.Zat (by simp) (Ev.const (by simp))
      |true=>exact Ev.Zak rfl (Ev.const (by simp;omega))
  rw[if_neg k3];refine Ev.Zat k3 ?_;by_cases k4:kd=4
  · rw [if_pos k4]
    have hbb:0≤b∧b<(d.length:Int):=by
      have:=hb k4;unfold awayV at this;simp only[Bool.or_eq_false_iff,decide_eq_false_iff_not]at this
      omega
    have hdm:(domAt d b).length≤3000000:=by
      unfold domAt;rw[List.getD_eq_getElem?_getD]
      cases hq:d[b.toNat]? with
      | none => simp
      |some x=>exact hdl x (List.mem_of_getElem? hq)
    refine Ev.Zak k4 (Ev.Zak z (Ev.bind hsum ?_));unfold heldB;rw[←e7]
    cases sumB vars coefs with
    | false => exact Ev.Zat (by simp) (Ev.const rfl)
    |true=>
      cases x7 with
      | false => exact Ev.Zak rfl (Ev.Zat (by simp) (Ev.const rfl))
      |true=>
        refine Ev.Zak rfl (Ev.Zak rfl (Ev.Zak hbb.1 (Ev.Zak hbb.2 ?_)));rw[rdR_dom];refine Ev.bind (rtruth_ev _ hdm) ?_
        cases truB (domAt d b)with
        | false => exact Ev.Zat (by simp) (Ev.const rfl)
        |true=>exact Ev.Zak rfl (Ev.bind (ref_Has vars b (by omega)) (Ev.const rfl))
  rw[if_neg k4];refine Ev.Zat k4 ?_;by_cases k5:kd=5
  · rw [if_pos k5]
    refine Ev.Zak k5 (Ev.Zak z ?_)
    have e:(sumB vars coefs && (decide (op=0) && (decide (rhs=0) && (decide (b=0) && (!(coefs.any oddU) && vars.all fun v=>truB (domAt d v))))))=(x5 && (sumB vars coefs && (!(coefs.any oddU) && vars.all fun v=>truB (domAt d v)))):=by
      rw[e5]
      cases sumB vars coefs<;>cases decide (op=0)<;>cases decide (rhs=0)<;>cases decide (b=0)<;>rfl
    rw[e]
    cases x5 with
    | false => exact Ev.Zat (by simp) (Ev.const rfl)
    |true=>
      refine Ev.Zak rfl (Ev.bind hsum ?_)
      cases hs:sumB vars coefs with
      | false => exact Ev.Zat (by simp) (Ev.const rfl)
      |true=>
        have hlen:vars.length=coefs.length:=by
          unfold sumB at hs;simp only[Bool.and_eq_true,decide_eq_true_eq]at hs;exact hs.2.1
        exact Ev.Zak rfl (Ev.bind (units_ev d hdl kd vars coefs op rhs rows b h1 hlen hvs) (Ev.const rfl))
  rw[if_neg k5,←e6];refine Ev.Zat k5 (Ev.Zak z ?_)
  cases x6 with
  | false => exact Ev.Zat (by simp) (Ev.const rfl)
  |true=>
    refine Ev.Zak rfl ?_;by_cases hz:2≤vars.length
    · rw [decide_eq_true hz]
      exact Ev.Zak (by omega) (Ev.const rfl)
    rw[decide_eq_false hz];exact Ev.Zat (by omega) (Ev.const rfl)
theorem rright_j2 (x5 x6 x7 : Bool) (e5 : x5 = (decide (op = 0) && (decide (rhs = 0) && decide (b = 0)))) (e6 : x6 = plainB coefs op rhs b) (e7 : x7 = (decide (0 ≤ op) && decide (op < 3))) :
    Ev (fun k=>Zaq.j2 k d x5 x6 x7 kd vars coefs op rhs rows b) (rightB d kd vars coefs op rhs rows b):=by
  refine Ev.step (G:=fun k=>_) (fun k=>by rw[Zaq.j2]) ?_;by_cases hz:0<vars.length;rotate_left
  · exact Ev.Zat (by omega) (rright_j3 d hdl kd vars coefs op rhs rows b h1 h2 h5 hin hv hb x5 x6 x7 false e5 e6 e7 (by rw[decide_eq_false hz,Bool.false_and]))
  exact Ev.Zak (by omega) (Ev.bind (others_ev vars (by omega)) (rright_j3 d hdl kd vars coefs op rhs rows b h1 h2 h5 hin hv hb x5 x6 x7 _ e5 e6 e7 (by rw[decide_eq_true hz,Bool.true_and])))
theorem Zhk (x5:Bool) (e5:x5=(decide (op=0) && (decide (rhs=0) && decide (b=0)))):Ev (fun k=>Zaq.j0 k d x5 kd vars coefs op rhs rows b) (rightB d kd vars coefs op rhs rows b):=by
  have j1:∀x6,x6=plainB coefs op rhs b→Ev (fun k=>Zaq.j1 k d x5 x6 kd vars coefs op rhs rows b) (rightB d kd vars coefs op rhs rows b):=by
    intro x6 e6;refine Ev.step (G:=fun k=>_) (fun k=>by rw[Zaq.j1]) ?_;by_cases hz:0≤op;rotate_left
    · exact Ev.Zat hz (rright_j2 d hdl kd vars coefs op rhs rows b h1 h2 h5 hin hv hb x5 x6 false e5 e6 (by rw[decide_eq_false hz,Bool.false_and]))
    exact Ev.Zak hz (rright_j2 d hdl kd vars coefs op rhs rows b h1 h2 h5 hin hv hb x5 x6 _ e5 e6 (by rw[decide_eq_true hz,Bool.true_and];exact decide_eq_decide.2 (by omega)))
  refine Ev.step (G:=fun k=>_) (fun k=>by rw[Zaq.j0]) ?_;have ep:plainB coefs op rhs b=(decide (coefs.length=0) && x5):=by rw[e5];rfl
  cases x5 with
  |true=>
    refine Ev.Zak rfl (j1 _ ?_);rw[ep,Bool.and_true,Bool.eq_iff_iff]
    simp
  |false=>exact Ev.Zat (by simp) (j1 false (by rw[ep,Bool.and_false]))
theorem rright_ev:Ev (fun k=>Zaq.f k d kd vars coefs op rhs rows b) (rightB d kd vars coefs op rhs rows b):=by
  unfold Zaq.f;by_cases q1:op=0;rotate_left
  · exact Ev.Zat q1 (Zhk d hdl kd vars coefs op rhs rows b h1 h2 h5 hin hv hb false (by rw[decide_eq_false q1];simp))
  refine Ev.Zak q1 ?_;by_cases q2:rhs=0;rotate_left
  · exact Ev.Zat q2 (Zhk d hdl kd vars coefs op rhs rows b h1 h2 h5 hin hv hb false (by rw[decide_eq_false q2];simp))
  refine Ev.Zak q2 (Zhk d hdl kd vars coefs op rhs rows b h1 h2 h5 hin hv hb _ ?_);rw[decide_eq_true q1,decide_eq_true q2,Bool.true_and,Bool.true_and,Bool.eq_iff_iff]
  simp
end
def usesL (kd:Int) (vars:List Int) (b:Int):List Int:=sd (if kd=4 then vars++ [b]else vars)
theorem usesL_length (kd:Int) (vars:List Int) (b:Int):(usesL kd vars b).length≤vars.length+1:=by
  unfold usesL;refine Nat.le_trans (Zhl _) ?_
  split
  · simp
  omega
theorem Zfc (kd:Int) (vars:List Int) (b x:Int):x ∈ usesL kd vars b↔x ∈ vars∨(kd=4∧x=b):=by
  unfold usesL;rw[mem_sd];by_cases h:kd=4
  · rw[if_pos h];simp[h]
  rw[if_neg h];simp[h]
theorem ruses_ev (kd:Int) (vars coefs:List Int) (op rhs:Int) (rows:List (List Int)) (b:Int) (h1:vars.length≤1000000):Ev (fun k=>Zdl.f k kd vars coefs op rhs rows b) (usesL kd vars b):=by
  unfold Zdl.f usesL;refine Ev.bind (a:=([]:List Int)) (Ev.const rfl) (Ev.Zak (by simp;omega) (Ev.bind (a:=vars) (Ev.const rfl) ?_));by_cases h:kd=4;rotate_left
  · rw [if_neg h]
    exact Ev.Zat h (Ev.bind (Zgj vars (by omega)) (Ev.const rfl))
  rw[if_pos h];exact Ev.Zak h (Ev.Zak (by omega) (Ev.bind (Zgj (vars++ [b]) (by simp;omega)) (Ev.const rfl)))
theorem Gd.small {d:List Rg} (h:Gd 1048576 (-1048576) d):d.length≤3000000:=by
  have h1:=Zdv h;have h2:=Zdz h
  omega
theorem rcon_ev (d : List (List Rg)) (hd : ∀ x ∈ d, Gd 1048576 (-1048576) x) (hdn : d.length ≤ 1000000) (kd : Int) (vars coefs : List Int) (op rhs : Int) (rows : List (List Int)) (b : Int) (h1 : vars.length ≤ 1000000) (h2 : coefs.length ≤ 1000000) (h5 : rows.length ≤ 1000000) (hin : ∀ x ∈ rows, x.length ≤ 1000000) :
    Ev (fun k=>Zaw.f k d kd vars coefs op rhs rows b) (conE d kd vars coefs op rhs rows b):=by
  have hdl:∀x ∈ d,x.length≤3000000:=fun x hx=>(hd x hx).small
  have hul:=usesL_length kd vars b
  have tail : (usesL kd vars b).any (awayV d.length) = false → ∀ m n : Nat, n + m = (usesL kd vars b).length → Ev (fun k => Zaw.l0 k d (usesL kd vars b) (n : Int) kd vars coefs op rhs rows b)
      (if rightB d kd vars coefs op rhs rows b=false then 44 else if(rhs.natAbs:Int)+tot coefs≤4611686018427387904 then 0 else 45):=by
    intro hu m;have hall:∀x ∈ usesL kd vars b,awayV d.length x=false:=fun x hx=>Bool.eq_false_iff.2 (fun e=>Bool.eq_false_iff.1 hu (List.any_eq_true.2 ⟨x,hx,e⟩))
    induction m with
    |zero=>
      intro n h;refine Ev.step (fun k=>by rw[Zaw.l0,if_neg (by omega)]) ?_;refine Ev.bind (rright_ev d hdl kd vars coefs op rhs rows b h1 h2 h5 hin (Bool.eq_false_iff.2 (fun e=> ?_)) (fun e=>hall b ((Zfc _ _ _ _).2 (.inr ⟨e,rfl⟩)))) ?_
      · obtain ⟨x, hx, hx2⟩ := List.any_eq_true.1 e
        exact Bool.eq_false_iff.1 (hall x ((Zfc _ _ _ _).2 (.inl hx))) hx2
      cases rightB d kd vars coefs op rhs rows b with
      | false => exact Ev.Zat (by simp) (Ev.const rfl)
      |true=>
        rw[if_neg (by simp)];refine Ev.Zak rfl (Ev.bind (rbig_ev coefs rhs h2) ?_);by_cases q:(rhs.natAbs:Int)+tot coefs≤4611686018427387904;rotate_left
        · rw [if_neg q, decide_eq_false q]
          exact Ev.Zak rfl (Ev.const rfl)
        rw[if_pos q,decide_eq_true q];exact Ev.Zat (by simp) (Ev.const rfl)
    |succ m ih=>
      intro n h;have hn:n<(usesL kd vars b).length:=by omega
      have ha:=hall _ (List.getElem_mem hn);unfold awayV at ha;simp only[Bool.or_eq_false_iff,decide_eq_false_iff_not]at ha;exact Ev.step (fun k=>by rw[Zaw.l0,if_pos (by omega),if_pos (by omega),Zc2 _ n hn,if_neg (by omega),if_neg (by omega),w1 (by omega)]) (ih (n+1) (by omega))
  have bad:∀m n:Nat,n+m=(usesL kd vars b).length→((usesL kd vars b).drop n).any (awayV d.length)=true→Ev (fun k=>Zaw.l0 k d (usesL kd vars b) (n:Int) kd vars coefs op rhs rows b) 43:=by
    intro m
    induction m with
    |zero=>
      intro n h hu;rw[List.drop_eq_nil_of_le (by omega)]at hu;exact absurd hu (by simp)
    |succ m ih=>
      intro n h hu;have hn:n<(usesL kd vars b).length:=by omega
      rw[List.drop_eq_getElem_cons hn,List.any_cons,Bool.or_eq_true]at hu;by_cases q1:(usesL kd vars b)[n]<0
      · exact Ev.step (G:=fun _=>some 43) (fun k=>by rw[Zaw.l0,if_pos (by omega),if_pos (by omega),Zc2 _ n hn,if_pos q1]) (Ev.const rfl)
      by_cases q2:(usesL kd vars b)[n]≥(d.length:Int)
      · exact Ev.step (G:=fun _=>some 43) (fun k=>by rw[Zaw.l0,if_pos (by omega),if_pos (by omega),Zc2 _ n hn,if_neg q1,if_pos q2]) (Ev.const rfl)
      refine Ev.step (fun k=>by rw[Zaw.l0,if_pos (by omega),if_pos (by omega),Zc2 _ n hn,if_neg q1,if_neg q2,w1 (by omega)]) (ih (n+1) (by omega) ?_)
      rcases hu with hu|hu
      · unfold awayV at hu
        simp only[Bool.or_eq_true,decide_eq_true_eq]at hu
        omega
      exact hu
  have main:¬(kd<0∨7≤kd)→Ev (fun k=>Zaw.l0 k d (usesL kd vars b) 0 kd vars coefs op rhs rows b) (conE d kd vars coefs op rhs rows b):=by
    intro q0;unfold conE;rw[if_neg q0];by_cases hu:(usesL kd vars b).any (awayV d.length)=true;rotate_left
    · have hu' := Bool.eq_false_iff.2 hu
      have hall:∀x ∈ usesL kd vars b,¬awayV d.length x=true:=fun x hx e=>hu (List.any_eq_true.2 ⟨x,hx,e⟩)
      rw [if_neg (fun q => by
        obtain⟨x,hx,hx2⟩:=List.any_eq_true.1 q
        exact hall x ((Zfc _ _ _ _).2 (.inl hx)) hx2), if_neg (fun q => hall b ((Zfc _ _ _ _).2 (.inr ⟨q.1, rfl⟩)) q.2)]
      exact tail hu' (usesL kd vars b).length 0 (by omega)
    have e:Ev (fun k=>Zaw.l0 k d (usesL kd vars b) 0 kd vars coefs op rhs rows b) 43:=bad (usesL kd vars b).length 0 (by omega) hu;obtain⟨x,hx,hx2⟩:=List.any_eq_true.1 hu
    rcases(Zfc kd vars b x).1 hx with hx|⟨h4,rfl⟩
    · rw[if_pos (List.any_eq_true.2 ⟨x,hx,hx2⟩)];exact e
    by_cases q1:vars.any (awayV d.length)=true
    · rw[if_pos q1];exact e
    rw[if_neg q1,if_pos ⟨h4,hx2⟩];exact e
  have j44:∀x:Bool,x=true→Ev (fun k=>Zaw.j0 k d x kd vars coefs op rhs rows b) 44:=fun x hx=>Ev.step (G:=fun _=>some 44) (fun k=>by rw[Zaw.j0,if_pos hx]) (Ev.const rfl)
  unfold Zaw.f;by_cases q1:kd<0
  · have e : conE d kd vars coefs op rhs rows b = 44 := by unfold conE; rw [if_pos (.inl q1)]
    rw[e];exact Ev.Zak q1 (j44 true rfl)
  refine Ev.Zat q1 ?_;by_cases q2:kd>6
  · have e : conE d kd vars coefs op rhs rows b = 44 := by unfold conE; rw [if_pos (.inr (by omega))]
    rw[e];exact j44 _ (decide_eq_true q2)
  rw[decide_eq_false q2];exact Ev.step (fun k=>by rw[Zaw.j0,if_neg (by simp)]) (Ev.bind (ruses_ev kd vars coefs op rhs rows b h1) (main (by omega)))
end Go.Proofs.YtdpieallpbllkaaGreat.P
namespace Go.Proofs.YtdpieallpbllkaaGreat.P
open Go.RowKit Go.Proofs.YtdpieallpbllkaaGreatW.PrintWords Go.Proofs.YtdpieallpbllkaaGreatW.PrintLast Go.Proofs.YtdpieallpbllkaaGreatW.PrintMore
attribute [local go_sem] Zcw Zcy Zdg Zdh Zco Zcp Zcx Zcz
def Zbr.l0 : Nat → List (List (S82)) → List (List (S82)) → Int → Option ((List (List (S82))))
 | 0, _, _, _ => none
 |k+1,x0,x3,x4=>if x4<(x0.length:Int)then((some (([]:List (S82)):List (S82))).bind fun AX=>(if 0≤x4 then(if AX.length+(Zdo x0 x4).length<8796093022208 then(if x3.length<5864062014805 then(Zbr.l0 k x0 (x3++ [(AX++(Zdo x0 x4))]) (wrap64 (x4+1)))else(none))else(none))else(none)))else(some x3)
def Zbr.f (k:Nat) (l0:List (List (S82))):Option ((List (List (S82)))):=Zbr.l0 k l0 (([]:List (List (S82)))) 0
set_option maxRecDepth 100000 in
theorem Zbr.calls (k : Nat) (A0 : Option Addr) (c0 : Nat) (l0 : List (List (S82))) (r : List (List (S82))) (w : World) (hr0 : Kd.C (Kd.slice 82 k82) w A0 l0.length l0) (hc0 : l0.length ≤ c0) (h : Zbr.f k l0 = some r) :
  Calls Tryz.prog 57 #[.slice A0 l0.length c0] w fun e w'=>∃v0_:Value,e= .returned (v0_)∧Kd.S (Kd.slice 82 k82) 53 w' w.heap.size (fun _=>True) v0_ r∧Below w.heap.size w w':=by
 have HR0:=Za.mk hr0;have HC0:=Za.mk hc0;clear hr0 hc0;have HB:=Za.mk (Below.refl w.heap.size w);have H:(Zbr.l0 k l0 (([]:List (List (S82)))) 0)=some r:=h;clear h;obtain⟨VM,CQ⟩:∃y_:List (List (S82)),y_=(([]:List (List (S82)))):=⟨_,rfl⟩;replace H:(Zbr.l0 k l0 VM 0)=some r:=by first|(rw[CQ];with_reducible exact H)|(have H2_:=(Option.bind_some _ _).symm.trans H;rw[CQ];with_reducible exact H2_)|(have H2_:=(Option.bind_some _ _).symm.trans H;with_reducible exact H2_)|with_reducible exact H|(rw[CQ];exact H)|exact H
 have QD:=Za.mk CQ;clear CQ;have H':=Za.mk H;clear H;go_enter Tryz.func57,Tryz.ntmps57
 go_wp2_with (first|((with_reducible refine Zar (N:=5) rfl ?_);refine Kd.S_lit (Kd.slice 82 k82) _ 53 ?hg (N:=5) ?hd (xs:=([]:List (List (S82)))) (inner:= []) (ok:=fun _=>True) (okp:=fun _=>True) ?hr ?hp (fun _ hk=>hk) trivial (Below.refl _ _) (Nat.le_refl _) (by simp) ?_;(case hd=>rfl);(case hg=>rfl);(case hr=>first|(go_simp;done)|(go_simp;rfl));(case hp=>exact(Reps.none _ _));intro oGa w2 ho3 hb hg_ hnew_;clear hg_ hnew_;(first|rw[←QD.out]at ho3|(simp only[Int.reduceToNat]at ho3;rw[←QD.out]at ho3));have WI:=Za.mk (Kd.Zgz ho3 (Zaf (bM HB.out)));replace HB:=Za.mk (bS HB.out hb);clear hb ho3))
 go_loopg [3,4] k (fun kq v3 v4 w'=>∃(af:List (List (S82))) (ah:Int),v4= .int .i64 ah∧Za (Zbr.l0 kq l0 af ah=some r)∧Za (kq≤k)∧Za (Kd.S (Kd.slice 82 k82) 53 w' w.heap.size (fun _=>True) v3 af)∧Za (Below w.heap.size w w'))
 case atStart=>exact⟨(VM),(0),eS,H',⟨Nat.le_refl _⟩,⟨sM WI.out⟩,⟨bM HB.out⟩⟩
 case round=>
  clear H';try clear p2
  obtain⟨af,ah,rfl,HA,HK1,aN,HB⟩:=hrel
  cases gk with
  | zero => exact absurd HA.out (by simp [Zbr.l0])
  |succ k1=>
   have H:=HA.out;clear HA;simp only[Zbr.l0]at H;by_cases c4:ah<(l0.length:Int)
   case neg=>
    rw[if_neg c4]at H;have dC:decide (ah<(l0.length:Int))=false:=decide_eq_false c4;clear c4;obtain rfl:=sj H;go_wp2;go_ret;exact⟨_,eR,sM aN.out,bM HB.out⟩
   rw[if_pos c4]at H;have dC:decide (ah<(l0.length:Int))=true:=decide_eq_true c4;clear c4;obtain⟨AX,CU⟩:∃y_:List (S82),y_=(([]:List (S82))):=⟨_,rfl⟩;replace H:(if 0≤ah then(if AX.length+(Zdo l0 ah).length<8796093022208 then(if af.length<5864062014805 then(Zbr.l0 k1 l0 (af++ [(AX++(Zdo l0 ah))]) (wrap64 (ah+1)))else(none))else(none))else(none))=some r:=by first|(rw[CU];with_reducible exact H)|(have H2_:=(Option.bind_some _ _).symm.trans H;rw[CU];with_reducible exact H2_)|(have H2_:=(Option.bind_some _ _).symm.trans H;with_reducible exact H2_)|with_reducible exact H|(rw[CU];exact H)|exact H
   have QE:=Za.mk CU;clear CU;obtain⟨dw,H⟩:=ifT H;obtain⟨c6,H⟩:=ifP H;have Oh:=Za.mk c6;clear c6;obtain⟨IJ,CV⟩:∃y_:List (S82),y_=(AX++(Zdo l0 ah)):=⟨_,rfl⟩;replace H:(if af.length<5864062014805 then(Zbr.l0 k1 l0 (af++ [IJ]) (wrap64 (ah+1)))else(none))=some r:=by first|(rw[CV];with_reducible exact H)|(have H2_:=(Option.bind_some _ _).symm.trans H;rw[CV];with_reducible exact H2_)|(have H2_:=(Option.bind_some _ _).symm.trans H;with_reducible exact H2_)|with_reducible exact H|(rw[CV];exact H)|exact H
   have Xv:=Za.mk CV;clear CV;obtain⟨c7,H⟩:=ifP H;have zH:=Za.mk c7;clear c7;obtain⟨VN,CW⟩:∃y_:List (List (S82)),y_=(af++ [IJ]):=⟨_,rfl⟩;replace H:(Zbr.l0 k1 l0 VN (wrap64 (ah+1)))=some r:=by first|(rw[CW];with_reducible exact H)|(have H2_:=(Option.bind_some _ _).symm.trans H;rw[CW];with_reducible exact H2_)|(have H2_:=(Option.bind_some _ _).symm.trans H;with_reducible exact H2_)|with_reducible exact H|(rw[CW];exact H)|exact H
   have Xw:=Za.mk CW;clear CW;have H':=Za.mk H;clear H
   go_wp2_with (first|((with_reducible refine Zar (N:=13) rfl ?_);refine Kd.Zdj k82 _ 82 ?hg (N:=13) ?hd (xs:=([]:List (S82))) (inner:= []) (ok:=fun _=>True) (okp:=fun _=>True) ?hr ?hp (fun _ hk=>hk) trivial (Below.refl _ _) (Nat.le_refl _) (by simp) ?_;(case hd=>rfl);(case hg=>rfl);(case hr=>first|(go_simp;done)|(go_simp;rfl));(case hp=>exact(Reps.none _ _));intro dWa w8 ho9 hb hg_ hnew_;clear hg_ hnew_;(first|rw[←QE.out]at ho9|(simp only[Int.reduceToNat]at ho9;rw[←QE.out]at ho9));replace aN:=Za.mk (Kd.Zgt (sM aN.out) (Kd.Zc6 ho9) hb);have Qu:=Za.mk (Kd.Zbm ho9 (Zaf (bM HB.out)));replace HB:=Za.mk (bS HB.out hb);clear hb ho9;have OG:0≤(ah:Int):=odt;have OW:ah<(l0.length:Int):=odt;obtain⟨fHa,exa,e1a,cAa,JH,J4,Jr⟩:=Zfv HR0.out ah OG OW;cases cAa;replace JH:=hB HB.out JH;have TK:=Za.mk Jr;have epa:=Za.mk J4;clear Jr J4;replace OG:=eq_true OG;replace OW:=eq_true OW)|((with_reducible refine Zbo (b:= .append) (xs:=#[.tmp 13,.tmp 17]) rfl ?_);at_builtin;refine Kd.Zdc k82 (w0:=w) w.heap.size rfl (.tmp 13) (.tmp 17) 53 82 (.agg #[(.int .i64 0),(.int .i64 0)]) 16 rfl Tryz.underlying53 Zh7 rfl (by decide) (by omega) dWa AX (Zdo l0 ah) _ _ _ (fun _=>True) (fun _=>False) rfl rfl ?aO ?aR (fun _ _ h=>h) (fun _ h=>h.elim) ?aF ?aB ?aS ?aL ?_;(case aR=>repeat(first|exact(Kd.Zac TK.out HB.out)|(with_reducible refine Kd.C_alloc ?_ _)|(with_reducible refine Kd.Zbt ?_ _)|(with_reducible refine Kd.Zb4 ?_)));(case aB=>exact(bM HB.out));(case aF=>exact(fun _ _=>trivial));(case aO=>exact(rM Qu.out));(case aS=>exact(Zaf (bM HB.out)));(case aL=>have:=Oh.out;omega);intro v194 w10 ho hb hg hat;rw[←Xv.out]at ho;replace aN:=Za.mk (Kd.S_after (ok:=(fun _=>True)) (sM aN.out) hg hat);replace HB:=Za.mk (hb);have FD:=Za.mk (ho);clear Qu;clear ho hb hg hat;obtain⟨iE,iG,pQ⟩:=Kd.Zbe FD.out;subst pQ)|((with_reducible refine Zbo (b:= .append) (xs:=#[.tmp 12,.tmp 19]) rfl ?_);at_builtin;refine Kd.S_append (Kd.slice 82 k82) (w0:=w) w.heap.size rfl (.tmp 12) (.tmp 19) 43 53 (.slice none 0 0) 24 rfl Tryz.underlying43 info53 rfl (by decide) (by omega) u3 af IJ [.slice iE IJ.length iG] (fun _=>True) (fun k_=>some k_=(.slice iE IJ.length iG:Value).ownBlock) rfl rfl ?aP (fun k_ hk_=>((Kd.Za6 (ok':=fun k_=>((fun _=>True)) k_∧some k_≠(u3:Value).ownBlock) (Kd.Zdq (FD.out) (Kd.Zeb aN.out) (by decide)) (fun k_ hk=>⟨trivial,hk.2⟩))).1 k_ hk_.symm) ?aF ?aO ?aB ?aS ?aL ?_;(case aP=>exact Kd.M_row (Kd.Za6 (Kd.Zgd rfl (Kd.Za6 (ok':=fun k_=>((fun _=>True)) k_∧some k_≠(u3:Value).ownBlock) (Kd.Zdq (FD.out) (Kd.Zeb aN.out) (by decide)) (fun k_ hk=>⟨trivial,hk.2⟩))) (fun _ h_=>h_)));(case aB=>exact(bM HB.out));(case aF=>exact(fun _ _=>trivial));(case aO=>exact(sM (Kd.Zd9 aN.out (fun k_ hk=>⟨trivial,fun e_=>hk.2 e_⟩))));(case aS=>exact(Zaf (bM HB.out)));(case aL=>have:=zH.out;omega);intro oHa w11 ho hb hg hat;rw[←Xw.out]at ho;replace HB:=Za.mk (hb);have WJ:=Za.mk (ho);clear aN FD;clear ho hb hg hat))
   go_roundg k1
   case measure=>have:=HK1.out;omega
   case rel=>exact⟨(VN),(wrap64 (ah+1)),eS,H',⟨by have:=HK1.out;omega⟩,⟨sM WJ.out⟩,⟨bM HB.out⟩⟩
def Zbg.l0 : Nat → List (List (S82)) → Int → List (S55) → List (S36) → Int → List Int → List Int → Option ((List (List (S82))))
 | 0, _, _, _, _, _, _, _ => none
 |k+1,x3,x4,x200000,Uj,Uk,Ul,Um=>if x4<(x200000.length:Int)then(if 0≤x4 then(if x3.length<5864062014805 then(Zbg.l0 k (x3++ [(Za9 x200000 x4).f1]) (wrap64 (x4+1)) x200000 Uj Uk Ul Um)else(none))else(none))else((Zbr.f k x3).bind fun Pj=>(some Pj))
def Zbg.f (k:Nat) (ag:List (S55)) (aa:List (S36)) (ay:Int) (ak:List Int) (ai:List Int):Option ((List (List (S82)))):=Zbg.l0 k (([]:List (List (S82)))) 0 ag aa ay ak ai
set_option maxRecDepth 100000 in
theorem Zbg.calls (k : Nat) (P0_0_ : Nat → Prop) (eQ : Option Addr) (eF : Nat) (ag : List (S55)) (aV : Option Addr) (aQ : Nat) (aa : List (S36)) (ay : Int) (bR : Option Addr) (bT : Nat) (ak : List Int) (bK : Option Addr) (bL : Nat) (ai : List Int) (r : List (List (S82))) (w : World) (hs0_0 : Kd.V k55 55 w w.heap.size (fun k_ => P0_0_ k_) (.slice eQ ag.length eF) ag) (eu : Kd.C k36 w aV aa.length aa) (ek : aa.length ≤ aQ) (jW : Kd.C (Kd.int .i64) w bR ak.length ak) (jU : ak.length ≤ bT) (jX : Kd.C (Kd.int .i64) w bK ai.length ai) (jV : ai.length ≤ bL) (h : Zbg.f k ag aa ay ak ai = some r) :
  Calls Tryz.prog 22 #[.agg #[.slice eQ ag.length eF,.slice aV aa.length aQ,.int .i64 ay,.slice bR ak.length bT,.slice bK ai.length bL]] w fun e w'=>∃v0_:Value,e= .returned (v0_)∧Kd.N (Kd.slice 82 k82) 53 w' w.heap.size (fun k_=>(P0_0_ k_∨w.heap.size≤k_)) v0_ r∧Below w.heap.size w w':=by
 have hu28:=Tryz.underlying28;have Bu:=Za.mk (show Kd.V k55 55 w w.heap.size (fun k_=>(P0_0_ k_∨w.heap.size≤k_)) (.slice eQ ag.length eF) ag from Kd.Zfb hs0_0 (fun k_ hk=> .inl hk));have eO:=Za.mk eu;have fC:=Za.mk ek;clear eu ek;have kv:=Za.mk jW;have kr:=Za.mk jU;clear jW jU;have kw:=Za.mk jX;have ku:=Za.mk jV;clear jX jV;have HB:=Za.mk (Below.refl w.heap.size w);have H:(Zbg.l0 k (([]:List (List (S82)))) 0 ag aa ay ak ai)=some r:=h;clear h;obtain⟨VO,CX⟩:∃y_:List (List (S82)),y_=(([]:List (List (S82)))):=⟨_,rfl⟩;replace H:(Zbg.l0 k VO 0 ag aa ay ak ai)=some r:=by first|(rw[CX];with_reducible exact H)|(have H2_:=(Option.bind_some _ _).symm.trans H;rw[CX];with_reducible exact H2_)|(have H2_:=(Option.bind_some _ _).symm.trans H;with_reducible exact H2_)|with_reducible exact H|(rw[CX];exact H)|exact H
 have QF:=Za.mk CX;clear CX;have H':=Za.mk H;clear H;go_enter Tryz.func22,Tryz.ntmps22
 go_wp2_with (first|((with_reducible refine Zar (N:=1) rfl ?_);refine bx 1 #[.slice eQ ag.length eF,.slice aV aa.length aQ,.int .i64 ay,.slice bR ak.length bT,.slice bK ai.length bL] 28 ?_;intro mF hg w2 hbox hb;replace Bu:=Za.mk (Kd.Zg0 (Kd.V_elderB (vM Bu.out) mF (Nat.le_of_eq hg.symm)) hb);have lY:=Za.mk (hbox);have fza:=Za.mk ((gE hg HB.out:w.heap.size≤mF));replace HB:=Za.mk (bS HB.out hb);clear hb hbox hg)|((with_reducible refine Zar (N:=5) rfl ?_);refine Kd.N_lit (Kd.slice 82 k82) _ 53 ?hg (N':=5) ?hd (xs:=([]:List (List (S82)))) (inner:= []) (ok:=(fun k_=>(P0_0_ k_∨w.heap.size≤k_)∧k_≠mF)) (okp:=(fun k_=>(P0_0_ k_∨w.heap.size≤k_)∧k_≠mF)) ?hr ?hp (fun _ hk=>hk) ((show ∀k_,w2.heap.size≤k_→(fun k_=>(P0_0_ k_∨w.heap.size≤k_)∧k_≠mF) k_ from fun k_ hk=>⟨(.inr (Nat.le_trans (Zaf (bM HB.out)) hk)),Kd.freshB (kM lY.out) k_ hk⟩) _ (Nat.le_refl _)) (Below.refl _ _) (Nat.le_refl _) (by simp) ?_;(case hd=>rfl);(case hg=>rfl);(case hr=>first|(go_simp;done)|(go_simp;rfl));(case hp=>exact(Reps.none _ _));intro v201 w3 ho4 hb hg_ hnew_;clear hg_ hnew_;(first|rw[←QF.out]at ho4|(simp only[Int.reduceToNat]at ho4;rw[←QF.out]at ho4));replace Bu:=Za.mk (Kd.V_elder' (vM Bu.out) (Kd.Zgx ho4) hb);have WK:=Za.mk (Kd.Zd ho4 (Zaf (bM HB.out)));replace lY:=Za.mk (kB lY.out hb);replace HB:=Za.mk (bS HB.out hb);clear hb ho4))
 go_loopg [3,4] k (fun kq v3 v4 w'=>∃(af:List (List (S82))) (ah:Int),v4= .int .i64 ah∧Za (Zbg.l0 kq af ah ag aa ay ak ai=some r)∧Za (kq≤k)∧Za (Kd.N (Kd.slice 82 k82) 53 w' w.heap.size (fun k_=>(P0_0_ k_∨w.heap.size≤k_)∧k_≠mF) v3 af)∧Za (Kd.V k55 55 w' w.heap.size (fun k_=>(P0_0_ k_∨w.heap.size≤k_)∧some k_≠(v3:Value).ownBlock∧k_≠mF) (.slice eQ ag.length eF) ag)∧Za (w'.heap[mF]? =some (.cells #[(.slice eQ ag.length eF),(.slice aV aa.length aQ),.int .i64 ay,(.slice bR ak.length bT),(.slice bK ai.length bL)] 28 (0,0)))∧Za (Below w.heap.size w w'))
 case atStart=>exact⟨(VO),(0),eS,H',⟨Nat.le_refl _⟩,⟨nM WK.out⟩,⟨vM (Kd.Zfb Bu.out (fun _ hk=>⟨hk.1.1,⟨hk.2,hk.1.2⟩⟩))⟩,⟨kM lY.out⟩,⟨bM HB.out⟩⟩
 case round=>
  clear H';try clear c2
  try clear p2
  obtain⟨af,ah,rfl,HA,HK1,aN,ni,lY,HB⟩:=hrel
  cases gk with
  | zero => exact absurd HA.out (by simp [Zbg.l0])
  |succ k1=>
   have H:=HA.out;clear HA;simp only[Zbg.l0]at H;by_cases c5:ah<(ag.length:Int)
   case neg=>
    rw[if_neg c5]at H;have dw:decide (ah<(ag.length:Int))=false:=decide_eq_false c5;clear c5;obtain⟨Pj,A10,H⟩:=bnd H;try dsimp only at H
    obtain rfl:=sj H;obtain⟨Eu,Ew,Gx,MU,MV,Eh,Ei,Gf,Ms,Mt⟩:=cz5 lY.out;obtain⟨iE,iG,pQ⟩:=Kd.Zcu aN.out;subst pQ
    go_wp2_with (first|((with_reducible refine Zal (f:=57) rfl ?_);refine gl 23 Tryz.func57 #[.slice iE af.length iG] ?_;(with_reducible refine(Zbr.calls k1 _ _ af Pj _ (cM ((Kd.Za3 aN.out).2.2)) ((Kd.Za3 aN.out).2.1) A10.out).mono ?_);rintro e w13 ⟨v208,rfl,ho0,hb⟩;refine⟨_,rfl,?_⟩;have WM:=Za.mk (Kd.Zd (Kd.Zc (ok':=fun k_=>(P0_0_ k_∨w.heap.size≤k_)∧some k_≠(.slice iE af.length iG:Value).ownBlock∧k_≠mF) (Kd.S_N (Kd.Zf ho0)) (fun k_ hk_=>⟨(.inr (Nat.le_trans (Zaf (bM HB.out)) hk_.2.1)),(Kd.fresh' (Kd.N_lt (nM aN.out)) k_ hk_.2.1),(Kd.freshB (kM lY.out) k_ hk_.2.1)⟩)) (Zaf (bM HB.out)));replace HB:=Za.mk (bS HB.out hb);clear aN ni lY;(try clear hb);(try clear hb2);(try clear hk);(try clear hi);(try clear ho0)))
    go_ret;exact⟨_,eR,nM (Kd.Zc WM.out (fun _ hk=>hk.1)),bM HB.out⟩
   rw[if_pos c5]at H;have dw:decide (ah<(ag.length:Int))=true:=decide_eq_true c5;clear c5;obtain⟨iF,H⟩:=ifT H;obtain⟨c7,H⟩:=ifP H;have zH:=Za.mk c7;clear c7;obtain⟨VP,CY⟩:∃y_:List (List (S82)),y_=(af++ [(Za9 ag ah).f1]):=⟨_,rfl⟩;replace H:(Zbg.l0 k1 VP (wrap64 (ah+1)) ag aa ay ak ai)=some r:=by first|(rw[CY];with_reducible exact H)|(have H2_:=(Option.bind_some _ _).symm.trans H;rw[CY];with_reducible exact H2_)|(have H2_:=(Option.bind_some _ _).symm.trans H;with_reducible exact H2_)|with_reducible exact H|(rw[CY];exact H)|exact H
   have Xx:=Za.mk CY;clear CY;have H':=Za.mk H;clear H;obtain⟨xX,xY,yc,yf,yg,xJ,xK,xL,xM,xN⟩:=cz5 lY.out;have Mg:0≤(ah:Int):=odt;have Mk:ah<(ag.length:Int):=odt;obtain⟨fIa,Uo,U7,rfl,esa,TR,J5,Js⟩:=Zev (Kd.Zfu ni.out).2.2 ah Mg Mk;obtain⟨ce203,hce203,hMe203,hcc203⟩:=Kd.V_get ni.out z55 ah Mg (by first|exact Mk|exact odt|(have e_:=(Kd.Zfu ni.out).1;omega));obtain⟨ua203_1,uc203_1,rfl,ul203_1,ge203_1⟩:=k55_openF hMe203;have hv203_1:=hcc203 1 _ rfl;rw[Zei _ _ 1 (by omega)]at hv203_1;replace hv203_1:=Option.some.inj (hv203_1.symm.trans TR)
   injection hv203_1 with hva_ hvn_ hvc_
   rw[hva_]at ge203_1;rw[hvc_]at ul203_1;have HL203_1:=Za.mk (show Kd.V k82 82 _ w.heap.size _ _ ((Za9 ag ah).f1)from Kd.V_mk ul203_1 ge203_1);clear hva_ hvn_ hvc_ ge203_1 ul203_1 hcc203 hce203;have era:=Za.mk Js;have eqa:=Za.mk J5;clear Js J5;replace Mg:=eq_true Mg;replace Mk:=eq_true Mk
   go_wp2_with (first|((with_reducible refine Zbo (b:= .append) (xs:=#[.tmp 13,.tmp 20]) rfl ?_);at_builtin;refine Kd.N_append (Kd.slice 82 k82) (w0:=w) w.heap.size rfl (.tmp 13) (.tmp 20) 43 53 (.slice none 0 0) 24 rfl Tryz.underlying43 info53 rfl (by decide) (by omega) u3 af ((Za9 ag ah).f1) [.slice Uo ((Za9 ag ah).f1).length U7] (fun k_=>(P0_0_ k_∨w.heap.size≤k_)∧k_≠mF) (fun k_=>((fun k_=>(P0_0_ k_∨w.heap.size≤k_)∧k_≠mF)) k_∧some k_≠(u3:Value).ownBlock) rfl rfl ?aP (fun _ hk=>hk) ?aF ?aO ?aB ?aS ?aL ?_;(case aP=>exact(Kd.Ze8 (Kd.Zfu (Kd.Zfb (ok':=(fun k_=>((fun k_=>(P0_0_ k_∨w.heap.size≤k_)∧k_≠mF)) k_∧some k_≠(u3:Value).ownBlock)) (HL203_1.out) (fun k_ hk=>⟨⟨hk.1,hk.2.2⟩,hk.2.1⟩))).2.1 (Kd.V_F (Kd.Zfb (ok':=(fun k_=>((fun k_=>(P0_0_ k_∨w.heap.size≤k_)∧k_≠mF)) k_∧some k_≠(u3:Value).ownBlock)) (HL203_1.out) (fun k_ hk=>⟨⟨hk.1,hk.2.2⟩,hk.2.1⟩)))));(case aB=>exact(bM HB.out));(case aF=>exact(fun k_ hk=>⟨(.inr (Nat.le_trans (Zaf (bM HB.out)) hk)),Kd.freshB (kM lY.out) k_ hk⟩));(case aO=>exact(nM aN.out));(case aS=>exact(Zaf (bM HB.out)));(case aL=>have:=zH.out;omega);intro oIa w9 ho hb hg hat;rw[←Xx.out]at ho;replace ni:=Za.mk (Kd.V_afterv (ok:=(fun k_=>(P0_0_ k_∨w.heap.size≤k_)∧k_≠mF)) (vM (Kd.Zfb ni.out (fun _ hk=>⟨⟨hk.1,hk.2.2⟩,hk.2.1⟩))) hg hat);replace lY:=Za.mk (kG lY.out hg (Kd.N_ne aN.out lY.out (by decide)));replace HB:=Za.mk (hb);have WL:=Za.mk (ho);clear HL203_1 aN;clear ho hb hg hat))
   go_roundg k1
   case measure=>have:=HK1.out;omega
   case rel=>exact⟨(VP),(wrap64 (ah+1)),eS,H',⟨by have:=HK1.out;omega⟩,⟨nM WL.out⟩,⟨vM (Kd.Zfb ni.out (fun _ hk=>⟨hk.1.1,⟨hk.2,hk.1.2⟩⟩))⟩,⟨kM lY.out⟩,⟨bM HB.out⟩⟩
def Za5.l0 : Nat → ByteArray → Int → Option (Bool)
 | 0, _, _ => none
 |k+1,x0,x3=>if x3<(x0.size:Int)then(if 0≤x3 then(if(bt x0 x3)≥97 then(if((bt x0 x3)≤122)then(Za5.l0 k x0 (wrap64 (x3+1)))else(if x3=0 then(some false)else(if(bt x0 x3)=95 then(Za5.l0 k x0 (wrap64 (x3+1)))else(if(bt x0 x3)<48 then(some false)else(if(bt x0 x3)>57 then(some false)else(Za5.l0 k x0 (wrap64 (x3+1))))))))else(if x3=0 then(some false)else(if(bt x0 x3)=95 then(Za5.l0 k x0 (wrap64 (x3+1)))else(if(bt x0 x3)<48 then(some false)else(if(bt x0 x3)>57 then(some false)else(Za5.l0 k x0 (wrap64 (x3+1))))))))else(none))else(if x0.toList=([]:List UInt8)then(some false)else(some (decide ((x0.size:Int)≤16))))
def Za5.f (k:Nat) (a0:ByteArray):Option (Bool):=Za5.l0 k a0 0
set_option maxRecDepth 100000 in
theorem Za5.calls (k : Nat) (a0 : ByteArray) (r : Bool) (w : World) (h : Za5.f k a0 = some r) :
  Calls Tryz.prog 53 #[.string a0] w fun e w'=>e= .returned (.bool r)∧Zav w w':=by
 have H:(Za5.l0 k a0 0)=some r:=h;clear h;have H':=Za.mk H;clear H;go_enter Tryz.func53,Tryz.ntmps53;go_wp2
 go_loopg [3] k (fun kq v3 w'=>∃(af:Int),v3= .int .i64 af∧Za (Za5.l0 kq a0 af=some r)∧Za (kq≤k)∧Zav w w')
 case atStart=>exact⟨(0),eS,H',⟨Nat.le_refl _⟩,by repeat(first|exact Zav.refl _|apply Zav.step)⟩
 case round=>
  clear H';obtain⟨af,rfl,HA,HK1,⟨m1,rfl⟩⟩:=hrel
  cases gk with
  | zero => exact absurd HA.out (by simp [Za5.l0])
  |succ k1=>
   have H:=HA.out;clear HA;simp only[Za5.l0]at H;by_cases c2:af<(a0.size:Int)
   case neg=>
    rw[if_neg c2]at H;have jC:decide (af<(a0.size:Int))=false:=decide_eq_false c2;clear c2;by_cases c22:a0.toList=([]:List UInt8)
    case neg=>
     rw[if_neg c22]at H;have Cn:(a0.toList==([]:List UInt8))=false:=beq_eq_false_iff_ne.mpr c22;have LG:(a0.toList !=([]:List UInt8))=true:=bne_iff_ne.mpr c22;obtain rfl:=sj H;go_wp2;go_ret;exact⟨eS,by repeat(first|exact Zav.refl _|apply Zav.step)⟩
    rw[if_pos c22]at H;have Cn:(a0.toList==([]:List UInt8))=true:=beq_iff_eq.mpr c22;have LG:(a0.toList !=([]:List UInt8))=false:=bne_eq_false_iff_eq.mpr c22;clear c22;obtain rfl:=sj H;go_wp2;go_ret;exact⟨eS,by repeat(first|exact Zav.refl _|apply Zav.step)⟩
   rw[if_pos c2]at H;have jC:decide (af<(a0.size:Int))=true:=decide_eq_true c2;clear c2;obtain⟨fB,H⟩:=ifT H;by_cases c5:(bt a0 af)≥97
   case neg=>
    rw[if_neg c5]at H;have dw:decide (97≤(bt a0 af))=false:=decide_eq_false c5;clear c5;by_cases c15:af=0
    case pos=>
     rw[if_pos c15]at H;have jo:(af==0)=true:=beq_iff_eq.mpr c15;have wT:(af !=0)=false:=bne_eq_false_iff_eq.mpr c15;clear c15;obtain rfl:=sj H;have p4:0≤(af:Int):=odt;have q4:af<(a0.size:Int):=odt;have hx4:=Zd0 a0 af;replace p4:=eq_true p4;replace q4:=eq_true q4;go_wp2;go_ret;exact⟨eS,by repeat(first|exact Zav.refl _|apply Zav.step)⟩
    rw[if_neg c15]at H;have jo:(af==0)=false:=beq_eq_false_iff_ne.mpr c15;have wT:(af !=0)=true:=bne_iff_ne.mpr c15;by_cases c17:(bt a0 af)=95
    case pos=>
     rw[if_pos c17]at H;have yX:((bt a0 af)==95)=true:=beq_iff_eq.mpr c17;have LC:((bt a0 af) !=95)=false:=bne_eq_false_iff_eq.mpr c17;clear c17;have H':=Za.mk H;clear H;have p4:0≤(af:Int):=odt;have q4:af<(a0.size:Int):=odt;have hx4:=Zd0 a0 af;replace p4:=eq_true p4;replace q4:=eq_true q4;have p16:0≤(af:Int):=odt;have q16:af<(a0.size:Int):=odt;have hx16:=Zd0 a0 af;replace p16:=eq_true p16;replace q16:=eq_true q16;go_wp2
     go_roundg k1
     case measure=>have:=HK1.out;omega
     case rel=>exact⟨(wrap64 (af+1)),eS,H',⟨by have:=HK1.out;omega⟩,by repeat(first|exact Zav.refl _|apply Zav.step)⟩
    rw[if_neg c17]at H;have yX:((bt a0 af)==95)=false:=beq_eq_false_iff_ne.mpr c17;have LC:((bt a0 af) !=95)=true:=bne_iff_ne.mpr c17;by_cases c19:(bt a0 af)<48
    case pos=>
     rw[if_pos c19]at H;have Cm:decide ((bt a0 af)<48)=true:=decide_eq_true c19;clear c19;obtain rfl:=sj H;have p4:0≤(af:Int):=odt;have q4:af<(a0.size:Int):=odt;have hx4:=Zd0 a0 af;replace p4:=eq_true p4;replace q4:=eq_true q4;have p16:0≤(af:Int):=odt;have q16:af<(a0.size:Int):=odt;have hx16:=Zd0 a0 af;replace p16:=eq_true p16;replace q16:=eq_true q16;have p18:0≤(af:Int):=odt;have q18:af<(a0.size:Int):=odt;have UU:=Zd0 a0 af;replace p18:=eq_true p18;replace q18:=eq_true q18;go_wp2;go_ret;exact⟨eS,by repeat(first|exact Zav.refl _|apply Zav.step)⟩
    rw[if_neg c19]at H;have Cm:decide ((bt a0 af)<48)=false:=decide_eq_false c19;clear c19;by_cases c21:(bt a0 af)>57
    case pos=>
     rw[if_pos c21]at H;have LF:decide (57<(bt a0 af))=true:=decide_eq_true c21;clear c21;obtain rfl:=sj H;have p4:0≤(af:Int):=odt;have q4:af<(a0.size:Int):=odt;have hx4:=Zd0 a0 af;replace p4:=eq_true p4;replace q4:=eq_true q4;have p16:0≤(af:Int):=odt;have q16:af<(a0.size:Int):=odt;have hx16:=Zd0 a0 af;replace p16:=eq_true p16;replace q16:=eq_true q16;have p18:0≤(af:Int):=odt;have q18:af<(a0.size:Int):=odt;have UU:=Zd0 a0 af;replace p18:=eq_true p18;replace q18:=eq_true q18;have p20:0≤(af:Int):=odt;have q20:af<(a0.size:Int):=odt;have dua:=Zd0 a0 af;replace p20:=eq_true p20;replace q20:=eq_true q20;go_wp2;go_ret;exact⟨eS,by repeat(first|exact Zav.refl _|apply Zav.step)⟩
    rw[if_neg c21]at H;have LF:decide (57<(bt a0 af))=false:=decide_eq_false c21;clear c21;have H':=Za.mk H;clear H;have p4:0≤(af:Int):=odt;have q4:af<(a0.size:Int):=odt;have hx4:=Zd0 a0 af;replace p4:=eq_true p4;replace q4:=eq_true q4;have p16:0≤(af:Int):=odt;have q16:af<(a0.size:Int):=odt;have hx16:=Zd0 a0 af;replace p16:=eq_true p16;replace q16:=eq_true q16;have p18:0≤(af:Int):=odt;have q18:af<(a0.size:Int):=odt;have UU:=Zd0 a0 af;replace p18:=eq_true p18;replace q18:=eq_true q18;have p20:0≤(af:Int):=odt;have q20:af<(a0.size:Int):=odt;have dua:=Zd0 a0 af;replace p20:=eq_true p20;replace q20:=eq_true q20;go_wp2
    go_roundg k1
    case measure=>have:=HK1.out;omega
    case rel=>exact⟨(wrap64 (af+1)),eS,H',⟨by have:=HK1.out;omega⟩,by repeat(first|exact Zav.refl _|apply Zav.step)⟩
   rw[if_pos c5]at H;have dw:decide (97≤(bt a0 af))=true:=decide_eq_true c5;clear c5;by_cases c7:((bt a0 af)≤122)
   case pos=>
    rw[if_pos c7]at H;have nu:decide ((bt a0 af)≤122)=true:=decide_eq_true c7;clear c7;have H':=Za.mk H;clear H;have p4:0≤(af:Int):=odt;have q4:af<(a0.size:Int):=odt;have hx4:=Zd0 a0 af;replace p4:=eq_true p4;replace q4:=eq_true q4;have p6:0≤(af:Int):=odt;have q6:af<(a0.size:Int):=odt;have hx6:=Zd0 a0 af;replace p6:=eq_true p6;replace q6:=eq_true q6;go_wp2
    go_roundg k1
    case measure=>have:=HK1.out;omega
    case rel=>exact⟨(wrap64 (af+1)),eS,H',⟨by have:=HK1.out;omega⟩,by repeat(first|exact Zav.refl _|apply Zav.step)⟩
   rw[if_neg c7]at H;have nu:decide ((bt a0 af)≤122)=false:=decide_eq_false c7;clear c7;by_cases c8:af=0
   case pos=>
    rw[if_pos c8]at H;have ny:(af==0)=true:=beq_iff_eq.mpr c8;have GV:(af !=0)=false:=bne_eq_false_iff_eq.mpr c8;clear c8;obtain rfl:=sj H;have p4:0≤(af:Int):=odt;have q4:af<(a0.size:Int):=odt;have hx4:=Zd0 a0 af;replace p4:=eq_true p4;replace q4:=eq_true q4;have p6:0≤(af:Int):=odt;have q6:af<(a0.size:Int):=odt;have hx6:=Zd0 a0 af;replace p6:=eq_true p6;replace q6:=eq_true q6;go_wp2;go_ret;exact⟨eS,by repeat(first|exact Zav.refl _|apply Zav.step)⟩
   rw[if_neg c8]at H;have ny:(af==0)=false:=beq_eq_false_iff_ne.mpr c8;have GV:(af !=0)=true:=bne_iff_ne.mpr c8;by_cases c10:(bt a0 af)=95
   case pos=>
    rw[if_pos c10]at H;have jS:((bt a0 af)==95)=true:=beq_iff_eq.mpr c10;have yV:((bt a0 af) !=95)=false:=bne_eq_false_iff_eq.mpr c10;clear c10;have H':=Za.mk H;clear H;have p4:0≤(af:Int):=odt;have q4:af<(a0.size:Int):=odt;have hx4:=Zd0 a0 af;replace p4:=eq_true p4;replace q4:=eq_true q4;have p6:0≤(af:Int):=odt;have q6:af<(a0.size:Int):=odt;have hx6:=Zd0 a0 af;replace p6:=eq_true p6;replace q6:=eq_true q6;have p9:0≤(af:Int):=odt;have q9:af<(a0.size:Int):=odt;have hx9:=Zd0 a0 af;replace p9:=eq_true p9;replace q9:=eq_true q9;go_wp2
    go_roundg k1
    case measure=>have:=HK1.out;omega
    case rel=>exact⟨(wrap64 (af+1)),eS,H',⟨by have:=HK1.out;omega⟩,by repeat(first|exact Zav.refl _|apply Zav.step)⟩
   rw[if_neg c10]at H;have jS:((bt a0 af)==95)=false:=beq_eq_false_iff_ne.mpr c10;have yV:((bt a0 af) !=95)=true:=bne_iff_ne.mpr c10;by_cases c12:(bt a0 af)<48
   case pos=>
    rw[if_pos c12]at H;have iV:decide ((bt a0 af)<48)=true:=decide_eq_true c12;clear c12;obtain rfl:=sj H;have p4:0≤(af:Int):=odt;have q4:af<(a0.size:Int):=odt;have hx4:=Zd0 a0 af;replace p4:=eq_true p4;replace q4:=eq_true q4;have p6:0≤(af:Int):=odt;have q6:af<(a0.size:Int):=odt;have hx6:=Zd0 a0 af;replace p6:=eq_true p6;replace q6:=eq_true q6;have p9:0≤(af:Int):=odt;have q9:af<(a0.size:Int):=odt;have hx9:=Zd0 a0 af;replace p9:=eq_true p9;replace q9:=eq_true q9;have p11:0≤(af:Int):=odt;have q11:af<(a0.size:Int):=odt;have UT:=Zd0 a0 af;replace p11:=eq_true p11;replace q11:=eq_true q11;go_wp2;go_ret;exact⟨eS,by repeat(first|exact Zav.refl _|apply Zav.step)⟩
   rw[if_neg c12]at H;have iV:decide ((bt a0 af)<48)=false:=decide_eq_false c12;clear c12;by_cases c14:(bt a0 af)>57
   case pos=>
    rw[if_pos c14]at H;have lm:decide (57<(bt a0 af))=true:=decide_eq_true c14;clear c14;obtain rfl:=sj H;have p4:0≤(af:Int):=odt;have q4:af<(a0.size:Int):=odt;have hx4:=Zd0 a0 af;replace p4:=eq_true p4;replace q4:=eq_true q4;have p6:0≤(af:Int):=odt;have q6:af<(a0.size:Int):=odt;have hx6:=Zd0 a0 af;replace p6:=eq_true p6;replace q6:=eq_true q6;have p9:0≤(af:Int):=odt;have q9:af<(a0.size:Int):=odt;have hx9:=Zd0 a0 af;replace p9:=eq_true p9;replace q9:=eq_true q9;have p11:0≤(af:Int):=odt;have q11:af<(a0.size:Int):=odt;have UT:=Zd0 a0 af;replace p11:=eq_true p11;replace q11:=eq_true q11;have p13:0≤(af:Int):=odt;have q13:af<(a0.size:Int):=odt;have Mf:=Zd0 a0 af;replace p13:=eq_true p13;replace q13:=eq_true q13;go_wp2;go_ret;exact⟨eS,by repeat(first|exact Zav.refl _|apply Zav.step)⟩
   rw[if_neg c14]at H;have lm:decide (57<(bt a0 af))=false:=decide_eq_false c14;clear c14;have H':=Za.mk H;clear H;have p4:0≤(af:Int):=odt;have q4:af<(a0.size:Int):=odt;have hx4:=Zd0 a0 af;replace p4:=eq_true p4;replace q4:=eq_true q4;have p6:0≤(af:Int):=odt;have q6:af<(a0.size:Int):=odt;have hx6:=Zd0 a0 af;replace p6:=eq_true p6;replace q6:=eq_true q6;have p9:0≤(af:Int):=odt;have q9:af<(a0.size:Int):=odt;have hx9:=Zd0 a0 af;replace p9:=eq_true p9;replace q9:=eq_true q9;have p11:0≤(af:Int):=odt;have q11:af<(a0.size:Int):=odt;have UT:=Zd0 a0 af;replace p11:=eq_true p11;replace q11:=eq_true q11;have p13:0≤(af:Int):=odt;have q13:af<(a0.size:Int):=odt;have Mf:=Zd0 a0 af;replace p13:=eq_true p13;replace q13:=eq_true q13;go_wp2
   go_roundg k1
   case measure=>have:=HK1.out;omega
   case rel=>exact⟨(wrap64 (af+1)),eS,H',⟨by have:=HK1.out;omega⟩,by repeat(first|exact Zav.refl _|apply Zav.step)⟩
mutual
def Zam.j0 : Nat → Bool → List (S55) → List (S36) → Int → List Int → List Int → Option (Int)
 | 0, _, _, _, _, _, _ => none
 |k+1,x17,gU,il,kS,kT,kU=>if x17=true then(some 2)else(Zam.l0 k 0 gU il kS kT kU)
def Zam.l0 : Nat → Int → List (S55) → List (S36) → Int → List Int → List Int → Option (Int)
 | 0, _, _, _, _, _, _ => none
 |k+1,x3,gU,il,kS,kT,kU=>if x3<(gU.length:Int)then(if 0≤x3 then((Za5.f k ((Za9 gU x3).f0)).bind fun Pz=>(if Pz=true then(Zam.l1 k x3 0 gU il kS kT kU)else(some 40)))else(none))else((Zbg.f k gU il kS kT kU).bind fun nX=>(Zam.l2 k nX 0 gU il kS kT kU))
def Zam.l1 : Nat → Int → Int → List (S55) → List (S36) → Int → List Int → List Int → Option (Int)
 | 0, _, _, _, _, _, _, _ => none
 |k+1,x3,x4,gU,il,kS,kT,kU=>if x4<x3 then(if 0≤x4 then(if x4<(gU.length:Int)then(if 0≤x3 then(if x3<(gU.length:Int)then(if((Za9 gU x4).f0).toList=((Za9 gU x3).f0).toList then(some 41)else(Zam.l1 k x3 (wrap64 (x4+1)) gU il kS kT kU))else(none))else(none))else(none))else(none))else(if 0≤x3 then(if x3<(gU.length:Int)then(if(((Za9 gU x3).f1).length:Int)=0 then(some 42)else((Za7.f k ((Za9 gU x3).f1)).bind fun qK=>(if qK=0 then(Zam.l0 k (wrap64 (x3+1)) gU il kS kT kU)else(some 42))))else(none))else(none))
def Zam.l2 : Nat → List (List (S82)) → Int → List (S55) → List (S36) → Int → List Int → List Int → Option (Int)
 | 0, _, _, _, _, _, _, _ => none
 |k+1,x5,x6,gU,il,kS,kT,kU=>if x6<(il.length:Int)then(if 0≤x6 then((Zaw.f k x5 ((Zad il x6).f0) ((Zad il x6).f1) ((Zad il x6).f2) ((Zad il x6).f3) ((Zad il x6).f4) ((Zad il x6).f5) ((Zad il x6).f6)).bind fun pW=>(if pW=0 then(Zam.l2 k x5 (wrap64 (x6+1)) gU il kS kT kU)else(some pW)))else(none))else((Zbu.f k x5 kS kT kU).bind fun Ir=>(some Ir))
end
def Zam.f (k:Nat) (ag:List (S55)) (aa:List (S36)) (ay:Int) (ak:List Int) (ai:List Int):Option (Int):=if(ag.length:Int)>64 then(Zam.j0 k true ag aa ay ak ai)else(Zam.j0 k (decide ((aa.length:Int)>256)) ag aa ay ak ai)
set_option maxRecDepth 100000 in
theorem Zam.calls (k : Nat) (eQ : Option Addr) (eF : Nat) (ag : List (S55)) (aV : Option Addr) (aQ : Nat) (aa : List (S36)) (ay : Int) (bR : Option Addr) (bT : Nat) (ak : List Int) (bK : Option Addr) (bL : Nat) (ai : List Int) (r : Int) (w : World) (mJ : Kd.C k55 w eQ ag.length ag) (mG : ag.length ≤ eF) (eu : Kd.C k36 w aV aa.length aa) (ek : aa.length ≤ aQ) (jW : Kd.C (Kd.int .i64) w bR ak.length ak) (jU : ak.length ≤ bT) (jX : Kd.C (Kd.int .i64) w bK ai.length ai) (jV : ai.length ≤ bL) (h : Zam.f k ag aa ay ak ai = some r) :
  Calls Tryz.prog 20 #[.agg #[.slice eQ ag.length eF,.slice aV aa.length aQ,.int .i64 ay,.slice bR ak.length bT,.slice bK ai.length bL]] w fun e w'=>e= .returned (.int .i64 r)∧Below w.heap.size w w':=by
 have hu28:=Tryz.underlying28;have hu36:=Tryz.underlying36;have hu26:=Tryz.underlying26;have iP:=Za.mk mJ;have pI:=Za.mk mG;clear mJ mG;have eO:=Za.mk eu;have fC:=Za.mk ek;clear eu ek;have kv:=Za.mk jW;have kr:=Za.mk jU;clear jW jU;have kw:=Za.mk jX;have ku:=Za.mk jV;clear jX jV;have HB:=Za.mk (Below.refl w.heap.size w);have H:(if(ag.length:Int)>64 then(Zam.j0 k true ag aa ay ak ai)else(Zam.j0 k (decide ((aa.length:Int)>256)) ag aa ay ak ai))=some r:=h;clear h;have HC2:=Za.mk H;clear H;go_enter Tryz.func20,Tryz.ntmps20
 go_upto_region 1 with (first|((with_reducible refine Zar (N:=1) rfl ?_);(try(refine Zb2 (by rfl) ?_;dsimp only));refine bx 1 #[.slice eQ ag.length eF,.slice aV aa.length aQ,.int .i64 ay,.slice bR ak.length bT,.slice bK ai.length bL] 28 ?_;intro kC hg w3 hbox hb;have dJ:=Za.mk (hbox);have GW300:=Za.mk ((gE hg HB.out:w.heap.size≤kC));have Qm:=Za.mk ((gE hg HB.out:w.heap.size≤kC));replace HB:=Za.mk (bS HB.out hb);clear hb hbox hg))
 repeat(go_quiet (first|((with_reducible refine Zar (N:=1) rfl ?_);(try(refine Zb2 (by rfl) ?_;dsimp only));refine bx 1 #[.slice eQ ag.length eF,.slice aV aa.length aQ,.int .i64 ay,.slice bR ak.length bT,.slice bK ai.length bL] 28 ?_;intro kC hg w3 hbox hb;have dJ:=Za.mk (hbox);have GW300:=Za.mk ((gE hg HB.out:w.heap.size≤kC));have Qm:=Za.mk ((gE hg HB.out:w.heap.size≤kC));replace HB:=Za.mk (bS HB.out hb);clear hb hbox hg));go_upto_region 1 with (first|((with_reducible refine Zar (N:=1) rfl ?_);(try(refine Zb2 (by rfl) ?_;dsimp only));refine bx 1 #[.slice eQ ag.length eF,.slice aV aa.length aQ,.int .i64 ay,.slice bR ak.length bT,.slice bK ai.length bL] 28 ?_;intro kC hg w3 hbox hb;have dJ:=Za.mk (hbox);have GW300:=Za.mk ((gE hg HB.out:w.heap.size≤kC));have Qm:=Za.mk ((gE hg HB.out:w.heap.size≤kC));replace HB:=Za.mk (bS HB.out hb);clear hb hbox hg)))
 (try simp only[Act.put,List.setIfInBounds_toArray,List.set_cons_zero,List.set_cons_succ])
 go_cut [17] (fun v17 wc=>∃(kq:Nat) (Ga:Bool),v17= .bool Ga∧Za (Zam.j0 kq Ga ag aa ay ak ai=some r)∧Za (kq≤k)∧Za (wc.heap[kC]? =some (.cells #[(.slice eQ ag.length eF),(.slice aV aa.length aQ),.int .i64 ay,(.slice bR ak.length bT),(.slice bK ai.length bL)] 28 (0,0)))∧Za (Below w.heap.size w wc))
 case first=>
  have H:=HC2.out;clear HC2;by_cases c4:(ag.length:Int)>64
  case neg=>
   rw[if_neg c4]at H;have dC:decide (64<(ag.length:Int))=false:=decide_eq_false c4;have sI:decide (64<ag.length)=false:=decide_eq_false (by omega);clear c4
   (first|rw[dC]|(simp only[Zd5,Zeo];rw[dC])|skip)
   have H':=Za.mk H;clear H;obtain⟨kY,lc,lG,oo,oq,kW,kX,lF,ol,om⟩:=cz5 dJ.out;go_wp2
   repeat(go_quiet (fail);try go_wp2)
   go_meet
   case rel=>exact⟨_,(decide ((aa.length:Int)>256)),eS,H',⟨by first|omega|exact Nat.le_refl _⟩,⟨kM dJ.out⟩,⟨bM HB.out⟩⟩
  rw[if_pos c4]at H;have dC:decide (64<(ag.length:Int))=true:=decide_eq_true c4;have sI:decide (64<ag.length)=true:=decide_eq_true (by omega);clear c4
  (first|rw[dC]|(simp only[Zd5,Zeo];rw[dC])|skip)
  have H':=Za.mk H;clear H;obtain⟨IY,Ja,Jb,N8,NA,IP,IQ,IR,MR,MS⟩:=cz5 dJ.out;go_wp2
  repeat(go_quiet (fail);try go_wp2)
  go_meet
  case rel=>exact⟨_,(true),eS,H',⟨by first|omega|exact Nat.le_refl _⟩,⟨kM dJ.out⟩,⟨bM HB.out⟩⟩
 case rest=>
  clear HC2;try clear c2
  try clear p2
  try clear c4
  try clear dC
  try clear sI
  try clear IY Ja Jb N8 NA IP IQ IR MR MS
  try clear kY lc lG oo oq kW kX lF ol om
  obtain⟨kq,Ga,rfl,HA,HJ1,dJ,HB⟩:=hcut
  cases kq with
  | zero => exact absurd HA.out (by simp [Zam.j0])
  |succ kj1=>
   have H:=HA.out;clear HA;simp only[Zam.j0]at H;by_cases c7:Ga=true
   case pos=>
    subst c7;rw[if_pos rfl]at H;obtain rfl:=sj H;go_wp2
    repeat(go_quiet (fail);try go_wp2)
    go_ret;exact⟨eR,bM HB.out⟩
   replace c7:=Bool.eq_false_iff.mpr c7;subst c7;replace H:=ifF H;have H':=Za.mk H;clear H;go_wp2
   repeat(go_quiet (fail);try go_wp2)
   go_loopg [3] kj1 (fun kq v3 w'=>∃(d9:Int),v3= .int .i64 d9∧Za (Zam.l0 kq d9 ag aa ay ak ai=some r)∧Za (kq≤kj1)∧Za (w'.heap[kC]? =some (.cells #[(.slice eQ ag.length eF),(.slice aV aa.length aQ),.int .i64 ay,(.slice bR ak.length bT),(.slice bK ai.length bL)] 28 (0,0)))∧Za (Below w.heap.size w w'))
   case atStart=>exact⟨(0),eS,H',⟨Nat.le_refl _⟩,⟨kM dJ.out⟩,⟨bM HB.out⟩⟩
   case round=>
    clear H';try clear c2
    try clear p2
    try clear c4
    try clear dC
    try clear sI
    try clear c7
    try clear IY Ja Jb N8 NA IP IQ IR MR MS
    try clear kY lc lG oo oq kW kX lF ol om
    try clear p2
    obtain⟨d9,rfl,HA,HK2,dJ,HB⟩:=hrel
    cases gk with
    | zero => exact absurd HA.out (by simp [Zam.l0])
    |succ k2=>
     have H:=HA.out;clear HA;simp only[Zam.l0]at H;by_cases c8:d9<(ag.length:Int)
     case neg=>
      rw[if_neg c8]at H;have ny:decide (d9<(ag.length:Int))=false:=decide_eq_false c8;clear c8;obtain⟨nX,A32,H⟩:=bnd H;try dsimp only at H
      have H':=Za.mk H;clear H;obtain⟨Ti,Tj,bta,bua,bva,Sj,Sk,aba,aca,aea⟩:=cz5 dJ.out
      go_wp2_with (first|(go_at_call 22;(with_reducible refine(Zbg.calls k2 (fun k_=>k_<w.heap.size) _ _ ag _ _ aa ay _ _ ak _ _ ai nX _ (Kd.V_mk pI.out (Kd.Zgb (Kd.C_F k55_heap iP.out) (bM HB.out))) (cM (Kd.Zac eO.out HB.out)) fC.out (cM (Kd.Zac kv.out HB.out)) kr.out (cM (Kd.Zac kw.out HB.out)) ku.out A32.out).mono ?_);rintro e w34 ⟨Qa,rfl,ho0,hb⟩;have K7:=Za.mk (Kd.Zd (Kd.Zc (ok':=fun k_=>k_≠kC) ho0 (fun k_ hk_=>Or.elim hk_ (fun hs_=>fun e_=>Nat.not_le.2 hs_ (by rw[e_];exact GW300.out)) (fun hn_=>(Kd.freshB (kM dJ.out) k_ hn_)))) (Zaf (bM HB.out)));replace dJ:=Za.mk (kB dJ.out hb);replace HB:=Za.mk (bS HB.out hb);(try clear hb);(try clear hb2);(try clear hk);(try clear hi);(try clear ho0)))
      repeat(go_quiet (first|(go_at_call 22;(with_reducible refine(Zbg.calls k2 (fun k_=>k_<w.heap.size) _ _ ag _ _ aa ay _ _ ak _ _ ai nX _ (Kd.V_mk pI.out (Kd.Zgb (Kd.C_F k55_heap iP.out) (bM HB.out))) (cM (Kd.Zac eO.out HB.out)) fC.out (cM (Kd.Zac kv.out HB.out)) kr.out (cM (Kd.Zac kw.out HB.out)) ku.out A32.out).mono ?_);rintro e w34 ⟨Qa,rfl,ho0,hb⟩;have K7:=Za.mk (Kd.Zd (Kd.Zc (ok':=fun k_=>k_≠kC) ho0 (fun k_ hk_=>Or.elim hk_ (fun hs_=>fun e_=>Nat.not_le.2 hs_ (by rw[e_];exact GW300.out)) (fun hn_=>(Kd.freshB (kM dJ.out) k_ hn_)))) (Zaf (bM HB.out)));replace dJ:=Za.mk (kB dJ.out hb);replace HB:=Za.mk (bS HB.out hb);(try clear hb);(try clear hb2);(try clear hk);(try clear hi);(try clear ho0)));try go_wp2_with (first|(go_at_call 22;(with_reducible refine(Zbg.calls k2 (fun k_=>k_<w.heap.size) _ _ ag _ _ aa ay _ _ ak _ _ ai nX _ (Kd.V_mk pI.out (Kd.Zgb (Kd.C_F k55_heap iP.out) (bM HB.out))) (cM (Kd.Zac eO.out HB.out)) fC.out (cM (Kd.Zac kv.out HB.out)) kr.out (cM (Kd.Zac kw.out HB.out)) ku.out A32.out).mono ?_);rintro e w34 ⟨Qa,rfl,ho0,hb⟩;have K7:=Za.mk (Kd.Zd (Kd.Zc (ok':=fun k_=>k_≠kC) ho0 (fun k_ hk_=>Or.elim hk_ (fun hs_=>fun e_=>Nat.not_le.2 hs_ (by rw[e_];exact GW300.out)) (fun hn_=>(Kd.freshB (kM dJ.out) k_ hn_)))) (Zaf (bM HB.out)));replace dJ:=Za.mk (kB dJ.out hb);replace HB:=Za.mk (bS HB.out hb);(try clear hb);(try clear hb2);(try clear hk);(try clear hi);(try clear ho0))))
      go_loopg [6] k2 (fun kq v6 w'=>∃(eB:Int),v6= .int .i64 eB∧Za (Zam.l2 kq nX eB ag aa ay ak ai=some r)∧Za (kq≤k2)∧Za (Kd.N (Kd.slice 82 k82) 53 w' w.heap.size (fun k_=>k_≠kC) Qa nX)∧Za (w'.heap[kC]? =some (.cells #[(.slice eQ ag.length eF),(.slice aV aa.length aQ),.int .i64 ay,(.slice bR ak.length bT),(.slice bK ai.length bL)] 28 (0,0)))∧Za (Below w.heap.size w w'))
      case atStart=>exact⟨(0),eS,H',⟨Nat.le_refl _⟩,⟨nM K7.out⟩,⟨kM dJ.out⟩,⟨bM HB.out⟩⟩
      case round=>
       clear H';try clear c1
       try clear c2
       try clear p2
       try clear c3
       try clear p3
       try clear q3
       try clear hx3
       try clear c4
       try clear dC
       try clear sI
       try clear p6
       try clear c7
       try clear c8
       try clear ny
       try clear c9
       try clear nz
       try clear c11
       try clear c13
       try clear o5
       try clear c14
       try clear lm
       try clear c15
       try clear jo
       try clear c16
       try clear um
       try clear c17
       try clear yX
       try clear c18
       try clear kz
       try clear qM
       try clear c20
       try clear c21
       try clear LF
       try clear c22
       try clear Cn
       try clear c23
       try clear yY
       try clear FU
       try clear Ru
       try clear c26
       try clear Co
       try clear Rw
       try clear c30
       try clear p30
       try clear q30
       try clear oya
       try clear mV mW mX mY ng mO mP mQ mR mU
       try clear Nf Ng Nh Ni Nj M6 M7 M8 M9 MB
       try clear zD zF G5 Nk Nl zx zy Gi MC ME
       try clear xQ xR xS xU xV xC xD xE xG xH
       try clear Nv Nw SQ SV SX MM MN RU RV RX
       try clear uE uF Ny Nz N7 u6 u7 MO MP MQ
       try clear SY Ta Tc Td Te RY Sa Sb Sc Sd
       try clear Ti Tj bta bua bva Sj Sk aba aca aea
       try clear IY Ja Jb N8 NA IP IQ IR MR MS
       try clear kY lc lG oo oq kW kX lF ol om
       try clear qH
       try clear qI
       try clear rP
       try clear rQ
       try clear rR
       try clear rT
       try clear nN
       try clear kN
       try clear rU
       try clear pq
       try clear p2
       try clear p3
       try clear OO
       try clear Vf
       try clear Vg
       try clear OP
       try clear Vh
       try clear q3
       try clear Pf
       try clear Vm
       try clear Vn
       try clear Pg
       try clear Vo
       obtain⟨eB,rfl,HA,HK3,bz,dJ,HB⟩:=hrel
       cases gk with
       | zero => exact absurd HA.out (by simp [Zam.l2])
       |succ k3=>
        have H:=HA.out;clear HA;simp only[Zam.l2]at H;by_cases c35:eB<(aa.length:Int)
        case neg=>
         rw[if_neg c35]at H;have FV:decide (eB<(aa.length:Int))=false:=decide_eq_false c35;clear c35;obtain⟨Ir,A45,H⟩:=bnd H;try dsimp only at H
         obtain rfl:=sj H;obtain⟨lka,lla,lma,lna,loa,hTa,hUa,hVa,hXa,hYa⟩:=cz5 dJ.out;obtain⟨NS,Om,Hd⟩:=Kd.Zcu bz.out;subst Hd
         go_wp2_with (first|(go_at_call 56;(with_reducible refine(Zbu.calls k3 _ _ nX ay _ _ ak _ _ ai Ir _ (cM ((Kd.Za3 bz.out).2.2)) ((Kd.Za3 bz.out).2.1) (cM (Kd.Zac kv.out HB.out)) kr.out (cM (Kd.Zac kw.out HB.out)) ku.out A45.out).mono ?_);rintro e w48 ⟨rfl,hb⟩;replace bz:=Za.mk (Kd.Zcm (nM bz.out) hb);replace HB:=Za.mk (bS HB.out hb);clear dJ;(try clear hb);(try clear hb2);(try clear hk);(try clear hi)))
         repeat(go_quiet (first|(go_at_call 56;(with_reducible refine(Zbu.calls k3 _ _ nX ay _ _ ak _ _ ai Ir _ (cM ((Kd.Za3 bz.out).2.2)) ((Kd.Za3 bz.out).2.1) (cM (Kd.Zac kv.out HB.out)) kr.out (cM (Kd.Zac kw.out HB.out)) ku.out A45.out).mono ?_);rintro e w48 ⟨rfl,hb⟩;replace bz:=Za.mk (Kd.Zcm (nM bz.out) hb);replace HB:=Za.mk (bS HB.out hb);(try clear hb);(try clear hb2);(try clear hk);(try clear hi)));try go_wp2_with (first|(go_at_call 56;(with_reducible refine(Zbu.calls k3 _ _ nX ay _ _ ak _ _ ai Ir _ (cM ((Kd.Za3 bz.out).2.2)) ((Kd.Za3 bz.out).2.1) (cM (Kd.Zac kv.out HB.out)) kr.out (cM (Kd.Zac kw.out HB.out)) ku.out A45.out).mono ?_);rintro e w48 ⟨rfl,hb⟩;replace HB:=Za.mk (bS HB.out hb);clear bz;(try clear hb);(try clear hb2);(try clear hk);(try clear hi))))
         go_ret;exact⟨eR,bM HB.out⟩
        rw[if_pos c35]at H;have FV:decide (eB<(aa.length:Int))=true:=decide_eq_true c35;clear c35;obtain⟨LH,H⟩:=ifT H;obtain⟨pW,A37,H⟩:=bnd H;try dsimp only at H
        by_cases c38:pW=0
        case neg=>
         rw[if_neg c38]at H;have Yd:(pW==0)=false:=beq_eq_false_iff_ne.mpr c38;have Ye:(pW !=0)=true:=bne_iff_ne.mpr c38;obtain rfl:=sj H;obtain⟨G9,GA,GD,GH,GI,Gm,Gn,Gp,Gq,Gr⟩:=cz5 dJ.out;have dxa:(0≤(eB:Int))=True:=teq;have d6a:(eB<(aa.length:Int))=True:=teq;obtain⟨XF,Ux,UF,Uy,UG,Uz,UH,rfl,vU,vV,vW,vX,vY,wh,wu,vB,uP,vC,uQ,vD,uR⟩:=at_T36 eO.out eB odt odt;replace vU:=hB HB.out vU;replace vV:=hB HB.out vV;replace vW:=hB HB.out vW;replace vX:=hB HB.out vX;replace vY:=hB HB.out vY;replace wh:=hB HB.out wh;replace wu:=hB HB.out wu;have qz:=Za.mk uP;have qj:=Za.mk vB;clear uP vB;have q8:=Za.mk uQ;have ql:=Za.mk vC;clear uQ vC;have qA:=Za.mk uR;have qm:=Za.mk vD;clear uR vD;obtain⟨NQ,Oj,O7⟩:=Kd.Zcu bz.out;subst O7
         go_wp2_with (first|(go_at_call 55;(with_reducible refine(Zaw.calls k3 _ _ nX ((Zad aa eB).f0) _ _ ((Zad aa eB).f1) _ _ ((Zad aa eB).f2) ((Zad aa eB).f3) ((Zad aa eB).f4) _ _ ((Zad aa eB).f5) ((Zad aa eB).f6) pW _ (cM ((Kd.Za3 bz.out).2.2)) ((Kd.Za3 bz.out).2.1) (cM (Kd.Zac qz.out HB.out)) qj.out (cM (Kd.Zac q8.out HB.out)) ql.out (cM (Kd.Zac qA.out HB.out)) qm.out A37.out).mono ?_);rintro e w44 ⟨rfl,hb⟩;replace bz:=Za.mk (Kd.Zcm (nM bz.out) hb);replace HB:=Za.mk (bS HB.out hb);clear dJ;(try clear hb);(try clear hb2);(try clear hk);(try clear hi)))
         repeat(go_quiet (first|(go_at_call 55;(with_reducible refine(Zaw.calls k3 _ _ nX ((Zad aa eB).f0) _ _ ((Zad aa eB).f1) _ _ ((Zad aa eB).f2) ((Zad aa eB).f3) ((Zad aa eB).f4) _ _ ((Zad aa eB).f5) ((Zad aa eB).f6) pW _ (cM ((Kd.Za3 bz.out).2.2)) ((Kd.Za3 bz.out).2.1) (cM (Kd.Zac qz.out HB.out)) qj.out (cM (Kd.Zac q8.out HB.out)) ql.out (cM (Kd.Zac qA.out HB.out)) qm.out A37.out).mono ?_);rintro e w44 ⟨rfl,hb⟩;replace bz:=Za.mk (Kd.Zcm (nM bz.out) hb);replace HB:=Za.mk (bS HB.out hb);(try clear hb);(try clear hb2);(try clear hk);(try clear hi)));try go_wp2_with (first|(go_at_call 55;(with_reducible refine(Zaw.calls k3 _ _ nX ((Zad aa eB).f0) _ _ ((Zad aa eB).f1) _ _ ((Zad aa eB).f2) ((Zad aa eB).f3) ((Zad aa eB).f4) _ _ ((Zad aa eB).f5) ((Zad aa eB).f6) pW _ (cM ((Kd.Za3 bz.out).2.2)) ((Kd.Za3 bz.out).2.1) (cM (Kd.Zac qz.out HB.out)) qj.out (cM (Kd.Zac q8.out HB.out)) ql.out (cM (Kd.Zac qA.out HB.out)) qm.out A37.out).mono ?_);rintro e w44 ⟨rfl,hb⟩;replace HB:=Za.mk (bS HB.out hb);clear bz;(try clear hb);(try clear hb2);(try clear hk);(try clear hi))))
         go_ret;exact⟨eR,bM HB.out⟩
        rw[if_pos c38]at H;have Yd:(pW==0)=true:=beq_iff_eq.mpr c38;have Ye:(pW !=0)=false:=bne_eq_false_iff_eq.mpr c38;clear c38;have H':=Za.mk H;clear H;obtain⟨b8a,b9a,bAa,bBa,bCa,ara,asa,ata,aua,ava⟩:=cz5 dJ.out;have dxa:(0≤(eB:Int))=True:=teq;have d6a:(eB<(aa.length:Int))=True:=teq;obtain⟨XF,Ux,UF,Uy,UG,Uz,UH,rfl,vU,vV,vW,vX,vY,wh,wu,vB,uP,vC,uQ,vD,uR⟩:=at_T36 eO.out eB odt odt;replace vU:=hB HB.out vU;replace vV:=hB HB.out vV;replace vW:=hB HB.out vW;replace vX:=hB HB.out vX;replace vY:=hB HB.out vY;replace wh:=hB HB.out wh;replace wu:=hB HB.out wu;have qz:=Za.mk uP;have qj:=Za.mk vB;clear uP vB;have q8:=Za.mk uQ;have ql:=Za.mk vC;clear uQ vC;have qA:=Za.mk uR;have qm:=Za.mk vD;clear uR vD;obtain⟨cka,c2a,O6⟩:=Kd.Zcu bz.out;subst O6
        go_wp2_with (first|(go_at_call 55;(with_reducible refine(Zaw.calls k3 _ _ nX ((Zad aa eB).f0) _ _ ((Zad aa eB).f1) _ _ ((Zad aa eB).f2) ((Zad aa eB).f3) ((Zad aa eB).f4) _ _ ((Zad aa eB).f5) ((Zad aa eB).f6) pW _ (cM ((Kd.Za3 bz.out).2.2)) ((Kd.Za3 bz.out).2.1) (cM (Kd.Zac qz.out HB.out)) qj.out (cM (Kd.Zac q8.out HB.out)) ql.out (cM (Kd.Zac qA.out HB.out)) qm.out A37.out).mono ?_);rintro e w41 ⟨rfl,hb⟩;replace bz:=Za.mk (Kd.Zcm (nM bz.out) hb);replace dJ:=Za.mk (kB dJ.out hb);replace HB:=Za.mk (bS HB.out hb);(try clear hb);(try clear hb2);(try clear hk);(try clear hi)))
        repeat(go_quiet (first|(go_at_call 55;(with_reducible refine(Zaw.calls k3 _ _ nX ((Zad aa eB).f0) _ _ ((Zad aa eB).f1) _ _ ((Zad aa eB).f2) ((Zad aa eB).f3) ((Zad aa eB).f4) _ _ ((Zad aa eB).f5) ((Zad aa eB).f6) pW _ (cM ((Kd.Za3 bz.out).2.2)) ((Kd.Za3 bz.out).2.1) (cM (Kd.Zac qz.out HB.out)) qj.out (cM (Kd.Zac q8.out HB.out)) ql.out (cM (Kd.Zac qA.out HB.out)) qm.out A37.out).mono ?_);rintro e w41 ⟨rfl,hb⟩;replace bz:=Za.mk (Kd.Zcm (nM bz.out) hb);replace dJ:=Za.mk (kB dJ.out hb);replace HB:=Za.mk (bS HB.out hb);(try clear hb);(try clear hb2);(try clear hk);(try clear hi)));try go_wp2_with (first|(go_at_call 55;(with_reducible refine(Zaw.calls k3 _ _ nX ((Zad aa eB).f0) _ _ ((Zad aa eB).f1) _ _ ((Zad aa eB).f2) ((Zad aa eB).f3) ((Zad aa eB).f4) _ _ ((Zad aa eB).f5) ((Zad aa eB).f6) pW _ (cM ((Kd.Za3 bz.out).2.2)) ((Kd.Za3 bz.out).2.1) (cM (Kd.Zac qz.out HB.out)) qj.out (cM (Kd.Zac q8.out HB.out)) ql.out (cM (Kd.Zac qA.out HB.out)) qm.out A37.out).mono ?_);rintro e w41 ⟨rfl,hb⟩;replace bz:=Za.mk (Kd.Zcm (nM bz.out) hb);replace dJ:=Za.mk (kB dJ.out hb);replace HB:=Za.mk (bS HB.out hb);(try clear hb);(try clear hb2);(try clear hk);(try clear hi))))
        go_roundg k3
        case measure=>have:=HJ1.out;have:=HK2.out;have:=HK3.out;omega
        case rel=>exact⟨(wrap64 (eB+1)),eS,H',⟨by have:=HJ1.out;have:=HK2.out;have:=HK3.out;omega⟩,⟨nM bz.out⟩,⟨kM dJ.out⟩,⟨bM HB.out⟩⟩
     rw[if_pos c8]at H;have ny:decide (d9<(ag.length:Int))=true:=decide_eq_true c8;clear c8;obtain⟨nz,H⟩:=ifT H;obtain⟨Pz,A10,H⟩:=bnd H;try dsimp only at H
     by_cases c11:Pz=true
     case neg=>
      replace c11:=Bool.eq_false_iff.mpr c11;subst c11;replace H:=ifF H;obtain rfl:=sj H;obtain⟨SY,Ta,Tc,Td,Te,RY,Sa,Sb,Sc,Sd⟩:=cz5 dJ.out;have OO:(0≤(d9:Int))=True:=teq;have Pf:(d9<(ag.length:Int))=True:=teq;obtain⟨pM,Ut,UB,rfl,qH,qI,vo,uL⟩:=Zev iP.out d9 odt odt;replace qH:=hB HB.out qH;replace qI:=hB HB.out qI;have TM:=Za.mk uL;have T9:=Za.mk vo;clear uL vo
      go_wp2_with (first|(go_at_call 53;(with_reducible refine(Za5.calls k2 ((Za9 ag d9).f0) false _ A10.out).mono ?_);rintro e w' ⟨rfl,⟨nd,rfl⟩⟩;(try first|exact⟨rfl,_,World.drewN_drewN _ _ _⟩|exact⟨rfl,_,Eq.trans (World.drewN_drewN _ _ _) (congrArg (World.drewN _) (Nat.add_assoc _ _ _))⟩)))
      repeat(go_quiet (first|(go_at_call 53;(with_reducible refine(Za5.calls k2 ((Za9 ag d9).f0) false _ A10.out).mono ?_);rintro e w' ⟨rfl,⟨nd,rfl⟩⟩;(try first|exact⟨rfl,_,World.drewN_drewN _ _ _⟩|exact⟨rfl,_,Eq.trans (World.drewN_drewN _ _ _) (congrArg (World.drewN _) (Nat.add_assoc _ _ _))⟩)));try go_wp2_with (first|(go_at_call 53;(with_reducible refine(Za5.calls k2 ((Za9 ag d9).f0) false _ A10.out).mono ?_);rintro e w' ⟨rfl,⟨nd,rfl⟩⟩;(try first|exact⟨rfl,_,World.drewN_drewN _ _ _⟩|exact⟨rfl,_,Eq.trans (World.drewN_drewN _ _ _) (congrArg (World.drewN _) (Nat.add_assoc _ _ _))⟩))))
      go_ret;exact⟨eR,bM HB.out⟩
     subst c11;rw[if_pos rfl]at H;have H':=Za.mk H;clear H;obtain⟨mV,mW,mX,mY,ng,mO,mP,mQ,mR,mU⟩:=cz5 dJ.out;have OO:(0≤(d9:Int))=True:=teq;have Pf:(d9<(ag.length:Int))=True:=teq;obtain⟨pM,Ut,UB,rfl,qH,qI,vo,uL⟩:=Zev iP.out d9 odt odt;replace qH:=hB HB.out qH;replace qI:=hB HB.out qI;have TM:=Za.mk uL;have T9:=Za.mk vo;clear uL vo
     go_wp2_with (first|(go_at_call 53;(with_reducible refine(Za5.calls k2 ((Za9 ag d9).f0) true _ A10.out).mono ?_);rintro e w' ⟨rfl,⟨nd,rfl⟩⟩;(try first|exact⟨rfl,_,World.drewN_drewN _ _ _⟩|exact⟨rfl,_,Eq.trans (World.drewN_drewN _ _ _) (congrArg (World.drewN _) (Nat.add_assoc _ _ _))⟩)))
     repeat(go_quiet (first|(go_at_call 53;(with_reducible refine(Za5.calls k2 ((Za9 ag d9).f0) true _ A10.out).mono ?_);rintro e w' ⟨rfl,⟨nd,rfl⟩⟩;(try first|exact⟨rfl,_,World.drewN_drewN _ _ _⟩|exact⟨rfl,_,Eq.trans (World.drewN_drewN _ _ _) (congrArg (World.drewN _) (Nat.add_assoc _ _ _))⟩)));try go_wp2_with (first|(go_at_call 53;(with_reducible refine(Za5.calls k2 ((Za9 ag d9).f0) true _ A10.out).mono ?_);rintro e w' ⟨rfl,⟨nd,rfl⟩⟩;(try first|exact⟨rfl,_,World.drewN_drewN _ _ _⟩|exact⟨rfl,_,Eq.trans (World.drewN_drewN _ _ _) (congrArg (World.drewN _) (Nat.add_assoc _ _ _))⟩))))
     go_loopg [4] k2 (fun kq v4 w'=>∃(lV:Int),v4= .int .i64 lV∧Za (Zam.l1 kq d9 lV ag aa ay ak ai=some r)∧Za (kq≤k2)∧Za (w'.heap[kC]? =some (.cells #[(.slice (some pM) ag.length eF),(.slice aV aa.length aQ),.int .i64 ay,(.slice bR ak.length bT),(.slice bK ai.length bL)] 28 (0,0)))∧Za (Below w.heap.size w w'))
     case atStart=>exact⟨(0),eS,H',⟨Nat.le_refl _⟩,⟨kM dJ.out⟩,⟨bM HB.out⟩⟩
     case round=>
      clear H';try clear c1
      try clear c2
      try clear p2
      try clear c3
      try clear p3
      try clear q3
      try clear hx3
      try clear c4
      try clear dC
      try clear sI
      try clear c7
      try clear c8
      try clear ny
      try clear c9
      try clear nz
      try clear c11
      try clear mV mW mX mY ng mO mP mQ mR mU
      try clear IY Ja Jb N8 NA IP IQ IR MR MS
      try clear kY lc lG oo oq kW kX lF ol om
      try clear qH
      try clear qI
      try clear p2
      try clear OO
      try clear Pf
      obtain⟨lV,rfl,HA,HK3,dJ,HB⟩:=hrel
      cases gk with
      | zero => exact absurd HA.out (by simp [Zam.l1])
      |succ k3=>
       have H:=HA.out;clear HA;simp only[Zam.l1]at H;by_cases c13:lV<d9
       case pos=>
        rw[if_pos c13]at H;have o5:decide (lV<d9)=true:=decide_eq_true c13;clear c13;obtain⟨lm,H⟩:=ifT H;obtain⟨jo,H⟩:=ifT H;obtain⟨um,H⟩:=ifT H;obtain⟨yX,H⟩:=ifT H;by_cases c18:((Za9 ag lV).f0).toList=((Za9 ag d9).f0).toList
        case pos=>
         rw[if_pos c18]at H;have kz:(((Za9 ag lV).f0).toList==((Za9 ag d9).f0).toList)=true:=beq_iff_eq.mpr c18;have qM:(((Za9 ag lV).f0).toList !=((Za9 ag d9).f0).toList)=false:=bne_eq_false_iff_eq.mpr c18;clear c18;obtain rfl:=sj H;obtain⟨Nf,Ng,Nh,Ni,Nj,M6,M7,M8,M9,MB⟩:=cz5 dJ.out;have Vf:(0≤(lV:Int))=True:=teq;have Vm:(lV<(ag.length:Int))=True:=teq;obtain⟨Ls,Uu,UC,e303,rP,rQ,vv,uM⟩:=Zev iP.out lV odt odt;obtain rfl:pM=Ls:=(by injection e303);replace rP:=hB HB.out rP;replace rQ:=hB HB.out rQ;have TN:=Za.mk uM;have TA:=Za.mk vv;clear uM vv;have Vg:(0≤(d9:Int))=True:=teq;have Vn:(d9<(ag.length:Int))=True:=teq;obtain⟨Lt,Uv,UD,e304,rR,rT,vw,uN⟩:=Zev iP.out d9 odt odt;obtain rfl:pM=Lt:=(by injection e304);replace rR:=hB HB.out rR;replace rT:=hB HB.out rT;have TP:=Za.mk uN;have TB:=Za.mk vw;clear uN vw;go_wp2
         repeat(go_quiet (fail);try go_wp2)
         go_ret;exact⟨eR,bM HB.out⟩
        rw[if_neg c18]at H;have kz:(((Za9 ag lV).f0).toList==((Za9 ag d9).f0).toList)=false:=beq_eq_false_iff_ne.mpr c18;have qM:(((Za9 ag lV).f0).toList !=((Za9 ag d9).f0).toList)=true:=bne_iff_ne.mpr c18;have H':=Za.mk H;clear H;obtain⟨zD,zF,G5,Nk,Nl,zx,zy,Gi,MC,ME⟩:=cz5 dJ.out;have Vf:(0≤(lV:Int))=True:=teq;have Vm:(lV<(ag.length:Int))=True:=teq;obtain⟨Ls,Uu,UC,e303,rP,rQ,vv,uM⟩:=Zev iP.out lV odt odt;obtain rfl:pM=Ls:=(by injection e303);replace rP:=hB HB.out rP;replace rQ:=hB HB.out rQ;have TN:=Za.mk uM;have TA:=Za.mk vv;clear uM vv;have Vg:(0≤(d9:Int))=True:=teq;have Vn:(d9<(ag.length:Int))=True:=teq;obtain⟨Lt,Uv,UD,e304,rR,rT,vw,uN⟩:=Zev iP.out d9 odt odt;obtain rfl:pM=Lt:=(by injection e304);replace rR:=hB HB.out rR;replace rT:=hB HB.out rT;have TP:=Za.mk uN;have TB:=Za.mk vw;clear uN vw;go_wp2
        repeat(go_quiet (fail);try go_wp2)
        go_roundg k3
        case measure=>have:=HJ1.out;have:=HK2.out;have:=HK3.out;omega
        case rel=>exact⟨(wrap64 (lV+1)),eS,H',⟨by have:=HJ1.out;have:=HK2.out;have:=HK3.out;omega⟩,⟨kM dJ.out⟩,⟨bM HB.out⟩⟩
       rw[if_neg c13]at H;have o5:decide (lV<d9)=false:=decide_eq_false c13;clear c13;obtain⟨LF,H⟩:=ifT H;obtain⟨Cn,H⟩:=ifT H;by_cases c23:(((Za9 ag d9).f1).length:Int)=0
       case pos=>
        rw[if_pos c23]at H;have yY:((((Za9 ag d9).f1).length:Int)==0)=true:=beq_iff_eq.mpr c23;have FU:((((Za9 ag d9).f1).length:Int) !=0)=false:=bne_eq_false_iff_eq.mpr c23;clear c23;obtain rfl:=sj H;obtain⟨xQ,xR,xS,xU,xV,xC,xD,xE,xG,xH⟩:=cz5 dJ.out;have OP:(0≤(d9:Int))=True:=teq;have Pg:(d9<(ag.length:Int))=True:=teq;obtain⟨Ce,NC,NL,e305,nN,kN,oW,oU⟩:=Zev iP.out d9 odt odt;obtain rfl:pM=Ce:=(by injection e305);replace nN:=hB HB.out nN;replace kN:=hB HB.out kN;have Jj:=Za.mk oU;have Jh:=Za.mk oW;clear oU oW;go_wp2
        repeat(go_quiet (fail);try go_wp2)
        go_ret;exact⟨eR,bM HB.out⟩
       rw[if_neg c23]at H;have yY:((((Za9 ag d9).f1).length:Int)==0)=false:=beq_eq_false_iff_ne.mpr c23;have FU:((((Za9 ag d9).f1).length:Int) !=0)=true:=bne_iff_ne.mpr c23;have Ru:¬(((Za9 ag d9).f1)= []):=fun h_=>c23 (by rw[h_];rfl)
       obtain⟨qK,A25,H⟩:=bnd H;try dsimp only at H
       by_cases c26:qK=0
       case neg=>
        rw[if_neg c26]at H;have Co:(qK==0)=false:=beq_eq_false_iff_ne.mpr c26;have Rw:(qK !=0)=true:=bne_iff_ne.mpr c26;obtain rfl:=sj H;obtain⟨uE,uF,Ny,Nz,N7,u6,u7,MO,MP,MQ⟩:=cz5 dJ.out;have OP:(0≤(d9:Int))=True:=teq;have Pg:(d9<(ag.length:Int))=True:=teq;obtain⟨Ce,NC,NL,e305,nN,kN,oW,oU⟩:=Zev iP.out d9 odt odt;obtain rfl:pM=Ce:=(by injection e305);replace nN:=hB HB.out nN;replace kN:=hB HB.out kN;have Jj:=Za.mk oU;have Jh:=Za.mk oW;clear oU oW;have Vh:(0≤(d9:Int))=True:=teq;have Vo:(d9<(ag.length:Int))=True:=teq;obtain⟨Lu,Uw,UE,e306,rU,pq,vz,uO⟩:=Zev iP.out d9 odt odt;obtain rfl:pM=Lu:=(by injection e306);replace rU:=hB HB.out rU;replace pq:=hB HB.out pq;have qy:=Za.mk uO;have qi:=Za.mk vz;clear uO vz;have ea_:=Option.some.inj (kN.symm.trans pq)
        injection ea_ with ea_ en_ ec_
        subst ea_;subst ec_;clear en_
        go_wp2_with (first|(go_at_call 54;(with_reducible refine(Za7.calls k3 _ _ ((Za9 ag d9).f1) qK _ (cM (Kd.Zac qy.out HB.out)) qi.out A25.out).mono ?_);rintro e w30 ⟨rfl,hb⟩;replace HB:=Za.mk (bS HB.out hb);clear dJ;(try clear hb);(try clear hb2);(try clear hk);(try clear hi)))
        repeat(go_quiet (first|(go_at_call 54;(with_reducible refine(Za7.calls k3 _ _ ((Za9 ag d9).f1) qK _ (cM (Kd.Zac qy.out HB.out)) qi.out A25.out).mono ?_);rintro e w30 ⟨rfl,hb⟩;replace HB:=Za.mk (bS HB.out hb);(try clear hb);(try clear hb2);(try clear hk);(try clear hi)));try go_wp2_with (first|(go_at_call 54;(with_reducible refine(Za7.calls k3 _ _ ((Za9 ag d9).f1) qK _ (cM (Kd.Zac qy.out HB.out)) qi.out A25.out).mono ?_);rintro e w30 ⟨rfl,hb⟩;replace HB:=Za.mk (bS HB.out hb);(try clear hb);(try clear hb2);(try clear hk);(try clear hi))))
        go_ret;exact⟨eR,bM HB.out⟩
       rw[if_pos c26]at H;have Co:(qK==0)=true:=beq_iff_eq.mpr c26;have Rw:(qK !=0)=false:=bne_eq_false_iff_eq.mpr c26;clear c26;have H':=Za.mk H;clear H;obtain⟨Nv,Nw,SQ,SV,SX,MM,MN,RU,RV,RX⟩:=cz5 dJ.out;have OP:(0≤(d9:Int))=True:=teq;have Pg:(d9<(ag.length:Int))=True:=teq;obtain⟨Ce,NC,NL,e305,nN,kN,oW,oU⟩:=Zev iP.out d9 odt odt;obtain rfl:pM=Ce:=(by injection e305);replace nN:=hB HB.out nN;replace kN:=hB HB.out kN;have Jj:=Za.mk oU;have Jh:=Za.mk oW;clear oU oW;have Vh:(0≤(d9:Int))=True:=teq;have Vo:(d9<(ag.length:Int))=True:=teq;obtain⟨Lu,Uw,UE,e306,rU,pq,vz,uO⟩:=Zev iP.out d9 odt odt;obtain rfl:pM=Lu:=(by injection e306);replace rU:=hB HB.out rU;replace pq:=hB HB.out pq;have qy:=Za.mk uO;have qi:=Za.mk vz;clear uO vz;have ea_:=Option.some.inj (kN.symm.trans pq)
       injection ea_ with ea_ en_ ec_
       subst ea_;subst ec_;clear en_
       go_wp2_with (first|(go_at_call 54;(with_reducible refine(Za7.calls k3 _ _ ((Za9 ag d9).f1) qK _ (cM (Kd.Zac qy.out HB.out)) qi.out A25.out).mono ?_);rintro e w28 ⟨rfl,hb⟩;replace dJ:=Za.mk (kB dJ.out hb);replace HB:=Za.mk (bS HB.out hb);(try clear hb);(try clear hb2);(try clear hk);(try clear hi)))
       repeat(go_quiet (first|(go_at_call 54;(with_reducible refine(Za7.calls k3 _ _ ((Za9 ag d9).f1) qK _ (cM (Kd.Zac qy.out HB.out)) qi.out A25.out).mono ?_);rintro e w28 ⟨rfl,hb⟩;replace dJ:=Za.mk (kB dJ.out hb);replace HB:=Za.mk (bS HB.out hb);(try clear hb);(try clear hb2);(try clear hk);(try clear hi)));try go_wp2_with (first|(go_at_call 54;(with_reducible refine(Za7.calls k3 _ _ ((Za9 ag d9).f1) qK _ (cM (Kd.Zac qy.out HB.out)) qi.out A25.out).mono ?_);rintro e w28 ⟨rfl,hb⟩;replace dJ:=Za.mk (kB dJ.out hb);replace HB:=Za.mk (bS HB.out hb);(try clear hb);(try clear hb2);(try clear hk);(try clear hi))))
       go_roundg k3
       case measure=>have:=HJ1.out;have:=HK2.out;have:=HK3.out;omega
       case rel=>exact⟨(wrap64 (d9+1)),eS,H',⟨by have:=HJ1.out;have:=HK2.out;have:=HK3.out;omega⟩,⟨kM dJ.out⟩,⟨bM HB.out⟩⟩
end Go.Proofs.YtdpieallpbllkaaGreat.P
/- May a model be, by the document: the same as model.Check. -/
namespace Go.Proofs.YtdpieallpbllkaaGreat.P
open Go.RowKit Go.Proofs.YtdpieallpbllkaaGreatW.PrintWords Go.Proofs.YtdpieallpbllkaaGreatW.PrintLast Go.Proofs.YtdpieallpbllkaaGreatW.PrintMore
theorem Zd0 (s:ByteArray) (i:Nat) (h:i<s.size):bt s (i:Int)=((s[i]'h).toNat:Int):=by
  unfold bt
  simp[h]
theorem okAt_iff (i c:Nat):okAt i c=true↔(97≤c∧c≤122)∨(i≠0∧(c=95∨(48≤c∧c≤57))):=by
  unfold okAt
  simp
theorem Zf3 (s : ByteArray) (hs : s.size ≤ 140737488351232) : ∀ (d i : Nat), i + d = s.size → Ev (fun k => Za5.l0 k s (i : Int)) (nameGo s d i && (!decide (s.size = 0) && decide (s.size ≤ 16)))
  |0,i,h=>by
    obtain rfl:i=s.size:=by omega
    refine Ev.step (G:=fun _=>some (nameGo s 0 s.size && (!decide (s.size=0) && decide (s.size≤16)))) (fun k=> ?_) (Ev.const rfl);rw[Za5.l0,if_neg (by omega)];by_cases h0:s.size=0
    · rw [if_pos (by
        rw[ByteArray.toList_eq]
        exact List.length_eq_zero_iff.1 (by rw [Array.length_toList]; exact h0))]
      simp[h0]
    rw [if_neg (by
      rw[ByteArray.toList_eq];intro e
      exact h0 (show s.data.size = 0 by rw [← Array.length_toList, e]; rfl))]
    have:decide ((s.size:Int)≤16)=decide (s.size≤16):=decide_eq_decide.2 (by omega);rw[this]
    simp[nameGo,h0]
  |d+1,i,h=>by
    have hi:i<s.size:=by omega
    have ih:=Zf3 s hs d (i+1) (by omega);have hb:=Zd0 s i hi;have hw:wrap64 ((i:Int)+1)=((i+1:Nat):Int):=by unfold wrap64;omega
    have hz:((i:Int)=0)=(i=0):=propext (by omega);rw[nameGo,dif_pos hi]
    generalize (s[i]'hi).toNat=c at hb ⊢
    have cont:okAt i c=true→(∀k,Za5.l0 (k+1) s (i:Int)=Za5.l0 k s ((i+1:Nat):Int))→Ev (fun k=>Za5.l0 k s (i:Int)) ((okAt i c && nameGo s d (i+1)) && (!decide (s.size=0) && decide (s.size≤16))):=fun h1 h2=>by
      rw[h1,Bool.true_and];exact Ev.step h2 ih
    have stop:okAt i c=false→(∀k,Za5.l0 (k+1) s (i:Int)=some false)→Ev (fun k=>Za5.l0 k s (i:Int)) ((okAt i c && nameGo s d (i+1)) && (!decide (s.size=0) && decide (s.size≤16))):=fun h1 h2=>by
      rw[h1,Bool.false_and,Bool.false_and];exact Ev.step (G:=fun _=>some false) h2 (Ev.const rfl)
    by_cases q1:97≤c<;>by_cases q2:c≤122<;>by_cases q3:i=0<;>by_cases q4:c=95<;>by_cases q5:c<48<;>by_cases q6:57<c
    all_goals first
      | (exfalso; omega)
      | (refine cont ((okAt_iff i c).2 (by omega)) (fun k => ?_)
         rw[Za5.l0,hb,hw]
         repeat (first | rw [if_pos (by omega)] | rw [if_neg (by omega)]))
      | (refine stop (Bool.eq_false_iff.2 (fun h_ => absurd ((okAt_iff i c).1 h_) (by omega))) (fun k => ?_)
         rw[Za5.l0,hb,hw]
         repeat (first | rw [if_pos (by omega)] | rw [if_neg (by omega)]))
theorem rname_ev (s:ByteArray) (hs:s.size≤1000000):Ev (fun k=>Za5.f k s) (nameB s):=by
  have hr:=Zf3 s (by omega) s.size 0 (by omega)
  have e:nameB s=(nameGo s s.size 0 && (!decide (s.size=0) && decide (s.size≤16))):=by
    unfold nameB
    cases nameGo s s.size 0<;>cases decide (s.size=0)<;>cases decide (s.size≤16)<;>rfl
  rw[e];exact hr
theorem Zh (l : List (List Rg)) (hl : l.length ≤ 1000000) (hr : ∀ r ∈ l, r.length ≤ 3000000) : ∀ (d n : Nat) (acc : List (List Rg)), n + d = l.length → acc.length ≤ n → Ev (fun k => Zbr.l0 k l acc (n : Int)) (acc ++ l.drop n)
  |0,n,acc,h,ha=>by
    obtain rfl:n=l.length:=by omega
    rw[List.drop_length,List.append_nil];exact Ev.step (G:=fun _=>some acc) (fun k=>by rw[Zbr.l0,if_neg (by omega)]) (Ev.const rfl)
  |d+1,n,acc,h,ha=>by
    have hn:n<l.length:=by omega
    have hrd:Zdo l (n:Int)=l[n]:=by simp[Zdo,List.getD_eq_getElem?_getD,List.getElem?_eq_getElem hn]
    have hq:=hr _ (List.getElem_mem hn);have ih:=Zh l hl hr d (n+1) (acc++ [l[n]]) (by omega) (by simp;omega);rw[List.append_assoc,List.singleton_append,←List.drop_eq_getElem_cons hn]at ih;refine Ev.step (fun k=>by rw[Zbr.l0,if_pos (by omega),hrd]) (Ev.bind (a:=([]:List Rg)) (Ev.const rfl) ?_);rw[w1 (by omega),List.nil_append];refine Ev.Zak (Int.natCast_nonneg n) ?_;refine Ev.Zak ?_ ?_
    · show 0 + l[n].length < _
      omega
    exact Ev.Zak (by omega) ih
theorem lists3_ev (l:List (List Rg)) (hl:l.length≤1000000) (hr:∀r ∈ l,r.length≤3000000):Ev (fun k=>Zbr.f k l) l:=Zh l hl hr l.length 0 [] (by omega) (by simp)
theorem Zic (vars : List S55) (cons : List S36) (gk : Int) (gv gc : List Int) (hl : vars.length ≤ 1000000) (hr : ∀ v ∈ vars, v.f1.length ≤ 3000000) : ∀ (d n : Nat) (acc : List (List Rg)), n + d = vars.length → acc = (vars.take n).map (fun v => v.f1) → Ev (fun k => Zbg.l0 k acc (n : Int) vars cons gk gv gc) (domsOf vars)
  |0,n,acc,h,ha=>by
    rw[List.take_of_length_le (by omega)]at ha;have:acc=domsOf vars:=ha;subst this;exact Ev.step (fun k=>by rw[Zbg.l0,if_neg (by omega)]) (Ev.bind (lists3_ev (domsOf vars) (by unfold domsOf;rw[List.length_map];exact hl) (fun r hr'=>by obtain⟨v,hv,rfl⟩:=List.mem_map.1 hr';exact hr v hv)) (Ev.const rfl))
  |d+1,n,acc,h,ha=>by
    have hn:n<vars.length:=by omega
    have hrd:Za9 vars (n:Int)=vars[n]:=by simp[Za9,List.getD_eq_getElem?_getD,List.getElem?_eq_getElem hn]
    have hal:acc.length<5864062014805:=by rw[ha,List.length_map,List.length_take];omega
    have ih:=Zic vars cons gk gv gc hl hr d (n+1) (acc++ [vars[n].f1]) (by omega) (by rw[List.take_succ_eq_append_getElem hn,List.map_append,ha];rfl);exact Ev.step (fun k=>by rw[Zbg.l0,if_pos (by omega),if_pos (by omega),if_pos hal,hrd,w1 (by omega)]) ih
theorem rdoms_ev (vars:List S55) (cons:List S36) (gk:Int) (gv gc:List Int) (hl:vars.length≤1000000) (hr:∀v ∈ vars,v.f1.length≤3000000):Ev (fun k=>Zbg.f k vars cons gk gv gc) (domsOf vars):=Zic vars cons gk gv gc hl hr vars.length 0 [] (by omega) (by simp)
theorem rgoal_ev (d:List (List Rg)) (hd:∀x ∈ d,Gd 1048576 (-1048576) x) (hdn:d.length≤1000000) (gk:Int) (gv gc:List Int) (h1:gv.length≤1000000) (h2:gc.length≤1000000):Ev (fun k=>Zbu.f k d gk gv gc) (goalE d gk gv gc):=by
  have hc:=rcon_ev d hd hdn 0 gv gc 0 0 [] 0 h1 h2 (by simp) (by simp);have j1:∀x:Bool,x=true→Ev (fun k=>Zbu.j0 k d x gk gv gc) (conE d 0 gv gc 0 0 [] 0):=fun x hx=>Ev.step (fun k=>by rw[Zbu.j0,if_pos hx]) (Ev.bind hc (Ev.const rfl))
  unfold Zbu.f goalE;by_cases q1:gk=1
  · rw [if_neg (by omega), if_pos (.inl q1)]
    exact Ev.Zak q1 (j1 true rfl)
  refine Ev.Zat q1 ?_;by_cases q2:gk=2
  · rw [if_neg (show ¬ gk = 0 by omega), if_pos (.inr q2)]
    exact j1 _ (by rw[q2];rfl)
  have e:(gk==2)=false:=beq_eq_false_iff_ne.2 q2;rw[e];by_cases q0:gk=0;rotate_left
  · rw [if_neg q0, if_neg (by omega)]
    exact Ev.step (G:=fun _=>some 44) (fun k=>by rw[Zbu.j0,if_neg (by simp),if_neg q0]) (Ev.const rfl)
  rw[if_pos q0];refine Ev.step (fun k=>by rw[Zbu.j0,if_neg (by simp),if_pos q0]) ?_;by_cases q3:0<gv.length
  · rw[if_pos q3];exact Ev.Zak (by omega) (Ev.const rfl)
  rw[if_neg q3];refine Ev.Zat (by omega) ?_;by_cases q4:0<gc.length
  · rw[if_pos q4];exact Ev.Zak (by omega) (Ev.const rfl)
  rw[if_neg q4];exact Ev.Zat (by omega) (Ev.const rfl)
section
variable (vars:List S55) (cons:List S36) (gk:Int) (gv gc:List Int)
structure SmallM : Prop where
  vs:vars.length≤1000000
  nm:∀v ∈ vars,v.f0.size≤1000000
  dm:∀v ∈ vars,v.f1.length≤1000000
  cl:cons.length≤1000000
  cs:∀c ∈ cons,c.f1.length≤1000000∧c.f2.length≤1000000∧c.f5.length≤1000000∧∀r ∈ c.f5,r.length≤1000000
  gv:gv.length≤1000000
  gc:gc.length≤1000000
theorem rcheck_l2 (hs : SmallM vars cons gv gc) (D : List (List Rg)) (hd : ∀ x ∈ D, Gd 1048576 (-1048576) x) (hdn : D.length ≤ 1000000) : ∀ d n : Nat, n + d = cons.length →
    Ev (fun k=>Zam.l2 k D (n:Int) vars cons gk gv gc) (if chkC D (cons.drop n)=0 then goalE D gk gv gc else chkC D (cons.drop n))
  |0,n,h=>by
    rw[List.drop_eq_nil_of_le (by omega)];exact Ev.step (fun k=>by rw[Zam.l2,if_neg (by omega)]) (Ev.bind (rgoal_ev D hd hdn gk gv gc hs.gv hs.gc) (Ev.const rfl))
  |d+1,n,h=>by
    have hcl:=hs.cl;have hn:n<cons.length:=by omega
    have hrd:Zad cons (n:Int)=cons[n]:=by simp[Zad,List.getD_eq_getElem?_getD,List.getElem?_eq_getElem hn]
    obtain⟨c1,c2,c5,c6⟩:=hs.cs _ (List.getElem_mem hn);have ih:=rcheck_l2 hs D hd hdn d (n+1) (by omega);rw[List.drop_eq_getElem_cons hn,chkC];refine Ev.step (fun k=>by rw[Zam.l2,if_pos (by omega),if_pos (by omega),hrd]) (Ev.bind (rcon_ev D hd hdn cons[n].f0 cons[n].f1 cons[n].f2 cons[n].f3 cons[n].f4 cons[n].f5 cons[n].f6 c1 c2 c5 c6) ?_);rw[w1 (by omega)];by_cases q:conC D cons[n]=0
    · rw [if_pos q]
      exact Ev.Zak q ih
    rw[if_neg q,if_neg q];exact Ev.Zat q (Ev.const rfl)
theorem hasN_cons (y:ByteArray) (l:List ByteArray) (x:ByteArray):hasN (y::l) x=(y.toList==x.toList||hasN l x):=rfl
theorem rcheck_l1 (hs : SmallM vars cons gv gc) (n : Nat) (hn : n < vars.length) (X : Int) (next : vars[n].f1.length ≠ 0 → checkSpec vars[n].f1 = 0 → Ev (fun k => Zam.l0 k ((n + 1 : Nat) : Int) vars cons gk gv gc) X) : ∀ d m : Nat, m + d = n →
    Ev (fun k=>Zam.l1 k (n:Int) (m:Int) vars cons gk gv gc) (if hasN (((vars.take n).drop m).map (·.f0)) vars[n].f0=true then 41 else if vars[n].f1.length=0 then 42 else if checkSpec vars[n].f1=0 then X else 42)
  |0,m,h=>by
    have hvs:=hs.vs;have hdm:=hs.dm _ (List.getElem_mem hn);have hrd:Za9 vars (n:Int)=vars[n]:=by simp[Za9,List.getD_eq_getElem?_getD,List.getElem?_eq_getElem hn]
    rw[List.drop_eq_nil_of_le (by rw[List.length_take];omega),List.map_nil,if_neg (show ¬hasN [] vars[n].f0=true from Bool.false_ne_true)];refine Ev.step (fun k=>by rw[Zam.l1,if_neg (by omega),if_pos (by omega),if_pos (by omega),hrd,w1 (by omega)]) ?_;by_cases q1:vars[n].f1.length=0
    · rw[if_pos q1];exact Ev.Zak (by omega) (Ev.const rfl)
    rw[if_neg q1];refine Ev.Zat (by omega) (Ev.bind (ref_Check_ev vars[n].f1 (by omega)) ?_);by_cases q2:checkSpec vars[n].f1=0
    · rw[if_pos q2];exact Ev.Zak q2 (next q1 q2)
    rw[if_neg q2];exact Ev.Zat q2 (Ev.const rfl)
  |d+1,m,h=>by
    have hvs:=hs.vs;have hm:m<vars.length:=by omega
    have ih:=rcheck_l1 hs n hn X next d (m+1) (by omega);have hrd:Za9 vars (n:Int)=vars[n]:=by simp[Za9,List.getD_eq_getElem?_getD,List.getElem?_eq_getElem hn]
    have hrm:Za9 vars (m:Int)=vars[m]:=by simp[Za9,List.getD_eq_getElem?_getD,List.getElem?_eq_getElem hm]
    rw[List.drop_eq_getElem_cons (by rw[List.length_take];omega),List.getElem_take,List.map_cons,hasN_cons];refine Ev.step (fun k=>by rw[Zam.l1,if_pos (by omega),if_pos (by omega),if_pos (by omega),if_pos (by omega),if_pos (by omega),hrd,hrm,w1 (by omega)]) ?_;by_cases q:vars[m].f0.toList=vars[n].f0.toList;rotate_left
    · rw [beq_eq_false_iff_ne.2 q, Bool.false_or]
      exact Ev.Zat q ih
    rw[beq_iff_eq.2 q,Bool.true_or,if_pos rfl];exact Ev.Zak q (Ev.const rfl)
theorem rcheck_l0 (hs : SmallM vars cons gv gc) : ∀ d n : Nat, n + d = vars.length → (∀ v ∈ vars.take n, Gd 1048576 (-1048576) v.f1) →
    Ev (fun k=>Zam.l0 k (n:Int) vars cons gk gv gc) (if chkV (vars.drop n) ((vars.take n).map (·.f0))=0 then(if chkC (domsOf vars) cons=0 then goalE (domsOf vars) gk gv gc else chkC (domsOf vars) cons)else chkV (vars.drop n) ((vars.take n).map (·.f0)))
  |0,n,h,hg=>by
    have hvs:=hs.vs;rw[List.take_of_length_le (by omega)]at hg
    have hd:∀x ∈ domsOf vars,Gd 1048576 (-1048576) x:=fun x hx=>by
      obtain⟨v,hv,rfl⟩:=List.mem_map.1 hx;exact hg v hv
    rw[List.drop_eq_nil_of_le (by omega),chkV,if_pos rfl];refine Ev.step (fun k=>by rw[Zam.l0,if_neg (by omega)]) (Ev.bind (rdoms_ev vars cons gk gv gc hvs (fun v hv=>by have:=hs.dm v hv;omega)) ?_);have:=rcheck_l2 vars cons gk gv gc hs (domsOf vars) hd (by unfold domsOf;rw[List.length_map];exact hvs) cons.length 0 (by omega);rw[List.drop_zero]at this;exact this
  |d+1,n,h,hg=>by
    have hvs:=hs.vs;have hn:n<vars.length:=by omega
    have hrd:Za9 vars (n:Int)=vars[n]:=by simp[Za9,List.getD_eq_getElem?_getD,List.getElem?_eq_getElem hn]
    rw[List.drop_eq_getElem_cons hn,chkV];refine Ev.step (fun k=>by rw[Zam.l0,if_pos (by omega),if_pos (by omega),hrd]) (Ev.bind (rname_ev vars[n].f0 (hs.nm _ (List.getElem_mem hn))) ?_)
    cases hnm:nameB vars[n].f0 with
    |false=>
      rw[if_pos rfl,if_neg (show ¬(40:Int)=0 by decide)];exact Ev.Zat (by simp) (Ev.const rfl)
    |true=>
      rw[if_neg (show ¬(true=false) by decide)];refine Ev.Zak rfl ?_
      have h1 := rcheck_l1 vars cons gk gv gc hs n hn _ (fun a1 a2 => rcheck_l0 hs d (n + 1) (by omega) (fun v hv => by
        rw[List.take_succ_eq_append_getElem hn,List.mem_append,List.mem_singleton]at hv
        rcases hv with hv|rfl
        · exact hg v hv
        exact Zgm a2)) n 0 (by omega)
      rw[List.drop_zero]at h1;have et:(vars.take (n+1)).map (·.f0)=(vars.take n).map (·.f0)++ [vars[n].f0]:=by rw[List.take_succ_eq_append_getElem hn,List.map_append];rfl
      rw[et]at h1;by_cases q2:hasN ((vars.take n).map (·.f0)) vars[n].f0=true
      · rw [if_pos q2] at h1 ⊢
        rw[if_neg (show ¬(41:Int)=0 by decide)];exact h1
      rw[if_neg q2]at h1 ⊢;by_cases q3:vars[n].f1.length=0
      · rw [if_pos q3] at h1 ⊢
        rw[if_neg (show ¬(42:Int)=0 by decide)];exact h1
      rw[if_neg q3]at h1 ⊢;by_cases q4:checkSpec vars[n].f1=0
      · rw [if_pos q4] at h1 ⊢
        exact h1
      rw[if_neg q4]at h1 ⊢;rw[if_neg (show ¬(42:Int)=0 by decide)];exact h1
theorem rcheck_ev (hs:SmallM vars cons gv gc):Ev (fun k=>Zam.f k vars cons gk gv gc) (chkE vars cons gk gv gc):=by
  have j2:∀x:Bool,x=true→Ev (fun k=>Zam.j0 k x vars cons gk gv gc) 2:=fun x hx=>Ev.step (G:=fun _=>some 2) (fun k=>by rw[Zam.j0,if_pos hx]) (Ev.const rfl)
  unfold Zam.f chkE;by_cases q1:64<vars.length
  · rw [if_pos (.inl q1)]
    exact Ev.Zak (by omega) (j2 true rfl)
  refine Ev.Zat (by omega) ?_;by_cases q2:256<cons.length
  · rw [if_pos (.inr q2)]
    exact j2 _ (decide_eq_true (by omega))
  rw[if_neg (fun h=>h.elim q1 q2),decide_eq_false (show ¬(cons.length:Int)>256 by omega)];have:=rcheck_l0 vars cons gk gv gc hs vars.length 0 (by omega) (fun v hv=>by simp at hv);rw[List.drop_zero,List.take_zero,List.map_nil]at this;exact Ev.step (fun k=>by rw[Zam.j0,if_neg (by simp)];rfl) this
end
end Go.Proofs.YtdpieallpbllkaaGreat.P
namespace Go.Proofs.YtdpieallpbllkaaGreat.P
open Go.RowKit Go.Proofs.YtdpieallpbllkaaGreatW.PrintWords Go.Proofs.YtdpieallpbllkaaGreatW.PrintLast Go.Proofs.YtdpieallpbllkaaGreatW.PrintMore
attribute [local go_sem] Zcw Zcy Zdg Zdh Zco Zcp Zcx Zcz
mutual
def Za2.l0 : Nat → List (S82) → List Int → Int → Option (List Int)
 | 0, _, _, _ => none
 |k+1,x0,x3,x4=>if x4<(x0.length:Int)then(if 0≤x4 then(Za2.l1 k x0 x3 x4 ((Zbk x0 x4).f0))else(none))else(some x3)
def Za2.l1 : Nat → List (S82) → List Int → Int → Int → Option (List Int)
 | 0, _, _, _, _ => none
 |k+1,x0,x3,x4,x5=>if 0≤x4 then(if x4<(x0.length:Int)then(if x5≤((Zbk x0 x4).f1)then(if x3.length<17592186044416 then(Za2.l1 k x0 (x3++ [x5]) x4 (wrap64 (x5+1)))else(none))else(Za2.l0 k x0 x3 (wrap64 (x4+1))))else(none))else(none)
end
def Za2.f (k:Nat) (l0:List (S82)):Option (List Int):=Za2.l0 k l0 (([]:List Int)) 0
set_option maxRecDepth 100000 in
theorem Za2.calls (k : Nat) (A0 : Option Addr) (c0 : Nat) (l0 : List (S82)) (r : List Int) (w : World) (hr0 : Kd.C k82 w A0 l0.length l0) (hc0 : l0.length ≤ c0) (h : Za2.f k l0 = some r) :
  Calls Tryz.prog 50 #[.slice A0 l0.length c0] w fun e w'=>∃v0_:Value,e= .returned (v0_)∧Kd.R (Kd.int .i64) 3 w' w.heap.size (fun _=>True) v0_ r∧Below w.heap.size w w':=by
 have HR0:=Za.mk hr0;have HC0:=Za.mk hc0;clear hr0 hc0;have HB:=Za.mk (Below.refl w.heap.size w);have H:(Za2.l0 k l0 (([]:List Int)) 0)=some r:=h;clear h;obtain⟨VW,Dm⟩:∃y_:List Int,y_=(([]:List Int)):=⟨_,rfl⟩;replace H:(Za2.l0 k l0 VW 0)=some r:=by first|(rw[Dm];with_reducible exact H)|(have H2_:=(Option.bind_some _ _).symm.trans H;rw[Dm];with_reducible exact H2_)|(have H2_:=(Option.bind_some _ _).symm.trans H;with_reducible exact H2_)|with_reducible exact H|(rw[Dm];exact H)|exact H
 have QH:=Za.mk Dm;clear Dm;have H':=Za.mk H;clear H;go_enter Tryz.func50,Tryz.ntmps50
 go_wp2_with (first|((with_reducible refine Zar (N:=6) rfl ?_);refine Kd.Zdj (Kd.int .i64) _ 3 ?hg (N:=6) ?hd (xs:=([]:List Int)) (inner:= []) (ok:=fun _=>True) (okp:=fun _=>True) ?hr ?hp (fun _ hk=>hk) trivial (Below.refl _ _) (Nat.le_refl _) (by simp) ?_;(case hd=>rfl);(case hg=>rfl);(case hr=>first|(go_simp;done)|(go_simp;rfl));(case hp=>exact(Reps.none _ _));intro oMa w2 ho3 hb hg_ hnew_;clear hg_ hnew_;(first|rw[←QH.out]at ho3|(simp only[Int.reduceToNat]at ho3;rw[←QH.out]at ho3));have WQ:=Za.mk (Kd.Zbm ho3 (Zaf (bM HB.out)));replace HB:=Za.mk (bS HB.out hb);clear hb ho3))
 go_loopg [3,4] k (fun kq v3 v4 w'=>∃(af:List Int) (ah:Int),v4= .int .i64 ah∧Za (Za2.l0 kq l0 af ah=some r)∧Za (kq≤k)∧Za (Kd.R (Kd.int .i64) 3 w' w.heap.size (fun _=>True) v3 af)∧Za (Below w.heap.size w w'))
 case atStart=>exact⟨(VW),(0),eS,H',⟨Nat.le_refl _⟩,⟨rM WQ.out⟩,⟨bM HB.out⟩⟩
 case round=>
  clear H';try clear p2
  obtain⟨af,ah,rfl,HA,HK1,aN,HB⟩:=hrel
  cases gk with
  | zero => exact absurd HA.out (by simp [Za2.l0])
  |succ k1=>
   have H:=HA.out;clear HA;simp only[Za2.l0]at H;by_cases c4:ah<(l0.length:Int)
   case neg=>
    rw[if_neg c4]at H;have dC:decide (ah<(l0.length:Int))=false:=decide_eq_false c4;clear c4;obtain rfl:=sj H;go_wp2;go_ret;exact⟨_,eR,rM aN.out,bM HB.out⟩
   rw[if_pos c4]at H;have dC:decide (ah<(l0.length:Int))=true:=decide_eq_true c4;clear c4;obtain⟨dw,H⟩:=ifT H;have H':=Za.mk H;clear H;have dya:(0≤(ah:Int))=True:=teq;have d7a:(ah<(l0.length:Int))=True:=teq;obtain⟨Rk,rfl,EY,Fa⟩:=Zem HR0.out ah odt odt;replace EY:=hB HB.out EY;replace Fa:=hB HB.out Fa;go_wp2
   go_loopg [3,5] k1 (fun kq v3 v5 w'=>∃(d9:List Int) (dG:Int),v5= .int .i64 dG∧Za (Za2.l1 kq l0 d9 ah dG=some r)∧Za (kq≤k1)∧Za (Kd.R (Kd.int .i64) 3 w' w.heap.size (fun _=>True) v3 d9)∧Za (Below w.heap.size w w'))
   case atStart=>exact⟨(af),((Zbk l0 ah).f0),eS,H',⟨Nat.le_refl _⟩,⟨rM aN.out⟩,⟨bM HB.out⟩⟩
   case round=>
    clear H';try clear p2
    try clear p3
    try clear q3
    try clear hx3
    try clear c4
    try clear dC
    try clear c5
    try clear dw
    try clear EY
    try clear Fa
    try clear p2
    try clear dya
    try clear d7a
    obtain⟨d9,dG,rfl,HA,HK2,aN,HB⟩:=hrel
    cases gk with
    | zero => exact absurd HA.out (by simp [Za2.l1])
    |succ k2=>
     have H:=HA.out;clear HA;simp only[Za2.l1]at H;obtain⟨iF,H⟩:=ifT H;obtain⟨nu,H⟩:=ifT H;by_cases c8:dG≤((Zbk l0 ah).f1)
     case neg=>
      rw[if_neg c8]at H;have ny:decide (dG≤((Zbk l0 ah).f1))=false:=decide_eq_false c8;clear c8;have H':=Za.mk H;clear H;have dza:(0≤(ah:Int))=True:=teq;have d8a:(ah<(l0.length:Int))=True:=teq;obtain⟨Lv,e318,ww,wy⟩:=Zem HR0.out ah odt odt;obtain rfl:Rk=Lv:=(by injection e318);replace ww:=hB HB.out ww;replace wy:=hB HB.out wy;go_wp2
      go_roundg k2
      case measure=>have:=HK1.out;have:=HK2.out;omega
      case rel=>exact⟨(d9),(wrap64 (ah+1)),eS,H',⟨by have:=HK1.out;have:=HK2.out;omega⟩,⟨rM aN.out⟩,⟨bM HB.out⟩⟩
     rw[if_pos c8]at H;have ny:decide (dG≤((Zbk l0 ah).f1))=true:=decide_eq_true c8;clear c8;obtain⟨c9,H⟩:=ifP H;have cua:=Za.mk c9;clear c9;obtain⟨VX,Dn⟩:∃y_:List Int,y_=(d9++ [dG]):=⟨_,rfl⟩;replace H:(Za2.l1 k2 l0 VX ah (wrap64 (dG+1)))=some r:=by first|(rw[Dn];with_reducible exact H)|(have H2_:=(Option.bind_some _ _).symm.trans H;rw[Dn];with_reducible exact H2_)|(have H2_:=(Option.bind_some _ _).symm.trans H;with_reducible exact H2_)|with_reducible exact H|(rw[Dn];exact H)|exact H
     have Xz:=Za.mk Dn;clear Dn;have H':=Za.mk H;clear H;have dza:(0≤(ah:Int))=True:=teq;have d8a:(ah<(l0.length:Int))=True:=teq;obtain⟨Lv,e318,ww,wy⟩:=Zem HR0.out ah odt odt;obtain rfl:Rk=Lv:=(by injection e318);replace ww:=hB HB.out ww;replace wy:=hB HB.out wy
     go_wp2_with (first|((with_reducible refine Zbo (b:= .append) (xs:=#[.tmp 27,.tmp 29]) rfl ?_);at_builtin;refine Kd.Zc4 (Kd.int .i64) (w0:=w) w.heap.size rfl (.tmp 27) (.tmp 29) 24 3 (.int .i64 0) 8 rfl Tryz.underlying24 info3 rfl (by decide) (by omega) u3 d9 dG [.int .i64 dG] (fun _=>True) (fun _=>False) rfl rfl ?aP (fun _ hk=>hk.elim) ?aF ?aO ?aB ?aS ?aL ?_;(case aP=>exact rfl);(case aB=>exact(bM HB.out));(case aF=>exact(fun _ _=>trivial));(case aO=>exact(rM aN.out));(case aS=>exact(Zaf (bM HB.out)));(case aL=>have:=cua.out;omega);intro oNa w10 ho hb hg hat;rw[←Xz.out]at ho;replace HB:=Za.mk (hb);have WR:=Za.mk (ho);clear aN;clear ho hb hg hat))
     go_roundg k2
     case measure=>have:=HK1.out;have:=HK2.out;omega
     case rel=>exact⟨(VX),(wrap64 (dG+1)),eS,H',⟨by have:=HK1.out;have:=HK2.out;omega⟩,⟨rM WR.out⟩,⟨bM HB.out⟩⟩
end Go.Proofs.YtdpieallpbllkaaGreat.P
/- The document's Values. -/
namespace Go.Proofs.YtdpieallpbllkaaGreat.P
open Go.RowKit Go.Proofs.YtdpieallpbllkaaGreatW.PrintWords Go.Proofs.YtdpieallpbllkaaGreatW.PrintLast Go.Proofs.YtdpieallpbllkaaGreatW.PrintMore
theorem ref_Values_l1 (d : List Rg) (i : Nat) (hi : i < d.length) (h1 : d[i].f1 ≤ 1048576) {b : List Int} : ∀ (r : Nat) (v : Int) (acc : List Int), -1048576 ≤ v → r = (d[i].f1 + 1 - v).toNat → acc.length + r < 17592186044416 →
    Ev (fun k=>Za2.l0 k d (acc++upTo r v d[i].f1) (wrap64 ((i:Int)+1))) b→Ev (fun k=>Za2.l1 k d acc (i:Int) v) b:=by
  intro r
  induction r with
  |zero=>
    intro v acc hv hr hb h;simp only[upTo,List.append_nil]at h;exact Ev.step (fun k=>by rw[Za2.l1,if_pos (by omega),if_pos (by omega),show Zbk d (i:Int)=d[i]from Zfe d i hi,if_neg (by omega)]) h
  |succ r ih=>
    intro v acc hv hr hb h;have hle:v≤d[i].f1:=by omega
    rw[upTo,if_pos hle]at h
    exact Ev.step (fun k => by rw [Za2.l1, if_pos (by omega), if_pos (by omega), show Zbk d (i : Int) = d[i] from Zfe d i hi, if_pos hle, if_pos (by omega), w64 (n := v + 1) (by omega) (by omega)])
      (ih (v+1) (acc++ [v]) (by omega) (by omega) (by simp;omega) (by simpa using h))
theorem ref_Values_l0 (d : List Rg) (hl : d.length < 4611686018427387904) {b : Int} (hd : Gd 1048576 b d) (hb : -1048576 ≤ b) : ∀ (m n : Nat) (acc : List Int), n + m = d.length → acc.length + (vals (d.drop n)).length < 17592186044416 →
    Ev (fun k=>Za2.l0 k d acc (n:Int)) (acc++vals (d.drop n)):=by
  intro m
  induction m with
  |zero=>
    intro n acc h _;rw[drop_nil' h];exact Ev.step (G:=fun _=>some acc) (fun k=>by rw[Za2.l0,if_neg (by omega)]) (Ev.const (by simp[vals]))
  |succ m ih=>
    intro n acc h hs;have hn:n<d.length:=by omega
    have hg:=hd.drop n;rw[List.drop_eq_getElem_cons hn]at hs hg ⊢;obtain⟨g1,g2,g3,g4⟩:=hg;rw[vals]at hs ⊢;rw[List.length_append]at hs;have hu:=Zf7 (d[n].f1+1 - d[n].f0).toNat d[n].f0 d[n].f1;refine Ev.step (fun k=>by rw[Za2.l0,if_pos (by omega),if_pos (by omega),show Zbk d (n:Int)=d[n]from Zfe d n hn]) (ref_Values_l1 d n hn g3 (d[n].f1+1 - d[n].f0).toNat d[n].f0 acc (by omega) rfl (by omega) ?_);rw[w1 (by omega),←List.append_assoc];exact ih (n+1) _ (by omega) (by rw[List.length_append];omega)
theorem ref_Values (d:List Rg) {b:Int} (hd:Gd 1048576 b d) (hb: -1048576≤b):Ev (fun k=>Za2.f k d) (vals d):=by
  have h1:=Zdz hd;have h2:=Zdv hd;exact ref_Values_l0 d (by omega) hd hb d.length 0 [] (by omega) (by simp;omega)
end Go.Proofs.YtdpieallpbllkaaGreat.P
namespace Go.Proofs.YtdpieallpbllkaaGreat.P
open Go.RowKit Go.Proofs.YtdpieallpbllkaaGreatW.PrintWords Go.Proofs.YtdpieallpbllkaaGreatW.PrintLast Go.Proofs.YtdpieallpbllkaaGreatW.PrintMore
attribute [local go_sem] Zcw Zcy Zdg Zdh Zco Zcp Zcx Zcz
def Zbp.f (k:Nat) (aU:Int) (aa:List Int) (au:List Int) (l1:List Int):Option (Int):=if aU=0 then(some 0)else((Zch.f l1 aa).bind fun AJ=>((Zce.f k au AJ).bind fun L9=>(some L9.1)))
theorem Zbp.mono:∀a0 a1 a2 a3 k,LeO (Zbp.f k a0 a1 a2 a3) (Zbp.f (k+1) a0 a1 a2 a3):=by
 intro a0 a1 a2 a3 k;unfold Zbp.f
 repeat' first
   | (with_reducible exact Zce.mono _ _ _)
   | (with_reducible exact LeO.refl _)
   | (with_reducible exact LeO.none _)
   | (with_reducible refine LeO.ite ?_ ?_)
   |(with_reducible refine LeO.bind ?_ (fun _=> ?_))
def Zbp.T3:Bool × List (List Nat × List Nat):=(true,[([],[]),([0],[0]),([],[]),([],[]),([3],[3]),([2,4],[2,4]),([1,5,5],[1,5]),([6],[6]),([7],[7]),([7],[7]),([8,6,0,1,2,3,4,5,6,7,8],[8]),([9,10,0,1,2,3,4,5,6,7,8,9,10],[9])])
def Zbp.B3:List Nat:= [0,1,0,0,8,28,63,127,255,255,511,2047]
theorem Zbp.tab3:rtab .any (opsOf Tryz.f17 3)=Zbp.T3:=by kernel_rfl
theorem Zbp.bits3:waitsOk Zbp.T3.2 Zbp.B3=true:=by kernel_rfl
set_option maxRecDepth 100000 in
theorem Zbp.calls (k : Nat) (aU : Int) (aV : Option Addr) (aQ : Nat) (aa : List Int) (dx : Option Addr) (dz : Nat) (au : List Int) (A1 : Option Addr) (c1 : Nat) (l1 : List Int) (r : Int) (w : World) (eu : Kd.C (Kd.int .i64) w aV aa.length aa) (ek : aa.length ≤ aQ) (ig : Kd.C (Kd.int .i64) w dx au.length au) (ic : au.length ≤ dz) (hr1 : Kd.C (Kd.int .i64) w A1 l1.length l1) (hc1 : l1.length ≤ c1) (h : Zbp.f k aU aa au l1 = some r) :
  Calls Tryz.prog 17 #[.agg #[.int .i64 aU,.slice aV aa.length aQ,.slice dx au.length dz],.slice A1 l1.length c1] w fun e w'=>e= .returned (.int .i64 r)∧Below w.heap.size w w':=by
 have hu26:=Tryz.underlying26;have eO:=Za.mk eu;have fC:=Za.mk ek;clear eu ek;have j4:=Za.mk ig;have jL:=Za.mk ic;clear ig ic;have HR1:=Za.mk hr1;have HC1:=Za.mk hc1;clear hr1 hc1;have HB:=Za.mk (Below.refl w.heap.size w);have H:(if aU=0 then(some 0)else((Zch.f l1 aa).bind fun AJ=>((Zce.f k au AJ).bind fun L9=>(some L9.1))))=some r:=h;clear h;by_cases c3:aU=0
 case pos=>
  rw[if_pos c3]at H;have fB:(aU==0)=true:=beq_iff_eq.mpr c3;have jY:(aU !=0)=false:=bne_eq_false_iff_eq.mpr c3;clear c3;obtain rfl:=sj H;go_enter Tryz.func17,Tryz.ntmps17
  go_wp2_with (first|((with_reducible refine Zar (N:=2) rfl ?_);refine bx 2 #[.int .i64 aU,.slice aV aa.length aQ,.slice dx au.length dz] 26 ?_;intro zb hg w4 hbox hb;have jm:=Za.mk (hbox);have WB:=Za.mk ((gE hg HB.out:w.heap.size≤zb));replace HB:=Za.mk (bS HB.out hb);clear hb hbox hg;obtain⟨IY,Ja,Jb,IP,IQ,IR⟩:=cz3 jm.out))
  go_ret;exact⟨eR,bM HB.out⟩
 rw[if_neg c3]at H;have fB:(aU==0)=false:=beq_eq_false_iff_ne.mpr c3;have jY:(aU !=0)=true:=bne_iff_ne.mpr c3;obtain⟨AJ,A6,H⟩:=bnd H;try dsimp only at H
 obtain⟨⟨dDa,dEa⟩,A7,H⟩:=bnd H;try dsimp only at H
 obtain rfl:=sj H;go_enter Tryz.func17,Tryz.ntmps17;try go_wp2_with (first|((with_reducible refine Zar (N:=2) rfl ?_);refine bx 2 #[.int .i64 aU,.slice aV aa.length aQ,.slice dx au.length dz] 26 ?_;intro zb hg w8 hbox hb;have jm:=Za.mk (hbox);have WB:=Za.mk ((gE hg HB.out:w.heap.size≤zb));replace HB:=Za.mk (bS HB.out hb);clear hb hbox hg;obtain⟨Bo,Bp,Br,Bf,Bg,Bh⟩:=cz3 jm.out))
 replace jm:=Za.mk (Zai jm.out);replace HB:=Za.mk (Zcs HB.out);refine Ze7 (n:=12) (S:=fun w'=>w'.cell? ⟨zb,0,none⟩=some (.int .i64 aU)∧w'.cell? ⟨zb,1,none⟩=some (.slice aV aa.length aQ)∧w'.cell? ⟨zb,2,none⟩=some (.slice dx au.length dz)) (ds:= []) #[false,false,false,false,false,false,false,false,false,false,false,false] (by kernel_rfl) rfl rfl ⟨bc jm.out 0,bc jm.out 1,bc jm.out 2⟩ (fun hHeld=> ?_);refine Zdy Zbp.tab3 Zbp.bits3 (fun HT_ HW_=> ?_)
 generalize w8.drew=w10 at jm HB hHeld ⊢
 refine pu HT_ 0 11 ?_;refine pu HT_ 2 13 ?_;refine pu HT_ 3 14 ?_;refine tk HT_ HW_ hHeld 1 12 ?_;refine tk HT_ HW_ hHeld 4 15 ?_;refine on1 HT_ 5 16 (fun K hK=> ?_);refine gs Tryz.func31 #[.slice A1 l1.length c1,.slice aV aa.length aQ] ?_
 with_reducible refine(Zch.calls _ _ l1 _ _ aa AJ _ (cM (Kd.Zac HR1.out HB.out)) HC1.out (cM (Kd.Zac eO.out HB.out)) fC.out A6.out).mono ?_
 rintro e w11 ⟨oPa,rfl,ho0,hb⟩;refine⟨_,rfl,?_⟩;have BB:=Za.mk (Kd.Zbm ho0 (Zaf (bM HB.out)));replace jm:=Za.mk (kB jm.out hb);replace HB:=Za.mk (bS HB.out hb)
 (try clear hb)
 (try clear hb2)
 (try clear hk)
 (try clear hi)
 (try clear ho0)
 obtain⟨iE,iG,pQ⟩:=Kd.Zbe BB.out
 (first|subst pQ|(injection pQ with f1_ f2_ f3_;have f4_:=f1_.symm;have f5_:=f3_.symm;clear f1_ f2_ f3_;subst f4_;subst f5_))
 refine hK.out _ _ ⟨bc jm.out 0,bc jm.out 1,bc jm.out 2⟩ (fun hHeld=> ?_);clear hK K;refine nmp 16 ?_;refine on1 HT_ 6 17 (fun K hK=> ?_);refine gs Tryz.func51 #[.slice dx au.length dz,.slice iE AJ.length iG] ?_
 with_reducible refine(Zce.calls k _ _ au _ _ AJ dDa dEa _ (cM (Kd.Zac j4.out HB.out)) jL.out (cM ((Kd.Zan BB.out).2.2)) ((Kd.Zan BB.out).2.1) A7.out).mono ?_
 rintro e w13 ⟨rfl,hb⟩;refine⟨_,rfl,?_⟩;replace BB:=Za.mk (Kd.Zb6 (rM BB.out) hb);replace jm:=Za.mk (kB jm.out hb);replace HB:=Za.mk (bS HB.out hb)
 (try clear hb)
 (try clear hb2)
 (try clear hk)
 (try clear hi)
 refine hK.out _ _ ⟨bc jm.out 0,bc jm.out 1,bc jm.out 2⟩ (fun hHeld=> ?_);clear hK K;refine nmp 17 ?_;refine pu HT_ 7 10 ?_;refine pu HT_ 8 18 ?_;refine pu HT_ 9 19 ?_;refine pu HT_ 10 5 ?_;refine pu HT_ 11 6 ?_;refine Zgg (Zen HT_.out (by kernel_rfl)) ?_;try go_wp2
 go_ret;exact⟨eR,bM HB.out⟩
def Za4.l0 : Nat → List (List Int) → List (List Int) → Int → Option (Bool)
 | 0, _, _, _ => none
 |k+1,x0,x1,x5=>if x5<(x0.length:Int)then(if 0≤x5 then(if x5<(x1.length:Int)then((Zas.f k (Zb3 x0 x5) (Zb3 x1 x5)).bind fun P7=>(if P7=true then(Za4.l0 k x0 x1 (wrap64 (x5+1)))else(some false)))else(none))else(none))else(some true)
def Za4.f (k:Nat) (l0:List (List Int)) (l1:List (List Int)):Option (Bool):=if(l0.length:Int)=(l1.length:Int)then(Za4.l0 k l0 l1 0)else(some false)
theorem Za4.Zc9 : ∀ k, (∀ y0 y1 y2, LeO (Za4.l0 k y0 y1 y2) (Za4.l0 (k + 1) y0 y1 y2))
 | 0 => fun _ _ _ r h => by simp [Za4.l0] at h
 |k+1=>by
  have ih0:=Za4.Zc9 k;intro y0 y1 y2;unfold Za4.l0
  repeat' first
  | (with_reducible exact ih0 _ _ _)
  | (with_reducible exact Zas.mono _ _ _)
  | (with_reducible exact LeO.refl _)
  | (with_reducible exact LeO.none _)
  | (with_reducible refine LeO.ite ?_ ?_)
  |(with_reducible refine LeO.bind ?_ (fun _=> ?_))
theorem Za4.mono:∀a0 a1 k,LeO (Za4.f k a0 a1) (Za4.f (k+1) a0 a1):=by
 intro a0 a1 k;have ih0:=Za4.Zc9 k;unfold Za4.f
 repeat' first
   | (with_reducible exact ih0 _ _ _)
   | (with_reducible exact Zas.mono _ _ _)
   | (with_reducible exact LeO.refl _)
   | (with_reducible exact LeO.none _)
   | (with_reducible refine LeO.ite ?_ ?_)
   |(with_reducible refine LeO.bind ?_ (fun _=> ?_))
set_option maxRecDepth 100000 in
theorem Za4.calls (k : Nat) (A0 : Option Addr) (c0 : Nat) (l0 : List (List Int)) (A1 : Option Addr) (c1 : Nat) (l1 : List (List Int)) (r : Bool) (w : World) (hr0 : Kd.C (Kd.slice 3 (Kd.int .i64)) w A0 l0.length l0) (hc0 : l0.length ≤ c0) (hr1 : Kd.C (Kd.slice 3 (Kd.int .i64)) w A1 l1.length l1) (hc1 : l1.length ≤ c1) (h : Za4.f k l0 l1 = some r) :
  Calls Tryz.prog 25 #[.slice A0 l0.length c0,.slice A1 l1.length c1] w fun e w'=>e= .returned (.bool r)∧Zav w w':=by
 have HR0:=Za.mk hr0;have HC0:=Za.mk hc0;clear hr0 hc0;have HR1:=Za.mk hr1;have HC1:=Za.mk hc1;clear hr1 hc1;have H:(if(l0.length:Int)=(l1.length:Int)then(Za4.l0 k l0 l1 0)else(some false))=some r:=h;clear h;by_cases c3:(l0.length:Int)=(l1.length:Int)
 case neg=>
  rw[if_neg c3]at H;have fB:((l0.length:Int)==(l1.length:Int))=false:=beq_eq_false_iff_ne.mpr c3;have jY:((l0.length:Int) !=(l1.length:Int))=true:=bne_iff_ne.mpr c3;have qD:(l0.length==l1.length)=false:=by first|simpa using c3|(simp at c3 ⊢;omega)
  obtain rfl:=sj H;go_enter Tryz.func25,Tryz.ntmps25;go_wp2
  repeat(go_quiet (fail);try go_wp2)
  go_ret;exact⟨eS,by repeat(first|exact Zav.refl _|apply Zav.step)⟩
 rw[if_pos c3]at H;have fB:((l0.length:Int)==(l1.length:Int))=true:=beq_iff_eq.mpr c3;have jY:((l0.length:Int) !=(l1.length:Int))=false:=bne_eq_false_iff_eq.mpr c3;have qD:(l0.length==l1.length)=true:=by first|simpa using c3|(simp at c3 ⊢;omega)
 clear c3;have H':=Za.mk H;clear H;go_enter Tryz.func25,Tryz.ntmps25;go_wp2
 repeat(go_quiet (fail);try go_wp2)
 go_loopg [5] k (fun kq v5 w'=>∃(ax:Int),v5= .int .i64 ax∧Za (Za4.l0 kq l0 l1 ax=some r)∧Za (kq≤k)∧Zav w w')
 case atStart=>exact⟨(0),eS,H',⟨Nat.le_refl _⟩,by repeat(first|exact Zav.refl _|apply Zav.step)⟩
 case round=>
  clear H';try clear c1
  try clear c2
  try clear p2
  try clear c3
  try clear fB
  try clear jY
  try clear qD
  obtain⟨ax,rfl,HA,HK1,⟨m1,rfl⟩⟩:=hrel
  cases gk with
  | zero => exact absurd HA.out (by simp [Za4.l0])
  |succ k1=>
   have H:=HA.out;clear HA;simp only[Za4.l0]at H;by_cases c4:ax<(l0.length:Int)
   case neg=>
    rw[if_neg c4]at H;have dC:decide (ax<(l0.length:Int))=false:=decide_eq_false c4;clear c4;obtain rfl:=sj H;go_wp2
    repeat(go_quiet (fail);try go_wp2)
    go_ret;exact⟨eS,by repeat(first|exact Zav.refl _|apply Zav.step)⟩
   rw[if_pos c4]at H;have dC:decide (ax<(l0.length:Int))=true:=decide_eq_true c4;clear c4;obtain⟨dw,H⟩:=ifT H;obtain⟨iF,H⟩:=ifT H;obtain⟨P7,A7,H⟩:=bnd H;try dsimp only at H
   by_cases c8:P7=true
   case pos=>
    subst c8;rw[if_pos rfl]at H;have H':=Za.mk H;clear H;have d2a:(0≤(ax:Int))=True:=teq;have dBa:(ax<(l0.length:Int))=True:=teq;obtain⟨XO,U0,UI,rfl,Uh,vF,uT⟩:=Zew HR0.out ax odt odt;have qB:=Za.mk uT;have qo:=Za.mk vF;clear uT vF;have d3a:(0≤(ax:Int))=True:=teq;have dCa:(ax<(l1.length:Int))=True:=teq;obtain⟨XP,U1,UJ,rfl,Ui,vG,uU⟩:=Zew HR1.out ax odt odt;have qC:=Za.mk uU;have qp:=Za.mk vG;clear uU vG
    go_wp2_with (first|(go_at_call 27;(with_reducible refine(Zas.calls k1 _ _ (Zb3 l0 ax) _ _ (Zb3 l1 ax) true _ (cM qB.out) qo.out (cM qC.out) qp.out A7.out).mono ?_);rintro e w' ⟨rfl,⟨nd,rfl⟩⟩;(try first|exact⟨rfl,_,World.drewN_drewN _ _ _⟩|exact⟨rfl,_,Eq.trans (World.drewN_drewN _ _ _) (congrArg (World.drewN _) (Nat.add_assoc _ _ _))⟩)))
    repeat(go_quiet (first|(go_at_call 27;(with_reducible refine(Zas.calls k1 _ _ (Zb3 l0 ax) _ _ (Zb3 l1 ax) true _ (cM qB.out) qo.out (cM qC.out) qp.out A7.out).mono ?_);rintro e w' ⟨rfl,⟨nd,rfl⟩⟩;(try first|exact⟨rfl,_,World.drewN_drewN _ _ _⟩|exact⟨rfl,_,Eq.trans (World.drewN_drewN _ _ _) (congrArg (World.drewN _) (Nat.add_assoc _ _ _))⟩)));try go_wp2_with (first|(go_at_call 27;(with_reducible refine(Zas.calls k1 _ _ (Zb3 l0 ax) _ _ (Zb3 l1 ax) true _ (cM qB.out) qo.out (cM qC.out) qp.out A7.out).mono ?_);rintro e w' ⟨rfl,⟨nd,rfl⟩⟩;(try first|exact⟨rfl,_,World.drewN_drewN _ _ _⟩|exact⟨rfl,_,Eq.trans (World.drewN_drewN _ _ _) (congrArg (World.drewN _) (Nat.add_assoc _ _ _))⟩))))
    go_roundg k1
    case measure=>have:=HK1.out;omega
    case rel=>exact⟨(wrap64 (ax+1)),eS,H',⟨by have:=HK1.out;omega⟩,by repeat(first|exact Zav.refl _|apply Zav.step)⟩
   replace c8:=Bool.eq_false_iff.mpr c8;subst c8;replace H:=ifF H;obtain rfl:=sj H;have d2a:(0≤(ax:Int))=True:=teq;have dBa:(ax<(l0.length:Int))=True:=teq;obtain⟨XO,U0,UI,rfl,Uh,vF,uT⟩:=Zew HR0.out ax odt odt;have qB:=Za.mk uT;have qo:=Za.mk vF;clear uT vF;have d3a:(0≤(ax:Int))=True:=teq;have dCa:(ax<(l1.length:Int))=True:=teq;obtain⟨XP,U1,UJ,rfl,Ui,vG,uU⟩:=Zew HR1.out ax odt odt;have qC:=Za.mk uU;have qp:=Za.mk vG;clear uU vG
   go_wp2_with (first|(go_at_call 27;(with_reducible refine(Zas.calls k1 _ _ (Zb3 l0 ax) _ _ (Zb3 l1 ax) false _ (cM qB.out) qo.out (cM qC.out) qp.out A7.out).mono ?_);rintro e w' ⟨rfl,⟨nd,rfl⟩⟩;(try first|exact⟨rfl,_,World.drewN_drewN _ _ _⟩|exact⟨rfl,_,Eq.trans (World.drewN_drewN _ _ _) (congrArg (World.drewN _) (Nat.add_assoc _ _ _))⟩)))
   repeat(go_quiet (first|(go_at_call 27;(with_reducible refine(Zas.calls k1 _ _ (Zb3 l0 ax) _ _ (Zb3 l1 ax) false _ (cM qB.out) qo.out (cM qC.out) qp.out A7.out).mono ?_);rintro e w' ⟨rfl,⟨nd,rfl⟩⟩;(try first|exact⟨rfl,_,World.drewN_drewN _ _ _⟩|exact⟨rfl,_,Eq.trans (World.drewN_drewN _ _ _) (congrArg (World.drewN _) (Nat.add_assoc _ _ _))⟩)));try go_wp2_with (first|(go_at_call 27;(with_reducible refine(Zas.calls k1 _ _ (Zb3 l0 ax) _ _ (Zb3 l1 ax) false _ (cM qB.out) qo.out (cM qC.out) qp.out A7.out).mono ?_);rintro e w' ⟨rfl,⟨nd,rfl⟩⟩;(try first|exact⟨rfl,_,World.drewN_drewN _ _ _⟩|exact⟨rfl,_,Eq.trans (World.drewN_drewN _ _ _) (congrArg (World.drewN _) (Nat.add_assoc _ _ _))⟩))))
   go_ret;exact⟨eS,by repeat(first|exact Zav.refl _|apply Zav.step)⟩
def Zbj.f (k:Nat) (l0:List Int) (l1:List Int):Option (Bool):=(Za1.f k l0 l1).bind fun I9=>(some (decide (I9<0)))
theorem Zbj.mono:∀a0 a1 k,LeO (Zbj.f k a0 a1) (Zbj.f (k+1) a0 a1):=by
 intro a0 a1 k;unfold Zbj.f
 repeat' first
   | (with_reducible exact Za1.mono _ _ _)
   | (with_reducible exact LeO.refl _)
   | (with_reducible exact LeO.none _)
   | (with_reducible refine LeO.ite ?_ ?_)
   |(with_reducible refine LeO.bind ?_ (fun _=> ?_))
set_option maxRecDepth 100000 in
theorem Zbj.calls (k : Nat) (A0 : Option Addr) (c0 : Nat) (l0 : List Int) (A1 : Option Addr) (c1 : Nat) (l1 : List Int) (r : Bool) (w : World) (hr0 : Kd.C (Kd.int .i64) w A0 l0.length l0) (hc0 : l0.length ≤ c0) (hr1 : Kd.C (Kd.int .i64) w A1 l1.length l1) (hc1 : l1.length ≤ c1) (h : Zbj.f k l0 l1 = some r) :
  Calls Tryz.prog 26 #[.slice A0 l0.length c0,.slice A1 l1.length c1] w fun e w'=>e= .returned (.bool r)∧Zav w w':=by
 have HR0:=Za.mk hr0;have HC0:=Za.mk hc0;clear hr0 hc0;have HR1:=Za.mk hr1;have HC1:=Za.mk hc1;clear hr1 hc1;have H:((Za1.f k l0 l1).bind fun I9=>(some (decide (I9<0))))=some r:=h;clear h;obtain⟨I9,A3,H⟩:=bnd H;try dsimp only at H
 obtain rfl:=sj H;go_enter Tryz.func26,Tryz.ntmps26
 go_wp2_with (first|((with_reducible refine Zal (f:=39) rfl ?_);refine gl 7 Tryz.func39 #[.slice A0 l0.length c0,.slice A1 l1.length c1] ?_;(with_reducible refine(Za1.calls k _ _ l0 _ _ l1 I9 _ (cM HR0.out) HC0.out (cM HR1.out) HC1.out A3.out).mono ?_);rintro e w' ⟨rfl,⟨nd,rfl⟩⟩;refine⟨_,rfl,?_⟩))
 go_ret;exact⟨eS,by repeat(first|exact Zav.refl _|apply Zav.step)⟩
def Zao.f:Option ((List (S55)) × (List (S36)) × Int × List Int × List Int):=(some (([(⟨0,1⟩:S82)]:List (S82)):List (S82))).bind fun kV=>(some ((([(⟨(⟨#[120]⟩:ByteArray),kV⟩:S55),(⟨(⟨#[121]⟩:ByteArray),kV⟩:S55)]:List (S55))),(([(⟨0,(([0,1]:List Int)),(([1,1]:List Int)),1,1,([]:List (List Int)),0⟩:S36)]:List (S36))),2,(([0]:List Int)),(([3]:List Int))))
set_option maxRecDepth 100000 in
theorem Zao.calls  (r1 : List (S55)) (r2 : List (S36)) (r3 : Int) (r4 : List Int) (r5 : List Int) (w : World) (h : Zao.f  = some (r1, r2, r3, r4, r5)) :
  Calls Tryz.prog 30 #[] w fun e w'=>∃v0_ v1_ v3_ v4_:Value,e= .returned (.agg #[v0_,v1_,.int .i64 r3,v3_,v4_])∧Kd.N k55 55 w' w.heap.size (fun k_=>(w.heap.size≤k_)∧some k_≠(v1_:Value).ownBlock∧some k_≠(v3_:Value).ownBlock∧some k_≠(v4_:Value).ownBlock) v0_ r1∧Kd.N k36 36 w' w.heap.size (fun k_=>(w.heap.size≤k_)∧some k_≠(v0_:Value).ownBlock∧some k_≠(v3_:Value).ownBlock∧some k_≠(v4_:Value).ownBlock) v1_ r2∧Kd.R (Kd.int .i64) 3 w' w.heap.size (fun k_=>(w.heap.size≤k_)∧some k_≠(v4_:Value).ownBlock) v3_ r4∧Kd.R (Kd.int .i64) 3 w' w.heap.size (fun k_=>(w.heap.size≤k_)∧some k_≠(v3_:Value).ownBlock) v4_ r5∧Below w.heap.size w w':=by
 have hu28:=Tryz.underlying28;have hu82:=Tryz.underlying82;have hu55:=Tryz.underlying55;have hu36:=Tryz.underlying36;have hu26:=Tryz.underlying26;have HB:=Za.mk (Below.refl w.heap.size w);have H:((some (([(⟨0,1⟩:S82)]:List (S82)):List (S82))).bind fun kV=>(some ((([(⟨(⟨#[120]⟩:ByteArray),kV⟩:S55),(⟨(⟨#[121]⟩:ByteArray),kV⟩:S55)]:List (S55))),(([(⟨0,(([0,1]:List Int)),(([1,1]:List Int)),1,1,([]:List (List Int)),0⟩:S36)]:List (S36))),2,(([0]:List Int)),(([3]:List Int)))))=some (r1,r2,r3,r4,r5):=h;clear h;obtain⟨kV,Dy⟩:∃y_:List (S82),y_=(([(⟨0,1⟩:S82)]:List (S82))):=⟨_,rfl⟩;replace H:(some ((([(⟨(⟨#[120]⟩:ByteArray),kV⟩:S55),(⟨(⟨#[121]⟩:ByteArray),kV⟩:S55)]:List (S55))),(([(⟨0,(([0,1]:List Int)),(([1,1]:List Int)),1,1,([]:List (List Int)),0⟩:S36)]:List (S36))),2,(([0]:List Int)),(([3]:List Int))))=some (r1,r2,r3,r4,r5):=by first|(rw[Dy];with_reducible exact H)|(have H2_:=(Option.bind_some _ _).symm.trans H;rw[Dy];with_reducible exact H2_)|(have H2_:=(Option.bind_some _ _).symm.trans H;with_reducible exact H2_)|with_reducible exact H|(rw[Dy];exact H)|exact H
 have QJ:=Za.mk Dy;clear Dy;obtain⟨oO,Dz⟩:∃y_:List (S55),y_=(([(⟨(⟨#[120]⟩:ByteArray),kV⟩:S55),(⟨(⟨#[121]⟩:ByteArray),kV⟩:S55)]:List (S55))):=⟨_,rfl⟩;replace H:(some (oO,(([(⟨0,(([0,1]:List Int)),(([1,1]:List Int)),1,1,([]:List (List Int)),0⟩:S36)]:List (S36))),2,(([0]:List Int)),(([3]:List Int))))=some (r1,r2,r3,r4,r5):=by first|(rw[Dz];with_reducible exact H)|(have H2_:=(Option.bind_some _ _).symm.trans H;rw[Dz];with_reducible exact H2_)|(have H2_:=(Option.bind_some _ _).symm.trans H;with_reducible exact H2_)|with_reducible exact H|(rw[Dz];exact H)|exact H
 have QK:=Za.mk Dz;clear Dz;obtain⟨yH,D5⟩:∃y_:List Int,y_=(([0,1]:List Int)):=⟨_,rfl⟩;replace H:(some (oO,(([(⟨0,yH,(([1,1]:List Int)),1,1,([]:List (List Int)),0⟩:S36)]:List (S36))),2,(([0]:List Int)),(([3]:List Int))))=some (r1,r2,r3,r4,r5):=by first|(rw[D5];with_reducible exact H)|(have H2_:=(Option.bind_some _ _).symm.trans H;rw[D5];with_reducible exact H2_)|(have H2_:=(Option.bind_some _ _).symm.trans H;with_reducible exact H2_)|with_reducible exact H|(rw[D5];exact H)|exact H
 have QL:=Za.mk D5;clear D5;obtain⟨AY,D6⟩:∃y_:List Int,y_=(([1,1]:List Int)):=⟨_,rfl⟩;replace H:(some (oO,(([(⟨0,yH,AY,1,1,([]:List (List Int)),0⟩:S36)]:List (S36))),2,(([0]:List Int)),(([3]:List Int))))=some (r1,r2,r3,r4,r5):=by first|(rw[D6];with_reducible exact H)|(have H2_:=(Option.bind_some _ _).symm.trans H;rw[D6];with_reducible exact H2_)|(have H2_:=(Option.bind_some _ _).symm.trans H;with_reducible exact H2_)|with_reducible exact H|(rw[D6];exact H)|exact H
 have QM:=Za.mk D6;clear D6;obtain⟨tQ,D7⟩:∃y_:List (S36),y_=(([(⟨0,yH,AY,1,1,([]:List (List Int)),0⟩:S36)]:List (S36))):=⟨_,rfl⟩;replace H:(some (oO,tQ,2,(([0]:List Int)),(([3]:List Int))))=some (r1,r2,r3,r4,r5):=by first|(rw[D7];with_reducible exact H)|(have H2_:=(Option.bind_some _ _).symm.trans H;rw[D7];with_reducible exact H2_)|(have H2_:=(Option.bind_some _ _).symm.trans H;with_reducible exact H2_)|with_reducible exact H|(rw[D7];exact H)|exact H
 have QN:=Za.mk D7;clear D7;obtain⟨yI,D8⟩:∃y_:List Int,y_=(([0]:List Int)):=⟨_,rfl⟩;replace H:(some (oO,tQ,2,yI,(([3]:List Int))))=some (r1,r2,r3,r4,r5):=by first|(rw[D8];with_reducible exact H)|(have H2_:=(Option.bind_some _ _).symm.trans H;rw[D8];with_reducible exact H2_)|(have H2_:=(Option.bind_some _ _).symm.trans H;with_reducible exact H2_)|with_reducible exact H|(rw[D8];exact H)|exact H
 have QO:=Za.mk D8;clear D8;obtain⟨Fu,D9⟩:∃y_:List Int,y_=(([3]:List Int)):=⟨_,rfl⟩;replace H:(some (oO,tQ,2,yI,Fu))=some (r1,r2,r3,r4,r5):=by first|(rw[D9];with_reducible exact H)|(have H2_:=(Option.bind_some _ _).symm.trans H;rw[D9];with_reducible exact H2_)|(have H2_:=(Option.bind_some _ _).symm.trans H;with_reducible exact H2_)|with_reducible exact H|(rw[D9];exact H)|exact H
 have QP:=Za.mk D9;clear D9;simp only[Option.some.injEq,Prod.mk.injEq]at H;obtain⟨rfl,rfl,rfl,rfl,rfl⟩:=H;go_enter Tryz.func30,Tryz.ntmps30
 go_wp2_with (first|((with_reducible refine Zar (N:=0) rfl ?_);refine bx 0 #[.slice none 0 0,.slice none 0 0,.int .i64 0,.slice none 0 0,.slice none 0 0] 28 ?_;intro fq hg w1 hbox hb;have gK:=Za.mk (hbox);have fBa:=Za.mk ((gE hg HB.out:w.heap.size≤fq));replace HB:=Za.mk (bS HB.out hb);clear hb hbox hg)|((with_reducible refine Zar (N:=3) rfl ?_);refine Kd.Zdj k82 _ 82 ?hg (N:=3) ?hd (xs:=([(⟨0,1⟩:S82)]:List (S82))) (inner:= [.int .i64 0,.int .i64 1]) (ok:=fun _=>True) (okp:=fun _=>True) ?hr ?hp (fun _ hk=>hk) trivial (Below.refl _ _) (Nat.le_refl _) (by simp) ?_;(case hd=>rfl);(case hg=>rfl);(case hr=>first|(go_simp;done)|(go_simp;rfl));(case hp=>exact(Reps.c2 (show Kd.M k82 _ _ _ (⟨0,1⟩:S82) [.int .i64 0,.int .i64 1]from(Zg9 _ _ _ (⟨0,1⟩:S82))) (Reps.none _ _)));intro oWa w2 ho3 hb hg_ hnew_;clear hg_ hnew_;(first|rw[←QJ.out]at ho3|(simp only[Int.reduceToNat]at ho3;rw[←QJ.out]at ho3));have yP:=Za.mk (Kd.Zbm (Kd.Zft (M:=fun k_=>(w.heap.size≤k_)) ho3 (Zaf (bM HB.out)) (fun k_ h_=>h_)) (Zaf (bM HB.out)));replace gK:=Za.mk (kB gK.out hb);replace HB:=Za.mk (bS HB.out hb);clear hb ho3;obtain⟨Ao4,co4,eo4⟩:=Kd.Zbe yP.out;subst eo4)|((with_reducible refine Zar (N:=8) rfl ?_);refine Kd.N_lit k55 _ 55 ?hg (N':=8) ?hd (xs:=([(⟨(⟨#[120]⟩:ByteArray),kV⟩:S55),(⟨(⟨#[121]⟩:ByteArray),kV⟩:S55)]:List (S55))) (inner:= [.string (⟨#[120]⟩:ByteArray),.slice Ao4 kV.length co4,.string (⟨#[121]⟩:ByteArray),.slice Ao4 kV.length co4]) (ok:=(fun k_=>(w.heap.size≤k_)∧k_≠fq)) (okp:=(fun k_=>(w.heap.size≤k_)∧k_≠fq)) ?hr ?hp (fun _ hk=>hk) ((show ∀k_,w2.heap.size≤k_→(fun k_=>(w.heap.size≤k_)∧k_≠fq) k_ from fun k_ hk=>⟨(Nat.le_trans (Zaf (bM HB.out)) hk),Kd.freshB (kM gK.out) k_ hk⟩) _ (Nat.le_refl _)) (Below.refl _ _) (Nat.le_refl _) (by simp) ?_;(case hd=>rfl);(case hg=>rfl);(case hr=>first|(go_simp;done)|(go_simp;rfl));(case hp=>exact(Reps.c2 (show Kd.FK k55 _ _ (⟨(⟨#[120]⟩:ByteArray),kV⟩:S55) [.string (⟨#[120]⟩:ByteArray),.slice Ao4 kV.length co4]from(k55_mkF _ _ (⟨(⟨#[120]⟩:ByteArray),kV⟩:S55) (Kd.Zan (Kd.Za6 (ok':=(fun k_=>(w.heap.size≤k_)∧k_≠fq)) (Kd.Zcc (yP.out) gK.out (by decide)) (fun k_ hk=>⟨hk.1.1,hk.2⟩))).2.1 (Kd.R_F (Kd.Za6 (ok':=(fun k_=>(w.heap.size≤k_)∧k_≠fq)) (Kd.Zcc (yP.out) gK.out (by decide)) (fun k_ hk=>⟨hk.1.1,hk.2⟩))))) (Reps.c2 (show Kd.FK k55 _ _ (⟨(⟨#[121]⟩:ByteArray),kV⟩:S55) [.string (⟨#[121]⟩:ByteArray),.slice Ao4 kV.length co4]from(k55_mkF _ _ (⟨(⟨#[121]⟩:ByteArray),kV⟩:S55) (Kd.Zan (Kd.Za6 (ok':=(fun k_=>(w.heap.size≤k_)∧k_≠fq)) (Kd.Zcc (yP.out) gK.out (by decide)) (fun k_ hk=>⟨hk.1.1,hk.2⟩))).2.1 (Kd.R_F (Kd.Za6 (ok':=(fun k_=>(w.heap.size≤k_)∧k_≠fq)) (Kd.Zcc (yP.out) gK.out (by decide)) (fun k_ hk=>⟨hk.1.1,hk.2⟩))))) (Reps.none _ _))));intro AR w5 ho6 hb hg_ hnew_;clear hg_ hnew_;(first|rw[←QK.out]at ho6|(simp only[Int.reduceToNat]at ho6;rw[←QK.out]at ho6));have jO:=Za.mk (Kd.Zd ho6 (Zaf (bM HB.out)));replace gK:=Za.mk (kB gK.out hb);replace HB:=Za.mk (bS HB.out hb);clear yP;clear hb ho6)|((with_reducible refine Zar (N:=9) rfl ?_);refine Kd.Zdj (Kd.int .i64) _ 3 ?hg (N:=9) ?hd (xs:=([0,1]:List Int)) (inner:= [.int .i64 0,.int .i64 1]) (ok:=fun _=>True) (okp:=fun _=>True) ?hr ?hp (fun _ hk=>hk) trivial (Below.refl _ _) (Nat.le_refl _) (by simp) ?_;(case hd=>rfl);(case hg=>rfl);(case hr=>first|(go_simp;done)|(go_simp;rfl));(case hp=>exact(Reps.one (show Kd.M (Kd.int .i64) _ _ _ 0 [.int .i64 0]from rfl) (Reps.one (show Kd.M (Kd.int .i64) _ _ _ 1 [.int .i64 1]from rfl) (Reps.none _ _))));intro oXa w7 ho8 hb hg_ hnew_;clear hg_ hnew_;(first|rw[←QL.out]at ho8|(simp only[Int.reduceToNat]at ho8;rw[←QL.out]at ho8));replace jO:=Za.mk (Kd.Zd1 (nM jO.out) (Kd.Zc6 ho8) hb);have wP:=Za.mk (Kd.Zbm (Kd.Zft (M:=fun k_=>(w.heap.size≤k_)) ho8 (Zaf (bM HB.out)) (fun k_ h_=>h_)) (Zaf (bM HB.out)));replace gK:=Za.mk (kB gK.out hb);replace HB:=Za.mk (bS HB.out hb);clear hb ho8)|((with_reducible refine Zar (N:=10) rfl ?_);refine Kd.Zdj (Kd.int .i64) _ 3 ?hg (N:=10) ?hd (xs:=([1,1]:List Int)) (inner:= [.int .i64 1,.int .i64 1]) (ok:=fun _=>True) (okp:=fun _=>True) ?hr ?hp (fun _ hk=>hk) trivial (Below.refl _ _) (Nat.le_refl _) (by simp) ?_;(case hd=>rfl);(case hg=>rfl);(case hr=>first|(go_simp;done)|(go_simp;rfl));(case hp=>exact(Reps.one (show Kd.M (Kd.int .i64) _ _ _ 1 [.int .i64 1]from rfl) (Reps.one (show Kd.M (Kd.int .i64) _ _ _ 1 [.int .i64 1]from rfl) (Reps.none _ _))));intro oYa w9 qE hb hg_ hnew_;clear hg_ hnew_;(first|rw[←QM.out]at qE|(simp only[Int.reduceToNat]at qE;rw[←QM.out]at qE));replace jO:=Za.mk (Kd.Zd1 (nM jO.out) (Kd.Zc6 qE) hb);have FH:=Za.mk (Kd.Zbm (Kd.Ze3 (Kd.Zft (M:=fun k_=>(w.heap.size≤k_)) qE (Zaf (bM HB.out)) (fun k_ h_=>h_)) (Kd.R_lt (rM wP.out))) (Zaf (bM HB.out)));replace wP:=Za.mk (Kd.Ze (rM wP.out) (Kd.Zc6 qE) hb);replace gK:=Za.mk (kB gK.out hb);replace HB:=Za.mk (bS HB.out hb);clear hb qE;obtain⟨Kn,LU,Oz⟩:=Kd.Zbe FH.out;subst Oz;obtain⟨iE,iG,pQ⟩:=Kd.Zbe wP.out;subst pQ)|((with_reducible refine Zar (N:=12) rfl ?_);refine Kd.N_lit k36 _ 36 ?hg (N':=12) ?hd (xs:=([(⟨0,yH,AY,1,1,([]:List (List Int)),0⟩:S36)]:List (S36))) (inner:= [.int .i64 0,.slice iE yH.length iG,.slice Kn AY.length LU,.int .i64 1,.int .i64 1,.slice none 0 0,.int .i64 0]) (ok:=(fun k_=>(w.heap.size≤k_)∧some k_≠(AR:Value).ownBlock∧k_≠fq)) (okp:=(fun k_=>(w.heap.size≤k_)∧some k_≠(AR:Value).ownBlock∧k_≠fq)) ?hr ?hp (fun _ hk=>hk) ((show ∀k_,w9.heap.size≤k_→(fun k_=>(w.heap.size≤k_)∧some k_≠(AR:Value).ownBlock∧k_≠fq) k_ from fun k_ hk=>⟨(Nat.le_trans (Zaf (bM HB.out)) hk),Kd.fresh' (Kd.N_lt (nM jO.out)) k_ hk,Kd.freshB (kM gK.out) k_ hk⟩) _ (Nat.le_refl _)) (Below.refl _ _) (Nat.le_refl _) (by simp) ?_;(case hd=>rfl);(case hg=>rfl);(case hr=>first|(go_simp;done)|(go_simp;rfl));(case hp=>exact(Reps.c7 (show Kd.FK k36 _ _ (⟨0,yH,AY,1,1,([]:List (List Int)),0⟩:S36) [.int .i64 0,.slice iE yH.length iG,.slice Kn AY.length LU,.int .i64 1,.int .i64 1,.slice none 0 0,.int .i64 0]from(k36_mkF _ _ (⟨0,yH,AY,1,1,([]:List (List Int)),0⟩:S36) (Kd.Zan (Kd.Za6 (ok':=(fun k_=>(w.heap.size≤k_)∧some k_≠(AR:Value).ownBlock∧k_≠fq)) (Kd.Zcc (Kd.Zdq (wP.out) (Kd.N_typed jO.out) (by decide)) gK.out (by decide)) (fun k_ hk=>⟨hk.1.1.1.1,⟨hk.1.2,hk.2⟩⟩))).2.1 (Kd.R_F (Kd.Za6 (ok':=(fun k_=>(w.heap.size≤k_)∧some k_≠(AR:Value).ownBlock∧k_≠fq)) (Kd.Zcc (Kd.Zdq (wP.out) (Kd.N_typed jO.out) (by decide)) gK.out (by decide)) (fun k_ hk=>⟨hk.1.1.1.1,⟨hk.1.2,hk.2⟩⟩))) (Kd.Zan (Kd.Za6 (ok':=(fun k_=>(w.heap.size≤k_)∧some k_≠(AR:Value).ownBlock∧k_≠fq)) (Kd.Zcc (Kd.Zdq (FH.out) (Kd.N_typed jO.out) (by decide)) gK.out (by decide)) (fun k_ hk=>⟨hk.1.1.1.1,⟨hk.1.2,hk.2⟩⟩))).2.1 (Kd.R_F (Kd.Za6 (ok':=(fun k_=>(w.heap.size≤k_)∧some k_≠(AR:Value).ownBlock∧k_≠fq)) (Kd.Zcc (Kd.Zdq (FH.out) (Kd.N_typed jO.out) (by decide)) gK.out (by decide)) (fun k_ hk=>⟨hk.1.1.1.1,⟨hk.1.2,hk.2⟩⟩))) (Nat.le_refl _) (Kd.F_nil _ _ _))) (Reps.none _ _)));intro paa w13 EQ hb hg_ hnew_;clear hg_ hnew_;(first|rw[←QN.out]at EQ|(simp only[Int.reduceToNat]at EQ;rw[←QN.out]at EQ));replace jO:=Za.mk (Kd.Zd1 (nM jO.out) (Kd.Zgx EQ) hb);have yQ:=Za.mk (Kd.Zd EQ (Zaf (bM HB.out)));replace gK:=Za.mk (kB gK.out hb);replace HB:=Za.mk (bS HB.out hb);clear wP FH;clear hb EQ)|((with_reducible refine Zar (N:=13) rfl ?_);refine Kd.Zdj (Kd.int .i64) _ 3 ?hg (N:=13) ?hd (xs:=([0]:List Int)) (inner:= [.int .i64 0]) (ok:=fun _=>True) (okp:=fun _=>True) ?hr ?hp (fun _ hk=>hk) trivial (Below.refl _ _) (Nat.le_refl _) (by simp) ?_;(case hd=>rfl);(case hg=>rfl);(case hr=>first|(go_simp;done)|(go_simp;rfl));(case hp=>exact(Reps.one (show Kd.M (Kd.int .i64) _ _ _ 0 [.int .i64 0]from rfl) (Reps.none _ _)));intro pba w15 qF hb hg_ hnew_;clear hg_ hnew_;(first|rw[←QO.out]at qF|(simp only[Int.reduceToNat]at qF;rw[←QO.out]at qF));replace jO:=Za.mk (Kd.Zd1 (nM jO.out) (Kd.Zc6 qF) hb);replace yQ:=Za.mk (Kd.Zd1 (nM yQ.out) (Kd.Zc6 qF) hb);have BF:=Za.mk (Kd.Zbm (Kd.Zft (M:=fun k_=>(w.heap.size≤k_)) qF (Zaf (bM HB.out)) (fun k_ h_=>h_)) (Zaf (bM HB.out)));replace gK:=Za.mk (kB gK.out hb);replace HB:=Za.mk (bS HB.out hb);clear hb qF)|((with_reducible refine Zar (N:=14) rfl ?_);refine Kd.Zdj (Kd.int .i64) _ 3 ?hg (N:=14) ?hd (xs:=([3]:List Int)) (inner:= [.int .i64 3]) (ok:=fun _=>True) (okp:=fun _=>True) ?hr ?hp (fun _ hk=>hk) trivial (Below.refl _ _) (Nat.le_refl _) (by simp) ?_;(case hd=>rfl);(case hg=>rfl);(case hr=>first|(go_simp;done)|(go_simp;rfl));(case hp=>exact(Reps.one (show Kd.M (Kd.int .i64) _ _ _ 3 [.int .i64 3]from rfl) (Reps.none _ _)));intro pca w17 pU hb hg_ hnew_;clear hg_ hnew_;(first|rw[←QP.out]at pU|(simp only[Int.reduceToNat]at pU;rw[←QP.out]at pU));replace jO:=Za.mk (Kd.Zd1 (nM jO.out) (Kd.Zc6 pU) hb);replace yQ:=Za.mk (Kd.Zd1 (nM yQ.out) (Kd.Zc6 pU) hb);have Qv:=Za.mk (Kd.Zbm (Kd.Ze3 (Kd.Zft (M:=fun k_=>(w.heap.size≤k_)) pU (Zaf (bM HB.out)) (fun k_ h_=>h_)) (Kd.R_lt (rM BF.out))) (Zaf (bM HB.out)));replace BF:=Za.mk (Kd.Ze (rM BF.out) (Kd.Zc6 pU) hb);replace gK:=Za.mk (kB gK.out hb);replace HB:=Za.mk (bS HB.out hb);clear hb pU;obtain⟨GR,GX,cFa⟩:=Kd.Zbe Qv.out;subst cFa;obtain⟨ED,EM,cGa⟩:=Kd.Zbe BF.out;subst cGa;obtain⟨jA,kg,Ha⟩:=Kd.Zcu yQ.out;subst Ha;obtain⟨oF,oG,wU⟩:=Kd.Zcu jO.out;subst wU;obtain⟨SG,SH,SI,bda,bea,RL,RN,RO,YK,YL⟩:=cz5 gK.out))
 refine bodyPost_ret (results_cell_row rfl _ _ fq 28 #[.slice oF oO.length oG,.slice jA tQ.length kg,.int .i64 2,.slice ED yI.length EM,.slice GR Fu.length GX] (0,0) _ rfl (by(with_reducible repeat(first|refine Zah ?_ _|refine Zai ?_|refine Zab ?_ _));refine Zaz (cs:=#[.slice oF oO.length oG,.slice jA tQ.length kg,.int .i64 2,.slice ED yI.length EM,.slice none 0 0]) ?_ 4 _ rfl;(with_reducible repeat(first|refine Zah ?_ _|refine Zai ?_|refine Zab ?_ _));refine Zaz (cs:=#[.slice oF oO.length oG,.slice jA tQ.length kg,.int .i64 2,.slice none 0 0,.slice none 0 0]) ?_ 3 _ rfl;(with_reducible repeat(first|refine Zah ?_ _|refine Zai ?_|refine Zab ?_ _));refine Zaz (cs:=#[.slice oF oO.length oG,.slice jA tQ.length kg,.int .i64 0,.slice none 0 0,.slice none 0 0]) ?_ 2 _ rfl;(with_reducible repeat(first|refine Zah ?_ _|refine Zai ?_|refine Zab ?_ _));refine Zaz (cs:=#[.slice oF oO.length oG,.slice none 0 0,.int .i64 0,.slice none 0 0,.slice none 0 0]) ?_ 1 _ rfl;(with_reducible repeat(first|refine Zah ?_ _|refine Zai ?_|refine Zab ?_ _));refine Zaz (cs:=#[.slice none 0 0,.slice none 0 0,.int .i64 0,.slice none 0 0,.slice none 0 0]) ?_ 0 _ rfl;(with_reducible repeat(first|refine Zah ?_ _|refine Zai ?_|refine Zab ?_ _));exact gK.out) Tryz.underlying28 rfl (by kernel_rfl)) rfl ?_;exact⟨_,_,_,_,eR,nM (Kd.Zc (Kd.Zcn (p:=⟨fq,4,none⟩) (Kd.Zcn (p:=⟨fq,3,none⟩) (Kd.Zcn (p:=⟨fq,2,none⟩) (Kd.Zcn (p:=⟨fq,1,none⟩) (Kd.Zcn (p:=⟨fq,0,none⟩) (Kd.Zc jO.out (fun k_ hk=>(⟨hk,hk.1.1.1.1.1.2⟩:_∧k_≠fq))) (fun _ hk=>hk.2) (.slice oF oO.length oG)) (fun _ hk=>hk.2) (.slice jA tQ.length kg)) (fun _ hk=>hk.2) (.int .i64 2)) (fun _ hk=>hk.2) (.slice ED yI.length EM)) (fun _ hk=>hk.2) (.slice GR Fu.length GX)) (fun _ hk=>⟨hk.1.1.1.1.1.1.1,⟨hk.1.1.1.2,⟨hk.1.1.2,hk.1.2⟩⟩⟩)),nM (Kd.Zc (Kd.Zcn (p:=⟨fq,4,none⟩) (Kd.Zcn (p:=⟨fq,3,none⟩) (Kd.Zcn (p:=⟨fq,2,none⟩) (Kd.Zcn (p:=⟨fq,1,none⟩) (Kd.Zcn (p:=⟨fq,0,none⟩) (Kd.Zc yQ.out (fun k_ hk=>(⟨hk,hk.1.1.2.2⟩:_∧k_≠fq))) (fun _ hk=>hk.2) (.slice oF oO.length oG)) (fun _ hk=>hk.2) (.slice jA tQ.length kg)) (fun _ hk=>hk.2) (.int .i64 2)) (fun _ hk=>hk.2) (.slice ED yI.length EM)) (fun _ hk=>hk.2) (.slice GR Fu.length GX)) (fun _ hk=>⟨hk.1.1.1.1,⟨hk.1.1.1.2.1,⟨hk.1.1.2,hk.1.2⟩⟩⟩)),rM (Kd.Za6 (Kd.Zbv (p:=⟨fq,4,none⟩) (Kd.Zbv (p:=⟨fq,3,none⟩) (Kd.Zbv (p:=⟨fq,2,none⟩) (Kd.Zbv (p:=⟨fq,1,none⟩) (Kd.Zbv (p:=⟨fq,0,none⟩) (Kd.Zcc BF.out gK.out (by decide)) (fun _ hk=>hk.2) (.slice oF oO.length oG)) (fun _ hk=>hk.2) (.slice jA tQ.length kg)) (fun _ hk=>hk.2) (.int .i64 2)) (fun _ hk=>hk.2) (.slice ED yI.length EM)) (fun _ hk=>hk.2) (.slice GR Fu.length GX)) (fun _ hk=>⟨hk.1.1.1,hk.1.2⟩)),rM (Kd.Za6 (Kd.Zbv (p:=⟨fq,4,none⟩) (Kd.Zbv (p:=⟨fq,3,none⟩) (Kd.Zbv (p:=⟨fq,2,none⟩) (Kd.Zbv (p:=⟨fq,1,none⟩) (Kd.Zbv (p:=⟨fq,0,none⟩) (Kd.Zcc Qv.out gK.out (by decide)) (fun _ hk=>hk.2) (.slice oF oO.length oG)) (fun _ hk=>hk.2) (.slice jA tQ.length kg)) (fun _ hk=>hk.2) (.int .i64 2)) (fun _ hk=>hk.2) (.slice ED yI.length EM)) (fun _ hk=>hk.2) (.slice GR Fu.length GX)) (fun _ hk=>⟨hk.1.1.1,hk.1.2⟩)),bM HB.out⟩
end Go.Proofs.YtdpieallpbllkaaGreat.P
/- meaning.all's closure: the iterator. UNDER WAY. -/
namespace Go.Proofs.YtdpieallpbllkaaGreat.P
open Go.RowKit Go.Shelf Go.Proofs.YtdpieallpbllkaaGreatW.PrintWords Go.Proofs.YtdpieallpbllkaaGreatW.PrintLast Go.Proofs.YtdpieallpbllkaaGreatW.PrintMore
attribute [local go_sem] Oper.semAt_some
def KpI (n₀:Nat) (W W':World):Prop:=Below n₀ W W'∧KeepsTy 3 W W'∧KeepsTy 43 W W'
theorem blkC {w:World} {g:Nat} {x:List Int} (h:w.heap[g]? =some (.cells (x.map (Value.int .i64)).toArray 3 (0,0))) (hl:x.length≤9223372036854775807):Kd.C (Kd.int .i64) w (some ⟨g,0,none⟩) x.length x:=by
  refine Kd.Zec (d:=(0:Int)) (h1:=fun _=>rfl) ⟨rfl,hl,fun _=>⟨_,rfl,fun j hj=> ?_⟩⟩;have ea:(⟨g,0,none⟩:Addr).add j=⟨g,j,none⟩:=by cases j<;>simp[Addr.add]
  rw[ea,Zap h j]
  simp[hj,List.getD_eq_getElem?_getD]
def restW (ds:List (List S82)) (m g:Nat) (w:World):Nat:=
  match w.heap[g]? with
  | some (.cells cs _ _) => ((seqV ds m (cs.toList.map intOf)).getD []).length
  |_=>0
theorem ints_back (y:List Int):((y.map (Value.int .i64)).toArray.toList.map intOf)=y:=by
  rw[List.toList_toArray,List.map_map];exact(List.map_congr_left (fun a _=>rfl)).trans (List.map_id y)
theorem restW_at {ds:List (List S82)} {m g:Nat} {w:World} {t:TypeId} {x:List Int} {s:List (List Int)} (h:w.heap[g]? =some (.cells (x.map (Value.int .i64)).toArray t (0,0))) (hs:seqV ds m x=some s):restW ds m g w=s.length:=by
  unfold restW;rw[h]
  show((seqV ds m ((x.map (Value.int .i64)).toArray.toList.map intOf)).getD []).length=_
  rw[ints_back,hs]
  rfl
theorem Zhf {w:World} {g:Nat} {t:TypeId} {cs:Array Value} (h:w.heap[g]? =some (.cells cs t (0,0))) (i:Nat) (u:Value):w.grownBy (w.setCell ⟨g,i,none⟩ u) (some g):=by
  simp only[World.setCell];refine⟨rfl,rfl,rfl,by simp,fun k hk hne=> ?_⟩;have:g≠k:=fun e=>hne (by rw[e])
  simp[Array.getElem?_modify,this]
set_option maxRecDepth 100000 in
theorem mall1_in (n : Nat) (hn : 2 ≤ n) (l Bs : Nat) (w : World) (A : Option Addr) (c : Nat) (ds : List (List S82)) (hr : Kd.C (Kd.slice 82 k82) w A ds.length ds) (hlen : ds.length ≤ 1000000)     (m : Nat) (ys : List (List Int)) (hseq : seqV ds m (startV ds) = some ys) (J Jx : List (List Int) → World → Prop) (W : World) (hW : Below w.heap.size w W) (hBs : W.heap[Bs]? = some (.cells #[.slice A ds.length c] 43 (0, 0)))
    (hY : ∀ pre x W', J pre W' → pre ++ [x] <+: ys → x.length = ds.length → W.heap.size < W'.heap.size → Kd.C (Kd.int .i64) W' (some ⟨W.heap.size, 0, none⟩) x.length x → YieldAt Fence.wide (n - 1) Tryz.prog l #[.slice (some ⟨W.heap.size, 0, none⟩) ds.length ds.length] W' fun e W2 =>
      (e = .returned (.bool true) ∧ J (pre ++ [x]) W2 ∧ KpI w.heap.size W' W2) ∨ (e = .returned (.bool false) ∧ Jx (pre ++ [x]) W2))
    (hJ:∀s W1 W2 row,J s W1→W1.grownBy W2 row→(∀r,row=some r→r=W.heap.size)→J s W2) (h0:J [] W):
    CallsIn Fence.wide n Tryz.prog 82 #[.func (.yield l) #[] #[],.pointer (some ⟨Bs,0,none⟩)] W fun e W'=>(∃v,e= .returned v)∧(J ys W'∨(∃pre,pre<+:ys∧Jx pre W')):=by
  refine callsIn_of_wp Tryz.func82 rfl trivial ?_ rfl;simp only[Tryz.ntmps82,List.size_toArray,List.length_cons,List.length_nil,Nat.reduceAdd,Nat.reduceSub,Array.replicate_succ,Array.replicate_zero,List.push_toArray,List.append_toArray,List.nil_append,List.cons_append];have h1n:1≤n:=by omega
  have f2_:Fence.wide.fn 83:=trivial;have f3_:Fence.wide.fn 84:=trivial;have hz:W.cell? ⟨Bs,0,none⟩=some (.slice A ds.length c):=bc hBs 0;have hne_:Za (Bs≠W.heap.size):=⟨Nat.ne_of_lt (Zc7 hBs)⟩;have HR:=Za.mk hr;have HSQ:=Za.mk hseq;have HY:=Za.mk hY;have HJ:=Za.mk hJ;have H0:=Za.mk h0;clear hr hseq hY hJ h0;obtain⟨i0,hi0,hz0,hsz0,hby0⟩:=info_parts info3;have hmk:=run_makeSlice (P:=Tryz.prog) (w:=W) 24 3 i0 (.int .i64 0) Tryz.underlying24 hi0 hz0 .i64 .i64 (ds.length:Int) (ds.length:Int) (by omega) (Int.le_refl _) (by rw[hsz0];simp;omega) (by rw[hby0];omega) (by omega);simp only[Int.toNat_natCast,hsz0,Nat.mul_one]at hmk;clear hi0 hz0 hsz0 hby0;have hb0:Below w.heap.size w (W.alloc (.cells (madeCells #[.int .i64 0] ds.length) 3)):=hW.alloc hW.size _;have hx1:=Zab hBs (.cells (madeCells #[.int .i64 0] ds.length) 3);have hz1:(W.alloc (.cells (madeCells #[.int .i64 0] ds.length) 3)).cell? ⟨Bs,0,none⟩=some (.slice A ds.length c):=bc hx1 0;have hJ0:=HJ.out _ _ _ none H0.out (World.grownBy_alloc W (.cells (madeCells #[.int .i64 0] ds.length) 3) none) (fun r e=>by cases e)
  have hbk:(W.alloc (.cells (madeCells #[.int .i64 0] ds.length) 3)).heap[W.heap.size]? =some (.cells ((List.replicate ds.length (0:Int)).map (Value.int .i64)).toArray 3 (0,0)):=by
    rw[World.alloc_heap_new]
    congr 2
    simp only[madeCells];refine Array.ext (by simp) (fun i h1 h2=>by simp[Nat.mod_one])
  gi_wp2
  clear hmk hz hz1
  generalize W.alloc (.cells (madeCells #[.int .i64 0] ds.length) 3)=Wa at hb0 hJ0 hbk hx1 ⊢
  have HB0:=Za.mk hb0;have HJ0:=Za.mk hJ0;have HBK:=Za.mk hbk;have HBS:=Za.mk hx1;clear hb0 hJ0 hbk hBs hx1
  gi_loopw [13] (fun i13 wr => ∃ (k : Nat) (xs : List Int), k ≤ ds.length ∧ i13 = .int .i64 k ∧ Za (xs.length = ds.length ∧ xs.take k = (startV ds).take k) ∧ Za (Below w.heap.size w wr) ∧ Za (wr.heap[W.heap.size]? = some (.cells (xs.map (Value.int .i64)).toArray 3 (0, 0))) ∧ Za (wr.heap[Bs]? = some (.cells #[.slice A ds.length c] 43 (0, 0))) ∧ Za (J [] wr))
    (fun i _=>ds.length - (intOf i).toNat)
  case atStart=>exact⟨0,List.replicate ds.length 0,Nat.zero_le _,rfl,⟨by simp⟩,HB0,HBK,HBS,HJ0⟩
  case round=>
    clear HB0 HJ0 HBK HBS;obtain⟨k,xs,hk,rfl,HX,HB,HBK,HBS,HJ0⟩:=hrel;by_cases hlt:k<ds.length
    · obtain ⟨ad, A5, c5, rfl, hx0, hl0, hi0⟩ := Zfv HR.out (k : Int) (by omega) (by omega)
      have hx0:=(HB.out.cell (World.block_lt_of_cell? w _ hx0)).trans hx0;have hzs:wr.cell? ⟨Bs,0,none⟩=some (.slice _ ds.length c):=bc HBS.out 0;simp only[Int.toNat_natCast]at hx0;have HI:=Za.mk (Kd.Zac hi0 HB.out);clear hi0;have cL:=fun W_=>least_in Fence.wide (n - 1) trivial rfl A5 c5 (Zdo ds (k:Int)) W_
      have hfz:=Za0 HBK.out k;have hkx:k<xs.length:=by have:=HX.out.1;omega
      have hcz:wr.cell? ⟨W.heap.size,k,none⟩=some (.int .i64 xs[k]):=(Zap HBK.out k).trans (by simp[hkx])
      generalize hy_:(leastV (Zdo ds (k:Int))).1=y at cL
      gi_wp2_with (gi_at_call 83;refine(cL _ HI.out).mono ?_;rintro e w' ⟨rfl,rfl⟩)
      go_roundw
      case measure=>simp[intOf];omega
      case rel=>
        have hput:=Zaz (cs':=((xs.set k y).map (Value.int .i64)).toArray) HBK.out k (.int .i64 y) (by simp[List.map_set]);refine⟨k+1,xs.set k y,by omega,by first|rfl|go_num,⟨by simp[HX.out.1],?_⟩,?_,⟨hput⟩,⟨Zcv (p:=⟨W.heap.size,k,none⟩) HBS.out hne_.out _⟩,?_⟩
        · have hk2 : k < (startV ds).length := by simpa [startV] using hlt
          have e1:(startV ds)[k]=y:=by rw[←hy_];simp[startV,Zdo,List.getD_eq_getElem?_getD,List.getElem?_eq_getElem hlt]
          rw[List.take_succ_eq_append_getElem (by simpa using hkx),List.take_succ_eq_append_getElem hk2,e1,←HX.out.2]
          simp[List.take_set]
          exact List.set_eq_of_length_le (by simp;omega)
        · exact⟨Zba HB.out hW.size⟩
        exact⟨HJ.out _ _ _ (some W.heap.size) HJ0.out (Zhf HBK.out k _) (fun r e=>by cases e;rfl)⟩
    obtain rfl:k=ds.length:=by omega
    obtain rfl:xs=startV ds:=by
      have e_:=HX.out.2;rw[List.take_of_length_le (by have:=HX.out.1;omega),List.take_of_length_le (by simp[startV])]at e_;exact e_
    gi_wp2
    gi_loopw [] (fun wr => ∃ (pre : List (List Int)) (x : List Int) (rest : List (List Int)), Za (x.length = ds.length) ∧ Za (seqV ds m x = some rest ∧ pre ++ rest = ys) ∧ Za (Below w.heap.size w wr) ∧ Za (wr.heap[W.heap.size]? = some (.cells (x.map (Value.int .i64)).toArray 3 (0, 0))) ∧ Za (wr.heap[Bs]? = some (.cells #[.slice A ds.length c] 43 (0, 0))) ∧ Za (J pre wr))
      (fun wr=>restW ds m W.heap.size wr)
    case atStart=>exact⟨[],startV ds,ys,⟨by simp[startV]⟩,⟨HSQ.out,rfl⟩,HB,HBK,HBS,HJ0⟩
    case round=>
      clear HX HB HBK HBS HJ0;obtain⟨pre,x,rest,HX,HS,HB,HBK,HBS,HJ0⟩:=hrel;have hzs:wr.cell? ⟨Bs,0,none⟩=some (.slice _ ds.length c):=bc HBS.out 0;have hrow:Kd.C (Kd.int .i64) wr (some ⟨W.heap.size,0,none⟩) x.length x:=blkC HBK.out (by have:=HX.out;omega);obtain⟨fn,tmps,assign,body,hy,hR⟩:=HY.out pre x wr HJ0.out (by obtain⟨s_,e_⟩:=seqV_head HS.out.1;exact⟨s_,by rw[List.append_assoc,List.singleton_append,←e_];exact HS.out.2⟩) HX.out (Zc7 HBK.out) hrow
      gi_wp2
      refine hR.mono ?_;rintro e W3 (⟨rfl,hJ3,hk3⟩|⟨rfl,hJx3⟩)
      · clear hR hy hrow
        have HB3:=Za.mk (HB.out.trans hk3.1);have HBK3:=Za.mk (hk3.2.1 _ _ _ HBK.out);have HBS3:=Za.mk (hk3.2.2 _ _ _ HBS.out);have HJ3:=Za.mk hJ3;have hzs3:W3.cell? ⟨Bs,0,none⟩=some (.slice _ ds.length c):=bc HBS3.out 0;clear hzs hJ3 hk3;have HM:Za (restW ds m W.heap.size wr=rest.length):=⟨restW_at HBK.out HS.out.1⟩
        gi_wp2
        gi_loopw [5] (fun i5 wr => ∃ (i : Nat) (y : List Int), i5 = .int .i64 ((i : Int) - 1) ∧ i ≤ ds.length ∧ Za (y.length = ds.length ∧ incR ds ds.length x = incR ds i y) ∧ Za (Below w.heap.size w wr) ∧ Za (wr.heap[W.heap.size]? = some (.cells (y.map (Value.int .i64)).toArray 3 (0, 0))) ∧ Za (wr.heap[Bs]? = some (.cells #[.slice A ds.length c] 43 (0, 0))) ∧ Za (J (pre ++ [x]) wr))
          (fun i5 _=>(intOf i5+1).toNat)
        case atStart=>exact⟨ds.length,x,by first|rfl|simp,Nat.le_refl _,⟨HX.out,rfl⟩,HB3,HBK3,HBS3,HJ3⟩
        case round=>
          clear HB HBK HBS HJ0 HB3 HBK3 HBS3 HJ3 hzs3;obtain⟨i,y,rfl,hi,HY2,HB,HBK,HBS,HJ0⟩:=hrel;have hzs:wr.cell? ⟨Bs,0,none⟩=some (.slice _ ds.length c):=bc HBS.out 0
          cases i with
          |zero=>
            have d1_:decide ((0:Int)≤((0:Nat):Int) - 1)=false:=by decide
            gi_wp2
            refine bodyPost_ret (results_none rfl _ _ _) rfl ?_;have e_:=seqV_last HS.out.1 (by rw[HY2.out.2];rfl);have e2_:=HS.out.2;rw[e_]at e2_;refine⟨⟨_,rfl⟩,.inl ?_⟩;rw[←e2_];exact HJ0.out
          |succ i=>
            rw[show((i+1:Nat):Int) - 1=(i:Int)from by omega];have d1_:decide ((0:Int)≤(i:Int))=true:=decide_eq_true (by omega);have hlt:i<ds.length:=by omega
            obtain⟨ad,A5,c5,rfl,hx0,hl0,hi0⟩:=Zfv HR.out (i:Int) (by omega) (by omega);have hx0:=(HB.out.cell (World.block_lt_of_cell? w _ hx0)).trans hx0;simp only[Int.toNat_natCast]at hx0;have HI:=Za.mk (Kd.Zac hi0 HB.out);clear hi0;have hky:i<y.length:=by have:=HY2.out.1;omega
            have hcz:wr.cell? ⟨W.heap.size,i,none⟩=some (.int .i64 y[i]):=(Zap HBK.out i).trans (by simp[hky]);have cN:=fun v_ W_=>next_in Fence.wide (n - 1) trivial rfl A5 c5 (Zdo ds (i:Int)) v_ W_
            gi_wp2
            gi_region_with (gi_at_call 84;refine(cN _ _ (Kd.Zb4 HI.out)).mono ?_;rintro e w' ⟨rfl,hbn⟩)
            all_goals (
              have HBb:=Za.mk hbn;have HB1:Za (Below w.heap.size w w'):=⟨bS HB.out hbn⟩;have HBK1:=Za.mk (kB HBK.out hbn);have HJ1:=Za.mk (HJ.out _ _ _ none HJ0.out (Zfl (⟨hbn.os,hbn.tape,hbn.output,hbn.size,hbn.block⟩:Below wr.heap.size wr w') none) (fun r e=>by cases e));have HBS1:=Za.mk (kB HBS.out hbn);have hzs1:w'.cell? ⟨Bs,0,none⟩=some (.slice _ ds.length c):=bc HBS1.out 0;have hx1:=(Zej (w:=wr) (⟨hbn.os,hbn.tape,hbn.output,hbn.size,hbn.block⟩:Below wr.heap.size wr w') hx0);have hfz:=Za0 HBK1.out i;have HI1:Za (Kd.C k82 w' A5 (Zdo ds (i:Int)).length (Zdo ds (i:Int))):=⟨Kd.Zac HI.out (⟨hbn.os,hbn.tape,hbn.output,hbn.size,hbn.block⟩:Below wr.heap.size wr w')⟩;have hin:=HY2.out.2;have egd:ds.getD i []=Zdo ds (i:Int):=by simp[Zdo]
              have eyd:y.getD i 0=y[i]:=by simp[List.getD_eq_getElem?_getD,List.getElem?_eq_getElem hky]
              rw[incR,egd,eyd]at hin;have lu:w'.cell? ⟨W.heap.size,i,none⟩=some (.int .i64 y[i]):=(Zap HBK1.out i).trans (by simp[hky]);clear hbn hx0 hzs hcz;have HL:=Za.mk HY2.out.1;clear HY2 cN
              generalize hN_:nextV y[i] (Zdo ds (i:Int))=Nx at hin ⊢
              clear hN_;obtain⟨nv,nb⟩:=Nx
              cases nb with
              |true=>
                rw[if_pos rfl]at hin;have HIN:=Za.mk hin;clear hin;have hput:=Zaz (cs':=((y.set i nv).map (Value.int .i64)).toArray) HBK1.out i (.int .i64 nv) (by simp[List.map_set]);have HPUT:=Za.mk hput;have d2_:decide ((i:Int)<0)=false:=decide_eq_false (by omega);clear hput;obtain⟨s,es,hs⟩:=seqV_next HS.out.1 (by rw[HIN.out]);rw[HIN.out]at hs;have ES:=Za.mk es;have HSS:=Za.mk hs;clear es hs
                gi_wp2
                go_roundw
                case measure=>
                  have e1_:restW ds m W.heap.size (w'.setCell ⟨W.heap.size,i,none⟩ (.int .i64 nv))=s.length:=restW_at HPUT.out HSS.out;have e2_:=ES.out;rw[e1_,HM.out,e2_]
                  simp
                case rel=>
                  refine⟨pre++ [x],y.set i nv,s,⟨by simp[HL.out]⟩,⟨HSS.out,by have e_:=HS.out.2;rw[ES.out]at e_;simpa using e_⟩,⟨Zba HB1.out hW.size⟩,HPUT,⟨Zcv (p:=⟨W.heap.size,i,none⟩) HBS1.out hne_.out _⟩,⟨HJ.out _ _ _ (some W.heap.size) HJ1.out (Zhf HBK1.out i _) (fun r e=>by cases e;rfl)⟩⟩
              |false=>
                rw[if_neg (by simp)]at hin;have HIN:=Za.mk hin;clear hin;have cL:=fun W_=>least_in Fence.wide (n - 1) trivial rfl A5 c5 (Zdo ds (i:Int)) W_
                generalize hy_:(leastV (Zdo ds (i:Int))).1=lv at cL HIN
                have hput:=Zaz (cs':=((y.set i lv).map (Value.int .i64)).toArray) HBK1.out i (.int .i64 lv) (by simp[List.map_set]);have HPUT:=Za.mk hput;clear hput
                gi_wp2_with (gi_at_call 83;refine(cL _ HI1.out).mono ?_;rintro e w4 ⟨rfl,rfl⟩)
                go_roundw
                case measure=>simp[intOf]
                case rel=>
                  refine ⟨i, y.set i lv, by first | rfl | go_num, by omega, ⟨by simp [HL.out], HIN.out⟩, ⟨Zba HB1.out hW.size⟩, HPUT, ⟨Zcv (p := ⟨W.heap.size, i, none⟩) HBS1.out hne_.out _⟩, ⟨HJ.out _ _ _ (some W.heap.size) HJ1.out (Zhf HBK1.out i _) (fun r e => by cases e; rfl)⟩⟩)
      gi_wp2
      go_end0
      obtain⟨s,e_⟩:=seqV_head HS.out.1;refine⟨⟨_,rfl⟩,.inr ⟨pre++ [x],⟨s,?_⟩,hJx3⟩⟩;rw[List.append_assoc,List.singleton_append,←e_];exact HS.out.2
theorem mall_in (F : Fence) (n : Nat) (h : F.fn 61) (hro : F.round = none) (A : Option Addr) (len cap : Nat) (w : World) :
    CallsIn F n Tryz.prog 61 #[.slice A len cap] w fun e w'=>e= .returned (.func (.func 82) #[] #[.pointer (some ⟨w.heap.size,0,none⟩)])∧w'=w.alloc (.cells #[.slice A len cap] 43):=by
  refine callsIn_of_wp Tryz.func61 rfl h ?_ hro;simp only[Tryz.ntmps61,List.size_toArray,List.length_cons,List.length_nil,Nat.reduceAdd,Nat.reduceSub,Array.replicate_succ,Array.replicate_zero,List.push_toArray,List.append_toArray,List.nil_append,List.cons_append]
  gi_wp2
  go_ret;exact⟨rfl,rfl⟩
end Go.Proofs.YtdpieallpbllkaaGreat.P
/- A loop over an iterator that yields one row of numbers, changed in place between the rounds: the row lies in the first block that the iterator lays (w.heap.size + 2). -/
namespace Go.Proofs.YtdpieallpbllkaaGreat.P
open Go Go.RowKit Go.Proofs.YtdpieallpbllkaaGreatW.PrintWords
section
variable {F:Fence} {n:Nat} {P:Program}
theorem cell_putObj {W:World} {l:Nat} {o o':Obj} (hl:W.heap[l]? =some o) (ho:o.isCells=false) {a:Addr} {u:Value} (h:W.cell? a=some u):(W.putObj l o').cell? a=some u:=by
  have hne:a.block≠l:=by
    rintro rfl;simp only[World.cell?,hl]at h
    cases o<;>first|(simp[Obj.isCells]at ho;done)|(simp at h;done)|cases h
  have e:(W.putObj l o').heap[a.block]? =W.heap[a.block]? :=World.putObj_heap_other hne;simp only[World.cell?,e]
  simpa only[World.cell?] using h
theorem C_putObj {W:World} {l:Nat} {o o':Obj} (hl:W.heap[l]? =some o) (ho:o.isCells=false) {A:Option Addr} {n:Nat} {xs:List Int} (h:Kd.C (Kd.int .i64) W A n xs):Kd.C (Kd.int .i64) (W.putObj l o') A n xs:=by
  obtain⟨q1,q2,q3⟩:=h;refine⟨q1,q2,fun hne=> ?_⟩;obtain⟨ad,hb,hbb⟩:=q3 hne
  exact ⟨ad, hb, fun j p hj => by
    obtain⟨c,c1,c2,c3⟩:=hbb j p hj
    exact ⟨c, c1, c2, fun i u hu => cell_putObj hl ho (c3 i u hu)⟩⟩
def RowSeq (F:Fence) (n:Nat) (P:Program) (gf:Nat) (lb:Array Value) (m:Nat) (Kp:World→World→Prop) (ys:List (List Int)) (w:World):Prop:=
  ∀ (l : Nat) (J Jx : List (List Int) → World → Prop) (W : World), Below w.heap.size w W →
    (∀ pre x W', J pre W' → pre ++ [x] <+: ys → x.length = m → W.heap.size < W'.heap.size → Kd.C (Kd.int .i64) W' (some ⟨W.heap.size, 0, none⟩) x.length x → YieldAt F (n - 1) P l #[.slice (some ⟨W.heap.size, 0, none⟩) m m] W' fun e W2 =>
      (e = .returned (.bool true) ∧ J (pre ++ [x]) W2 ∧ Kp W' W2) ∨ (e = .returned (.bool false) ∧ Jx (pre ++ [x]) W2)) →
    (∀s W1 W2 row,J s W1→W1.grownBy W2 row→(∀r,row=some r→r=W.heap.size)→J s W2)→J [] W→
    CallsIn F n P gf (#[.func (.yield l) #[] #[]]++lb) W fun e W'=>(∃v,e= .returned v)∧(J ys W'∨(∃pre,pre<+:ys∧Jx pre W'))
theorem Zg {g : Operand} {ps : Array Tmp} {assign body : Code} {Q : Exit → Act → World → Prop} {a : Act} {w : World}
    (hro:F.round=none) (h1:1≤n) {gf:Nat} {lb:Array Value} (hg:a.eval g= .func (.func gf) #[] lb) (hFg:F.fn gf) (eg:∀args w,(callFunc gf args).run P w= .ok (.enter gf args) w)
    {m:Nat} {Kp:World→World→Prop} {ys:List (List Int)} {w0:World} (hseq:RowSeq F (n - 1) P gf lb m Kp ys w0)
    (hKt:∀ {A B C:World},Kp A B→Kp B C→Kp A C) (hKb:∀(W:World) (l:Nat) (o o':Obj),w.heap.size≤l→W.heap[l]? =some o→o.isCells=false→o.isWalk=false→Kp W (W.putObj l o')) (hb0:Below w0.heap.size w0 w) (hps:1=ps.size)
    (I:List (List Int)→World→Prop) (hI:OwnFrom w.heap.size I) (hIg:∀s W1 W2 row,I s W1→W1.grownBy W2 row→(∀r,row=some r→r=w.heap.size+2)→I s W2) (h0:I [] w) (a₁:Act)
    (hassign : ∀ (l : Nat) (W : World) (K : Act → World → Prop), K a₁ W →
      assign.wpIn (F.inRound l) (n - 1 - 1) P (Exit.then K (fun _ _ _ => False)) { tmps := (ps.zip #[Value.slice (some ⟨w.heap.size + 2, 0, none⟩) m m]).foldl (fun t (p, v) => t.setIfInBounds p v) a.tmps, defers := [] } W)
    (hbody:∀(l:Nat) (pre:List (List Int)) (x:List Int) (W:World),I pre W→pre++ [x]<+:ys→x.length=m→Kd.C (Kd.int .i64) W (some ⟨w.heap.size+2,0,none⟩) x.length x→w.heap.size+2<W.heap.size→body.wpIn (F.inRound l) (n - 1 - 1) P (ownPostG w.heap.size Kp I (fun _ _ _=>False) (pre++ [x]) W) a₁ W)
    (hdone:∀(D:Nat) (W:World),w.heap.size≤D→I ys W→W.heap[D]? =some (.deferred (some []))→Q .normal { a with defers:={ target:= .collected D,args:=#[] } ::a.defers } W):
    (Code.rangeFunc g ps assign body).wpIn F n P Q a w:=by
  refine wpIn_rangeFunc ?_;intro fn hfn;rw[hro];obtain⟨rec,hrec⟩:∃rec:LoopState→Option Code→Loop,rec=fun st pe=>{ state:=st,pending:=pe,fn,tmps:=a.tmps,params:=ps,assign,body,defers:=w.heap.size } :=⟨_,rfl⟩
  obtain⟨W1,hW1⟩:∃W1,(w.alloc (.deferred (some []))).alloc (.loop (rec .ready none))=W1:=⟨_,rfl⟩;have hs1:W1.heap.size=w.heap.size+2:=by rw[←hW1];simp
  have hL1:W1.heap[w.heap.size+1]? =some (.loop (rec .ready none)):=by
    rw[←hW1];have:=World.alloc_heap_new (w.alloc (.deferred (some []))) (.loop (rec .ready none));rwa [World.size_alloc]at this
  have hK1:W1.heap[w.heap.size]? =some (.deferred (some [])):=by
    rw[←hW1];exact(Below.heap_alloc _ _ _ (by simp)).trans (World.alloc_heap_new w _)
  have hI1:I [] W1:=by rw[←hW1];exact hI.alloc _ (hI.alloc _ h0)
  have hb1:Below w0.heap.size w0 W1:=by
    rw[←hW1];exact hb0.trans ((((Below.refl _ w).alloc (Nat.le_refl _) _).alloc (by simp) _).mono hb0.size)
  refine ⟨w.heap.size + 1, [{ target := .collected w.heap.size, args := #[] }], W1, { target := .fn (.func gf) lb, args := #[.func (.yield (w.heap.size + 1)) #[] #[]] }, W1, gf,
    #[.func (.yield (w.heap.size + 1)) #[] #[]] ++ lb, W1, ?_, ?_, ?_, ?_, fun _ => h1, ?_⟩
  · rw[←hW1,hrec];exact run_enterLoop_outer _ _ _ _ _
  · simp only [resolve, hg]
    simp[go_sem]
  · intro f' hf';simp[Target.leads]at hf';subst hf';exact hFg
  · simp[invoke,go_sem,eg]
  have hfar:∀ {A B:World} {row:Option Nat} {j:Nat} {o:Obj},A.grownBy B row→(∀r,row=some r→r=W1.heap.size)→j<w.heap.size+2→A.heap[j]? =some o→B.heap[j]? =some o:=
    fun hg' hr hj ho=>(hg'.block _ (Array.getElem?_eq_some_iff.1 ho).1 (fun e=>by have:=hr _ e.symm;omega)).trans ho
  refine (hseq (w.heap.size + 1)
    (fun pre W=>I pre W∧W.heap[w.heap.size+1]? =some (.loop (rec .ready none))∧W.heap[w.heap.size]? =some (.deferred (some [])))
    (fun pre W=>False)
    W1 hb1 ?_
    (fun s A B row hs hg' hr=>⟨hIg s A B row hs.1 hg' (fun r e=>by rw[←hs1];exact hr r e),hfar hg' hr (by omega) hs.2.1,hfar hg' hr (by omega) hs.2.2⟩)
    ⟨hI1, hL1, hK1⟩).mono ?_
  · rintro pre x W ⟨hi, hl, hk⟩ hpy hxl hga hxr
    rw[hs1]at hxr hga ⊢;have hlt:w.heap.size+1<W.heap.size:=(Array.getElem?_eq_some_iff.1 hl).1;have hy:=run_yield (P:=P) (args:=#[Value.slice (some ⟨w.heap.size+2,0,none⟩) m m]) hl (by rw[hrec];exact hps);rw[hrec]at hy;refine⟨fn,_,assign,body,hy,roundIn_of_wpIn hfn (hassign _ W _ ⟨_,run_beginRound hl (by rw[hrec]),?_⟩)⟩;have hl2:(W.putObj (w.heap.size+1) (.loop { rec .ready none with state:= .busy })).heap[w.heap.size+1]? =some (.loop { rec .ready none with state:= .busy }):=World.putObj_heap_same hlt;have hk2:(W.putObj (w.heap.size+1) (.loop { rec .ready none with state:= .busy })).heap[w.heap.size]? =some (.deferred (some [])):=(World.putObj_heap_other (by omega)).trans hk;have hw2:Kp W (W.putObj (w.heap.size+1) (.loop { rec .ready none with state:= .busy })):=hKb _ _ _ _ (by omega) hl rfl rfl
    have hxr2:Kd.C (Kd.int .i64) (W.putObj (w.heap.size+1) (.loop { rec .ready none with state:= .busy })) (some ⟨w.heap.size+2,0,none⟩) x.length x:=by
      exact C_putObj hl rfl hxr
    refine wpIn_mono (hbody _ pre x _ (hI.putObj _ hi (by omega) hl rfl) hpy hxl hxr2 (Nat.lt_of_lt_of_eq hga (by simp[World.putObj]))) ?_
    have fin : ∀ (W3 : World), KeepsFrom w.heap.size (W.putObj (w.heap.size + 1) (.loop { rec .ready none with state := .busy })) W3 →
        (Instr.endRound (w.heap.size+1) none).run P W3= .ok (.bool true) (W3.putObj (w.heap.size+1) (.loop (rec .ready none)))∧
        W3.heap[w.heap.size+1]? =some (.loop { rec .ready none with state:= .busy })∧
        (W3.putObj (w.heap.size+1) (.loop (rec .ready none))).heap[w.heap.size+1]? =some (.loop (rec .ready none))∧
        (W3.putObj (w.heap.size+1) (.loop (rec .ready none))).heap[w.heap.size]? =some (.deferred (some [])):=fun W3 hk3=>by
      have hl3:=hk3.same _ _ (by omega) hl2 rfl;have:=run_endRound (P:=P) none hl3;rw[hrec]at this ⊢;exact⟨this,by rw[hrec]at hl3;exact hl3,World.putObj_heap_same (Array.getElem?_eq_some_iff.1 hl3).1,(World.putObj_heap_other (by omega)).trans (hk3.same _ _ (Nat.le_refl _) hk2 rfl)⟩
    rintro e a3 W3 hp
    cases e with
    |normal=>
      obtain⟨hk3,hkp3,hi3⟩:=hp;obtain⟨hr,hl3,hl4,hk4⟩:=fin W3 hk3;exact⟨_,_,hr,.inl ⟨rfl,⟨hI.putObj _ hi3 (by omega) hl3 rfl,hl4,hk4⟩,hKt (hKt hw2 hkp3) (hKb _ _ _ _ (by omega) hl3 rfl rfl)⟩⟩
    | ret => exact hp.2.elim
    | exit id => exact hp.2.elim
    | goto t => exact hp.2.elim
    | panic ch => exact hp.elim
    |outgrown=>exact hp.elim
  rintro e W2 ⟨⟨v,rfl⟩,(⟨hi,hl,hk⟩|⟨pre,hSp,h⟩)⟩
  · exact⟨none,_,by have:=run_endLoop (P:=P) hl (by rw[hrec];simp);rw[hrec]at this;exact this,hdone _ _ (Nat.le_refl _) (hI.putObj _ hi (by omega) hl rfl) ((World.putObj_heap_other (by omega)).trans hk)⟩
  exact h.elim
end
theorem mall_row (n : Nat) (hn : 2 ≤ n) (Bs : Nat) (wL w0 : World) (A : Option Addr) (c : Nat) (ds : List (List S82)) (hr : Kd.C (Kd.slice 82 k82) wL A ds.length ds) (hlen : ds.length ≤ 1000000) (hw : Below wL.heap.size wL w0)
    (hBs:w0.heap[Bs]? =some (.cells #[.slice A ds.length c] 43 (0,0))) (m:Nat) (ys:List (List Int)) (hseq:seqV ds m (startV ds)=some ys):
    RowSeq Fence.wide n Tryz.prog 82 #[.pointer (some ⟨Bs,0,none⟩)] ds.length (KpI wL.heap.size) ys w0:=fun l J Jx W hW hY hJ h0=>
  mall1_in n hn l Bs wL A c ds hr hlen m ys hseq J Jx W (hw.trans (hW.mono hw.size)) ((hW.block _ (Array.getElem?_eq_some_iff.1 hBs).1).trans hBs) hY hJ h0
end Go.Proofs.YtdpieallpbllkaaGreat.P
/- slices.Clone of whole numbers. -/
namespace Go.Proofs.YtdpieallpbllkaaGreat.P
open Go.RowKit Go.Proofs.YtdpieallpbllkaaGreatW.PrintWords Go.Proofs.YtdpieallpbllkaaGreatW.PrintLast Go.Proofs.YtdpieallpbllkaaGreatW.PrintMore
def cloneI.f (l0:List Int):Option (List Int):=if l0.length<17592186044416 then some l0 else none
set_option maxRecDepth 100000 in
theorem cloneI.calls (A0 : Option Addr) (c0 : Nat) (l0 : List Int) (r : List Int) (w : World) (hr0 : Kd.C (Kd.int .i64) w A0 l0.length l0) (hc0 : l0.length ≤ c0) (h : cloneI.f l0 = some r) :
    Calls Tryz.prog 62 #[.slice A0 l0.length c0] w fun e w'=>∃v0_:Value,e= .returned (v0_)∧Kd.R (Kd.int .i64) 3 w' w.heap.size (fun _=>True) v0_ r∧Below w.heap.size w w':=by
  have hu:=Tryz.underlying3;have q22:∀(w:World) (a:Option Addr) (n c n' c':Nat),(binOp .eql 24 (.slice a n c) (.slice none n' c')).run Tryz.prog w= .ok (.bool a.isNone) w:=fun w a n c n' c'=>Lib.run_eql_slice_nil w _ _ a n c n' c' Tryz.underlying24
  unfold cloneI.f at h
  split at h
  case isFalse=>cases h
  case isTrue hl=>
    obtain rfl:=Option.some.inj h;have HL:=Za.mk hl;clear h hl;have HR:=Za.mk hr0;have hlen:l0.length≤9223372036854775807:=hr0.2.1
    cases A0 with
    |none=>
      have h0:l0= []:=by
        rcases Nat.eq_zero_or_pos l0.length with h|h
        · exact List.length_eq_zero_iff.1 h
        obtain⟨ad,e,_⟩:=hr0.2.2 h;cases e
      subst h0;clear hr0;go_enter Tryz.func62,Tryz.ntmps62;go_wp2;go_ret;exact⟨_,rfl,Kd.R_nil _ _ _ _ _,Below.refl _ _⟩
    |some ad=>
      clear hr0;have HB:=Za.mk (Below.refl w.heap.size w);go_enter Tryz.func62,Tryz.ntmps62
      go_wp2_with (first|((with_reducible refine Zar (N:=5) rfl ?_);refine Kd.Zdj (Kd.int .i64) _ 3 ?hg (N:=5) ?hd (xs:=([]:List Int)) (inner:= []) (ok:=fun _=>True) (okp:=fun _=>True) ?hr ?hp (fun _ hk=>hk) trivial (Below.refl w.heap.size w) (Nat.le_refl _) (by simp) ?_;(case hd=>rfl);(case hg=>rfl);(case hr=>first|(go_simp;done)|(go_simp;rfl));(case hp=>exact(Reps.none _ _));intro v1 w1 ho hb hg_ hnew_;have HO:=Za.mk ho;have HB:=Za.mk hb;clear ho hb hg_ hnew_)|((with_reducible refine Zbo (b:= .append) (xs:=#[.tmp 5,.tmp 6]) rfl ?_);at_builtin;go_loud (refine Kd.Zdc (Kd.int .i64) (Rr:=(Kd.int .i64).K w1) (w0:=w) w.heap.size rfl (.tmp 5) (.tmp 6) 24 3 (.int .i64 0) 8 rfl Tryz.underlying24 info3 rfl (by decide) (by omega) v1 ([]:List Int) l0 _ _ _ (fun _=>True) (fun _=>False) rfl rfl ?aO ?aR ?aK (fun _ h=>h.elim) ?aF ?aB ?aS ?aL ?_;(case aR=>exact Kd.Zac HR.out HB.out);(case aK=>intro x cs h;have e_:=h;subst e_;rfl);(case aB=>exact HB.out);(case aF=>exact(fun _ _=>trivial));(case aO=>exact HO.out);(case aS=>exact HB.out.size);(case aL=>have:=HL.out;simp;omega);intro v2 w2 ho2 hb2 hg hat;have HO2:=Za.mk ho2;have HB2:=Za.mk hb2;clear ho2 hb2 hg hat)))
      go_ret;exact⟨_,rfl,by simpa using HO2.out,HB2.out⟩
end Go.Proofs.YtdpieallpbllkaaGreat.P
/- meaning.All: its plain words; what it keeps of the lists that solve, between two rounds. -/
namespace Go.Proofs.YtdpieallpbllkaaGreat.P
open Go Go.RowKit Go.Shelf Go.Proofs.YtdpieallpbllkaaGreatW.PrintWords Go.Proofs.YtdpieallpbllkaaGreatW.PrintLast Go.Proofs.YtdpieallpbllkaaGreatW.PrintMore
def bigV (k : Nat) : List (List S82) → Int → Option Bool
  | [], _ => some false
  |d::ds,n=>(Zcl.f k d).bind fun s=>if wrap64 (n*s)>65536 then some true else bigV k ds (wrap64 (n*s))
theorem bigV_mono : ∀ ds n k, LeO (bigV k ds n) (bigV (k + 1) ds n)
  | [], n, k => LeO.refl _
  |d::ds,n,k=>by
    unfold bigV;exact LeO.bind (Zcl.mono _ _) (fun s=>LeO.ite (LeO.refl _) (bigV_mono ds _ k))
def solF (k:Nat) (vars:List S55) (cons:List S36) (gk:Int) (gv gc a:List Int):Option Bool:=Zau.f k vars cons gk gv gc a
def selF (k:Nat) (vars:List S55) (cons:List S36) (gk:Int) (gv gc a:List Int):Bool:=decide (solF k vars cons gk gv gc a=some true)
def solL (k:Nat) (vars:List S55) (cons:List S36) (gk:Int) (gv gc:List Int) (ys:List (List Int)):Option (List (List Int)):=
  if ys.all (fun a=>(solF k vars cons gk gv gc a).isSome)=true then some (ys.filter (selF k vars cons gk gv gc))else none
theorem solL_mono (vars:List S55) (cons:List S36) (gk:Int) (gv gc:List Int) (ys:List (List Int)) (k:Nat):LeO (solL k vars cons gk gv gc ys) (solL (k+1) vars cons gk gv gc ys):=by
  intro r h;unfold solL at h;by_cases q:ys.all (fun a=>(solF k vars cons gk gv gc a).isSome)=true;rotate_left
  · rw [if_neg q] at h
    cases h
  rw[if_pos q]at h;have hm:∀a b,solF k vars cons gk gv gc a=some b→solF (k+1) vars cons gk gv gc a=some b:=fun a b h_=>Zau.mono _ _ _ _ _ _ _ _ h_
  have q2:=List.all_eq_true.1 q;unfold solL;rw[if_pos]
  · rw [← h]
    congr 1
    refine List.filter_congr (fun a ha=> ?_);obtain⟨b,hb⟩:=Option.isSome_iff_exists.1 (q2 a ha);unfold selF;rw[hb,hm a b hb]
  rw[List.all_eq_true];intro a ha;obtain⟨b,hb⟩:=Option.isSome_iff_exists.1 (q2 a ha);rw[hm a b hb]
  rfl
def Zck.f (k:Nat) (vars:List S55) (cons:List S36) (gk:Int) (gv gc:List Int):Option (List (List Int) × Int):=
  (Zdm.f k vars cons gk gv gc).bind fun e=>if e=0 then((Zb7.f k vars cons gk gv gc).bind fun ds=>if ds.length≤1000000 then((bigV k ds 1).bind fun b=>if b=true then some ([],2)else((seqV ds 70000 (startV ds)).bind fun ys=>(solL k vars cons gk gv gc ys).bind fun l=>some (l,0)))else none)else some ([],e)
theorem Zck.mono:∀a0 a1 a2 a3 a4 k,LeO (Zck.f k a0 a1 a2 a3 a4) (Zck.f (k+1) a0 a1 a2 a3 a4):=by
  intro a0 a1 a2 a3 a4 k;unfold Zck.f;refine LeO.bind (Zdm.mono _ _ _ _ _ _) (fun e=>LeO.ite (LeO.bind (Zb7.mono _ _ _ _ _ _) (fun ds=>LeO.ite (LeO.bind (bigV_mono _ _ _) (fun b=>LeO.ite (LeO.refl _) (LeO.bind (LeO.refl _) (fun ys=>LeO.bind (solL_mono _ _ _ _ _ _ _) (fun _=>LeO.refl _))))) (LeO.none _))) (LeO.refl _))
theorem seqV_len {ds : List (List S82)} : ∀ {m : Nat} {a : List Int} {r : List (List Int)}, seqV ds m a = some r → r.length ≤ m
  | 0, _, _, h => by cases h
  |m+1,a,r,h=>by
    rw[seqV]at h
    split at h
    · cases e:seqV ds m (incR ds ds.length a).1 with
      | none => rw [e] at h; cases h
      |some s=>
        rw[e]at h;obtain rfl:=Option.some.inj h;have:=seqV_len e
        simp;omega
    obtain rfl:=Option.some.inj h
    simp
def OutI (wL:World) (g:Nat) (sel:List Int→Bool) (pre:List (List Int)) (W:World):Prop:=
  ∃v,W.heap[wL.heap.size]? =some (.cells #[v] 34 (0,0))∧Kd.S (Kd.slice 3 (Kd.int .i64)) 24 W wL.heap.size (fun k=>k≠g) v (pre.filter sel)∧Below wL.heap.size wL W
theorem Zh1 {α:Type} {d:Kd α} {e base:Nat} {ok:Nat→Prop} {v:Value} {xs:List α} {W W':World} {row:Option Nat} (h:Kd.S d e W base ok v xs) (hg:W.grownBy W' row) (hr:∀r,row=some r→∃o:Obj,W.heap[r]? =some o∧o.isCells=false):Kd.S d e W' base ok v xs:=by
  refine Kd.Zd9 (Kd.S_move (Kd.Zf h) (fun k hk=> ?_)) (fun _ hk=>hk.1);obtain⟨_,_,hlt,q,_,cells,hc⟩:=hk;refine hg.block k hlt (fun e_=> ?_);obtain⟨o,ho,hn⟩:=hr k e_.symm;rw[hc]at ho;obtain rfl:=Option.some.inj ho
  simp[Obj.isCells]at hn
theorem OutI.own {wL:World} {g:Nat} {sel:List Int→Bool} {B:Nat} (hB:wL.heap.size≤B):OwnFrom B (OutI wL g sel):=by
  rintro s W W' row ⟨v,h1,h2,h3⟩ hg hr;refine⟨v,(hg.block _ (Array.getElem?_eq_some_iff.1 h1).1 (fun e_=> ?_)).trans h1,Zh1 h2 hg (fun r e=>(hr r e).2),h3.grown hg h3.size (fun k e=>Nat.le_trans hB (hr k e).1)⟩;obtain⟨_,o,ho,hn⟩:=hr _ e_.symm;rw[h1]at ho;obtain rfl:=Option.some.inj ho
  simp[Obj.isCells]at hn
theorem OutI.row {wL:World} {g:Nat} {sel:List Int→Bool} (hg0:wL.heap.size<g) (s:List (List Int)) (W1 W2:World) (row:Option Nat) (h:OutI wL g sel s W1) (hg:W1.grownBy W2 row) (hr:∀r,row=some r→r=g):OutI wL g sel s W2:=by
  obtain⟨v,h1,h2,h3⟩:=h;exact⟨v,(hg.block _ (Array.getElem?_eq_some_iff.1 h1).1 (fun e_=>by have:=hr _ e_.symm;omega)).trans h1,Kd.S_grown h2 hg (fun k hk e_=>hk (hr _ e_.symm)),h3.grown hg h3.size (fun k e=>by have:=hr k e;omega)⟩
theorem OutI.skip {wL:World} {g:Nat} {sel:List Int→Bool} {pre:List (List Int)} {x:List Int} {W W':World} (h:OutI wL g sel pre W) (hb:Below W.heap.size W W') (hx:sel x=false):OutI wL g sel (pre++ [x]) W':=by
  obtain⟨v,h1,h2,h3⟩:=h;refine⟨v,(hb.block _ (Array.getElem?_eq_some_iff.1 h1).1).trans h1,?_,h3.trans (hb.mono h3.size)⟩;rw[List.filter_append,show [x].filter sel= [] by simp[hx],List.append_nil];exact Kd.Ze2 h2 hb
theorem body_skip {B n0:Nat} {W W':World} (hb:Below W.heap.size W W') (hn:n0≤W.heap.size):KeepsFrom B W W'∧KpI n0 W W':=
  ⟨⟨hb.size,fun k o _ ho _=>(hb.block k (Array.getElem?_eq_some_iff.1 ho).1).trans ho⟩,hb.mono hn,fun k cs fr h=>(hb.block k (Array.getElem?_eq_some_iff.1 h).1).trans h,fun k cs fr h=>(hb.block k (Array.getElem?_eq_some_iff.1 h).1).trans h⟩
theorem Zfw {B g : Nat} {sel : List Int → Bool} {pre : List (List Int)} {x : List Int} {wL W W2 w4 : World} {v v1 : Value} (hg0 : wL.heap.size < g) (h1 : W.heap[wL.heap.size]? = some (.cells #[v] 34 (0, 0))) (h2 : Kd.S (Kd.slice 3 (Kd.int .i64)) 24 W wL.heap.size (fun k => k ≠ g) v (pre.filter sel)) (h3 : Below wL.heap.size wL W)
    (hb:Below W.heap.size W W2) (hg:W2.grownBy w4 v.ownBlock) (hS:Kd.S (Kd.slice 3 (Kd.int .i64)) 24 w4 wL.heap.size (fun k=>k≠g) v1 (pre.filter sel++ [x])) (hx:sel x=true):
    KeepsFrom B W (w4.setCell ⟨wL.heap.size,0,none⟩ v1)∧KpI wL.heap.size W (w4.setCell ⟨wL.heap.size,0,none⟩ v1)∧OutI wL g sel (pre++ [x]) (w4.setCell ⟨wL.heap.size,0,none⟩ v1):=by
  have hty:=Kd.Zeb h2
  have hne:some wL.heap.size≠v.ownBlock:=fun e=>by
    obtain⟨cells,hc⟩:=hty _ e.symm;rw[h1]at hc
    simp at hc
  have h14:w4.heap[wL.heap.size]? =some (.cells #[v] 34 (0,0)):=Ze4 ((hb.block _ (Array.getElem?_eq_some_iff.1 h1).1).trans h1) hg hne;have hsz:W.heap.size≤w4.heap.size:=Nat.le_trans hb.size hg.size;have hsc:(w4.setCell ⟨wL.heap.size,0,none⟩ v1).heap.size=w4.heap.size:=by simp[World.setCell]
  have keep:∀k,k<W.heap.size→k≠wL.heap.size→some k≠v.ownBlock→(w4.setCell ⟨wL.heap.size,0,none⟩ v1).heap[k]? =W.heap[k]? :=fun k hk hk1 hk2=>
    (Below.heap_setCell w4 ⟨wL.heap.size,0,none⟩ v1 k hk1).trans ((hg.block k (Nat.lt_of_lt_of_le hk hb.size) hk2).trans (hb.block k hk))
  have hbase:=Kd.Zgl h2
  have hB2:Below wL.heap.size W (w4.setCell ⟨wL.heap.size,0,none⟩ v1):=by
    refine⟨hg.os.trans hb.os,hg.tape.trans hb.tape,hg.output.trans hb.output,by rw[hsc];exact hsz,fun k hk=> ?_⟩;exact keep k (Nat.lt_of_lt_of_le hk h3.size) (by omega) (fun e=>by have:=hbase k e.symm;omega)
  refine⟨⟨by rw[hsc];exact hsz,fun k o _ ho hc=> ?_⟩,⟨hB2,fun k cs fr h=> ?_,fun k cs fr h=> ?_⟩,⟨v1,Zaz h14 0 v1 rfl,?_,h3.trans hB2⟩⟩
  · refine (keep k (Array.getElem?_eq_some_iff.1 ho).1 (fun e => ?_) (fun e => ?_)).trans ho
    · subst e
      rw[h1]at ho;obtain rfl:=Option.some.inj ho
      simp[Obj.isCells]at hc
    obtain⟨cells,hc2⟩:=hty _ e.symm;rw[hc2]at ho;obtain rfl:=Option.some.inj ho
    simp[Obj.isCells]at hc
  · refine (keep k (Array.getElem?_eq_some_iff.1 h).1 (fun e => ?_) (fun e => ?_)).trans h
    · subst e
      rw[h1]at h
      simp at h
    obtain⟨cells,hc2⟩:=hty _ e.symm;rw[hc2]at h
    simp at h
  · refine (keep k (Array.getElem?_eq_some_iff.1 h).1 (fun e => ?_) (fun e => ?_)).trans h
    · subst e
      rw[h1]at h
      simp at h
    obtain⟨cells,hc2⟩:=hty _ e.symm;rw[hc2]at h
    simp at h
  rw[List.filter_append,show [x].filter sel= [x] by simp[hx]];exact Kd.S_set hS h14 (by decide) 0 v1
theorem Zgi {g : Nat} {x : List Int} {wL W wa w7 : World} {v v7 : Value} {xs : List (List Int)} (hga : g < W.heap.size) (h2 : Kd.S (Kd.slice 3 (Kd.int .i64)) 24 W wL.heap.size (fun k => k ≠ g) v xs) (h3 : Below wL.heap.size wL W) (hb : Below W.heap.size W wa)
    (ho:Kd.R (Kd.int .i64) 3 w7 wa.heap.size (fun _=>True) v7 x) (hb7:Below wa.heap.size wa w7):
    (Kd.slice 3 (Kd.int .i64)).M w7 wL.heap.size (fun k=>some k=v7.ownBlock) x [v7]∧(∀k,some k=v7.ownBlock→k≠g∧some k≠v.ownBlock)∧(∀k,w7.heap.size≤k→k≠g)∧Kd.S (Kd.slice 3 (Kd.int .i64)) 24 w7 wL.heap.size (fun k=>k≠g∧¬some k=v7.ownBlock) v xs∧Below wL.heap.size wL w7∧wL.heap.size≤w7.heap.size∧Below W.heap.size W w7:=by
  have hs:=hb.size;have hs7:=hb7.size;have hs3:=h3.size;have hW7:Below W.heap.size W w7:=Zae hb hb7;refine⟨⟨v7,rfl,Kd.Zgd rfl (Kd.Zbm ho (by omega))⟩,fun k hk=>⟨fun e=> ?_,fun e=> ?_⟩,fun k hk e=>by omega,?_,h3.trans (hW7.mono hs3),by omega,hW7⟩
  · have := Kd.Zc6 ho k hk.symm
    omega
  · have h1_ := Kd.Zc6 ho k hk.symm
    have h2_:=Kd.S_lt h2 k e.symm
    omega
  refine Kd.Zd9 (Kd.S_old h2 hW7) (fun k hk=>⟨hk.1,fun e=> ?_⟩);have h1_:=Kd.Zc6 ho k e.symm;have h2_:=hk.2
  omega
section
variable {F:Fence} {n:Nat} {P:Program} {ops:Array Oper} {o:Oper} {a:Act} {Q:Exit→Act→World→Prop} {Kc:Act→World→Prop} {α:Type}
open Classical in
theorem Zeh (d : Kd α) {w0 W : World} (base : Nat) (hw : Region.wanted o (yielded ops a.tmps) = true) (s x : Operand) (t e : TypeId) (z : Value) (bytes : Nat)
    (ho:o.op= .call { callee:= .builtin .append,args:=#[s,x],argTypes:=#[t,t] })
    (ht:P.underlying t=some (.slice e)) (hinfo:(P.info? e).map (fun i=>(i.zero,i.size,i.bytes))=some (some z,d.sz,bytes)) (hz:z.cells.size=d.sz) (hs0:0<d.sz) (hb0:0<bytes)
    (v:Value) (xs:List α) (p:α) (cs:List Value) (ok okp:Nat→Prop) (hs:a.eval s=v) (hx:a.eval x= .slice (some ⟨W.heap.size,0,none⟩) 1 1) (hp:d.M W base okp p cs) (hokp:∀k,okp k→ok k∧some k≠v.ownBlock) (hfresh:∀k,W.heap.size≤k→ok k)
    (HO:Kd.S d e W base (fun k=>ok k∧¬okp k) v xs) (HB:Below base w0 W) (hbase:base≤W.heap.size) (hl:(xs.length+1)*bytes≤140737488355328)
    (h:∀v1 w1,Kd.S d e w1 base ok v1 (xs++ [p])→W.grownBy w1 v.ownBlock→Kc (a.put o.dst v1) w1):
    if Region.wanted o (yielded ops a.tmps)=true then Oper.wpIn F n P o a (W.alloc (.cells cs.toArray e)) Kc Q else(∀f,o.about P (W.alloc (.cells cs.toArray e)) a.eval=some f→F.fn f)∧Kc (a.put o.dst undef) (W.alloc (.cells cs.toArray e)):=by
  obtain⟨f,hf,hR⟩:=Kd.S_tag HO xs.length okp (fun _ hk h2=>h2.2 hk);have hp':(Kd.tag f d).M W base okp (p,xs.length) cs:=d.M_mono (fun k hk=>⟨hk,hf k hk⟩) hp;have hR':=Kd.Za6 hR (fun k (hk:ok k∧¬okp k)=>hk.1);obtain⟨h0,inner,hown,hr⟩:=hR';obtain⟨i0,hi,hzz⟩:=Option.map_eq_some_iff.1 hinfo;simp only[Prod.mk.injEq]at hzz;obtain⟨hz0,hz1,hz2⟩:=hzz;rw[List.length_zipIdx]at hown;have hlen:xs.length+1≤140737488355328:=Nat.le_trans (Nat.le_mul_of_pos_right _ hb0) hl;rw[if_pos hw]
  obtain ⟨v1, w1, hrun, hown1, hg, _, hat⟩ := run_append_own_at (P := P) (W.alloc (.cells cs.toArray e)) base t o.type e i0 z d.sz bytes ht hi hz0 hz1 hz2 hz hs0 v xs.length inner (hown.alloc _) ⟨W.heap.size, 0, none⟩ 1 1 cs (by rw [d.K_len (d.K_of_M hp)]; simp)
    (by simpa using World.news_of_block (cs:=cs.toArray) (t:=e) (fr:=(0,0)) (World.alloc_heap_new W (.cells cs.toArray e))) (d.K_one (d.K_of_M hp)) (by simp only[maxLen];omega) hl (by simp;omega)
  have hg2:W.grownBy w1 v.ownBlock:=World.grownBy.trans (World.grownBy_alloc W _ _) hg
  have hat2:v1.ownBlock=v.ownBlock∨∃b,v1.ownBlock=some b∧W.heap.size≤b:=by
    rcases hat with hat|hat
    · exact .inl hat
    exact .inr ⟨_,hat,by simp⟩
  have hS:Kd.S d e w1 base ok v1 (xs++ [p]):=by
    have:=Kd.Zgc (d:=Kd.tag f d) (xs:=xs.zipIdx) (p:=(p,xs.length)) h0 hr hp' hokp hfresh (by rw[List.length_zipIdx];exact hown1) hg2 hat2;rw[←Kd.zip_snoc]at this;exact⟨f,this⟩
  unfold Oper.wpIn;refine⟨?_,?_⟩
  · simp[Oper.about,ho,resolve,Target.leads,Sem.run_pure]
  rw[Oper.semAt_plain F _ _ (by rw[ho];intro c hc';cases hc')]
  simp[execOp,ho,resolve,invoke,builtin,hs,hx,hrun,Result.andThen]
  exact h v1 w1 hS hg2
end
end Go.Proofs.YtdpieallpbllkaaGreat.P
