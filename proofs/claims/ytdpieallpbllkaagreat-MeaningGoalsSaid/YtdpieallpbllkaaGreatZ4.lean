/- Proved: what each function of the program that the statements of this seat reach comes to, for whatever memory and arguments it is called with (on condition that its plain text tells a result). -/
import Derived.Test.YtdpieallpbllkaaGreatZ1
import Derived.Test.YtdpieallpbllkaaGreatZ3
import Derived.Test.YtdpieallpbllkaaGreatZ2
set_option linter.unusedSimpArgs false
set_option linter.unusedVariables false
set_option maxHeartbeats 8000000
namespace Go.Proofs.YtdpieallpbllkaaGreat.P
open Go.RowKit Go.Proofs.YtdpieallpbllkaaGreatW.PrintWords Go.Proofs.YtdpieallpbllkaaGreatW.PrintLast Go.Proofs.YtdpieallpbllkaaGreatW.PrintMore
attribute [local go_sem] Zcw Zcy Zdd Zde Zck Zcl Zcx Zcz
def cutR (l:List (List Int)):List (List Int):=(l.take 20).map fun r=>r.take 14
def bRows.f (l:List (List Int)):Option (List (List Int)):=some (cutR l)
mutual
def Zaa.j1 : Nat → List (S55) → List (S36) → Int → List Int → List Int → List (S55) → Int → List Int → List Int → Option ((List (S55)) × (List (S36)) × Int × List Int × List Int)
 | 0, _, _, _, _, _, _, _, _, _ => none
 |k+1,fQ,eO,lh,iC,iD,j4,kw,ll,lm=>Zaa.l1 k 0 fQ eO lh iC iD j4 ([]:List (S36)) kw ll lm
def Zaa.l1 : Nat → Int → List (S55) → List (S36) → Int → List Int → List Int → List (S55) → List (S36) → Int → List Int → List Int → Option ((List (S55)) × (List (S36)) × Int × List Int × List Int)
 | 0, _, _, _, _, _, _, _, _, _, _, _ => none
 |k+1,x6,fQ,eO,lh,iC,iD,j4,qX,kw,ll,lm=>if x6<(eO.length:Int)then(Zaa.j3 k x6 (decide (x6<16)) fQ eO lh iC iD j4 qX kw ll lm)else(Zaa.j3 k x6 false fQ eO lh iC iD j4 qX kw ll lm)
def Zaa.j3 : Nat → Int → Bool → List (S55) → List (S36) → Int → List Int → List Int → List (S55) → List (S36) → Int → List Int → List Int → Option ((List (S55)) × (List (S36)) × Int × List Int × List Int)
 | 0, _, _, _, _, _, _, _, _, _, _, _, _ => none
 |k+1,x6,x59,fQ,eO,lh,iC,iD,j4,qX,kw,ll,lm=>if x59=true then(if 0≤x6 then(if x6<(eO.length:Int)then(if 0≤(mn (((Zac eO x6).f1).length:Int) 14)then(if(mn (((Zac eO x6).f1).length:Int) 14)≤(((Zac eO x6).f1).length:Int)then(if 0≤(mn (((Zac eO x6).f2).length:Int) 14)then(if(mn (((Zac eO x6).f2).length:Int) 14)≤(((Zac eO x6).f2).length:Int)then((bRows.f ((Zac eO x6).f5)).bind fun t167=>((Zcn.f k ((Zac eO x6).f0) (((Zac eO x6).f1).take ((mn (((Zac eO x6).f1).length:Int) 14):Int).toNat) (((Zac eO x6).f2).take ((mn (((Zac eO x6).f2).length:Int) 14):Int).toNat) ((Zac eO x6).f3) ((Zac eO x6).f4) t167 ((Zac eO x6).f6)).bind fun eH=>(if qX.length<1353245080339 then(Zaa.l1 k (wrap64 (x6+1)) fQ eO lh iC iD j4 (qX++ [(⟨eH.1,eH.2.1,eH.2.2.1,eH.2.2.2.1,eH.2.2.2.2.1,eH.2.2.2.2.2.1,eH.2.2.2.2.2.2⟩:S36)]) kw ll lm)else(none))))else(none))else(none))else(none))else(none))else(none))else(none))else((some (([]:List Int):List Int)).bind fun wQ=>(if 0≤(mn (iC.length:Int) 14)then(if(mn (iC.length:Int) 14)≤(iC.length:Int)then(if wQ.length+(iC.take ((mn (iC.length:Int) 14):Int).toNat).length<17592186044416 then((some (([]:List Int):List Int)).bind fun lD=>(if 0≤(mn (iD.length:Int) 14)then(if(mn (iD.length:Int) 14)≤(iD.length:Int)then(if lD.length+(iD.take ((mn (iD.length:Int) 14):Int).toNat).length<17592186044416 then(some (j4,qX,kw,(wQ++(iC.take ((mn (iC.length:Int) 14):Int).toNat)),(lD++(iD.take ((mn (iD.length:Int) 14):Int).toNat))))else(none))else(none))else(none)))else(none))else(none))else(none)))
def Zaa.l0 : Nat → Int → List (S55) → List (S36) → Int → List Int → List Int → List (S55) → Int → List Int → List Int → Option ((List (S55)) × (List (S36)) × Int × List Int × List Int)
 | 0, _, _, _, _, _, _, _, _, _, _ => none
 |k+1,x4,fQ,eO,lh,iC,iD,j4,kw,ll,lm=>if x4<(fQ.length:Int)then(if x4<10 then(if 0≤x4 then(if 0≤(mn (((Zbb fQ x4).f0).size:Int) 20)then(if(mn (((Zbb fQ x4).f0).size:Int) 20)≤(((Zbb fQ x4).f0).size:Int)then((some (([]:List (S82)):List (S82))).bind fun oW=>(if 0≤(mn (((Zbb fQ x4).f1).length:Int) 12)then(if(mn (((Zbb fQ x4).f1).length:Int) 12)≤(((Zbb fQ x4).f1).length:Int)then((some (((Zbb fQ x4).f1).take ((mn (((Zbb fQ x4).f1).length:Int) 12):Int).toNat:List (S82))).bind fun lC=>(if oW.length+lC.length<8796093022208 then(if j4.length<3518437208883 then(Zaa.l0 k (wrap64 (x4+1)) fQ eO lh iC iD (j4++ [(⟨((Zbb fQ x4).f0).extract 0 ((mn (((Zbb fQ x4).f0).size:Int) 20):Int).toNat,(oW++lC)⟩:S55)]) kw ll lm)else(none))else(none)))else(none))else(none)))else(none))else(none))else(none))else(Zaa.j1 k fQ eO lh iC iD j4 kw ll lm))else(Zaa.j1 k fQ eO lh iC iD j4 kw ll lm)
end
def Zaa.f (k:Nat) (ag:List (S55)) (aa:List (S36)) (aA:Int) (ak:List Int) (ai:List Int):Option ((List (S55)) × (List (S36)) × Int × List Int × List Int):=Zaa.l0 k 0 ag aa aA ak ai ([]:List (S55)) aA ak ai
def Zaa.T6:Bool × List (List Nat × List Nat):=(true,[([],[]),([0],[0]),([],[]),([2],[2]),([],[]),([4],[4]),([5],[5]),([6],[6]),([3,7],[3,7]),([],[]),([],[]),([10],[10]),([],[]),([12],[12]),([13],[13]),([14],[14]),([11,15],[11,15]),([9,16],[9,16]),([8,17],[8,17]),([18],[18]),([1,19,17],[1,19]),([0,1,2,3,4,5,6,7,8,9,10,11,12,13,14,15,16,17,18,19,20],[]),([21,20,20,0,1,2,3,4,5,6,7,8,9,10,11,12,13,14,15,16,17,18,19,20],[20,21])])
def Zaa.B6:List Nat:= [0,1,0,4,0,16,48,112,252,0,0,1024,0,4096,12288,28672,64512,130560,262140,524284,1048575,2097151,4194303]
theorem Zaa.tab6:rtab .any (opsOf Tryz.f19 6)=Zaa.T6:=by kernel_rfl
theorem Zaa.bits6:waitsOk Zaa.T6.2 Zaa.B6=true:=by kernel_rfl
def Zaa.T17:Bool × List (List Nat × List Nat):=(true,[([],[]),([],[]),([1],[1]),([],[]),([2,3],[2,3]),([4],[4]),([],[]),([6],[6]),([],[]),([7,8],[7,8]),([9],[9]),([10],[10]),([11],[11]),([5,12],[5,12]),([13],[13]),([0,14],[0,14]),([15,15,0,1,2,3,4,5,6,7,8,9,10,11,12,13,14,15],[0,15])])
def Zaa.B17:List Nat:= [0,0,2,0,14,30,0,64,0,448,960,1984,4032,8190,16382,32767,65535]
theorem Zaa.tab17:rtab .any (opsOf Tryz.f19 17)=Zaa.T17:=by kernel_rfl
theorem Zaa.bits17:waitsOk Zaa.T17.2 Zaa.B17=true:=by kernel_rfl
def Zaa.T19:Bool × List (List Nat × List Nat):=(true,[([],[]),([0],[0]),([],[]),([2],[2]),([3],[3]),([1,4,3],[1,4]),([0,1,2,3,4,5],[]),([6,5,5,0,1,2,3,4,5],[5,6])])
def Zaa.B19:List Nat:= [0,1,0,4,12,31,63,127]
theorem Zaa.tab19:rtab .any (opsOf Tryz.f19 19)=Zaa.T19:=by kernel_rfl
theorem Zaa.bits19:waitsOk Zaa.T19.2 Zaa.B19=true:=by kernel_rfl
set_option maxRecDepth 100000 in
theorem Zaa.calls (k : Nat) (eG : Option Addr) (ek : Nat) (ag : List (S55)) (aW : Option Addr) (aT : Nat) (aa : List (S36)) (aA : Int) (bT : Option Addr) (bU : Nat) (ak : List Int) (bK : Option Addr) (bL : Nat) (ai : List Int) (r1 : List (S55)) (r2 : List (S36)) (r3 : Int) (r4 : List Int) (r5 : List Int) (w : World) (lW : Kd.C k55 w eG ag.length ag) (lT : ag.length ≤ ek) (dV : Kd.C k36 w aW aa.length aa) (dU : aa.length ≤ aT) (jL : Kd.C (Kd.int .i64) w bT ak.length ak) (jJ : ak.length ≤ bU) (jM : Kd.C (Kd.int .i64) w bK ai.length ai) (jK : ai.length ≤ bL) (h : Zaa.f k ag aa aA ak ai = some (r1, r2, r3, r4, r5)) :
  Calls Tryz.prog 19 #[.agg #[.slice eG ag.length ek,.slice aW aa.length aT,.int .i64 aA,.slice bT ak.length bU,.slice bK ai.length bL]] w fun e w'=>∃v0_ v1_ v3_ v4_:Value,e= .returned (.agg #[v0_,v1_,.int .i64 r3,v3_,v4_])∧Kd.S k55 55 w' w.heap.size (fun _=>True) v0_ r1∧Kd.R k36 36 w' w.heap.size (fun k_=>some k_≠(v3_:Value).ownBlock∧some k_≠(v4_:Value).ownBlock) v1_ r2∧Kd.R (Kd.int .i64) 3 w' w.heap.size (fun k_=>some k_≠(v4_:Value).ownBlock) v3_ r4∧Kd.R (Kd.int .i64) 3 w' w.heap.size (fun k_=>some k_≠(v3_:Value).ownBlock) v4_ r5∧Below w.heap.size w w':=by
 have hu28:=Tryz.underlying28;have hu26:=Tryz.underlying26;have hu55:=Tryz.underlying55;have hu36:=Tryz.underlying36;have iG:=Za.mk lW;have o9:=Za.mk lT;clear lW lT;have eD:=Za.mk dV;have fo:=Za.mk dU;clear dV dU;have jR:=Za.mk jL;have jP:=Za.mk jJ;clear jL jJ;have jS:=Za.mk jM;have jQ:=Za.mk jK;clear jM jK;have HB:=Za.mk (Below.refl w.heap.size w);have H:(Zaa.l0 k 0 ag aa aA ak ai ([]:List (S55)) aA ak ai)=some (r1,r2,r3,r4,r5):=h;clear h;have HC2:=Za.mk H;clear H;go_enter Tryz.func19,Tryz.ntmps19
 go_upto_block 0 with (first|((with_reducible refine Zaq (N:=1) rfl ?_);refine bx 1 #[.slice eG ag.length ek,.slice aW aa.length aT,.int .i64 aA,.slice bT ak.length bU,.slice bK ai.length bL] 28 ?_;intro iR hg w3 hbox hb;have bA:=Za.mk (hbox);have GW131:=Za.mk ((gE hg HB.out:w.heap.size≤iR));have Vq:=Za.mk ((gE hg HB.out:w.heap.size≤iR));replace HB:=Za.mk (bS HB.out hb);clear hb hbox hg)|((with_reducible refine Zaq (N:=2) rfl ?_);refine bx 2 #[.slice none 0 0,.slice none 0 0,.int .i64 0,.slice none 0 0,.slice none 0 0] 28 ?_;intro dY hg w4 hbox hb;have bB:=Za.mk (hbox);have GW132:=Za.mk ((gE hg HB.out:w.heap.size≤dY));have Vr:=Za.mk ((gE hg HB.out:w.heap.size≤dY));replace HB:=Za.mk (bS HB.out hb);have kK:=Za.mk ((by rw[hg];exact Nat.ne_of_lt (Zc1 (kM bA.out)):iR≠dY));have kL:=Za.mk ((by rw[hg];exact Nat.ne_of_gt (Zc1 (kM bA.out)):dY≠iR));replace bA:=Za.mk (kB bA.out hb);clear hb hbox hg;have n5a:=kK.out;have n7a:=kL.out;obtain⟨kH,kJ,kY,nI,nJ,kE,kF,kX,nG,nH⟩:=cz5 bA.out)|((with_reducible refine Zaq (N:=3) rfl ?_);refine bx 3 #[.slice none 0 0,.slice none 0 0,.int .i64 0,.slice none 0 0,.slice none 0 0] 28 ?_;intro dS hg w7 hbox hb;have aD:=Za.mk (hbox);have GW133:=Za.mk ((gE hg HB.out:w.heap.size≤dS));have Vs:=Za.mk ((gE hg HB.out:w.heap.size≤dS));replace HB:=Za.mk (bS HB.out hb);have gM:=Za.mk ((by rw[hg];exact Nat.ne_of_lt (Zc1 (kM bA.out)):iR≠dS));have jd:=Za.mk ((by rw[hg];exact Nat.ne_of_gt (Zc1 (kM bA.out)):dS≠iR));replace bA:=Za.mk (kB bA.out hb);have jF:=Za.mk ((by rw[hg];exact Nat.ne_of_lt (Zc1 (kM bB.out)):dY≠dS));have sV:=Za.mk ((by rw[hg];exact Nat.ne_of_gt (Zc1 (kM bB.out)):dS≠dY));replace bB:=Za.mk (kB bB.out hb);clear hb hbox hg;have n6a:=jd.out;have n8a:=gM.out;have bOa:=sV.out;have bPa:=jF.out;obtain⟨mh,mi,mo,ng,ni,ma,mf,mg,mX,mY⟩:=cz5 aD.out))
 (try simp only[Act.put,List.setIfInBounds_toArray,List.set_cons_zero,List.set_cons_succ])
 go_cut [] (fun wc=>∃(kq:Nat) (bf:List (S55)) (dR:Value),Za (Zaa.j1 kq ag aa aA ak ai bf aA ak ai=some (r1,r2,r3,r4,r5))∧Za (kq≤k)∧Za (Kd.S k55 55 wc w.heap.size (fun _=>True) dR bf)∧Za (wc.heap[iR]? =some (.cells #[(.slice eG ag.length ek),(.slice aW aa.length aT),.int .i64 aA,(.slice bT ak.length bU),(.slice bK ai.length bL)] 28 (0,0)))∧Za (wc.heap[dY]? =some (.cells #[(.slice none 0 0),(.slice none 0 0),.int .i64 0,(.slice none 0 0),(.slice none 0 0)] 28 (0,0)))∧Za (wc.heap[dS]? =some (.cells #[dR,(.slice none 0 0),.int .i64 aA,(.slice bT ak.length bU),(.slice bK ai.length bL)] 28 (0,0)))∧Za (Below w.heap.size w wc))
 case first=>
  have H:=HC2.out;clear HC2;have H':=Za.mk H;clear H;go_wp2
  go_loopg [4] k (fun kq v4 w'=>∃(ah:Int) (bf:List (S55)) (dR:Value),v4= .int .i64 ah∧Za (Zaa.l0 kq ah ag aa aA ak ai bf aA ak ai=some (r1,r2,r3,r4,r5))∧Za (kq≤k)∧Za (Kd.S k55 55 w' w.heap.size (fun _=>True) dR bf)∧Za (w'.heap[iR]? =some (.cells #[(.slice eG ag.length ek),(.slice aW aa.length aT),.int .i64 aA,(.slice bT ak.length bU),(.slice bK ai.length bL)] 28 (0,0)))∧Za (w'.heap[dY]? =some (.cells #[(.slice none 0 0),(.slice none 0 0),.int .i64 0,(.slice none 0 0),(.slice none 0 0)] 28 (0,0)))∧Za (w'.heap[dS]? =some (.cells #[dR,(.slice none 0 0),.int .i64 aA,(.slice bT ak.length bU),(.slice bK ai.length bL)] 28 (0,0)))∧Za (Below w.heap.size w w'))
  case atStart=>exact⟨(0),(([]:List (S55))),(.slice none 0 0),eS,H',⟨Nat.le_refl _⟩,⟨by first|exact Kd.S_nil _ _ _ _ _|exact Kd.N_nil _ _ _ _ _|exact Kd.V_nil _ _ _ _ _|exact Kd.Q_nil _ _ _ _ _|exact Kd.R_nil _ _ _ _ _⟩,⟨by(with_reducible repeat(first|exact bA.out|refine Zcr ?_ gM.out _|refine Zab ?_ _|refine Zah ?_|refine Zag ?_ _))⟩,⟨by(with_reducible repeat(first|exact bB.out|refine Zcr ?_ jF.out _|refine Zab ?_ _|refine Zah ?_|refine Zag ?_ _))⟩,⟨by(with_reducible repeat(first|refine Zag ?_ _|refine Zah ?_|refine Zab ?_ _));refine Zay (cs:=#[.slice none 0 0,.slice none 0 0,.int .i64 aA,.slice bT ak.length bU,.slice none 0 0]) ?_ 4 _ rfl;(with_reducible repeat(first|refine Zag ?_ _|refine Zah ?_|refine Zab ?_ _));refine Zay (cs:=#[.slice none 0 0,.slice none 0 0,.int .i64 aA,.slice none 0 0,.slice none 0 0]) ?_ 3 _ rfl;(with_reducible repeat(first|refine Zag ?_ _|refine Zah ?_|refine Zab ?_ _));refine Zay (cs:=#[.slice none 0 0,.slice none 0 0,.int .i64 0,.slice none 0 0,.slice none 0 0]) ?_ 2 _ rfl;(with_reducible repeat(first|refine Zag ?_ _|refine Zah ?_|refine Zab ?_ _));refine Zay (cs:=#[.slice none 0 0,.slice none 0 0,.int .i64 0,.slice none 0 0,.slice none 0 0]) ?_ 1 _ rfl;(with_reducible repeat(first|refine Zag ?_ _|refine Zah ?_|refine Zab ?_ _));refine Zay (cs:=#[.slice none 0 0,.slice none 0 0,.int .i64 0,.slice none 0 0,.slice none 0 0]) ?_ 0 _ rfl;(with_reducible repeat(first|refine Zag ?_ _|refine Zah ?_|refine Zab ?_ _));exact aD.out⟩,⟨bM HB.out⟩⟩
  case round=>
   clear H';try clear c1
   try clear p2
   try clear c5
   try clear c8
   try clear c9
   try clear mh mi mo ng ni ma mf mg mX mY
   try clear kH kJ kY nI nJ kE kF kX nG nH
   obtain⟨ah,bf,dR,rfl,HA,HK1,aN,bA,bB,aD,HB⟩:=hrel
   cases gk with
   | zero => exact absurd HA.out (by simp [Zaa.l0])
   |succ k1=>
    have H:=HA.out;clear HA;simp only[Zaa.l0]at H;by_cases c11:ah<(ag.length:Int)
    case neg=>
     rw[if_neg c11]at H;have nN:decide (ah<(ag.length:Int))=false:=decide_eq_false c11;clear c11
     (first|rw[nN]|(simp only[Zd0,Zel];rw[nN])|skip)
     have H':=Za.mk H;clear H;have ePa:=kK.out;have fra:=kL.out;have eQa:=gM.out;have fsa:=jd.out;obtain⟨Gg,Gh,Gi,Gj,Gl,FM,FN,FO,FP,FQ⟩:=cz5 bA.out;go_wp2
     go_meet
     case rel=>exact⟨_,(bf),(dR),H',⟨by have:=HK1.out;first|omega|exact Nat.le_refl _⟩,⟨sM aN.out⟩,⟨by(with_reducible repeat(first|refine Zag ?_ _|refine Zah ?_|refine Zab ?_ _));exact bA.out⟩,⟨by(with_reducible repeat(first|refine Zag ?_ _|refine Zah ?_|refine Zab ?_ _));exact bB.out⟩,⟨by(with_reducible repeat(first|refine Zag ?_ _|refine Zah ?_|refine Zab ?_ _));exact aD.out⟩,⟨bM HB.out⟩⟩
    rw[if_pos c11]at H;have nN:decide (ah<(ag.length:Int))=true:=decide_eq_true c11;clear c11
    (first|rw[nN]|(simp only[Zd0,Zel];rw[nN])|skip)
    by_cases c12:ah<10
    case neg=>
     rw[if_neg c12]at H;have iM:decide (ah<10)=false:=decide_eq_false c12;clear c12;have H':=Za.mk H;clear H;have eNa:=kK.out;have fpa:=kL.out;have eOa:=gM.out;have fqa:=jd.out;obtain⟨FY,Ga,Gb,Gc,Gf,FE,FH,FI,FJ,FL⟩:=cz5 bA.out;go_wp2
     go_meet
     case rel=>exact⟨_,(bf),(dR),H',⟨by have:=HK1.out;first|omega|exact Nat.le_refl _⟩,⟨sM aN.out⟩,⟨by(with_reducible repeat(first|refine Zag ?_ _|refine Zah ?_|refine Zab ?_ _));exact bA.out⟩,⟨by(with_reducible repeat(first|refine Zag ?_ _|refine Zah ?_|refine Zab ?_ _));exact bB.out⟩,⟨by(with_reducible repeat(first|refine Zag ?_ _|refine Zah ?_|refine Zab ?_ _));exact aD.out⟩,⟨bM HB.out⟩⟩
    rw[if_pos c12]at H;have iM:decide (ah<10)=true:=decide_eq_true c12;clear c12;obtain⟨nO,H⟩:=ifT H;obtain⟨jr,hji14⟩:∃j_:Int,(mn (((Zbb ag ah).f0).size:Int) 20)=j_:=⟨_,rfl⟩;replace H:(if 0≤(jr)then(if(jr)≤(((Zbb ag ah).f0).size:Int)then((some (([]:List (S82)):List (S82))).bind fun oW=>(if 0≤(mn (((Zbb ag ah).f1).length:Int) 12)then(if(mn (((Zbb ag ah).f1).length:Int) 12)≤(((Zbb ag ah).f1).length:Int)then((some (((Zbb ag ah).f1).take ((mn (((Zbb ag ah).f1).length:Int) 12):Int).toNat:List (S82))).bind fun lC=>(if oW.length+lC.length<8796093022208 then(if bf.length<3518437208883 then(Zaa.l0 k1 (wrap64 (ah+1)) ag aa aA ak ai (bf++ [(⟨((Zbb ag ah).f0).extract 0 ((jr):Int).toNat,(oW++lC)⟩:S55)]) aA ak ai)else(none))else(none)))else(none))else(none)))else(none))else(none))=some (r1,r2,r3,r4,r5):=by first|(rw[hji14]at H;exact H)|(simp only[hji14]at H ⊢;exact H)
    have hji14_:(if 20<(((Zbb ag ah).f0).size:Int)then 20 else(((Zbb ag ah).f0).size:Int))=jr:=hji14;obtain⟨c15,H⟩:=ifP H;have jc:=eq_true c15;have ww:decide (0≤(jr))=true:=decide_eq_true c15;clear c15;obtain⟨c16,H⟩:=ifP H;have tC:=eq_true c16;have KT:decide ((jr)≤(((Zbb ag ah).f0).size:Int))=true:=decide_eq_true c16;clear c16;obtain⟨oW,Cb⟩:∃y_:List (S82),y_=(([]:List (S82))):=⟨_,rfl⟩;replace H:(if 0≤(mn (((Zbb ag ah).f1).length:Int) 12)then(if(mn (((Zbb ag ah).f1).length:Int) 12)≤(((Zbb ag ah).f1).length:Int)then((some (((Zbb ag ah).f1).take ((mn (((Zbb ag ah).f1).length:Int) 12):Int).toNat:List (S82))).bind fun lC=>(if oW.length+lC.length<8796093022208 then(if bf.length<3518437208883 then(Zaa.l0 k1 (wrap64 (ah+1)) ag aa aA ak ai (bf++ [(⟨((Zbb ag ah).f0).extract 0 ((jr):Int).toNat,(oW++lC)⟩:S55)]) aA ak ai)else(none))else(none)))else(none))else(none))=some (r1,r2,r3,r4,r5):=by first|(rw[Cb];with_reducible exact H)|(have H2_:=(Option.bind_some _ _).symm.trans H;rw[Cb];with_reducible exact H2_)|(have H2_:=(Option.bind_some _ _).symm.trans H;with_reducible exact H2_)|with_reducible exact H|(rw[Cb];exact H)|exact H
    have P6:=Za.mk Cb;clear Cb;obtain⟨rF,hji17⟩:∃j_:Int,(mn (((Zbb ag ah).f1).length:Int) 12)=j_:=⟨_,rfl⟩;replace H:(if 0≤(rF)then(if(rF)≤(((Zbb ag ah).f1).length:Int)then((some (((Zbb ag ah).f1).take ((rF):Int).toNat:List (S82))).bind fun lC=>(if oW.length+lC.length<8796093022208 then(if bf.length<3518437208883 then(Zaa.l0 k1 (wrap64 (ah+1)) ag aa aA ak ai (bf++ [(⟨((Zbb ag ah).f0).extract 0 ((jr):Int).toNat,(oW++lC)⟩:S55)]) aA ak ai)else(none))else(none)))else(none))else(none))=some (r1,r2,r3,r4,r5):=by first|(rw[hji17]at H;exact H)|(simp only[hji17]at H ⊢;exact H)
    have hji17_:(if 12<(((Zbb ag ah).f1).length:Int)then 12 else(((Zbb ag ah).f1).length:Int))=rF:=hji17;obtain⟨c18,H⟩:=ifP H;have jU:=eq_true c18;have qz:decide (0≤(rF))=true:=decide_eq_true c18;clear c18;obtain⟨c19,H⟩:=ifP H;have wy:=eq_true c19;have KV:decide ((rF)≤(((Zbb ag ah).f1).length:Int))=true:=decide_eq_true c19;clear c19;obtain⟨lC,Cc⟩:∃y_:List (S82),y_=(((Zbb ag ah).f1).take ((rF):Int).toNat):=⟨_,rfl⟩;replace H:(if oW.length+lC.length<8796093022208 then(if bf.length<3518437208883 then(Zaa.l0 k1 (wrap64 (ah+1)) ag aa aA ak ai (bf++ [(⟨((Zbb ag ah).f0).extract 0 ((jr):Int).toNat,(oW++lC)⟩:S55)]) aA ak ai)else(none))else(none))=some (r1,r2,r3,r4,r5):=by first|(rw[Cc];with_reducible exact H)|(have H2_:=(Option.bind_some _ _).symm.trans H;rw[Cc];with_reducible exact H2_)|(have H2_:=(Option.bind_some _ _).symm.trans H;with_reducible exact H2_)|with_reducible exact H|(rw[Cc];exact H)|exact H
    have P7:=Za.mk Cc;clear Cc;obtain⟨c20,H⟩:=ifP H;have Bu:=Za.mk c20;clear c20;obtain⟨EJ,Ce⟩:∃y_:List (S82),y_=(oW++lC):=⟨_,rfl⟩;replace H:(if bf.length<3518437208883 then(Zaa.l0 k1 (wrap64 (ah+1)) ag aa aA ak ai (bf++ [(⟨((Zbb ag ah).f0).extract 0 ((jr):Int).toNat,EJ⟩:S55)]) aA ak ai)else(none))=some (r1,r2,r3,r4,r5):=by first|(rw[Ce];with_reducible exact H)|(have H2_:=(Option.bind_some _ _).symm.trans H;rw[Ce];with_reducible exact H2_)|(have H2_:=(Option.bind_some _ _).symm.trans H;with_reducible exact H2_)|with_reducible exact H|(rw[Ce];exact H)|exact H
    have Wd:=Za.mk Ce;clear Ce;obtain⟨c21,H⟩:=ifP H;have Ku:=Za.mk c21;clear c21;obtain⟨L9,Cf⟩:∃y_:List (S55),y_=(bf++ [(⟨((Zbb ag ah).f0).extract 0 ((jr):Int).toNat,EJ⟩:S55)]):=⟨_,rfl⟩;replace H:(Zaa.l0 k1 (wrap64 (ah+1)) ag aa aA ak ai L9 aA ak ai)=some (r1,r2,r3,r4,r5):=by first|(rw[Cf];with_reducible exact H)|(have H2_:=(Option.bind_some _ _).symm.trans H;rw[Cf];with_reducible exact H2_)|(have H2_:=(Option.bind_some _ _).symm.trans H;with_reducible exact H2_)|with_reducible exact H|(rw[Cf];exact H)|exact H
    have We:=Za.mk Cf;clear Cf;have H':=Za.mk H;clear H;have X4:=kK.out;have X7:=kL.out;have eHa:=gM.out;have fia:=jd.out;obtain⟨xC,xD,xE,xG,xH,wY,xc,xe,xg,xh⟩:=cz5 bA.out;have ND:(0≤(ah:Int))=True:=teq;have NR:(ah<(ag.length:Int))=True:=teq;obtain⟨Wx,lc,jW,rfl,uT,uU,IQ,IE⟩:=Zeq iG.out ah odt odt;replace uT:=hB HB.out uT;replace uU:=hB HB.out uU;have RY:=Za.mk IE;have RI:=Za.mk IQ;clear IE IQ;try go_wp2_with (first|((with_reducible refine Zaq (N:=5) rfl ?_);refine bx 5 #[.string (⟨#[]⟩:ByteArray),.slice none 0 0] 55 ?_;intro fw hg w25 hbox hb;replace aN:=Za.mk (Kd.Zex (Kd.S_elderB (sM aN.out) fw (Nat.le_of_eq hg.symm)) hb);have gG:=Za.mk (hbox);have dRa:=Za.mk ((gE hg HB.out:w.heap.size≤fw));replace HB:=Za.mk (bS HB.out hb);have EQ:=Za.mk ((by rw[hg];exact Nat.ne_of_lt (Zc1 (kM bA.out)):iR≠fw));have MG:=Za.mk ((by rw[hg];exact Nat.ne_of_gt (Zc1 (kM bA.out)):fw≠iR));replace bA:=Za.mk (kB bA.out hb);have ER:=Za.mk ((by rw[hg];exact Nat.ne_of_lt (Zc1 (kM bB.out)):dY≠fw));have MH:=Za.mk ((by rw[hg];exact Nat.ne_of_gt (Zc1 (kM bB.out)):fw≠dY));replace bB:=Za.mk (kB bB.out hb);have xP:=Za.mk ((by rw[hg];exact Nat.ne_of_lt (Zc1 (kM aD.out)):dS≠fw));have ET:=Za.mk ((by rw[hg];exact Nat.ne_of_gt (Zc1 (kM aD.out)):fw≠dS));replace aD:=Za.mk (kB aD.out hb);clear hb hbox hg;have eJa:=MG.out;have fka:=EQ.out;have eKa:=MH.out;have fla:=ER.out;have eLa:=ET.out;have fna:=xP.out;obtain⟨ui,uj,tT,tV⟩:=cz2 gG.out))
    have n0_:Za (Kd.S k55 55 ((w25.setCell ⟨fw,0,none⟩ (.string ((Zbb ag ah).f0))).setCell ⟨fw,1,none⟩ (.slice lc ((Zbb ag ah).f1).length jW)) w.heap.size (fun k_=>k_≠fw) dR bf):=⟨sM (Kd.Zd5 (Kd.Zds (p:=⟨fw,1,none⟩) (Kd.Zds (p:=⟨fw,0,none⟩) (Kd.Zd5 aN.out (fun k_ hk=>(⟨hk,hk.2⟩:_∧k_≠fw))) (fun _ hk=>hk.2) (.string ((Zbb ag ah).f0))) (fun _ hk=>hk.2) (.slice lc ((Zbb ag ah).f1).length jW)) (fun _ hk=>hk.1.2))⟩;have n1_:Za (((w25.setCell ⟨fw,0,none⟩ (.string ((Zbb ag ah).f0))).setCell ⟨fw,1,none⟩ (.slice lc ((Zbb ag ah).f1).length jW)).heap[iR]? =some (.cells #[.slice (some Wx) ag.length ek,.slice aW aa.length aT,.int .i64 aA,.slice bT ak.length bU,.slice bK ai.length bL] 28 (0,0))):=⟨by(with_reducible repeat(first|exact bA.out|refine Zcr ?_ EQ.out _|refine Zab ?_ _|refine Zah ?_|refine Zag ?_ _))⟩;have n2_:Za (((w25.setCell ⟨fw,0,none⟩ (.string ((Zbb ag ah).f0))).setCell ⟨fw,1,none⟩ (.slice lc ((Zbb ag ah).f1).length jW)).heap[dY]? =some (.cells #[.slice none 0 0,.slice none 0 0,.int .i64 0,.slice none 0 0,.slice none 0 0] 28 (0,0))):=⟨by(with_reducible repeat(first|exact bB.out|refine Zcr ?_ ER.out _|refine Zab ?_ _|refine Zah ?_|refine Zag ?_ _))⟩;have n3_:Za (((w25.setCell ⟨fw,0,none⟩ (.string ((Zbb ag ah).f0))).setCell ⟨fw,1,none⟩ (.slice lc ((Zbb ag ah).f1).length jW)).heap[dS]? =some (.cells #[dR,.slice none 0 0,.int .i64 aA,.slice bT ak.length bU,.slice bK ai.length bL] 28 (0,0))):=⟨by(with_reducible repeat(first|exact aD.out|refine Zcr ?_ xP.out _|refine Zab ?_ _|refine Zah ?_|refine Zag ?_ _))⟩;have n4_:Za (((w25.setCell ⟨fw,0,none⟩ (.string ((Zbb ag ah).f0))).setCell ⟨fw,1,none⟩ (.slice lc ((Zbb ag ah).f1).length jW)).heap[fw]? =some (.cells #[.string ((Zbb ag ah).f0),.slice lc ((Zbb ag ah).f1).length jW] 55 (0,0))):=⟨by(with_reducible repeat(first|refine Zag ?_ _|refine Zah ?_|refine Zab ?_ _));refine Zay (cs:=#[.string ((Zbb ag ah).f0),.slice none 0 0]) ?_ 1 _ rfl;(with_reducible repeat(first|refine Zag ?_ _|refine Zah ?_|refine Zab ?_ _));refine Zay (cs:=#[.string (⟨#[]⟩:ByteArray),.slice none 0 0]) ?_ 0 _ rfl;(with_reducible repeat(first|refine Zag ?_ _|refine Zah ?_|refine Zab ?_ _));exact gG.out⟩;have n5_:Za (Below w.heap.size w ((w25.setCell ⟨fw,0,none⟩ (.string ((Zbb ag ah).f0))).setCell ⟨fw,1,none⟩ (.slice lc ((Zbb ag ah).f1).length jW))):=⟨bM HB.out⟩
    (try clear aN)
    (try clear bA)
    (try clear bB)
    (try clear aD)
    (try clear gG)
    (try clear HB)
    generalize ((w25.setCell ⟨fw,0,none⟩ (.string ((Zbb ag ah).f0))).setCell ⟨fw,1,none⟩ (.slice lc ((Zbb ag ah).f1).length jW))=w30 at n0_ n1_ n2_ n3_ n4_ n5_ ⊢
    have aN:=n0_;have bA:=n1_;have bB:=n2_;have aD:=n3_;have gG:=n4_;have HB:=n5_;clear n0_ n1_ n2_ n3_ n4_ n5_;replace aN:=Za.mk (Kd.S_drew aN.out);replace bA:=Za.mk (Zah bA.out);replace bB:=Za.mk (Zah bB.out);replace aD:=Za.mk (Zah aD.out);replace gG:=Za.mk (Zah gG.out);replace HB:=Za.mk (Zcq HB.out);have q32:((rF):Int)≤((((Zbb ag ah).f1).length:Int):Int):=odt;obtain⟨i032,Q8,_,hsz32,_⟩:=info_parts Zhw;have hroom32:((Zbb ag ah).f1).length≤jW:=RI.out;have hC32:Kd.C k82 _ lc ((Zbb ag ah).f1).length ((Zbb ag ah).f1):=RY.out;have hcut32:=cut_to (P:=Tryz.prog) 53 82 .i64 Tryz.underlying53 Q8 lc ((Zbb ag ah).f1).length jW (rF) (of_decide_eq_true (by first|(with_reducible assumption)|assumption)) q32 hroom32;have NB:=Kd.C_take (m:=((rF):Int).toNat) hC32 (by omega);have hy32:lC.length=((rF):Int).toNat:=(by rw[P7.out,List.length_take];omega);rw[←P7.out]at NB;rw[←hy32]at hcut32;have Pw:=Za.mk NB;have ega:=Za.mk (show lC.length≤jW from by omega);clear NB hC32 hroom32 Q8 hsz32;have KY32:=Za.mk hy32;clear hy32;replace q32:=eq_true q32;refine Ze4 (n:=23) (S:=fun w'=>w'.cell? ⟨dS,0,none⟩=some (dR)∧w'.cell? ⟨dS,1,none⟩=some (.slice none 0 0)∧w'.cell? ⟨dS,2,none⟩=some (.int .i64 aA)∧w'.cell? ⟨dS,3,none⟩=some (.slice bT ak.length bU)∧w'.cell? ⟨dS,4,none⟩=some (.slice bK ai.length bL)∧w'.cell? ⟨fw,0,none⟩=some (.string ((Zbb ag ah).f0))∧w'.cell? ⟨fw,1,none⟩=some (.slice lc ((Zbb ag ah).f1).length jW)) (ds:= [22]) #[false,false,false,false,false,false,false,false,false,false,false,false,false,false,false,false,false,false,false,false,false,false,false] (by kernel_rfl) rfl rfl ⟨bc aD.out 0,bc aD.out 1,bc aD.out 2,bc aD.out 3,bc aD.out 4,bc gG.out 0,bc gG.out 1⟩ (fun hHeld=> ?_);refine Zdu Zaa.tab6 Zaa.bits6 (fun HT_ HW_=> ?_)
    generalize w30.drew=w31 at aN bA bB aD gG HB Pw hHeld ⊢
    refine pu HT_ 0 29 ?_;refine pu HT_ 2 31 ?_;refine pu HT_ 4 33 ?_;refine pu HT_ 10 39 ?_;refine pu HT_ 12 41 ?_;refine tk HT_ HW_ hHeld 1 30 ?_;refine tk HT_ HW_ hHeld 3 32 ?_;refine tk HT_ HW_ hHeld 5 34 ?_;refine pu HT_ 6 35 ?_;refine pu HT_ 7 36 ?_;refine pu HT_ 8 37 ?_;refine tk HT_ HW_ hHeld 11 40 ?_;refine tk HT_ HW_ hHeld 13 42 ?_;refine pu HT_ 14 43 ?_;refine pu HT_ 15 44 ?_;refine pu HT_ 16 45 ?_;refine on1 HT_ 9 38 (fun K hK=> ?_);refine Kd.R_lit_step k82 _ 82 ?hg (N:=38) ?hd (xs:=([]:List (S82))) (inner:= []) (ok:=fun _=>True) (okp:=fun _=>True) ?hr ?hp (fun _ hk=>hk) trivial (Below.refl _ _) (Nat.le_refl _) (by simp) ?_;(case hd=>rfl);(case hg=>rfl);(case hr=>first|(go_simp;done)|(go_simp;rfl));(case hp=>exact(Reps.none _ _));intro c3a w33 Ey hb hg_ hnew_;clear hg_ hnew_
    (first|rw[←P6.out]at Ey|(simp only[Int.reduceToNat]at Ey;rw[←P6.out]at Ey))
    replace aN:=Za.mk (Kd.Zgr (sM aN.out) (Kd.Zc7 Ey) hb);have yA:=Za.mk (Kd.Zbl Ey (Zaf (bM HB.out)));replace bA:=Za.mk (kB bA.out hb);replace bB:=Za.mk (kB bB.out hb);replace aD:=Za.mk (kB aD.out hb);replace gG:=Za.mk (kB gG.out hb);replace HB:=Za.mk (bS HB.out hb);clear hb Ey;refine hK.out _ _ ⟨bc aD.out 0,bc aD.out 1,bc aD.out 2,bc aD.out 3,bc aD.out 4,bc gG.out 0,bc gG.out 1⟩ (fun hHeld=> ?_);clear hK K;refine nmp 38 ?_;refine on1 HT_ 17 46 (fun K hK=> ?_);refine Kd.Zfn k82 (w0:=w) w.heap.size (by rfl) (.tmp 38) (.tmp 45) 53 82 (.agg #[(.int .i64 0),(.int .i64 0)]) 16 rfl Tryz.underlying53 Zhw rfl (by decide) (by omega) c3a oW lC _ _ _ (fun _=>True) (fun _=>False) rfl rfl ?aO ?aR (fun _ _ h=>h) (fun _ h=>h.elim) ?aF ?aB ?aS ?aL ?_
    (case aR=>repeat(first|exact(Kd.Zad Pw.out HB.out)|(with_reducible refine Kd.C_alloc ?_ _)|(with_reducible refine Kd.Zb6 ?_ _)|(with_reducible refine Kd.Zci ?_)))
    (case aB=>exact(bM HB.out))
    (case aF=>exact(fun _ _=>trivial))
    (case aO=>exact(rM yA.out))
    (case aS=>exact(Zaf (bM HB.out)))
    (case aL=>have:=Bu.out;omega)
    intro nLa w35 ho hb hg hat;rw[←Wd.out]at ho;replace aN:=Za.mk (Kd.S_after (ok:=(fun k_=>k_≠fw)) (sM aN.out) hg hat);replace bA:=Za.mk (kG bA.out hg (Kd.R_ne yA.out bA.out (by decide)));replace bB:=Za.mk (kG bB.out hg (Kd.R_ne yA.out bB.out (by decide)));replace aD:=Za.mk (kG aD.out hg (Kd.R_ne yA.out aD.out (by decide)));replace gG:=Za.mk (kG gG.out hg (Kd.R_ne yA.out gG.out (by decide)));replace HB:=Za.mk (hb);have Fb:=Za.mk (ho);clear yA ho hb hg hat;obtain⟨fJ,fK,Eu⟩:=Kd.Zbe Fb.out
    (first|subst Eu|(injection Eu with f1_ f2_ f3_;have f4_:=f1_.symm;have f5_:=f3_.symm;clear f1_ f2_ f3_;subst f4_;subst f5_))
    refine hK.out _ _ ⟨bc aD.out 0,bc aD.out 1,bc aD.out 2,bc aD.out 3,bc aD.out 4,bc gG.out 0,bc gG.out 1⟩ (fun hHeld=> ?_);clear hK K;refine nmp 46 ?_;refine pu HT_ 18 47 ?_;refine on1 HT_ 19 48 (fun K hK=> ?_);refine value_ (w1:=?_) (v:=?_) (by rfl) rfl ?_ ?_;rotate_left 2
    ·go_simp
     constructor
     ·rfl
     rfl
    refine hK.out _ _ ⟨(Zan (Zab aD.out _) 0).trans rfl,(Zan (Zab aD.out _) 1).trans rfl,(Zan (Zab aD.out _) 2).trans rfl,(Zan (Zab aD.out _) 3).trans rfl,(Zan (Zab aD.out _) 4).trans rfl,(Zan (Zab gG.out _) 0).trans rfl,(Zan (Zab gG.out _) 1).trans rfl⟩ (fun hHeld=> ?_);clear hK K;refine nmp 48 ?_;refine on1 HT_ 20 49 (fun K hK=> ?_);refine Kd.S_append_step k55 (w0:=w) w.heap.size (by rfl) (.tmp 30) (.tmp 48) 22 55 (.agg #[(.string ⟨#[]⟩),(.slice none 0 0)]) 40 rfl Tryz.underlying22 info55 rfl (by decide) (by omega) dR bf (⟨((Zbb ag ah).f0).extract 0 ((jr):Int).toNat,EJ⟩:S55) [.string (((Zbb ag ah).f0).extract 0 ((jr):Int).toNat),.slice fJ EJ.length fK] (fun k_=>k_≠fw) (fun k_=>some k_=(.slice fJ EJ.length fK:Value).ownBlock) rfl rfl ?aP (fun k_ hk_=>((Kd.Za4 (ok':=fun k_=>((fun k_=>k_≠fw)) k_∧some k_≠(dR:Value).ownBlock) (Kd.Zb5 (Kd.Zdj (Fb.out) (Kd.Ze aN.out) (by decide)) gG.out (by decide)) (fun k_ hk=>⟨hk.2,hk.1.2⟩))).1 k_ hk_.symm) ?aF ?aO ?aB ?aS ?aL ?_
    (case aP=>exact k55_mkM _ _ _ (⟨((Zbb ag ah).f0).extract 0 ((jr):Int).toNat,EJ⟩:S55) (Kd.Za4 (Kd.Zf8 rfl (Kd.Za4 (ok':=fun k_=>((fun k_=>k_≠fw)) k_∧some k_≠(dR:Value).ownBlock) (Kd.Zb5 (Kd.Zdj (Fb.out) (Kd.Ze aN.out) (by decide)) gG.out (by decide)) (fun k_ hk=>⟨hk.2,hk.1.2⟩))) (fun _ h_=>h_)))
    (case aB=>exact(bM HB.out))
    (case aF=>exact(fun k_ hk=>Kd.freshB (kM gG.out) k_ hk))
    (case aO=>exact(sM (Kd.Zd5 aN.out (fun k_ hk=>⟨hk.1,fun e_=>hk.2 e_⟩))))
    (case aS=>exact(Zaf (bM HB.out)))
    (case aL=>have:=Ku.out;omega)
    intro nMa w37 ho hb hg hat;rw[←We.out]at ho;replace bA:=Za.mk (kG bA.out hg (Kd.S_ne aN.out bA.out (by decide)));replace bB:=Za.mk (kG bB.out hg (Kd.S_ne aN.out bB.out (by decide)));replace aD:=Za.mk (kG aD.out hg (Kd.S_ne aN.out aD.out (by decide)));replace gG:=Za.mk (kG gG.out hg (Kd.S_away aN.out (fun _ hk=>hk.1)));replace HB:=Za.mk (hb);have Po:=Za.mk (ho);clear aN Fb ho hb hg hat;obtain⟨gW,ib,wB⟩:=Kd.S_slice Po.out
    (first|subst wB|(injection wB with f1_ f2_ f3_;have f4_:=f1_.symm;have f5_:=f3_.symm;clear f1_ f2_ f3_;subst f4_;subst f5_))
    refine hK.out _ _ ⟨bc aD.out 0,bc aD.out 1,bc aD.out 2,bc aD.out 3,bc aD.out 4,bc gG.out 0,bc gG.out 1⟩ (fun hHeld=> ?_);clear hK K;refine nmp 49 ?_;refine pu HT_ 21 50 ?_;refine last_ (i:=22) (N:=none) #[true,true,true,true,true,true,true,true,true,true,true,true,true,true,true,true,true,true,true,true,true,true,true] rfl rfl (Zgj HT_.out (by kernel_rfl)) (by decide) (fun K hK=> ?_);have hs39:w37.cell? ⟨dS,0,none⟩=some (dR):=(Zan aD.out 0).trans rfl;have hfs39:=Zax aD.out 0;have hns39_0:=gM.out;have hns39_1:=jF.out;have hns39_3:=ET.out;have hms39_0:=jd.out;have hms39_1:=sV.out;have hms39_3:=xP.out;refine skip_ (w1:=?_) (by rfl) rfl ?_ ?_;rotate_left
    ·go_simp
     rfl
    refine hK.out _ _ ?_;clear hK K;refine Zgp (Zep HT_.out (by kernel_rfl)) ?_;try go_wp2
    go_roundg k1
    case measure=>have:=HK1.out;omega
    case rel=>exact⟨(wrap64 (ah+1)),(L9),(.slice gW L9.length ib),eS,H',⟨by have:=HK1.out;omega⟩,⟨sM (Kd.Zd5 (Kd.Zds (p:=⟨dS,0,none⟩) (Kd.Zen Po.out aD.out (by decide)) (fun _ hk=>hk.2) (.slice gW L9.length ib)) (fun _ hk=>trivial))⟩,⟨by(with_reducible repeat(first|exact bA.out|refine Zcr ?_ gM.out _|refine Zab ?_ _|refine Zah ?_|refine Zag ?_ _))⟩,⟨by(with_reducible repeat(first|exact bB.out|refine Zcr ?_ jF.out _|refine Zab ?_ _|refine Zah ?_|refine Zag ?_ _))⟩,⟨by(with_reducible repeat(first|refine Zag ?_ _|refine Zah ?_|refine Zab ?_ _));refine Zay (cs:=#[dR,.slice none 0 0,.int .i64 aA,.slice bT ak.length bU,.slice bK ai.length bL]) ?_ 0 _ rfl;(with_reducible repeat(first|refine Zag ?_ _|refine Zah ?_|refine Zab ?_ _));exact aD.out⟩,⟨bM HB.out⟩⟩
 case rest=>
  clear HC2;try clear c1
  try clear p1
  try clear q1
  try clear hx1
  try clear c2
  try clear p2
  try clear q3
  try clear c4
  try clear c5
  try clear p6
  try clear c8
  try clear c9
  try clear c11
  try clear nN
  try clear c12
  try clear iM
  try clear c13
  try clear nO
  try clear p13
  try clear q13
  try clear Lr
  try clear c15
  try clear jc
  try clear ww
  try clear c16
  try clear tC
  try clear KT
  try clear c18
  try clear jU
  try clear qz
  try clear c19
  try clear wy
  try clear KV
  try clear c20
  try clear c21
  try clear c22
  try clear c23
  try clear c26
  try clear c27
  try clear c28
  try clear q32
  try clear c40
  try clear c41
  try clear c43
  try clear c44
  try clear mh mi mo ng ni ma mf mg mX mY
  try clear xC xD xE xG xH wY xc xe xg xh
  try clear ui uj tT tV
  try clear FY Ga Gb Gc Gf FE FH FI FJ FL
  try clear Gg Gh Gi Gj Gl FM FN FO FP FQ
  try clear kH kJ kY nI nJ kE kF kX nG nH
  try clear uT
  try clear uU
  try clear ND
  try clear p2
  try clear NR
  try clear q32
  obtain⟨kq,bf,dR,HA,HJ1,aN,bA,bB,aD,HB⟩:=hcut
  cases kq with
  | zero => exact absurd HA.out (by simp [Zaa.j1])
  |succ kj1=>
   have H:=HA.out;clear HA;simp only[Zaa.j1]at H;have H':=Za.mk H;clear H;go_wp2
   go_loopg [6] kj1 (fun kq v6 w'=>∃(ae:Int) (bW:List (S36)) (gT:Value),v6= .int .i64 ae∧Za (Zaa.l1 kq ae ag aa aA ak ai bf bW aA ak ai=some (r1,r2,r3,r4,r5))∧Za (kq≤kj1)∧Za (Kd.S k55 55 w' w.heap.size (fun _=>True) dR bf)∧Za (Kd.R k36 36 w' w.heap.size (fun _=>True) gT bW)∧Za (w'.heap[iR]? =some (.cells #[(.slice eG ag.length ek),(.slice aW aa.length aT),.int .i64 aA,(.slice bT ak.length bU),(.slice bK ai.length bL)] 28 (0,0)))∧Za (w'.heap[dY]? =some (.cells #[(.slice none 0 0),(.slice none 0 0),.int .i64 0,(.slice none 0 0),(.slice none 0 0)] 28 (0,0)))∧Za (w'.heap[dS]? =some (.cells #[dR,gT,.int .i64 aA,(.slice bT ak.length bU),(.slice bK ai.length bL)] 28 (0,0)))∧Za (Below w.heap.size w w'))
   case atStart=>exact⟨(0),(([]:List (S36))),(.slice none 0 0),eS,H',⟨Nat.le_refl _⟩,⟨sM aN.out⟩,⟨by first|exact Kd.R_nil _ _ _ _ _|exact Kd.N_nil _ _ _ _ _|exact Kd.V_nil _ _ _ _ _|exact Kd.Q_nil _ _ _ _ _|exact Kd.S_nil _ _ _ _ _⟩,⟨by(with_reducible repeat(first|refine Zag ?_ _|refine Zah ?_|refine Zab ?_ _));exact bA.out⟩,⟨by(with_reducible repeat(first|refine Zag ?_ _|refine Zah ?_|refine Zab ?_ _));exact bB.out⟩,⟨by(with_reducible repeat(first|refine Zag ?_ _|refine Zah ?_|refine Zab ?_ _));exact aD.out⟩,⟨bM HB.out⟩⟩
   case round=>
    clear H';try clear c1
    try clear p1
    try clear q1
    try clear hx1
    try clear c2
    try clear p2
    try clear q3
    try clear c4
    try clear c5
    try clear p6
    try clear c8
    try clear c9
    try clear c11
    try clear nN
    try clear c12
    try clear iM
    try clear c13
    try clear nO
    try clear p13
    try clear q13
    try clear Lr
    try clear c15
    try clear jc
    try clear ww
    try clear c16
    try clear tC
    try clear KT
    try clear c18
    try clear jU
    try clear qz
    try clear c19
    try clear wy
    try clear KV
    try clear c20
    try clear c21
    try clear c22
    try clear c23
    try clear c26
    try clear c27
    try clear c28
    try clear q32
    try clear c40
    try clear c41
    try clear c43
    try clear c44
    try clear mh mi mo ng ni ma mf mg mX mY
    try clear xC xD xE xG xH wY xc xe xg xh
    try clear ui uj tT tV
    try clear FY Ga Gb Gc Gf FE FH FI FJ FL
    try clear Gg Gh Gi Gj Gl FM FN FO FP FQ
    try clear kH kJ kY nI nJ kE kF kX nG nH
    try clear uT
    try clear uU
    try clear p1
    try clear p13
    try clear ND
    try clear p2
    try clear p6
    try clear q1
    try clear q13
    try clear NR
    try clear q3
    try clear q32
    obtain⟨ae,bW,gT,rfl,HA,HK2,aN,bD,bA,bB,aD,HB⟩:=hrel
    cases gk with
    | zero => exact absurd HA.out (by simp [Zaa.l1])
    |succ k2=>
     have H:=HA.out;clear HA;simp only[Zaa.l1]at H;have Nf:=Za.mk H;clear H
     go_upto_region 8 with (fail)
     go_cut [59] (fun v59 wc=>∃(kq:Nat) (D6:Bool),v59= .bool D6∧Za (Zaa.j3 kq ae D6 ag aa aA ak ai bf bW aA ak ai=some (r1,r2,r3,r4,r5))∧Za (kq≤k2)∧Za (Kd.S k55 55 wc w.heap.size (fun _=>True) dR bf)∧Za (Kd.R k36 36 wc w.heap.size (fun _=>True) gT bW)∧Za (wc.heap[iR]? =some (.cells #[(.slice eG ag.length ek),(.slice aW aa.length aT),.int .i64 aA,(.slice bT ak.length bU),(.slice bK ai.length bL)] 28 (0,0)))∧Za (wc.heap[dY]? =some (.cells #[(.slice none 0 0),(.slice none 0 0),.int .i64 0,(.slice none 0 0),(.slice none 0 0)] 28 (0,0)))∧Za (wc.heap[dS]? =some (.cells #[dR,gT,.int .i64 aA,(.slice bT ak.length bU),(.slice bK ai.length bL)] 28 (0,0)))∧Za (Below w.heap.size w wc))
     case first=>
      have H:=Nf.out;clear Nf;by_cases c47:ae<(aa.length:Int)
      case neg=>
       rw[if_neg c47]at H;have yK:decide (ae<(aa.length:Int))=false:=decide_eq_false c47;clear c47
       (first|rw[yK]|(simp only[Zd0,Zel];rw[yK])|skip)
       have H':=Za.mk H;clear H;have eUa:=kK.out;have fwa:=kL.out;have eVa:=gM.out;have fxa:=jd.out;obtain⟨RB,RD,RF,RG,RH,Rb,Rc,Re,Rf,Rh⟩:=cz5 bA.out;go_wp2
       go_meet
       case rel=>exact⟨_,(false),eS,H',⟨by have:=HJ1.out;have:=HK2.out;first|omega|exact Nat.le_refl _⟩,⟨sM aN.out⟩,⟨rM bD.out⟩,⟨by(with_reducible repeat(first|refine Zag ?_ _|refine Zah ?_|refine Zab ?_ _));exact bA.out⟩,⟨by(with_reducible repeat(first|refine Zag ?_ _|refine Zah ?_|refine Zab ?_ _));exact bB.out⟩,⟨by(with_reducible repeat(first|refine Zag ?_ _|refine Zah ?_|refine Zab ?_ _));exact aD.out⟩,⟨bM HB.out⟩⟩
      rw[if_pos c47]at H;have yK:decide (ae<(aa.length:Int))=true:=decide_eq_true c47;clear c47
      (first|rw[yK]|(simp only[Zd0,Zel];rw[yK])|skip)
      have H':=Za.mk H;clear H;have eSa:=kK.out;have fua:=kL.out;have eTa:=gM.out;have fva:=jd.out;obtain⟨aAa,aBa,aCa,aDa,aEa,Y1,Y2,Y3,Y4,Y5⟩:=cz5 bA.out;go_wp2
      go_meet
      case rel=>exact⟨_,(decide (ae<16)),eS,H',⟨by have:=HJ1.out;have:=HK2.out;first|omega|exact Nat.le_refl _⟩,⟨sM aN.out⟩,⟨rM bD.out⟩,⟨by(with_reducible repeat(first|refine Zag ?_ _|refine Zah ?_|refine Zab ?_ _));exact bA.out⟩,⟨by(with_reducible repeat(first|refine Zag ?_ _|refine Zah ?_|refine Zab ?_ _));exact bB.out⟩,⟨by(with_reducible repeat(first|refine Zag ?_ _|refine Zah ?_|refine Zab ?_ _));exact aD.out⟩,⟨bM HB.out⟩⟩
     case rest=>
      clear Nf;try clear c1
      try clear p1
      try clear q1
      try clear hx1
      try clear c2
      try clear p2
      try clear q3
      try clear c4
      try clear c5
      try clear p6
      try clear c8
      try clear c9
      try clear c11
      try clear nN
      try clear c12
      try clear iM
      try clear c13
      try clear nO
      try clear p13
      try clear q13
      try clear Lr
      try clear c15
      try clear jc
      try clear ww
      try clear c16
      try clear tC
      try clear KT
      try clear c18
      try clear jU
      try clear qz
      try clear c19
      try clear wy
      try clear KV
      try clear c20
      try clear c21
      try clear c22
      try clear c23
      try clear c26
      try clear c27
      try clear c28
      try clear q32
      try clear c40
      try clear c41
      try clear c43
      try clear c44
      try clear c47
      try clear yK
      try clear c48
      try clear c49
      try clear c51
      try clear c52
      try clear mh mi mo ng ni ma mf mg mX mY
      try clear xC xD xE xG xH wY xc xe xg xh
      try clear ui uj tT tV
      try clear FY Ga Gb Gc Gf FE FH FI FJ FL
      try clear Gg Gh Gi Gj Gl FM FN FO FP FQ
      try clear aAa aBa aCa aDa aEa Y1 Y2 Y3 Y4 Y5
      try clear RB RD RF RG RH Rb Rc Re Rf Rh
      try clear kH kJ kY nI nJ kE kF kX nG nH
      try clear uT
      try clear uU
      try clear p1
      try clear p13
      try clear ND
      try clear p2
      try clear p6
      try clear q1
      try clear q13
      try clear NR
      try clear q3
      try clear q32
      obtain⟨kq,D6,rfl,HA,HJ45,aN,bD,bA,bB,aD,HB⟩:=hcut
      cases kq with
      | zero => exact absurd HA.out (by simp [Zaa.j3])
      |succ kj45=>
       have H:=HA.out;clear HA;simp only[Zaa.j3]at H;by_cases c54:D6=true
       case neg=>
        replace c54:=Bool.eq_false_iff.mpr c54;subst c54;replace H:=ifF H;obtain⟨wQ,Cg⟩:∃y_:List Int,y_=(([]:List Int)):=⟨_,rfl⟩;replace H:(if 0≤(mn (ak.length:Int) 14)then(if(mn (ak.length:Int) 14)≤(ak.length:Int)then(if wQ.length+(ak.take ((mn (ak.length:Int) 14):Int).toNat).length<17592186044416 then((some (([]:List Int):List Int)).bind fun lD=>(if 0≤(mn (ai.length:Int) 14)then(if(mn (ai.length:Int) 14)≤(ai.length:Int)then(if lD.length+(ai.take ((mn (ai.length:Int) 14):Int).toNat).length<17592186044416 then(some (bf,bW,aA,(wQ++(ak.take ((mn (ak.length:Int) 14):Int).toNat)),(lD++(ai.take ((mn (ai.length:Int) 14):Int).toNat))))else(none))else(none))else(none)))else(none))else(none))else(none))=some (r1,r2,r3,r4,r5):=by first|(rw[Cg];with_reducible exact H)|(have H2_:=(Option.bind_some _ _).symm.trans H;rw[Cg];with_reducible exact H2_)|(have H2_:=(Option.bind_some _ _).symm.trans H;with_reducible exact H2_)|with_reducible exact H|(rw[Cg];exact H)|exact H
        have P8:=Za.mk Cg;clear Cg;obtain⟨kv,hji88⟩:∃j_:Int,(mn (ak.length:Int) 14)=j_:=⟨_,rfl⟩;replace H:(if 0≤(kv)then(if(kv)≤(ak.length:Int)then(if wQ.length+(ak.take ((kv):Int).toNat).length<17592186044416 then((some (([]:List Int):List Int)).bind fun lD=>(if 0≤(mn (ai.length:Int) 14)then(if(mn (ai.length:Int) 14)≤(ai.length:Int)then(if lD.length+(ai.take ((mn (ai.length:Int) 14):Int).toNat).length<17592186044416 then(some (bf,bW,aA,(wQ++(ak.take ((kv):Int).toNat)),(lD++(ai.take ((mn (ai.length:Int) 14):Int).toNat))))else(none))else(none))else(none)))else(none))else(none))else(none))=some (r1,r2,r3,r4,r5):=by first|(rw[hji88]at H;exact H)|(simp only[hji88]at H ⊢;exact H)
        have hji88_:(if 14<(ak.length:Int)then 14 else(ak.length:Int))=kv:=hji88;by_cases c89:0≤(kv)
        case neg=>
         rw[if_neg c89]at H;exact absurd H (by simp)
        rw[if_pos c89]at H;have e6a:=eq_true c89;have e7a:decide (0≤(kv))=true:=decide_eq_true c89;clear c89;obtain⟨c90,H⟩:=ifP H;have e8a:=eq_true c90;have e9a:decide ((kv)≤(ak.length:Int))=true:=decide_eq_true c90;clear c90;obtain⟨c91,H⟩:=ifP H;have VT:=Za.mk c91;clear c91;obtain⟨y153,hy153⟩:∃y_:List Int,y_=(wQ++(ak.take ((kv):Int).toNat)):=⟨_,rfl⟩;replace H:((some (([]:List Int):List Int)).bind fun lD=>(if 0≤(mn (ai.length:Int) 14)then(if(mn (ai.length:Int) 14)≤(ai.length:Int)then(if lD.length+(ai.take ((mn (ai.length:Int) 14):Int).toNat).length<17592186044416 then(some (bf,bW,aA,y153,(lD++(ai.take ((mn (ai.length:Int) 14):Int).toNat))))else(none))else(none))else(none)))=some (r1,r2,r3,r4,r5):=by first|(rw[hy153];with_reducible exact H)|(have H2_:=(Option.bind_some _ _).symm.trans H;rw[hy153];with_reducible exact H2_)|(have H2_:=(Option.bind_some _ _).symm.trans H;with_reducible exact H2_)|with_reducible exact H|(rw[hy153];exact H)|exact H
        have Wh:=Za.mk hy153;clear hy153;obtain⟨lD,Ch⟩:∃y_:List Int,y_=(([]:List Int)):=⟨_,rfl⟩;replace H:(if 0≤(mn (ai.length:Int) 14)then(if(mn (ai.length:Int) 14)≤(ai.length:Int)then(if lD.length+(ai.take ((mn (ai.length:Int) 14):Int).toNat).length<17592186044416 then(some (bf,bW,aA,y153,(lD++(ai.take ((mn (ai.length:Int) 14):Int).toNat))))else(none))else(none))else(none))=some (r1,r2,r3,r4,r5):=by first|(rw[Ch];with_reducible exact H)|(have H2_:=(Option.bind_some _ _).symm.trans H;rw[Ch];with_reducible exact H2_)|(have H2_:=(Option.bind_some _ _).symm.trans H;with_reducible exact H2_)|with_reducible exact H|(rw[Ch];exact H)|exact H
        have P9:=Za.mk Ch;clear Ch;obtain⟨kS,hji92⟩:∃j_:Int,(mn (ai.length:Int) 14)=j_:=⟨_,rfl⟩;replace H:(if 0≤(kS)then(if(kS)≤(ai.length:Int)then(if lD.length+(ai.take ((kS):Int).toNat).length<17592186044416 then(some (bf,bW,aA,y153,(lD++(ai.take ((kS):Int).toNat))))else(none))else(none))else(none))=some (r1,r2,r3,r4,r5):=by first|(rw[hji92]at H;exact H)|(simp only[hji92]at H ⊢;exact H)
        have hji92_:(if 14<(ai.length:Int)then 14 else(ai.length:Int))=kS:=hji92;obtain⟨c93,H⟩:=ifP H;have eBa:=eq_true c93;have eCa:decide (0≤(kS))=true:=decide_eq_true c93;clear c93;obtain⟨c94,H⟩:=ifP H;have Qx:=eq_true c94;have Qy:decide ((kS)≤(ai.length:Int))=true:=decide_eq_true c94;clear c94;obtain⟨c95,H⟩:=ifP H;have VU:=Za.mk c95;clear c95;obtain⟨y160,hy160⟩:∃y_:List Int,y_=(lD++(ai.take ((kS):Int).toNat)):=⟨_,rfl⟩;replace H:(some (bf,bW,aA,y153,y160))=some (r1,r2,r3,r4,r5):=by first|(rw[hy160];with_reducible exact H)|(have H2_:=(Option.bind_some _ _).symm.trans H;rw[hy160];with_reducible exact H2_)|(have H2_:=(Option.bind_some _ _).symm.trans H;with_reducible exact H2_)|with_reducible exact H|(rw[hy160];exact H)|exact H
        have Wi:=Za.mk hy160;clear hy160;simp only[Option.some.injEq,Prod.mk.injEq]at H;obtain⟨rfl,rfl,rfl,rfl,rfl⟩:=H
        go_wp2_with (first|((with_reducible refine Zaq (N:=120) rfl ?_);refine Kd.Zdb (Kd.int .i64) _ 3 ?hg (N:=120) ?hd (xs:=([]:List Int)) (inner:= []) (ok:=fun _=>True) (okp:=fun _=>True) ?hr ?hp (fun _ hk=>hk) trivial (Below.refl _ _) (Nat.le_refl _) (by simp) ?_;(case hd=>rfl);(case hg=>rfl);(case hr=>first|(go_simp;done)|(go_simp;rfl));(case hp=>exact(Reps.none _ _));intro c4a w96 Ez hb hg_ hnew_;clear hg_ hnew_;(first|rw[←P8.out]at Ez|(simp only[Int.reduceToNat]at Ez;rw[←P8.out]at Ez));replace aN:=Za.mk (Kd.Zex (sM aN.out) hb);replace bD:=Za.mk (Kd.Zd8 (rM bD.out) (Kd.Zc7 Ez) hb);have yB:=Za.mk (Kd.Zbl Ez (Zaf (bM HB.out)));replace bA:=Za.mk (kB bA.out hb);replace bB:=Za.mk (kB bB.out hb);replace aD:=Za.mk (kB aD.out hb);replace HB:=Za.mk (bS HB.out hb);clear hb Ez;have fca:=kK.out;have f5a:=kL.out;have fda:=gM.out;have f6a:=jd.out;obtain⟨d0a,d1a,d2a,d3a,d4a,dba,dca,dda,dea,dfa⟩:=cz5 bA.out;obtain⟨i0101,MO,_,hsz101,_⟩:=info_parts info3;obtain⟨hcut101,hA101,hC101⟩:=Zd3 (P:=Tryz.prog) (Value.int .i64) 0 24 3 .i64 Tryz.underlying24 MO hsz101 bT bU ak (kv) (of_decide_eq_true (by first|(with_reducible assumption)|assumption)) (of_decide_eq_true (by first|(with_reducible assumption)|assumption)) jP.out;have Kn:=Za.mk (Kd.Zeb (h1:=fun _=>rfl) (hA101 _ (Kd.Zec jR.out)));have eha:=Za.mk hC101;clear hA101 hC101 MO hsz101)|((with_reducible refine Zbo (b:= .append) (xs:=#[.tmp 120,.tmp 129]) rfl ?_);at_builtin;refine Kd.Zd (Kd.int .i64) (w0:=w) w.heap.size rfl (.tmp 120) (.tmp 129) 24 3 (.int .i64 0) 8 rfl Tryz.underlying24 info3 rfl (by decide) (by omega) c4a wQ (ak.take ((kv):Int).toNat) _ _ _ (fun _=>True) (fun _=>False) rfl rfl ?aO ?aR (fun _ _ h=>h) (fun _ h=>h.elim) ?aF ?aB ?aS ?aL ?_;(case aR=>first|(have q_:=(Kd.Zad Kn.out HB.out);rw[show(ak.take ((kv):Int).toNat).length=(kv).toNat from(by rw[List.length_take];have h_:((kv):Int)≤(ak.length:Int):=(by first|exact odt|(have h2_:=hji88_;split at h2_<;>omega));omega)]at q_;exact q_)|(rw[←show(ak.take ((kv):Int).toNat).length=(kv).toNat from(by rw[List.length_take];have h_:((kv):Int)≤(ak.length:Int):=(by first|exact odt|(have h2_:=hji88_;split at h2_<;>omega));omega)];repeat(first|exact(Kd.Zad Kn.out HB.out)|(with_reducible refine Kd.C_alloc ?_ _)|(with_reducible refine Kd.Zb6 ?_ _)|(with_reducible refine Kd.Zci ?_)))|(repeat(first|exact(Kd.Zad Kn.out HB.out)|(with_reducible refine Kd.C_alloc ?_ _)|(with_reducible refine Kd.Zb6 ?_ _)|(with_reducible refine Kd.Zci ?_))));(case aB=>exact(bM HB.out));(case aF=>exact(fun _ _=>trivial));(case aO=>exact(rM yB.out));(case aS=>exact(Zaf (bM HB.out)));(case aL=>have:=VT.out;have hlx_:=(show(ak.take ((kv):Int).toNat).length=(kv).toNat from(by rw[List.length_take];have h_:((kv):Int)≤(ak.length:Int):=(by first|exact odt|(have h2_:=hji88_;split at h2_<;>omega));omega));omega);intro v154 oNa ho hb hg hat;rw[←Wh.out]at ho;replace aN:=Za.mk (Kd.S_over' (sM aN.out) (Kd.Zef (rM yB.out)) (by decide) hg);replace bD:=Za.mk (Kd.Zdg (ok:=(fun _=>True)) (rM bD.out) hg hat);replace bA:=Za.mk (kG bA.out hg (Kd.R_ne yB.out bA.out (by decide)));replace bB:=Za.mk (kG bB.out hg (Kd.R_ne yB.out bB.out (by decide)));replace aD:=Za.mk (kG aD.out hg (Kd.R_ne yB.out aD.out (by decide)));replace HB:=Za.mk (hb);have sK:=Za.mk (ho);clear yB;clear ho hb hg hat;obtain⟨mJ,mP,Xw⟩:=Kd.Zbe sK.out;subst Xw;have cYa:=sV.out;have daa:=jF.out;obtain⟨d5a,d6a,d7a,d8a,d9a,dga,dha,dia,dja,dka⟩:=cz5 aD.out)|((with_reducible refine Zaq (N:=133) rfl ?_);refine Kd.Zdb (Kd.int .i64) _ 3 ?hg (N:=133) ?hd (xs:=([]:List Int)) (inner:= []) (ok:=fun _=>True) (okp:=fun _=>True) ?hr ?hp (fun _ hk=>hk) trivial (Below.refl _ _) (Nat.le_refl _) (by simp) ?_;(case hd=>rfl);(case hg=>rfl);(case hr=>first|(go_simp;done)|(go_simp;rfl));(case hp=>exact(Reps.none _ _));intro v157 oOa wG hb hg_ hnew_;clear hg_ hnew_;(first|rw[←P9.out]at wG|(simp only[Int.reduceToNat]at wG;rw[←P9.out]at wG));replace aN:=Za.mk (Kd.Zex (sM (Kd.Zd5 (Kd.Zds (p:=⟨dS,3,none⟩) (Kd.Zen aN.out aD.out (by decide)) (fun _ hk=>hk.2) (.slice mJ y153.length mP)) (fun _ h_=>h_.1))) hb);replace bD:=Za.mk (Kd.Zd8 (rM (Kd.Za4 (Kd.Zbp (p:=⟨dS,3,none⟩) (Kd.Zb5 bD.out aD.out (by decide)) (fun _ hk=>hk.2) (.slice mJ y153.length mP)) (fun _ h_=>h_.1))) (Kd.Zc7 wG) hb);have AX:=Za.mk (Kd.Zbl (Kd.Zez wG (Kd.R_lt (rM (Kd.Za4 (Kd.Zbp (p:=⟨dS,3,none⟩) (Kd.Zb5 sK.out aD.out (by decide)) (fun _ hk=>hk.2) (.slice mJ y153.length mP)) (fun _ h_=>h_.1))))) (Zaf (bM HB.out)));replace sK:=Za.mk (Kd.Zd8 (rM (Kd.Za4 (Kd.Zbp (p:=⟨dS,3,none⟩) (Kd.Zb5 sK.out aD.out (by decide)) (fun _ hk=>hk.2) (.slice mJ y153.length mP)) (fun _ h_=>h_.1))) (Kd.Zc7 wG) hb);replace bA:=Za.mk (Zcf (g:=iR) (o:= .cells #[.slice eG ag.length ek,.slice aW aa.length aT,.int .i64 aA,.slice bT ak.length bU,.slice bK ai.length bL] 28 (0,0)) (by(with_reducible repeat(first|exact bA.out|refine Zcr ?_ gM.out _|refine Zab ?_ _|refine Zah ?_|refine Zag ?_ _))) hb);replace bB:=Za.mk (Zcf (g:=dY) (o:= .cells #[.slice none 0 0,.slice none 0 0,.int .i64 0,.slice none 0 0,.slice none 0 0] 28 (0,0)) (by(with_reducible repeat(first|exact bB.out|refine Zcr ?_ jF.out _|refine Zab ?_ _|refine Zah ?_|refine Zag ?_ _))) hb);replace aD:=Za.mk (Zcf (g:=dS) (o:= .cells #[dR,gT,.int .i64 aA,.slice mJ y153.length mP,.slice bK ai.length bL] 28 (0,0)) (by(with_reducible repeat(first|refine Zag ?_ _|refine Zah ?_|refine Zab ?_ _));refine Zay (cs:=#[dR,gT,.int .i64 aA,.slice bT ak.length bU,.slice bK ai.length bL]) ?_ 3 _ rfl;(with_reducible repeat(first|refine Zag ?_ _|refine Zah ?_|refine Zab ?_ _));exact aD.out) hb);replace HB:=Za.mk (bS HB.out hb);clear hb wG;obtain⟨dAa,dBa,dCa,dDa,dEa,dla,dma,dna,doa,dpa⟩:=cz5 bA.out;obtain⟨i0109,MP,_,hsz109,_⟩:=info_parts info3;obtain⟨hcut109,hA109,hC109⟩:=Zd3 (P:=Tryz.prog) (Value.int .i64) 0 24 3 .i64 Tryz.underlying24 MP hsz109 bK bL ai (kS) (of_decide_eq_true (by first|(with_reducible assumption)|assumption)) (of_decide_eq_true (by first|(with_reducible assumption)|assumption)) jQ.out;have Ko:=Za.mk (Kd.Zeb (h1:=fun _=>rfl) (hA109 _ (Kd.Zec jS.out)));have eia:=Za.mk hC109;clear hA109 hC109 MP hsz109)|((with_reducible refine Zbo (b:= .append) (xs:=#[.tmp 133,.tmp 142]) rfl ?_);at_builtin;refine Kd.Zd (Kd.int .i64) (w0:=w) w.heap.size rfl (.tmp 133) (.tmp 142) 24 3 (.int .i64 0) 8 rfl Tryz.underlying24 info3 rfl (by decide) (by omega) v157 lD (ai.take ((kS):Int).toNat) _ _ _ (fun k_=>some k_≠(.slice mJ y153.length mP:Value).ownBlock) (fun _=>False) rfl rfl ?aO ?aR (fun _ _ h=>h) (fun _ h=>h.elim) ?aF ?aB ?aS ?aL ?_;(case aR=>first|(have q_:=(Kd.Zad Ko.out HB.out);rw[show(ai.take ((kS):Int).toNat).length=(kS).toNat from(by rw[List.length_take];have h_:((kS):Int)≤(ai.length:Int):=(by first|exact odt|(have h2_:=hji92_;split at h2_<;>omega));omega)]at q_;exact q_)|(rw[←show(ai.take ((kS):Int).toNat).length=(kS).toNat from(by rw[List.length_take];have h_:((kS):Int)≤(ai.length:Int):=(by first|exact odt|(have h2_:=hji92_;split at h2_<;>omega));omega)];repeat(first|exact(Kd.Zad Ko.out HB.out)|(with_reducible refine Kd.C_alloc ?_ _)|(with_reducible refine Kd.Zb6 ?_ _)|(with_reducible refine Kd.Zci ?_)))|(repeat(first|exact(Kd.Zad Ko.out HB.out)|(with_reducible refine Kd.C_alloc ?_ _)|(with_reducible refine Kd.Zb6 ?_ _)|(with_reducible refine Kd.Zci ?_))));(case aB=>exact(bM HB.out));(case aF=>exact(fun k_ hk=>Kd.fresh' (Kd.R_lt (rM sK.out)) k_ hk));(case aO=>exact(rM (Kd.Za4 AX.out (fun _ hk=>hk.2))));(case aS=>exact(Zaf (bM HB.out)));(case aL=>have:=VU.out;have hlx_:=(show(ai.take ((kS):Int).toNat).length=(kS).toNat from(by rw[List.length_take];have h_:((kS):Int)≤(ai.length:Int):=(by first|exact odt|(have h2_:=hji92_;split at h2_<;>omega));omega));omega);intro nNa oPa ho hb hg hat;rw[←Wi.out]at ho;replace aN:=Za.mk (Kd.S_over' (sM aN.out) (Kd.Zef (rM AX.out)) (by decide) hg);replace bD:=Za.mk (Kd.Zdg (ok:=(fun k_=>some k_≠(.slice mJ y153.length mP:Value).ownBlock)) (rM (Kd.Za4 bD.out (fun _ hk=>⟨hk.1.2,hk.2⟩))) hg hat);replace bB:=Za.mk (kG bB.out hg (Kd.R_ne AX.out bB.out (by decide)));replace aD:=Za.mk (kG aD.out hg (Kd.R_ne AX.out aD.out (by decide)));replace sK:=Za.mk (Kd.Zdg (ok:=(fun _=>True)) (rM sK.out) hg hat);replace HB:=Za.mk (hb);have Pp:=Za.mk (ho);clear bA AX;clear ho hb hg hat;obtain⟨qH,qM,Xx⟩:=Kd.Zbe Pp.out;subst Xx;obtain⟨dFa,dGa,dHa,dIa,dJa,dqa,dra,dsa,dta,dua⟩:=cz5 aD.out;obtain⟨qI,qN,Xy⟩:=Kd.S_slice aN.out;subst Xy;obtain⟨dKa,dLa,dMa,dNa,dOa,dva,dwa,dxa,dya,dza⟩:=cz5 bB.out;obtain⟨sJ,tF,Xz⟩:=Kd.Zbe bD.out;subst Xz))
        refine bodyPost_ret (results_cell_row rfl _ _ dY 28 #[.slice qI bf.length qN,.slice sJ bW.length tF,.int .i64 aA,.slice mJ y153.length mP,.slice qH y160.length qM] (0,0) _ rfl (by(with_reducible repeat(first|refine Zag ?_ _|refine Zah ?_|refine Zab ?_ _));refine Zay (cs:=#[.slice qI bf.length qN,.slice sJ bW.length tF,.int .i64 aA,.slice mJ y153.length mP,.slice none 0 0]) ?_ 4 _ rfl;(with_reducible repeat(first|refine Zag ?_ _|refine Zah ?_|refine Zab ?_ _));refine Zay (cs:=#[.slice qI bf.length qN,.slice sJ bW.length tF,.int .i64 aA,.slice none 0 0,.slice none 0 0]) ?_ 3 _ rfl;(with_reducible repeat(first|refine Zag ?_ _|refine Zah ?_|refine Zab ?_ _));refine Zay (cs:=#[.slice qI bf.length qN,.slice sJ bW.length tF,.int .i64 0,.slice none 0 0,.slice none 0 0]) ?_ 2 _ rfl;(with_reducible repeat(first|refine Zag ?_ _|refine Zah ?_|refine Zab ?_ _));refine Zay (cs:=#[.slice qI bf.length qN,.slice none 0 0,.int .i64 0,.slice none 0 0,.slice none 0 0]) ?_ 1 _ rfl;(with_reducible repeat(first|refine Zag ?_ _|refine Zah ?_|refine Zab ?_ _));refine Zay (cs:=#[.slice none 0 0,.slice none 0 0,.int .i64 0,.slice none 0 0,.slice none 0 0]) ?_ 0 _ rfl;(with_reducible repeat(first|refine Zag ?_ _|refine Zah ?_|refine Zab ?_ _));refine Zcr ?_ jF.out _;(with_reducible repeat(first|refine Zag ?_ _|refine Zah ?_|refine Zab ?_ _));exact bB.out) Tryz.underlying28 rfl (by kernel_rfl)) rfl ?_;exact⟨_,_,_,_,by first|rfl|(simp[Zdo,Zdp]<;>rfl)|(simp only[←hji88,←hji92];first|rfl|(simp[Zdo,Zdp]<;>rfl))|(simp[*,Zdo,Zdp]<;>rfl),sM (Kd.Zd5 (Kd.Zds (p:=⟨dY,4,none⟩) (Kd.Zds (p:=⟨dY,3,none⟩) (Kd.Zds (p:=⟨dY,2,none⟩) (Kd.Zds (p:=⟨dY,1,none⟩) (Kd.Zds (p:=⟨dY,0,none⟩) (Kd.Zds (p:=⟨dS,4,none⟩) (Kd.Zen (Kd.Zen aN.out aD.out (by decide)) bB.out (by decide)) (fun _ hk=>hk.1.2) (.slice qH y160.length qM)) (fun _ hk=>hk.2) (.slice qI bf.length qN)) (fun _ hk=>hk.2) (.slice sJ bW.length tF)) (fun _ hk=>hk.2) (.int .i64 aA)) (fun _ hk=>hk.2) (.slice mJ y153.length mP)) (fun _ hk=>hk.2) (.slice qH y160.length qM)) (fun _ hk=>trivial)),rM (Kd.Za4 (Kd.Zbp (p:=⟨dY,4,none⟩) (Kd.Zbp (p:=⟨dY,3,none⟩) (Kd.Zbp (p:=⟨dY,2,none⟩) (Kd.Zbp (p:=⟨dY,1,none⟩) (Kd.Zbp (p:=⟨dY,0,none⟩) (Kd.Zbp (p:=⟨dS,4,none⟩) (Kd.Zb5 (Kd.Zb5 bD.out aD.out (by decide)) bB.out (by decide)) (fun _ hk=>hk.1.2) (.slice qH y160.length qM)) (fun _ hk=>hk.2) (.slice qI bf.length qN)) (fun _ hk=>hk.2) (.slice sJ bW.length tF)) (fun _ hk=>hk.2) (.int .i64 aA)) (fun _ hk=>hk.2) (.slice mJ y153.length mP)) (fun _ hk=>hk.2) (.slice qH y160.length qM)) (fun _ hk=>⟨hk.1.1.1,hk.1.1.2⟩)),rM (Kd.Za4 (Kd.Zbp (p:=⟨dY,4,none⟩) (Kd.Zbp (p:=⟨dY,3,none⟩) (Kd.Zbp (p:=⟨dY,2,none⟩) (Kd.Zbp (p:=⟨dY,1,none⟩) (Kd.Zbp (p:=⟨dY,0,none⟩) (Kd.Zbp (p:=⟨dS,4,none⟩) (Kd.Zb5 (Kd.Zb5 sK.out aD.out (by decide)) bB.out (by decide)) (fun _ hk=>hk.1.2) (.slice qH y160.length qM)) (fun _ hk=>hk.2) (.slice qI bf.length qN)) (fun _ hk=>hk.2) (.slice sJ bW.length tF)) (fun _ hk=>hk.2) (.int .i64 aA)) (fun _ hk=>hk.2) (.slice mJ y153.length mP)) (fun _ hk=>hk.2) (.slice qH y160.length qM)) (fun _ hk=>hk.1.1.2)),rM (Kd.Za4 (Kd.Zbp (p:=⟨dY,4,none⟩) (Kd.Zbp (p:=⟨dY,3,none⟩) (Kd.Zbp (p:=⟨dY,2,none⟩) (Kd.Zbp (p:=⟨dY,1,none⟩) (Kd.Zbp (p:=⟨dY,0,none⟩) (Kd.Zbp (p:=⟨dS,4,none⟩) (Kd.Zb5 (Kd.Zb5 Pp.out aD.out (by decide)) bB.out (by decide)) (fun _ hk=>hk.1.2) (.slice qH y160.length qM)) (fun _ hk=>hk.2) (.slice qI bf.length qN)) (fun _ hk=>hk.2) (.slice sJ bW.length tF)) (fun _ hk=>hk.2) (.int .i64 aA)) (fun _ hk=>hk.2) (.slice mJ y153.length mP)) (fun _ hk=>hk.2) (.slice qH y160.length qM)) (fun _ hk=>hk.1.1)),bM HB.out⟩
       subst c54;have H1:(if 0≤ae then(if ae<(aa.length:Int)then(if 0≤(mn (((Zac aa ae).f1).length:Int) 14)then(if(mn (((Zac aa ae).f1).length:Int) 14)≤(((Zac aa ae).f1).length:Int)then(if 0≤(mn (((Zac aa ae).f2).length:Int) 14)then(if(mn (((Zac aa ae).f2).length:Int) 14)≤(((Zac aa ae).f2).length:Int)then((bRows.f ((Zac aa ae).f5)).bind fun t167=>((Zcn.f kj45 ((Zac aa ae).f0) (((Zac aa ae).f1).take ((mn (((Zac aa ae).f1).length:Int) 14):Int).toNat) (((Zac aa ae).f2).take ((mn (((Zac aa ae).f2).length:Int) 14):Int).toNat) ((Zac aa ae).f3) ((Zac aa ae).f4) t167 ((Zac aa ae).f6)).bind fun eH=>(if bW.length<1353245080339 then(Zaa.l1 kj45 (wrap64 (ae+1)) ag aa aA ak ai bf (bW++ [(⟨eH.1,eH.2.1,eH.2.2.1,eH.2.2.2.1,eH.2.2.2.2.1,eH.2.2.2.2.2.1,eH.2.2.2.2.2.2⟩:S36)]) aA ak ai)else(none))))else(none))else(none))else(none))else(none))else(none))else(none))=some (r1,r2,r3,r4,r5):=by rw[if_pos rfl]at H;exact H
       clear H;have H:=H1;clear H1;obtain⟨ewa,H⟩:=ifT H;obtain⟨exa,H⟩:=ifT H;obtain⟨fV,hji57⟩:∃j_:Int,(mn (((Zac aa ae).f1).length:Int) 14)=j_:=⟨_,rfl⟩;replace H:(if 0≤(fV)then(if(fV)≤(((Zac aa ae).f1).length:Int)then(if 0≤(mn (((Zac aa ae).f2).length:Int) 14)then(if(mn (((Zac aa ae).f2).length:Int) 14)≤(((Zac aa ae).f2).length:Int)then((bRows.f ((Zac aa ae).f5)).bind fun t167=>((Zcn.f kj45 ((Zac aa ae).f0) (((Zac aa ae).f1).take ((fV):Int).toNat) (((Zac aa ae).f2).take ((mn (((Zac aa ae).f2).length:Int) 14):Int).toNat) ((Zac aa ae).f3) ((Zac aa ae).f4) t167 ((Zac aa ae).f6)).bind fun eH=>(if bW.length<1353245080339 then(Zaa.l1 kj45 (wrap64 (ae+1)) ag aa aA ak ai bf (bW++ [(⟨eH.1,eH.2.1,eH.2.2.1,eH.2.2.2.1,eH.2.2.2.2.1,eH.2.2.2.2.2.1,eH.2.2.2.2.2.2⟩:S36)]) aA ak ai)else(none))))else(none))else(none))else(none))else(none))=some (r1,r2,r3,r4,r5):=by first|(rw[hji57]at H;exact H)|(simp only[hji57]at H ⊢;exact H)
       have hji57_:(if 14<(((Zac aa ae).f1).length:Int)then 14 else(((Zac aa ae).f1).length:Int))=fV:=hji57;obtain⟨c58,H⟩:=ifP H;have Qv:=eq_true c58;have Qw:decide (0≤(fV))=true:=decide_eq_true c58;clear c58;obtain⟨c59,H⟩:=ifP H;have eza:=eq_true c59;have e0a:decide ((fV)≤(((Zac aa ae).f1).length:Int))=true:=decide_eq_true c59;clear c59;obtain⟨ic,hji60⟩:∃j_:Int,(mn (((Zac aa ae).f2).length:Int) 14)=j_:=⟨_,rfl⟩;replace H:(if 0≤(ic)then(if(ic)≤(((Zac aa ae).f2).length:Int)then((bRows.f ((Zac aa ae).f5)).bind fun t167=>((Zcn.f kj45 ((Zac aa ae).f0) (((Zac aa ae).f1).take ((fV):Int).toNat) (((Zac aa ae).f2).take ((ic):Int).toNat) ((Zac aa ae).f3) ((Zac aa ae).f4) t167 ((Zac aa ae).f6)).bind fun eH=>(if bW.length<1353245080339 then(Zaa.l1 kj45 (wrap64 (ae+1)) ag aa aA ak ai bf (bW++ [(⟨eH.1,eH.2.1,eH.2.2.1,eH.2.2.2.1,eH.2.2.2.2.1,eH.2.2.2.2.2.1,eH.2.2.2.2.2.2⟩:S36)]) aA ak ai)else(none))))else(none))else(none))=some (r1,r2,r3,r4,r5):=by first|(rw[hji60]at H;exact H)|(simp only[hji60]at H ⊢;exact H)
       have hji60_:(if 14<(((Zac aa ae).f2).length:Int)then 14 else(((Zac aa ae).f2).length:Int))=ic:=hji60;obtain⟨c61,H⟩:=ifP H;have e1a:=eq_true c61;have e2a:decide (0≤(ic))=true:=decide_eq_true c61;clear c61;obtain⟨c62,H⟩:=ifP H;have Xo:=eq_true c62;have e3a:decide ((ic)≤(((Zac aa ae).f2).length:Int))=true:=decide_eq_true c62;clear c62;obtain⟨t167,A63,H⟩:=bnd H;replace H:((Zcn.f kj45 ((Zac aa ae).f0) (((Zac aa ae).f1).take ((fV):Int).toNat) (((Zac aa ae).f2).take ((ic):Int).toNat) ((Zac aa ae).f3) ((Zac aa ae).f4) t167 ((Zac aa ae).f6)).bind fun eH=>(if bW.length<1353245080339 then(Zaa.l1 kj45 (wrap64 (ae+1)) ag aa aA ak ai bf (bW++ [(⟨eH.1,eH.2.1,eH.2.2.1,eH.2.2.2.1,eH.2.2.2.2.1,eH.2.2.2.2.2.1,eH.2.2.2.2.2.2⟩:S36)]) aA ak ai)else(none)))=some (r1,r2,r3,r4,r5):=H;obtain⟨⟨ED,t171,Af,EE,EF,Ag,t182⟩,A64,H⟩:=bnd H;replace H:(if bW.length<1353245080339 then(Zaa.l1 kj45 (wrap64 (ae+1)) ag aa aA ak ai bf (bW++ [(⟨ED,t171,Af,EE,EF,Ag,t182⟩:S36)]) aA ak ai)else(none))=some (r1,r2,r3,r4,r5):=H;obtain⟨c65,H⟩:=ifP H;have VS:=Za.mk c65;clear c65;obtain⟨Ih,Ci⟩:∃y_:List (S36),y_=(bW++ [(⟨ED,t171,Af,EE,EF,Ag,t182⟩:S36)]):=⟨_,rfl⟩;replace H:(Zaa.l1 kj45 (wrap64 (ae+1)) ag aa aA ak ai bf Ih aA ak ai)=some (r1,r2,r3,r4,r5):=by first|(rw[Ci];with_reducible exact H)|(have H2_:=(Option.bind_some _ _).symm.trans H;rw[Ci];with_reducible exact H2_)|(have H2_:=(Option.bind_some _ _).symm.trans H;with_reducible exact H2_)|with_reducible exact H|(rw[Ci];exact H)|exact H
       have Wj:=Za.mk Ci;clear Ci;have H':=Za.mk H;clear H;have eWa:=kK.out;have fya:=kL.out;have eXa:=gM.out;have fza:=jd.out;obtain⟨lka,lla,lma,lna,loa,h7a,h8a,h9a,hAa,hCa⟩:=cz5 bA.out;have nAa:(0≤(ae:Int))=True:=teq;have nDa:(ae<(aa.length:Int))=True:=teq;obtain⟨K6,dE,dF,dN,dO,iB,gX,rfl,Jb,Jc,Jd,Je,Jf,Jg,Jh,IR,IG,IU,II,IV,IJ⟩:=at_T36 eD.out ae odt odt;replace Jb:=hB HB.out Jb;replace Jc:=hB HB.out Jc;replace Jd:=hB HB.out Jd;replace Je:=hB HB.out Je;replace Jf:=hB HB.out Jf;replace Jg:=hB HB.out Jg;replace Jh:=hB HB.out Jh;have Sa:=Za.mk IG;have RL:=Za.mk IR;clear IG IR;have Sb:=Za.mk II;have RN:=Za.mk IU;clear II IU;have Sc:=Za.mk IJ;have cMa:=Za.mk IV;clear IJ IV;have WB164:=Za.mk (Below.refl w.heap.size w)
       go_upto_region 13 with (first|((with_reducible refine Zaq (N:=7) rfl ?_);refine bx 7 #[.int .i64 0,.slice none 0 0,.slice none 0 0,.int .i64 0,.int .i64 0,.slice none 0 0,.int .i64 0] 36 ?_;intro aU hg w69 hbox hb;replace aN:=Za.mk (Kd.Zex (sM aN.out) hb);replace bD:=Za.mk (Kd.Zbn (Kd.R_elderB (rM bD.out) aU (Nat.le_of_eq hg.symm)) hb);have dA:=Za.mk (hbox);have GW164:=Za.mk ((gE hg HB.out:w.heap.size≤aU));have Vt:=Za.mk ((gE hg HB.out:w.heap.size≤aU));replace HB:=Za.mk (bS HB.out hb);have sS:=Za.mk ((by rw[hg];exact Nat.ne_of_lt (Zc1 (kM bA.out)):iR≠aU));have MI:=Za.mk ((by rw[hg];exact Nat.ne_of_gt (Zc1 (kM bA.out)):aU≠iR));replace bA:=Za.mk (kB bA.out hb);have sU:=Za.mk ((by rw[hg];exact Nat.ne_of_lt (Zc1 (kM bB.out)):dY≠aU));have MJ:=Za.mk ((by rw[hg];exact Nat.ne_of_gt (Zc1 (kM bB.out)):aU≠dY));replace bB:=Za.mk (kB bB.out hb);have q8:=Za.mk ((by rw[hg];exact Nat.ne_of_lt (Zc1 (kM aD.out)):dS≠aU));have EU:=Za.mk ((by rw[hg];exact Nat.ne_of_gt (Zc1 (kM aD.out)):aU≠dS));replace aD:=Za.mk (kB aD.out hb);clear hb hbox hg;have eYa:=MI.out;have f2a:=sS.out;have faa:=MJ.out;have f3a:=sU.out;have fba:=EU.out;have f4a:=q8.out;obtain⟨aKa,aLa,aMa,aNa,aOa,aPa,aQa,YB,YC,YD,YE,YF,YG,YH⟩:=cz7 dA.out;obtain⟨i074,Q9,_,hsz74,_⟩:=info_parts info3;obtain⟨hcut74,hA74,hC74⟩:=Zd3 (P:=Tryz.prog) (Value.int .i64) 0 24 3 .i64 Tryz.underlying24 Q9 hsz74 dE dF ((Zac aa ae).f1) (fV) (of_decide_eq_true (by first|(with_reducible assumption)|assumption)) (of_decide_eq_true (by first|(with_reducible assumption)|assumption)) RL.out;have VO:=Za.mk (Kd.Zeb (h1:=fun _=>rfl) (hA74 _ (Kd.Zec Sa.out)));have Vz:=Za.mk hC74;clear hA74 hC74 Q9 hsz74;obtain⟨i075,QA,_,hsz75,_⟩:=info_parts info3;obtain⟨hcut75,hA75,hC75⟩:=Zd3 (P:=Tryz.prog) (Value.int .i64) 0 24 3 .i64 Tryz.underlying24 QA hsz75 dN dO ((Zac aa ae).f2) (ic) (of_decide_eq_true (by first|(with_reducible assumption)|assumption)) (of_decide_eq_true (by first|(with_reducible assumption)|assumption)) RN.out;have VP:=Za.mk (Kd.Zeb (h1:=fun _=>rfl) (hA75 _ (Kd.Zec Sb.out)));have V3:=Za.mk hC75;clear hA75 hC75 QA hsz75))
       obtain⟨wX,hX⟩:∃x_:World,x_=(((((((((w69.setCell ⟨aU,0,none⟩ (.int .i64 ((Zac aa ae).f0))).setCell ⟨aU,1,none⟩ (.slice dE ((Zac aa ae).f1).length dF)).setCell ⟨aU,2,none⟩ (.slice dN ((Zac aa ae).f2).length dO)).setCell ⟨aU,3,none⟩ (.int .i64 ((Zac aa ae).f3))).setCell ⟨aU,4,none⟩ (.int .i64 ((Zac aa ae).f4))).setCell ⟨aU,5,none⟩ (.slice iB ((Zac aa ae).f5).length gX)).setCell ⟨aU,6,none⟩ (.int .i64 ((Zac aa ae).f6))).setCell ⟨aU,1,none⟩ (.slice dE (((Zac aa ae).f1).take ((fV):Int).toNat).length dF)).setCell ⟨aU,2,none⟩ (.slice dN (((Zac aa ae).f2).take ((ic):Int).toNat).length dO)):=⟨_,rfl⟩;have BX:Za (wX.heap[aU]? =some (.cells #[.int .i64 ((Zac aa ae).f0),.slice dE (((Zac aa ae).f1).take ((fV):Int).toNat).length dF,.slice dN (((Zac aa ae).f2).take ((ic):Int).toNat).length dO,.int .i64 ((Zac aa ae).f3),.int .i64 ((Zac aa ae).f4),.slice iB ((Zac aa ae).f5).length gX,.int .i64 ((Zac aa ae).f6)] 36 (0,0))):=⟨by rw[hX];(with_reducible repeat(first|refine Zag ?_ _|refine Zah ?_|refine Zab ?_ _));refine Zay (cs:=#[.int .i64 ((Zac aa ae).f0),.slice dE (((Zac aa ae).f1).take ((fV):Int).toNat).length dF,.slice dN ((Zac aa ae).f2).length dO,.int .i64 ((Zac aa ae).f3),.int .i64 ((Zac aa ae).f4),.slice iB ((Zac aa ae).f5).length gX,.int .i64 ((Zac aa ae).f6)]) ?_ 2 _ rfl;(with_reducible repeat(first|refine Zag ?_ _|refine Zah ?_|refine Zab ?_ _));refine Zay (cs:=#[.int .i64 ((Zac aa ae).f0),.slice dE ((Zac aa ae).f1).length dF,.slice dN ((Zac aa ae).f2).length dO,.int .i64 ((Zac aa ae).f3),.int .i64 ((Zac aa ae).f4),.slice iB ((Zac aa ae).f5).length gX,.int .i64 ((Zac aa ae).f6)]) ?_ 1 _ rfl;(with_reducible repeat(first|refine Zag ?_ _|refine Zah ?_|refine Zab ?_ _));refine Zay (cs:=#[.int .i64 ((Zac aa ae).f0),.slice dE ((Zac aa ae).f1).length dF,.slice dN ((Zac aa ae).f2).length dO,.int .i64 ((Zac aa ae).f3),.int .i64 ((Zac aa ae).f4),.slice iB ((Zac aa ae).f5).length gX,.int .i64 0]) ?_ 6 _ rfl;(with_reducible repeat(first|refine Zag ?_ _|refine Zah ?_|refine Zab ?_ _));refine Zay (cs:=#[.int .i64 ((Zac aa ae).f0),.slice dE ((Zac aa ae).f1).length dF,.slice dN ((Zac aa ae).f2).length dO,.int .i64 ((Zac aa ae).f3),.int .i64 ((Zac aa ae).f4),.slice none 0 0,.int .i64 0]) ?_ 5 _ rfl;(with_reducible repeat(first|refine Zag ?_ _|refine Zah ?_|refine Zab ?_ _));refine Zay (cs:=#[.int .i64 ((Zac aa ae).f0),.slice dE ((Zac aa ae).f1).length dF,.slice dN ((Zac aa ae).f2).length dO,.int .i64 ((Zac aa ae).f3),.int .i64 0,.slice none 0 0,.int .i64 0]) ?_ 4 _ rfl;(with_reducible repeat(first|refine Zag ?_ _|refine Zah ?_|refine Zab ?_ _));refine Zay (cs:=#[.int .i64 ((Zac aa ae).f0),.slice dE ((Zac aa ae).f1).length dF,.slice dN ((Zac aa ae).f2).length dO,.int .i64 0,.int .i64 0,.slice none 0 0,.int .i64 0]) ?_ 3 _ rfl;(with_reducible repeat(first|refine Zag ?_ _|refine Zah ?_|refine Zab ?_ _));refine Zay (cs:=#[.int .i64 ((Zac aa ae).f0),.slice dE ((Zac aa ae).f1).length dF,.slice none 0 0,.int .i64 0,.int .i64 0,.slice none 0 0,.int .i64 0]) ?_ 2 _ rfl;(with_reducible repeat(first|refine Zag ?_ _|refine Zah ?_|refine Zab ?_ _));refine Zay (cs:=#[.int .i64 ((Zac aa ae).f0),.slice none 0 0,.slice none 0 0,.int .i64 0,.int .i64 0,.slice none 0 0,.int .i64 0]) ?_ 1 _ rfl;(with_reducible repeat(first|refine Zag ?_ _|refine Zah ?_|refine Zab ?_ _));refine Zay (cs:=#[.int .i64 0,.slice none 0 0,.slice none 0 0,.int .i64 0,.int .i64 0,.slice none 0 0,.int .i64 0]) ?_ 0 _ rfl;(with_reducible repeat(first|refine Zag ?_ _|refine Zah ?_|refine Zab ?_ _));exact dA.out⟩;have HBW:Za (Below w.heap.size w wX):=⟨by rw[hX];repeat(first|(with_reducible first|exact HB.out|apply Zbi|apply Zcb|apply Zcq|refine Zb ?_ Vq.out|refine Zb ?_ Vr.out|refine Zb ?_ Vs.out|refine Zb ?_ Vt.out)|exact HB.out)⟩;have eL1:(((Zac aa ae).f1).take (fV:Int).toNat).length=(fV:Int).toNat:=by(have h_:(fV:Int)≤(((Zac aa ae).f1).length:Int):=of_decide_eq_true (by first|(with_reducible assumption)|assumption));rw[List.length_take];omega
       have eL2:(((Zac aa ae).f2).take (ic:Int).toNat).length=(ic:Int).toNat:=by(have h_:(ic:Int)≤(((Zac aa ae).f2).length:Int):=of_decide_eq_true (by first|(with_reducible assumption)|assumption));rw[List.length_take];omega
       have eT:(((((((((w69.setCell ⟨aU,0,none⟩ (.int .i64 ((Zac aa ae).f0))).setCell ⟨aU,1,none⟩ (.slice dE ((Zac aa ae).f1).length dF)).setCell ⟨aU,2,none⟩ (.slice dN ((Zac aa ae).f2).length dO)).setCell ⟨aU,3,none⟩ (.int .i64 ((Zac aa ae).f3))).setCell ⟨aU,4,none⟩ (.int .i64 ((Zac aa ae).f4))).setCell ⟨aU,5,none⟩ (.slice iB ((Zac aa ae).f5).length gX)).setCell ⟨aU,6,none⟩ (.int .i64 ((Zac aa ae).f6))).setCell ⟨aU,1,none⟩ (.slice dE (fV:Int).toNat dF)).setCell ⟨aU,2,none⟩ (.slice dN (ic:Int).toNat dO))=wX:=by rw[hX,eL1,eL2]
       rw[eT];clear eT eL1 eL2;have HX:=Za.mk hX;clear hX
       go_upto_block 4 with (first|((with_reducible refine Zaq (N:=83) rfl ?_);refine Kd.S_lit (Kd.slice 3 (Kd.int .i64)) _ 24 ?hg (N:=83) ?hd (xs:=([]:List (List Int))) (inner:= []) (ok:=fun _=>True) (okp:=fun _=>True) ?hr ?hp (fun _ hk=>hk) trivial (Below.refl _ _) (Nat.le_refl _) (by simp) ?_;(case hd=>rfl);(case hg=>rfl);(case hr=>first|(go_simp;done)|(go_simp;rfl));(case hp=>exact(Reps.none _ _));intro vL wL hoL hb hg_ hnew_;clear hg_ hnew_;have HL:=Za.mk (Kd.Zce (ok':=fun k_=>k_<w.heap.size∨wX.heap.size≤k_) (Kd.S_N (Kd.Ze5 hoL)) (fun k_ hk_=> .inr hk_.2.1));have HBL:=Za.mk hb;clear hb hoL))
       (try simp only[Act.put,List.setIfInBounds_toArray,List.set_cons_zero,List.set_cons_succ])
       go_cut [8] (fun v8 wc=>∃vr:Value,vr=v8∧Za (Kd.N (Kd.slice 3 (Kd.int .i64)) 24 wc wX.heap.size (fun k_=>k_<w.heap.size∨wX.heap.size≤k_) vr t167)∧Za (Below wX.heap.size wX wc))
       case first=>
        obtain rfl:cutR (Zac aa ae).f5=t167:=Option.some.inj A63.out;clear A63;go_wp2
        go_loopg [8,9] 21 (fun kq v8 v9 w'=>∃(n:Nat) (x:Int),v9= .int .i64 x∧Za (x=(n:Int))∧Za (n+kq=21)∧Za (n≤((Zac aa ae).f5).length∧n≤20)∧Za (Kd.N (Kd.slice 3 (Kd.int .i64)) 24 w' wX.heap.size (fun k_=>k_<w.heap.size∨wX.heap.size≤k_) v8 ((((Zac aa ae).f5).take n).map fun r=>r.take 14))∧Za (Below wX.heap.size wX w'))
        case atStart=>exact⟨0,0,rfl,⟨rfl⟩,⟨rfl⟩,⟨Nat.zero_le _,Nat.zero_le _⟩,⟨nM HL.out⟩,⟨bM HBL.out⟩⟩
        case round=>
         clear HL HBL;obtain⟨n,x,rfl,HE,HK,HN,HO8,HBL⟩:=hrel
         cases gk with
         | zero => exact absurd HK.out (by have := HN.out.2; omega)
         |succ kI=>
          have BXr:=Za.mk (Zcf (g:=aU) (o:= .cells #[.int .i64 ((Zac aa ae).f0),.slice dE (((Zac aa ae).f1).take ((fV):Int).toNat).length dF,.slice dN (((Zac aa ae).f2).take ((ic):Int).toNat).length dO,.int .i64 ((Zac aa ae).f3),.int .i64 ((Zac aa ae).f4),.slice iB ((Zac aa ae).f5).length gX,.int .i64 ((Zac aa ae).f6)] 36 (0,0)) BX.out HBL.out);obtain⟨hczI_0,hczI_1,hczI_2,hczI_3,hczI_4,hczI_5,hczI_6,hfzI_0,hfzI_1,hfzI_2,hfzI_3,hfzI_4,hfzI_5,hfzI_6⟩:=cz7 BXr.out;by_cases c1:n<((Zac aa ae).f5).length
          case neg=>
           have d1:decide (x<(((Zac aa ae).f5).length:Int))=false:=decide_eq_false (by have:=HE.out;omega);have d1p:¬(x<(((Zac aa ae).f5).length:Int)):=by have:=HE.out;omega
           have HOF:Za (Kd.N (Kd.slice 3 (Kd.int .i64)) 24 wr wX.heap.size (fun k_=>k_<w.heap.size∨wX.heap.size≤k_) u8 (cutR (Zac aa ae).f5)):=⟨by have e_:cutR (Zac aa ae).f5=(((Zac aa ae).f5).take n).map fun r=>r.take 14:=(by have h1_:=HN.out;unfold cutR;rw[List.take_of_length_le (by omega:((Zac aa ae).f5).length≤n),List.take_of_length_le (by omega:((Zac aa ae).f5).length≤20)]);rw[e_];exact HO8.out⟩;clear c1;go_wp2
           go_meet
           case rel=>exact⟨_,rfl,⟨nM HOF.out⟩,⟨bM HBL.out⟩⟩
          have d1:decide (x<(((Zac aa ae).f5).length:Int))=true:=decide_eq_true (by have:=HE.out;omega);by_cases c2:n<20
          case neg=>
           have d2:decide (x<20)=false:=decide_eq_false (by have:=HE.out;omega);have d2p:¬(x<20):=by have:=HE.out;omega
           have HOF:Za (Kd.N (Kd.slice 3 (Kd.int .i64)) 24 wr wX.heap.size (fun k_=>k_<w.heap.size∨wX.heap.size≤k_) u8 (cutR (Zac aa ae).f5)):=⟨by have e_:cutR (Zac aa ae).f5=(((Zac aa ae).f5).take n).map fun r=>r.take 14:=(by have h1_:=HN.out;unfold cutR;rw[show n=20 by omega]);rw[e_];exact HO8.out⟩;clear c1 c2;go_wp2
           go_meet
           case rel=>exact⟨_,rfl,⟨nM HOF.out⟩,⟨bM HBL.out⟩⟩
          have d2:decide (x<20)=true:=decide_eq_true (by have:=HE.out;omega);obtain⟨HK1,HN1,LMI,HEW,JI,JJ⟩:Za (n+1+kI=21)∧Za (n+1≤((Zac aa ae).f5).length∧n+1≤20)∧Za (((((Zac aa ae).f5).take n).map fun r=>r.take 14).length<5864062014805)∧Za (wrap64 (x+1)=((n+1:Nat):Int))∧Za ((0:Int)≤x)∧Za (x<(((Zac aa ae).f5).length:Int)):=⟨⟨by have:=HK.out;omega⟩,⟨by omega,by omega⟩,⟨by rw[List.length_map,List.length_take];omega⟩,⟨by rw[HE.out];unfold wrap64;omega⟩,⟨by have:=HE.out;omega⟩,⟨by have:=HE.out;omega⟩⟩;have RE:Za (((((Zac aa ae).f5).take n).map fun r=>r.take 14)++ [(Zco ((Zac aa ae).f5) x).take 14]=(((Zac aa ae).f5).take (n+1)).map fun r=>r.take 14):=⟨by rw[List.take_succ_eq_append_getElem c1,List.map_append,HE.out];simp[Zco,List.getD_eq_getElem?_getD,List.getElem?_eq_getElem c1]⟩;clear c1 c2;obtain⟨adI,AI,cI,eI,hxI,hlI,hiI⟩:=Zfq Sc.out x JI.out JJ.out;cases eI;have HBwr:=Za.mk (Zae HBW.out HBL.out);replace hxI:=Za.mk hxI;obtain⟨jI,hjI⟩:∃j_:Int,(mn ((Zco ((Zac aa ae).f5) x).length:Int) 14)=j_:=⟨_,rfl⟩;have hjI_:(if 14<((Zco ((Zac aa ae).f5) x).length:Int)then 14 else((Zco ((Zac aa ae).f5) x).length:Int))=jI:=hjI;have hj0:0≤jI:=by rw[←hjI_];split<;>omega
          have hj1:jI≤((Zco ((Zac aa ae).f5) x).length:Int):=by rw[←hjI_];split<;>omega
          have RJ:Za ((Zco ((Zac aa ae).f5) x).take jI.toNat=(Zco ((Zac aa ae).f5) x).take 14):=⟨by rw[←hjI_];split<;>(first|rfl|(rw[List.take_of_length_le (by omega),List.take_of_length_le (by omega)]))⟩;have eLI:=Za.mk (show((Zco ((Zac aa ae).f5) x).take jI.toNat).length=jI.toNat by rw[List.length_take];omega);obtain⟨i0I,hi0I,_,hszI,_⟩:=info_parts info3;obtain⟨hcutI,hAI,hCI⟩:=Zd3 (P:=Tryz.prog) (Value.int .i64) 0 24 3 .i64 Tryz.underlying24 hi0I hszI AI cI (Zco ((Zac aa ae).f5) x) jI hj0 hj1 hlI;have HIT:=Za.mk (Kd.Zeb (h1:=fun _=>rfl) (hAI _ (Kd.Zec hiI)));have HCI:=Za.mk hCI;clear hAI hCI hi0I hszI hiI;have j0b:decide (0≤jI)=true:=decide_eq_true hj0;have j1b:decide (jI≤((Zco ((Zac aa ae).f5) x).length:Int))=true:=decide_eq_true hj1;replace hj0:=eq_true hj0;replace hj1:=eq_true hj1;have x0:decide (0≤x)=true:=decide_eq_true JI.out;have p0:=eq_true JI.out;have q0:=eq_true JJ.out;have FKI:∀W:World,Below w.heap.size w W→Kd.FK (Kd.slice 3 (Kd.int .i64)) W (fun k_=>(k_<w.heap.size∨wX.heap.size≤k_)∧some k_≠(u8:Value).ownBlock) ((Zco ((Zac aa ae).f5) x).take jI.toNat) [.slice AI ((Zco ((Zac aa ae).f5) x).take jI.toNat).length cI]:=fun W hW=>Kd.Ze1 HCI.out (Kd.Zhp (Kd.Zf6 (Kd.C_F (Kd.heap_int .i64) HIT.out) hW) (fun k_ hk_=>⟨.inl hk_,fun e_=>by have h1_:=Kd.N_base HO8.out k_ e_.symm;have h2_:=Zaf HBW.out;omega⟩))
          have FKA:=Za.mk FKI;clear FKI;try go_wp2_with (fail)
          clear hczI_0 hfzI_0 hczI_1 hfzI_1 hczI_2 hfzI_2 hczI_3 hfzI_3 hczI_4 hfzI_4 hczI_5 hfzI_5 hczI_6 hfzI_6;have HO8d:=Za.mk (Kd.Zey HO8.out);replace BXr:=Za.mk (Zah BXr.out);replace HBL:=Za.mk (Zcq HBL.out);replace HBwr:=Za.mk (Zcq HBwr.out);refine Ze4 (n:=17) (S:=fun w'=>w'.cell? ⟨aU,5,none⟩=some (.slice (some adI) ((Zac aa ae).f5).length gX)∧w'.cell? (adI.add (x:Int).toNat)=some (.slice AI (Zco ((Zac aa ae).f5) x).length cI)) (ds:= [15]) #[false,false,false,false,false,false,false,false,false,false,false,false,false,false,false,false,false] (by kernel_rfl) rfl rfl ⟨bc BXr.out 5,(HBwr.out.cell (World.block_lt_of_cell? w _ hxI.out)).trans hxI.out⟩ (fun hHeld=> ?_);refine Zdu Zaa.tab17 Zaa.bits17 (fun HT_ HW_=> ?_)
          generalize wr.drew=wd at HO8d BXr HBL HBwr hHeld ⊢
          refine pu HT_ 0 95 ?_;refine pu HT_ 1 96 ?_;refine tk HT_ HW_ hHeld 2 97 ?_;refine pu HT_ 3 98 ?_;refine pu HT_ 4 99 ?_;refine tk HT_ HW_ hHeld 5 100 ?_;refine pu HT_ 6 101 ?_;refine tk HT_ HW_ hHeld 7 102 ?_;refine pu HT_ 8 103 ?_;refine pu HT_ 9 104 ?_;refine tk HT_ HW_ hHeld 10 105 ?_;refine pu HT_ 11 106 ?_;refine pu HT_ 12 107 ?_;refine pu HT_ 13 108 ?_;refine on1 HT_ 14 109 (fun K hK=> ?_);refine value_ (w1:=?_) (v:=?_) (by rfl) rfl ?_ ?_;rotate_left 2
          ·go_simp
           constructor
           ·rfl
           rfl
          refine hK.out _ _ ⟨(Zan (Zab BXr.out _) 5).trans rfl,((Zae HBwr.out (Zbi (Below.refl _ _) _)).cell (World.block_lt_of_cell? w _ hxI.out)).trans hxI.out⟩ (fun hHeld=> ?_);clear hK K;refine nmp 109 ?_;refine last_ (i:=15) (N:=some 110) #[true,true,true,true,true,true,true,true,true,true,true,true,true,true,true,true,false] rfl rfl (Zgj HT_.out (by kernel_rfl)) (by decide) (fun K hK=> ?_);refine Kd.N_append_step (Kd.slice 3 (Kd.int .i64)) (w0:=wX) wX.heap.size (by rfl) (.tmp 95) (.tmp 109) 34 24 (.slice none 0 0) 24 rfl Tryz.underlying34 Zhv rfl (by decide) (by omega) u8 ((((Zac aa ae).f5).take n).map fun r=>r.take 14) ((Zco ((Zac aa ae).f5) x).take jI.toNat) [.slice AI (jI:Int).toNat cI] (fun k_=>k_<w.heap.size∨wX.heap.size≤k_) (fun k_=>(k_<w.heap.size∨wX.heap.size≤k_)∧some k_≠(u8:Value).ownBlock) rfl rfl ?aP (fun _ hk=>hk) (fun k_ hk=> .inr (Nat.le_trans (Zaf HBL.out) hk)) HO8d.out HBL.out (Zaf HBL.out) (by have:=LMI.out;omega) ?_
          (case aP=>have hq_:=FKA.out _ HBwr.out;rw[eLI.out]at hq_;exact hq_)
          intro vN wN ho hb hg hat;have HON:=Za.mk ho;have HBN:=Za.mk hb;clear ho hb hg hat;refine hK.out _ _ ?_;clear hK K;refine nmp 110 ?_;refine pu HT_ 16 8 ?_;refine Zgp (Zep HT_.out (by kernel_rfl)) ?_;try go_wp2
          go_roundg kI
          case measure=>omega
          case rel=>exact⟨n+1,_,rfl,HEW,HK1,HN1,⟨by rw[←RE.out,←RJ.out];(with_reducible repeat(first|apply Kd.N_alloc|apply Kd.N_drewN|apply Kd.Zey));exact HON.out⟩,⟨bM HBN.out⟩⟩
       case rest=>
        obtain⟨v168,rfl,HN,HBL⟩:=hcut;obtain⟨w76,rfl⟩:∃w_:World,w_=wc:=⟨_,rfl⟩;have hX:=HX.out;clear HX BX HBW;subst hX;have hb:=HBL.out;have mO:Za (Kd.V (Kd.slice 3 (Kd.int .i64)) 24 w76 w.heap.size (fun k_=>some k_≠(dR:Value).ownBlock∧some k_≠(gT:Value).ownBlock∧k_≠iR∧k_≠dY∧k_≠dS∧k_≠aU) v168 t167):=⟨Kd.Ze6 (Kd.N_V HN.out) (fun k_ hk_=>hk_.elim (fun hk_=>⟨fun e_=>Nat.not_le.2 hk_ (Kd.Zhr aN.out k_ e_.symm),fun e_=>Nat.not_le.2 hk_ (Kd.Zc7 bD.out k_ e_.symm),fun e_=>Nat.not_le.2 hk_ (by rw[e_];exact GW131.out),fun e_=>Nat.not_le.2 hk_ (by rw[e_];exact GW132.out),fun e_=>Nat.not_le.2 hk_ (by rw[e_];exact GW133.out),fun e_=>Nat.not_le.2 hk_ (by rw[e_];exact GW164.out)⟩) (fun hk_=>⟨(Kd.fresh' (Kd.S_lt (sM (Kd.Zd5 (Kd.Zds (p:=⟨aU,2,none⟩) (Kd.Zds (p:=⟨aU,1,none⟩) (Kd.Zds (p:=⟨aU,6,none⟩) (Kd.Zds (p:=⟨aU,5,none⟩) (Kd.Zds (p:=⟨aU,4,none⟩) (Kd.Zds (p:=⟨aU,3,none⟩) (Kd.Zds (p:=⟨aU,2,none⟩) (Kd.Zds (p:=⟨aU,1,none⟩) (Kd.Zds (p:=⟨aU,0,none⟩) (Kd.Zen aN.out dA.out (by decide)) (fun _ hk=>hk.2) (.int .i64 ((Zac aa ae).f0))) (fun _ hk=>hk.2) (.slice dE ((Zac aa ae).f1).length dF)) (fun _ hk=>hk.2) (.slice dN ((Zac aa ae).f2).length dO)) (fun _ hk=>hk.2) (.int .i64 ((Zac aa ae).f3))) (fun _ hk=>hk.2) (.int .i64 ((Zac aa ae).f4))) (fun _ hk=>hk.2) (.slice iB ((Zac aa ae).f5).length gX)) (fun _ hk=>hk.2) (.int .i64 ((Zac aa ae).f6))) (fun _ hk=>hk.2) (.slice dE (((Zac aa ae).f1).take ((fV):Int).toNat).length dF)) (fun _ hk=>hk.2) (.slice dN (((Zac aa ae).f2).take ((ic):Int).toNat).length dO)) (fun _ h_=>h_.1)))) k_ hk_),(Kd.fresh' (Kd.R_lt (rM (Kd.Za4 (Kd.Zbp (p:=⟨aU,2,none⟩) (Kd.Zbp (p:=⟨aU,1,none⟩) (Kd.Zbp (p:=⟨aU,6,none⟩) (Kd.Zbp (p:=⟨aU,5,none⟩) (Kd.Zbp (p:=⟨aU,4,none⟩) (Kd.Zbp (p:=⟨aU,3,none⟩) (Kd.Zbp (p:=⟨aU,2,none⟩) (Kd.Zbp (p:=⟨aU,1,none⟩) (Kd.Zbp (p:=⟨aU,0,none⟩) (Kd.Za4 bD.out (fun k_ hk=>(⟨hk,hk.2⟩:_∧k_≠aU))) (fun _ hk=>hk.2) (.int .i64 ((Zac aa ae).f0))) (fun _ hk=>hk.2) (.slice dE ((Zac aa ae).f1).length dF)) (fun _ hk=>hk.2) (.slice dN ((Zac aa ae).f2).length dO)) (fun _ hk=>hk.2) (.int .i64 ((Zac aa ae).f3))) (fun _ hk=>hk.2) (.int .i64 ((Zac aa ae).f4))) (fun _ hk=>hk.2) (.slice iB ((Zac aa ae).f5).length gX)) (fun _ hk=>hk.2) (.int .i64 ((Zac aa ae).f6))) (fun _ hk=>hk.2) (.slice dE (((Zac aa ae).f1).take ((fV):Int).toNat).length dF)) (fun _ hk=>hk.2) (.slice dN (((Zac aa ae).f2).take ((ic):Int).toNat).length dO)) (fun _ h_=>h_.1)))) k_ hk_),(Kd.freshB (g:=iR) (o:= .cells #[.slice eG ag.length ek,.slice (some K6) aa.length aT,.int .i64 aA,.slice bT ak.length bU,.slice bK ai.length bL] 28 (0,0)) (by(with_reducible repeat(first|exact bA.out|refine Zcr ?_ sS.out _|refine Zab ?_ _|refine Zah ?_|refine Zag ?_ _))) k_ hk_),(Kd.freshB (g:=dY) (o:= .cells #[.slice none 0 0,.slice none 0 0,.int .i64 0,.slice none 0 0,.slice none 0 0] 28 (0,0)) (by(with_reducible repeat(first|exact bB.out|refine Zcr ?_ sU.out _|refine Zab ?_ _|refine Zah ?_|refine Zag ?_ _))) k_ hk_),(Kd.freshB (g:=dS) (o:= .cells #[dR,gT,.int .i64 aA,.slice bT ak.length bU,.slice bK ai.length bL] 28 (0,0)) (by(with_reducible repeat(first|exact aD.out|refine Zcr ?_ q8.out _|refine Zab ?_ _|refine Zah ?_|refine Zag ?_ _))) k_ hk_),(Kd.freshB (g:=aU) (o:= .cells #[.int .i64 ((Zac aa ae).f0),.slice dE (((Zac aa ae).f1).take ((fV):Int).toNat).length dF,.slice dN (((Zac aa ae).f2).take ((ic):Int).toNat).length dO,.int .i64 ((Zac aa ae).f3),.int .i64 ((Zac aa ae).f4),.slice iB ((Zac aa ae).f5).length gX,.int .i64 ((Zac aa ae).f6)] 36 (0,0)) (by(with_reducible repeat(first|refine Zag ?_ _|refine Zah ?_|refine Zab ?_ _));refine Zay (cs:=#[.int .i64 ((Zac aa ae).f0),.slice dE (((Zac aa ae).f1).take ((fV):Int).toNat).length dF,.slice dN ((Zac aa ae).f2).length dO,.int .i64 ((Zac aa ae).f3),.int .i64 ((Zac aa ae).f4),.slice iB ((Zac aa ae).f5).length gX,.int .i64 ((Zac aa ae).f6)]) ?_ 2 _ rfl;(with_reducible repeat(first|refine Zag ?_ _|refine Zah ?_|refine Zab ?_ _));refine Zay (cs:=#[.int .i64 ((Zac aa ae).f0),.slice dE ((Zac aa ae).f1).length dF,.slice dN ((Zac aa ae).f2).length dO,.int .i64 ((Zac aa ae).f3),.int .i64 ((Zac aa ae).f4),.slice iB ((Zac aa ae).f5).length gX,.int .i64 ((Zac aa ae).f6)]) ?_ 1 _ rfl;(with_reducible repeat(first|refine Zag ?_ _|refine Zah ?_|refine Zab ?_ _));refine Zay (cs:=#[.int .i64 ((Zac aa ae).f0),.slice dE ((Zac aa ae).f1).length dF,.slice dN ((Zac aa ae).f2).length dO,.int .i64 ((Zac aa ae).f3),.int .i64 ((Zac aa ae).f4),.slice iB ((Zac aa ae).f5).length gX,.int .i64 0]) ?_ 6 _ rfl;(with_reducible repeat(first|refine Zag ?_ _|refine Zah ?_|refine Zab ?_ _));refine Zay (cs:=#[.int .i64 ((Zac aa ae).f0),.slice dE ((Zac aa ae).f1).length dF,.slice dN ((Zac aa ae).f2).length dO,.int .i64 ((Zac aa ae).f3),.int .i64 ((Zac aa ae).f4),.slice none 0 0,.int .i64 0]) ?_ 5 _ rfl;(with_reducible repeat(first|refine Zag ?_ _|refine Zah ?_|refine Zab ?_ _));refine Zay (cs:=#[.int .i64 ((Zac aa ae).f0),.slice dE ((Zac aa ae).f1).length dF,.slice dN ((Zac aa ae).f2).length dO,.int .i64 ((Zac aa ae).f3),.int .i64 0,.slice none 0 0,.int .i64 0]) ?_ 4 _ rfl;(with_reducible repeat(first|refine Zag ?_ _|refine Zah ?_|refine Zab ?_ _));refine Zay (cs:=#[.int .i64 ((Zac aa ae).f0),.slice dE ((Zac aa ae).f1).length dF,.slice dN ((Zac aa ae).f2).length dO,.int .i64 0,.int .i64 0,.slice none 0 0,.int .i64 0]) ?_ 3 _ rfl;(with_reducible repeat(first|refine Zag ?_ _|refine Zah ?_|refine Zab ?_ _));refine Zay (cs:=#[.int .i64 ((Zac aa ae).f0),.slice dE ((Zac aa ae).f1).length dF,.slice none 0 0,.int .i64 0,.int .i64 0,.slice none 0 0,.int .i64 0]) ?_ 2 _ rfl;(with_reducible repeat(first|refine Zag ?_ _|refine Zah ?_|refine Zab ?_ _));refine Zay (cs:=#[.int .i64 ((Zac aa ae).f0),.slice none 0 0,.slice none 0 0,.int .i64 0,.int .i64 0,.slice none 0 0,.int .i64 0]) ?_ 1 _ rfl;(with_reducible repeat(first|refine Zag ?_ _|refine Zah ?_|refine Zab ?_ _));refine Zay (cs:=#[.int .i64 0,.slice none 0 0,.slice none 0 0,.int .i64 0,.int .i64 0,.slice none 0 0,.int .i64 0]) ?_ 0 _ rfl;(with_reducible repeat(first|refine Zag ?_ _|refine Zah ?_|refine Zab ?_ _));exact dA.out) k_ hk_)⟩))⟩;replace aN:=Za.mk (Kd.Zex (sM (Kd.Zd5 (Kd.Zds (p:=⟨aU,2,none⟩) (Kd.Zds (p:=⟨aU,1,none⟩) (Kd.Zds (p:=⟨aU,6,none⟩) (Kd.Zds (p:=⟨aU,5,none⟩) (Kd.Zds (p:=⟨aU,4,none⟩) (Kd.Zds (p:=⟨aU,3,none⟩) (Kd.Zds (p:=⟨aU,2,none⟩) (Kd.Zds (p:=⟨aU,1,none⟩) (Kd.Zds (p:=⟨aU,0,none⟩) (Kd.Zen aN.out dA.out (by decide)) (fun _ hk=>hk.2) (.int .i64 ((Zac aa ae).f0))) (fun _ hk=>hk.2) (.slice dE ((Zac aa ae).f1).length dF)) (fun _ hk=>hk.2) (.slice dN ((Zac aa ae).f2).length dO)) (fun _ hk=>hk.2) (.int .i64 ((Zac aa ae).f3))) (fun _ hk=>hk.2) (.int .i64 ((Zac aa ae).f4))) (fun _ hk=>hk.2) (.slice iB ((Zac aa ae).f5).length gX)) (fun _ hk=>hk.2) (.int .i64 ((Zac aa ae).f6))) (fun _ hk=>hk.2) (.slice dE (((Zac aa ae).f1).take ((fV):Int).toNat).length dF)) (fun _ hk=>hk.2) (.slice dN (((Zac aa ae).f2).take ((ic):Int).toNat).length dO)) (fun _ h_=>h_.1))) hb);replace bD:=Za.mk (Kd.Zbn (rM (Kd.Za4 (Kd.Zbp (p:=⟨aU,2,none⟩) (Kd.Zbp (p:=⟨aU,1,none⟩) (Kd.Zbp (p:=⟨aU,6,none⟩) (Kd.Zbp (p:=⟨aU,5,none⟩) (Kd.Zbp (p:=⟨aU,4,none⟩) (Kd.Zbp (p:=⟨aU,3,none⟩) (Kd.Zbp (p:=⟨aU,2,none⟩) (Kd.Zbp (p:=⟨aU,1,none⟩) (Kd.Zbp (p:=⟨aU,0,none⟩) (Kd.Za4 bD.out (fun k_ hk=>(⟨hk,hk.2⟩:_∧k_≠aU))) (fun _ hk=>hk.2) (.int .i64 ((Zac aa ae).f0))) (fun _ hk=>hk.2) (.slice dE ((Zac aa ae).f1).length dF)) (fun _ hk=>hk.2) (.slice dN ((Zac aa ae).f2).length dO)) (fun _ hk=>hk.2) (.int .i64 ((Zac aa ae).f3))) (fun _ hk=>hk.2) (.int .i64 ((Zac aa ae).f4))) (fun _ hk=>hk.2) (.slice iB ((Zac aa ae).f5).length gX)) (fun _ hk=>hk.2) (.int .i64 ((Zac aa ae).f6))) (fun _ hk=>hk.2) (.slice dE (((Zac aa ae).f1).take ((fV):Int).toNat).length dF)) (fun _ hk=>hk.2) (.slice dN (((Zac aa ae).f2).take ((ic):Int).toNat).length dO)) (fun _ h_=>h_.1))) hb);replace bA:=Za.mk (Zcf (g:=iR) (o:= .cells #[.slice eG ag.length ek,.slice (some K6) aa.length aT,.int .i64 aA,.slice bT ak.length bU,.slice bK ai.length bL] 28 (0,0)) (by(with_reducible repeat(first|exact bA.out|refine Zcr ?_ sS.out _|refine Zab ?_ _|refine Zah ?_|refine Zag ?_ _))) hb);replace bB:=Za.mk (Zcf (g:=dY) (o:= .cells #[.slice none 0 0,.slice none 0 0,.int .i64 0,.slice none 0 0,.slice none 0 0] 28 (0,0)) (by(with_reducible repeat(first|exact bB.out|refine Zcr ?_ sU.out _|refine Zab ?_ _|refine Zah ?_|refine Zag ?_ _))) hb);replace aD:=Za.mk (Zcf (g:=dS) (o:= .cells #[dR,gT,.int .i64 aA,.slice bT ak.length bU,.slice bK ai.length bL] 28 (0,0)) (by(with_reducible repeat(first|exact aD.out|refine Zcr ?_ q8.out _|refine Zab ?_ _|refine Zah ?_|refine Zag ?_ _))) hb);replace dA:=Za.mk (Zcf (g:=aU) (o:= .cells #[.int .i64 ((Zac aa ae).f0),.slice dE (((Zac aa ae).f1).take ((fV):Int).toNat).length dF,.slice dN (((Zac aa ae).f2).take ((ic):Int).toNat).length dO,.int .i64 ((Zac aa ae).f3),.int .i64 ((Zac aa ae).f4),.slice iB ((Zac aa ae).f5).length gX,.int .i64 ((Zac aa ae).f6)] 36 (0,0)) (by(with_reducible repeat(first|refine Zag ?_ _|refine Zah ?_|refine Zab ?_ _));refine Zay (cs:=#[.int .i64 ((Zac aa ae).f0),.slice dE (((Zac aa ae).f1).take ((fV):Int).toNat).length dF,.slice dN ((Zac aa ae).f2).length dO,.int .i64 ((Zac aa ae).f3),.int .i64 ((Zac aa ae).f4),.slice iB ((Zac aa ae).f5).length gX,.int .i64 ((Zac aa ae).f6)]) ?_ 2 _ rfl;(with_reducible repeat(first|refine Zag ?_ _|refine Zah ?_|refine Zab ?_ _));refine Zay (cs:=#[.int .i64 ((Zac aa ae).f0),.slice dE ((Zac aa ae).f1).length dF,.slice dN ((Zac aa ae).f2).length dO,.int .i64 ((Zac aa ae).f3),.int .i64 ((Zac aa ae).f4),.slice iB ((Zac aa ae).f5).length gX,.int .i64 ((Zac aa ae).f6)]) ?_ 1 _ rfl;(with_reducible repeat(first|refine Zag ?_ _|refine Zah ?_|refine Zab ?_ _));refine Zay (cs:=#[.int .i64 ((Zac aa ae).f0),.slice dE ((Zac aa ae).f1).length dF,.slice dN ((Zac aa ae).f2).length dO,.int .i64 ((Zac aa ae).f3),.int .i64 ((Zac aa ae).f4),.slice iB ((Zac aa ae).f5).length gX,.int .i64 0]) ?_ 6 _ rfl;(with_reducible repeat(first|refine Zag ?_ _|refine Zah ?_|refine Zab ?_ _));refine Zay (cs:=#[.int .i64 ((Zac aa ae).f0),.slice dE ((Zac aa ae).f1).length dF,.slice dN ((Zac aa ae).f2).length dO,.int .i64 ((Zac aa ae).f3),.int .i64 ((Zac aa ae).f4),.slice none 0 0,.int .i64 0]) ?_ 5 _ rfl;(with_reducible repeat(first|refine Zag ?_ _|refine Zah ?_|refine Zab ?_ _));refine Zay (cs:=#[.int .i64 ((Zac aa ae).f0),.slice dE ((Zac aa ae).f1).length dF,.slice dN ((Zac aa ae).f2).length dO,.int .i64 ((Zac aa ae).f3),.int .i64 0,.slice none 0 0,.int .i64 0]) ?_ 4 _ rfl;(with_reducible repeat(first|refine Zag ?_ _|refine Zah ?_|refine Zab ?_ _));refine Zay (cs:=#[.int .i64 ((Zac aa ae).f0),.slice dE ((Zac aa ae).f1).length dF,.slice dN ((Zac aa ae).f2).length dO,.int .i64 0,.int .i64 0,.slice none 0 0,.int .i64 0]) ?_ 3 _ rfl;(with_reducible repeat(first|refine Zag ?_ _|refine Zah ?_|refine Zab ?_ _));refine Zay (cs:=#[.int .i64 ((Zac aa ae).f0),.slice dE ((Zac aa ae).f1).length dF,.slice none 0 0,.int .i64 0,.int .i64 0,.slice none 0 0,.int .i64 0]) ?_ 2 _ rfl;(with_reducible repeat(first|refine Zag ?_ _|refine Zah ?_|refine Zab ?_ _));refine Zay (cs:=#[.int .i64 ((Zac aa ae).f0),.slice none 0 0,.slice none 0 0,.int .i64 0,.int .i64 0,.slice none 0 0,.int .i64 0]) ?_ 1 _ rfl;(with_reducible repeat(first|refine Zag ?_ _|refine Zah ?_|refine Zab ?_ _));refine Zay (cs:=#[.int .i64 0,.slice none 0 0,.slice none 0 0,.int .i64 0,.int .i64 0,.slice none 0 0,.int .i64 0]) ?_ 0 _ rfl;(with_reducible repeat(first|refine Zag ?_ _|refine Zah ?_|refine Zab ?_ _));exact dA.out) hb);replace HB:=Za.mk (bS HB.out hb)
        (try clear hb)
        (try clear hb2)
        (try clear hk)
        (try clear hi)
        (try clear ho0)
        obtain⟨nu,nz,b7a⟩:=Kd.V_slice mO.out;subst b7a;obtain⟨lOa,lPa,lQa,lRa,lSa,lTa,lUa,ira,isa,ita,iua,iva,iwa,ixa⟩:=cz7 dA.out;try go_wp2_with (fail)
        have n0_:Za (Kd.S k55 55 (w76.setCell ⟨aU,5,none⟩ (.slice nu t167.length nz)) w.heap.size (fun _=>True) dR bf):=⟨sM (Kd.Zd5 (Kd.Zds (p:=⟨aU,5,none⟩) (Kd.Zen aN.out dA.out (by decide)) (fun _ hk=>hk.2) (.slice nu t167.length nz)) (fun _ hk=>trivial))⟩;have n1_:Za (Kd.R k36 36 (w76.setCell ⟨aU,5,none⟩ (.slice nu t167.length nz)) w.heap.size (fun k_=>k_≠aU) gT bW):=⟨rM (Kd.Za4 (Kd.Zbp (p:=⟨aU,5,none⟩) (Kd.Za4 bD.out (fun k_ hk=>(⟨hk,hk.2⟩:_∧k_≠aU))) (fun _ hk=>hk.2) (.slice nu t167.length nz)) (fun _ hk=>hk.1.2))⟩;have n2_:Za (Kd.V (Kd.slice 3 (Kd.int .i64)) 24 (w76.setCell ⟨aU,5,none⟩ (.slice nu t167.length nz)) w.heap.size (fun k_=>some k_≠(dR:Value).ownBlock∧some k_≠(gT:Value).ownBlock∧k_≠iR∧k_≠dY∧k_≠dS∧k_≠aU) (.slice nu t167.length nz) t167):=⟨vM (Kd.Ze6 (Kd.V_far (p:=⟨aU,5,none⟩) (Kd.Ze6 mO.out (fun k_ hk=>(⟨hk,hk.2.2.2.2.2⟩:_∧k_≠aU))) (fun _ hk=>hk.2) (.slice nu t167.length nz)) (fun _ hk=>⟨hk.1.1,⟨hk.1.2.1,⟨hk.1.2.2.1,⟨hk.1.2.2.2.1,⟨hk.1.2.2.2.2.1,hk.1.2.2.2.2.2⟩⟩⟩⟩⟩))⟩;have n3_:Za ((w76.setCell ⟨aU,5,none⟩ (.slice nu t167.length nz)).heap[iR]? =some (.cells #[.slice eG ag.length ek,.slice (some K6) aa.length aT,.int .i64 aA,.slice bT ak.length bU,.slice bK ai.length bL] 28 (0,0))):=⟨by(with_reducible repeat(first|exact bA.out|refine Zcr ?_ sS.out _|refine Zab ?_ _|refine Zah ?_|refine Zag ?_ _))⟩;have n4_:Za ((w76.setCell ⟨aU,5,none⟩ (.slice nu t167.length nz)).heap[dY]? =some (.cells #[.slice none 0 0,.slice none 0 0,.int .i64 0,.slice none 0 0,.slice none 0 0] 28 (0,0))):=⟨by(with_reducible repeat(first|exact bB.out|refine Zcr ?_ sU.out _|refine Zab ?_ _|refine Zah ?_|refine Zag ?_ _))⟩;have n5_:Za ((w76.setCell ⟨aU,5,none⟩ (.slice nu t167.length nz)).heap[dS]? =some (.cells #[dR,gT,.int .i64 aA,.slice bT ak.length bU,.slice bK ai.length bL] 28 (0,0))):=⟨by(with_reducible repeat(first|exact aD.out|refine Zcr ?_ q8.out _|refine Zab ?_ _|refine Zah ?_|refine Zag ?_ _))⟩;have n6_:Za ((w76.setCell ⟨aU,5,none⟩ (.slice nu t167.length nz)).heap[aU]? =some (.cells #[.int .i64 ((Zac aa ae).f0),.slice dE (((Zac aa ae).f1).take ((fV):Int).toNat).length dF,.slice dN (((Zac aa ae).f2).take ((ic):Int).toNat).length dO,.int .i64 ((Zac aa ae).f3),.int .i64 ((Zac aa ae).f4),.slice nu t167.length nz,.int .i64 ((Zac aa ae).f6)] 36 (0,0))):=⟨by(with_reducible repeat(first|refine Zag ?_ _|refine Zah ?_|refine Zab ?_ _));refine Zay (cs:=#[.int .i64 ((Zac aa ae).f0),.slice dE (((Zac aa ae).f1).take ((fV):Int).toNat).length dF,.slice dN (((Zac aa ae).f2).take ((ic):Int).toNat).length dO,.int .i64 ((Zac aa ae).f3),.int .i64 ((Zac aa ae).f4),.slice iB ((Zac aa ae).f5).length gX,.int .i64 ((Zac aa ae).f6)]) ?_ 5 _ rfl;(with_reducible repeat(first|refine Zag ?_ _|refine Zah ?_|refine Zab ?_ _));exact dA.out⟩;have n7_:Za (Below w.heap.size w (w76.setCell ⟨aU,5,none⟩ (.slice nu t167.length nz))):=⟨bM HB.out⟩
        (try clear aN)
        (try clear bD)
        (try clear mO)
        (try clear bA)
        (try clear bB)
        (try clear aD)
        (try clear dA)
        (try clear HB)
        generalize (w76.setCell ⟨aU,5,none⟩ (.slice nu t167.length nz))=w79 at n0_ n1_ n2_ n3_ n4_ n5_ n6_ n7_ ⊢
        have aN:=n0_;have bD:=n1_;have mO:=n2_;have bA:=n3_;have bB:=n4_;have aD:=n5_;have dA:=n6_;have HB:=n7_;clear n0_ n1_ n2_ n3_ n4_ n5_ n6_ n7_;replace aN:=Za.mk (Kd.S_drew aN.out);replace bD:=Za.mk (Kd.Zd6 bD.out);replace mO:=Za.mk (Kd.V_drew mO.out);replace bA:=Za.mk (Zah bA.out);replace bB:=Za.mk (Zah bB.out);replace aD:=Za.mk (Zah aD.out);replace dA:=Za.mk (Zah dA.out);replace HB:=Za.mk (Zcq HB.out);refine Ze4 (n:=8) (S:=fun w'=>w'.cell? ⟨dS,0,none⟩=some (dR)∧w'.cell? ⟨dS,1,none⟩=some (gT)∧w'.cell? ⟨dS,2,none⟩=some (.int .i64 aA)∧w'.cell? ⟨dS,3,none⟩=some (.slice bT ak.length bU)∧w'.cell? ⟨dS,4,none⟩=some (.slice bK ai.length bL)∧w'.cell? ⟨aU,0,none⟩=some (.int .i64 ((Zac aa ae).f0))∧w'.cell? ⟨aU,1,none⟩=some (.slice dE (((Zac aa ae).f1).take ((fV):Int).toNat).length dF)∧w'.cell? ⟨aU,2,none⟩=some (.slice dN (((Zac aa ae).f2).take ((ic):Int).toNat).length dO)∧w'.cell? ⟨aU,3,none⟩=some (.int .i64 ((Zac aa ae).f3))∧w'.cell? ⟨aU,4,none⟩=some (.int .i64 ((Zac aa ae).f4))∧w'.cell? ⟨aU,5,none⟩=some (.slice nu t167.length nz)∧w'.cell? ⟨aU,6,none⟩=some (.int .i64 ((Zac aa ae).f6))) (ds:= [7]) #[false,false,false,false,false,false,false,false] (by kernel_rfl) rfl rfl ⟨bc aD.out 0,bc aD.out 1,bc aD.out 2,bc aD.out 3,bc aD.out 4,bc dA.out 0,bc dA.out 1,bc dA.out 2,bc dA.out 3,bc dA.out 4,bc dA.out 5,bc dA.out 6⟩ (fun hHeld=> ?_);refine Zdu Zaa.tab19 Zaa.bits19 (fun HT_ HW_=> ?_)
        generalize w79.drew=w80 at aN bD mO bA bB aD dA HB hHeld ⊢
        refine pu HT_ 0 113 ?_;refine tk HT_ HW_ hHeld 1 114 ?_;refine tk HT_ HW_ hHeld 2 115 ?_;refine on1 HT_ 3 116 (fun K hK=> ?_);refine goes_ Tryz.func52 (by kernel_rfl) rfl #[.agg #[.int .i64 ((Zac aa ae).f0),.slice dE (((Zac aa ae).f1).take ((fV):Int).toNat).length dF,.slice dN (((Zac aa ae).f2).take ((ic):Int).toNat).length dO,.int .i64 ((Zac aa ae).f3),.int .i64 ((Zac aa ae).f4),.slice nu t167.length nz,.int .i64 ((Zac aa ae).f6)]] (by rfl) rfl rfl (by(try simp only[List.map_toArray,List.map_cons,List.map_nil]);first|done|(rw[show(((Zac aa ae).f1).take ((fV):Int).toNat).length=(fV).toNat from(by rw[List.length_take];have h_:((fV):Int)≤(((Zac aa ae).f1).length:Int):=odt;omega),show(((Zac aa ae).f2).take ((ic):Int).toNat).length=(ic).toNat from(by rw[List.length_take];have h_:((ic):Int)≤(((Zac aa ae).f2).length:Int):=odt;omega)]<;>rfl)|(rw[show(((Zac aa ae).f1).take ((fV):Int).toNat).length=(fV).toNat from(by rw[List.length_take];have h_:((fV):Int)≤(((Zac aa ae).f1).length:Int):=odt;omega)]<;>rfl)|(rw[show(((Zac aa ae).f2).take ((ic):Int).toNat).length=(ic).toNat from(by rw[List.length_take];have h_:((ic):Int)≤(((Zac aa ae).f2).length:Int):=odt;omega)]<;>rfl)|(simp only[hji57,hji60];rfl)|rfl|(simp only[List.length_drop,List.length_take];rfl)) ?_
        with_reducible refine(Zcn.calls kj45 ((Zac aa ae).f0) _ _ (((Zac aa ae).f1).take ((fV):Int).toNat) _ _ (((Zac aa ae).f2).take ((ic):Int).toNat) ((Zac aa ae).f3) ((Zac aa ae).f4) _ _ t167 ((Zac aa ae).f6) ED t171 Af EE EF Ag t182 _ ?side1 ?side2 ?side3 ?side4 ?side5 ?side6 A64.out).mono ?_
        (case side1=>repeat(first|exact(Kd.Zad VO.out HB.out)|(with_reducible refine Kd.C_alloc ?_ _)|(with_reducible refine Kd.Zb6 ?_ _)|(with_reducible refine Kd.Zci ?_)))
        (case side2=>exact Vz.out)
        (case side3=>repeat(first|exact(Kd.Zad VP.out HB.out)|(with_reducible refine Kd.C_alloc ?_ _)|(with_reducible refine Kd.Zb6 ?_ _)|(with_reducible refine Kd.Zci ?_)))
        (case side4=>exact V3.out)
        (case side5=>repeat(first|exact(Kd.Zfp mO.out).2.2|(with_reducible refine Kd.C_alloc ?_ _)|(with_reducible refine Kd.Zb6 ?_ _)|(with_reducible refine Kd.Zci ?_)))
        (case side6=>exact(Kd.Zfp mO.out).2.1)
        rintro e w81 ⟨nOa,v175,nPa,rfl,ho0,ho1,ho2,hb⟩;refine⟨_,rfl,?_⟩;replace aN:=Za.mk (Kd.Zex (sM aN.out) hb);replace bD:=Za.mk (Kd.Za4 (Kd.R_told (Kd.R_told (Kd.R_told (Kd.R_old (rM bD.out) hb) (Kd.Zc7 ho0)) (Kd.Zc7 ho1)) (Kd.Zhr ho2)) (fun _ h_=>h_.1));replace mO:=Za.mk (Kd.Ze6 (Kd.V_told (Kd.V_told (Kd.V_told (Kd.V_old (vM mO.out) hb) (Kd.Zc7 ho0)) (Kd.Zc7 ho1)) (Kd.Zhr ho2)) (fun _ h_=>h_.1));have JH:=Za.mk (Kd.Zbl ho0 (Zaf (bM HB.out)));have JK:=Za.mk (Kd.Zbl ho1 (Zaf (bM HB.out)));have JL:=Za.mk (Kd.Zgv ho2 (Zaf (bM HB.out)));replace bA:=Za.mk (kB bA.out hb);replace bB:=Za.mk (kB bB.out hb);replace aD:=Za.mk (kB aD.out hb);replace dA:=Za.mk (kB dA.out hb);replace HB:=Za.mk (bS HB.out hb)
        (try clear hb)
        (try clear hb2)
        (try clear hk)
        (try clear hi)
        (try clear ho0)
        (try clear ho1)
        (try clear ho2)
        obtain⟨MS,Nk,Lh⟩:=Kd.Zbe JH.out
        (first|subst Lh|(injection Lh with f1_ f2_ f3_;have f4_:=f1_.symm;have f5_:=f3_.symm;clear f1_ f2_ f3_;subst f4_;subst f5_))
        obtain⟨MU,Nl,Li⟩:=Kd.Zbe JK.out
        (first|subst Li|(injection Li with f1_ f2_ f3_;have f4_:=f1_.symm;have f5_:=f3_.symm;clear f1_ f2_ f3_;subst f4_;subst f5_))
        obtain⟨MV,Nn,Lj⟩:=Kd.S_slice JL.out
        (first|subst Lj|(injection Lj with f1_ f2_ f3_;have f4_:=f1_.symm;have f5_:=f3_.symm;clear f1_ f2_ f3_;subst f4_;subst f5_))
        refine hK.out _ _ ⟨bc aD.out 0,bc aD.out 1,bc aD.out 2,bc aD.out 3,bc aD.out 4,bc dA.out 0,bc dA.out 1,bc dA.out 2,bc dA.out 3,bc dA.out 4,bc dA.out 5,bc dA.out 6⟩ (fun hHeld=> ?_);clear hK K;refine nmp 116 ?_;refine on1 HT_ 4 117 (fun K hK=> ?_);refine value_ (w1:=?_) (v:=?_) (by rfl) rfl ?_ ?_;rotate_left 2
        ·go_simp
         constructor
         ·rfl
         rfl
        refine hK.out _ _ ⟨(Zan (Zab aD.out _) 0).trans rfl,(Zan (Zab aD.out _) 1).trans rfl,(Zan (Zab aD.out _) 2).trans rfl,(Zan (Zab aD.out _) 3).trans rfl,(Zan (Zab aD.out _) 4).trans rfl,(Zan (Zab dA.out _) 0).trans rfl,(Zan (Zab dA.out _) 1).trans rfl,(Zan (Zab dA.out _) 2).trans rfl,(Zan (Zab dA.out _) 3).trans rfl,(Zan (Zab dA.out _) 4).trans rfl,(Zan (Zab dA.out _) 5).trans rfl,(Zan (Zab dA.out _) 6).trans rfl⟩ (fun hHeld=> ?_);clear hK K;refine nmp 117 ?_;refine on1 HT_ 5 118 (fun K hK=> ?_);refine Kd.Zer k36 (w0:=w) w.heap.size (by rfl) (.tmp 114) (.tmp 117) 23 36 (.agg #[(.int .i64 0),(.slice none 0 0),(.slice none 0 0),(.int .i64 0),(.int .i64 0),(.slice none 0 0),(.int .i64 0)]) 104 rfl Tryz.underlying23 info36 rfl (by decide) (by omega) gT bW (⟨ED,t171,Af,EE,EF,Ag,t182⟩:S36) [.int .i64 ED,.slice MS t171.length Nk,.slice MU Af.length Nl,.int .i64 EE,.int .i64 EF,.slice MV Ag.length Nn,.int .i64 t182] (fun k_=>k_≠aU) (fun k_=>((fun k_=>k_≠aU)) k_∧some k_≠(gT:Value).ownBlock) rfl rfl ?aP (fun _ hk=>hk) ?aF ?aO ?aB ?aS ?aL ?_
        (case aP=>exact k36_mkM _ _ _ (⟨ED,t171,Af,EE,EF,Ag,t182⟩:S36) (Kd.Za4 (Kd.Zb5 (Kd.Zdj (JH.out) (Kd.Zef bD.out) (by decide)) dA.out (by decide)) (fun k_ hk=>⟨hk.2,hk.1.2⟩)) (Kd.Za4 (Kd.Zb5 (Kd.Zdj (JK.out) (Kd.Zef bD.out) (by decide)) dA.out (by decide)) (fun k_ hk=>⟨hk.2,hk.1.2⟩)) (Kd.Za4 (Kd.Zb5 (Kd.Zdj ((Kd.S_R JL.out)) (Kd.Zef bD.out) (by decide)) dA.out (by decide)) (fun k_ hk=>⟨hk.2,hk.1.2⟩)))
        (case aB=>exact(bM HB.out))
        (case aF=>exact(fun k_ hk=>Kd.freshB (kM dA.out) k_ hk))
        (case aO=>exact(rM (Kd.Za4 bD.out (fun _ hk=>hk.1.1.1))))
        (case aS=>exact(Zaf (bM HB.out)))
        (case aL=>have:=VS.out;omega)
        intro nQa w82 ho hb hg hat;rw[←Wj.out]at ho;replace aN:=Za.mk (Kd.S_over' (sM aN.out) (Kd.Zef (rM bD.out)) (by decide) hg);replace bA:=Za.mk (kG bA.out hg (Kd.R_ne bD.out bA.out (by decide)));replace bB:=Za.mk (kG bB.out hg (Kd.R_ne bD.out bB.out (by decide)));replace aD:=Za.mk (kG aD.out hg (Kd.R_ne bD.out aD.out (by decide)));replace dA:=Za.mk (kG dA.out hg (Kd.R_away bD.out (fun _ hk=>hk.1.1.1)));replace mO:=Za.mk (Kd.V_afterv (ok:=(fun k_=>some k_≠(dR:Value).ownBlock∧some k_≠(.slice MS t171.length Nk:Value).ownBlock∧some k_≠(.slice MU Af.length Nl:Value).ownBlock∧some k_≠(.slice MV Ag.length Nn:Value).ownBlock∧k_≠iR∧k_≠dY∧k_≠dS∧k_≠aU)) (vM (Kd.Ze6 mO.out (fun _ hk=>⟨⟨hk.1.1.1.1,⟨hk.1.1.2,⟨hk.1.2,⟨hk.2,⟨hk.1.1.1.2.2.1,⟨hk.1.1.1.2.2.2.1,⟨hk.1.1.1.2.2.2.2.1,hk.1.1.1.2.2.2.2.2⟩⟩⟩⟩⟩⟩⟩,hk.1.1.1.2.1⟩))) hg hat);replace HB:=Za.mk (hb);have Pq:=Za.mk (ho);clear bD JH JK JL ho hb hg hat;obtain⟨MW,Np,TU⟩:=Kd.Zbe Pq.out
        (first|subst TU|(injection TU with f1_ f2_ f3_;have f4_:=f1_.symm;have f5_:=f3_.symm;clear f1_ f2_ f3_;subst f4_;subst f5_))
        refine hK.out _ _ ⟨bc aD.out 0,bc aD.out 1,bc aD.out 2,bc aD.out 3,bc aD.out 4,bc dA.out 0,bc dA.out 1,bc dA.out 2,bc dA.out 3,bc dA.out 4,bc dA.out 5,bc dA.out 6⟩ (fun hHeld=> ?_);clear hK K;refine nmp 118 ?_;refine pu HT_ 6 119 ?_;refine last_ (i:=7) (N:=none) #[true,true,true,true,true,true,true,true] rfl rfl (Zgj HT_.out (by kernel_rfl)) (by decide) (fun K hK=> ?_);have hs87:w82.cell? ⟨dS,1,none⟩=some (gT):=(Zan aD.out 1).trans rfl;have hfs87:=Zax aD.out 1;have hns87_0:=gM.out;have hns87_1:=jF.out;have hns87_3:=EU.out;have hms87_0:=jd.out;have hms87_1:=sV.out;have hms87_3:=q8.out;refine skip_ (w1:=?_) (by rfl) rfl ?_ ?_;rotate_left
        ·go_simp
         rfl
        refine hK.out _ _ ?_;clear hK K;refine Zgp (Zep HT_.out (by kernel_rfl)) ?_;try go_wp2
        go_roundg kj45
        case measure=>have:=HJ1.out;have:=HK2.out;have:=HJ45.out;omega
        case rel=>exact⟨(wrap64 (ae+1)),(Ih),(.slice MW Ih.length Np),eS,H',⟨by have:=HJ1.out;have:=HK2.out;have:=HJ45.out;omega⟩,⟨sM (Kd.Zd5 (Kd.Zds (p:=⟨dS,1,none⟩) (Kd.Zen aN.out aD.out (by decide)) (fun _ hk=>hk.2) (.slice MW Ih.length Np)) (fun _ hk=>trivial))⟩,⟨rM (Kd.Za4 (Kd.Zbp (p:=⟨dS,1,none⟩) (Kd.Zb5 Pq.out aD.out (by decide)) (fun _ hk=>hk.2) (.slice MW Ih.length Np)) (fun _ hk=>trivial))⟩,⟨by(with_reducible repeat(first|exact bA.out|refine Zcr ?_ gM.out _|refine Zab ?_ _|refine Zah ?_|refine Zag ?_ _))⟩,⟨by(with_reducible repeat(first|exact bB.out|refine Zcr ?_ jF.out _|refine Zab ?_ _|refine Zah ?_|refine Zag ?_ _))⟩,⟨by(with_reducible repeat(first|refine Zag ?_ _|refine Zah ?_|refine Zab ?_ _));refine Zay (cs:=#[dR,gT,.int .i64 aA,.slice bT ak.length bU,.slice bK ai.length bL]) ?_ 1 _ rfl;(with_reducible repeat(first|refine Zag ?_ _|refine Zah ?_|refine Zab ?_ _));exact aD.out⟩,⟨bM HB.out⟩⟩
end Go.Proofs.YtdpieallpbllkaaGreat.P
/- A model no larger than a statement can hold, in plain words. -/
namespace Go.Proofs.YtdpieallpbllkaaGreat.P
open Go.RowKit Go.Proofs.YtdpieallpbllkaaGreatW.PrintWords Go.Proofs.YtdpieallpbllkaaGreatW.PrintLast Go.Proofs.YtdpieallpbllkaaGreatW.PrintMore
theorem Zg6 (a:Nat) (b:Int) (c:Nat) (h:b=c):mn (a:Int) b=((min a c:Nat):Int):=by
  subst h;unfold mn
  split<;>omega
theorem Zg7 {α:Type} (l:List α) (b:Int) (c:Nat) (h:b=c):l.take (mn (l.length:Int) b).toNat=l.take c:=by
  rw[Zg6 _ _ _ h,Int.toNat_natCast];by_cases q:l.length≤c;rotate_left
  · rw[Nat.min_eq_right (by omega)]
  rw[Nat.min_eq_left q,List.take_length,List.take_of_length_le q]
theorem Zfj (l : List (List Int)) (hl : l.length ≤ 1000000) (hr : ∀ r ∈ l, r.length ≤ 1000000) : ∀ (d n : Nat) (acc : List (List Int)), n + d = l.length → acc.length ≤ n → Ev (fun k => Zbh.l0 k l acc (n : Int)) (acc ++ l.drop n)
  |0,n,acc,h,ha=>by
    obtain rfl:n=l.length:=by omega
    rw[List.drop_length,List.append_nil];exact Ev.step (G:=fun _=>some acc) (fun k=>by rw[Zbh.l0,if_neg (by omega)]) (Ev.const rfl)
  |d+1,n,acc,h,ha=>by
    have hn:n<l.length:=by omega
    have hw:wrap64 ((n:Int)+1)=((n+1:Nat):Int):=w1 (by omega);have hrd:Zco l (n:Int)=l[n]:=by simp[Zco,List.getD_eq_getElem?_getD,List.getElem?_eq_getElem hn]
    have hq:=hr _ (List.getElem_mem hn);have ih:=Zfj l hl hr d (n+1) (acc++ [l[n]]) (by omega) (by simp;omega);rw[List.append_assoc,List.singleton_append,←List.drop_eq_getElem_cons hn]at ih;refine Ev.step (fun k=>by rw[Zbh.l0,if_pos (by omega),hrd]) (Ev.bind (a:=([]:List Int)) (Ev.const rfl) ?_);rw[hw,List.nil_append];refine Ev.Zar (Int.natCast_nonneg n) ?_;refine Ev.Zar ?_ ?_
    · show 0 + l[n].length < _
      omega
    refine Ev.Zar ?_ ih
    omega
theorem ref_nums4 (l:List (List Int)) (hl:l.length≤1000000) (hr:∀r ∈ l,r.length≤1000000):Ev (fun k=>Zbh.f k l) l:=Zfj l hl hr l.length 0 [] (by omega) (by simp)
theorem ref_own4 (a0:Int) (l1 l2:List Int) (a3 a4:Int) (l5:List (List Int)) (a6:Int) (h1:l1.length≤1000000) (h2:l2.length≤1000000) (hl:l5.length≤1000000) (hr:∀r ∈ l5,r.length≤1000000):Ev (fun k=>Zcn.f k a0 l1 l2 a3 a4 l5 a6) (a0,l1,l2,a3,a4,l5,a6):=by
  unfold Zcn.f;refine Ev.bind (a:=([]:List Int)) (Ev.const rfl) (Ev.Zar (by simp;omega) (Ev.bind (a:=([]:List Int)) (Ev.const rfl) (Ev.Zar (by simp;omega) (Ev.bind (ref_nums4 l5 hl hr) (Ev.const ?_)))))
  simp
def bV1 (v:S55):S55:=⟨v.f0.extract 0 (min v.f0.size 20),v.f1.take 12⟩
def bC1 (c:S36):S36:=⟨c.f0,c.f1.take 14,c.f2.take 14,c.f3,c.f4,cutR c.f5,c.f6⟩
def bV (l:List S55):List S55:=(l.take 10).map bV1
def bC (l:List S36):List S36:=(l.take 16).map bC1
theorem cutR_len (l:List (List Int)):(cutR l).length≤20:=by
  unfold cutR;rw[List.length_map,List.length_take]
  omega
theorem cutR_row (l:List (List Int)):∀r ∈ cutR l,r.length≤14:=by
  intro r hr;unfold cutR at hr;obtain⟨x,_,rfl⟩:=List.mem_map.1 hr;rw[List.length_take]
  omega
section
variable (vars:List S55) (cons:List S36) (gk:Int) (gv gc:List Int) (V:List S55)
theorem bound_end (x:Int) (acc:List S36):Ev (fun k=>Zaa.j3 k x false vars cons gk gv gc V acc gk gv gc) (V,acc,gk,gv.take 14,gc.take 14):=by
  have e1:=Zg7 gv 14 14 rfl;have e2:=Zg7 gc 14 14 rfl;have m1:=Zg6 gv.length 14 14 rfl;have m2:=Zg6 gc.length 14 14 rfl;refine Ev.step (fun k=>by rw[Zaa.j3,if_neg (by simp)]) ?_;rw[e1,e2];refine Ev.bind (a:=([]:List Int)) (Ev.const rfl) (Ev.Zar (by omega) (Ev.Zar (by omega) (Ev.Zar (by simp[List.length_take];omega) ?_)));refine Ev.bind (a:=([]:List Int)) (Ev.const rfl) (Ev.Zar (by omega) (Ev.Zar (by omega) (Ev.Zar (by simp[List.length_take];omega) (Ev.const rfl))))
theorem bound_l1 : ∀ (d n : Nat) (acc : List S36), n + d = min 16 cons.length → acc.length ≤ n → Ev (fun k => Zaa.l1 k (n : Int) vars cons gk gv gc V acc gk gv gc) (V, acc ++ ((cons.take 16).drop n).map bC1, gk, gv.take 14, gc.take 14)
  |0,n,acc,h,ha=>by
    have e:(cons.take 16).drop n= []:=List.drop_eq_nil_of_le (by rw[List.length_take];omega);rw[e,List.map_nil,List.append_nil];by_cases q:n<cons.length;rotate_left
    · exact Ev.step (fun k=>by rw[Zaa.l1,if_neg (by omega)]) (bound_end vars cons gk gv gc V _ _)
    have d1:decide ((n:Int)<16)=false:=decide_eq_false (by omega);exact Ev.step (fun k=>by rw[Zaa.l1,if_pos (by omega),d1]) (bound_end vars cons gk gv gc V _ _)
  |d+1,n,acc,h,ha=>by
    have hn:n<cons.length:=by omega
    have h16:n<16:=by omega
    have d1:decide ((n:Int)<16)=true:=decide_eq_true (by omega);have hw:wrap64 ((n:Int)+1)=((n+1:Nat):Int):=w1 (by omega);have hrd:Zac cons (n:Int)=cons[n]:=by simp[Zac,List.getD_eq_getElem?_getD,List.getElem?_eq_getElem hn]
    have ih:=bound_l1 d (n+1) (acc++ [bC1 cons[n]]) (by omega) (by simp;omega)
    have hd:(cons.take 16).drop n=cons[n]::(cons.take 16).drop (n+1):=by
      rw[List.drop_eq_getElem_cons (by rw[List.length_take];omega),List.getElem_take]
    rw[hd,List.map_cons];rw[List.append_assoc,List.singleton_append]at ih;have m1:=Zg6 cons[n].f1.length 14 14 rfl;have m2:=Zg6 cons[n].f2.length 14 14 rfl;refine Ev.step (fun k=>by rw[Zaa.l1,if_pos (by omega),d1]) (Ev.step (fun k=>by rw[Zaa.j3,if_pos rfl,hrd]) ?_);rw[Zg7 cons[n].f1 14 14 rfl,Zg7 cons[n].f2 14 14 rfl];refine Ev.Zar (by omega) (Ev.Zar (by omega) (Ev.Zar (by omega) (Ev.Zar (by omega) (Ev.Zar (by omega) (Ev.Zar (by omega) ?_)))));refine Ev.bind (a:=cutR cons[n].f5) (Ev.const rfl) (Ev.bind (ref_own4 _ _ _ _ _ _ _ (by rw[List.length_take];omega) (by rw[List.length_take];omega) (by have:=cutR_len cons[n].f5;omega) (fun r hr=>by have:=cutR_row _ r hr;omega)) (Ev.Zar (by omega) ?_));rw[hw];exact ih
theorem bound_j1:Ev (fun k=>Zaa.j1 k vars cons gk gv gc V gk gv gc) (V,bC cons,gk,gv.take 14,gc.take 14):=
  Ev.step (fun k=>by rw[Zaa.j1];rfl) (bound_l1 vars cons gk gv gc V (min 16 cons.length) 0 [] (by omega) (by simp))
end
theorem bound_l0 (vars : List S55) (cons : List S36) (gk : Int) (gv gc : List Int) : ∀ (d n : Nat) (acc : List S55), n + d = min 10 vars.length → acc.length ≤ n → Ev (fun k => Zaa.l0 k (n : Int) vars cons gk gv gc acc gk gv gc) (acc ++ ((vars.take 10).drop n).map bV1, bC cons, gk, gv.take 14, gc.take 14)
  |0,n,acc,h,ha=>by
    have e:(vars.take 10).drop n= []:=List.drop_eq_nil_of_le (by rw[List.length_take];omega);rw[e,List.map_nil,List.append_nil];by_cases q:n<vars.length;rotate_left
    · exact Ev.step (fun k=>by rw[Zaa.l0,if_neg (by omega)]) (bound_j1 vars cons gk gv gc _)
    exact Ev.step (fun k=>by rw[Zaa.l0,if_pos (by omega),if_neg (by omega)]) (bound_j1 vars cons gk gv gc _)
  |d+1,n,acc,h,ha=>by
    have hn:n<vars.length:=by omega
    have hw:wrap64 ((n:Int)+1)=((n+1:Nat):Int):=w1 (by omega);have hrd:Zbb vars (n:Int)=vars[n]:=by simp[Zbb,List.getD_eq_getElem?_getD,List.getElem?_eq_getElem hn]
    have ih:=bound_l0 vars cons gk gv gc d (n+1) (acc++ [bV1 vars[n]]) (by omega) (by simp;omega)
    have hd:(vars.take 10).drop n=vars[n]::(vars.take 10).drop (n+1):=by
      rw[List.drop_eq_getElem_cons (by rw[List.length_take];omega),List.getElem_take]
    rw[hd,List.map_cons];rw[List.append_assoc,List.singleton_append]at ih;have m1:=Zg6 vars[n].f0.size 20 20 rfl;have m2:=Zg6 vars[n].f1.length 12 12 rfl;refine Ev.step (fun k=>by rw[Zaa.l0,if_pos (by omega),if_pos (by omega),hrd]) ?_;rw[Zg7 vars[n].f1 12 12 rfl];refine Ev.Zar (by omega) (Ev.Zar (by omega) (Ev.Zar (by omega) ?_));refine Ev.bind (a:=([]:List S82)) (Ev.const rfl) (Ev.Zar (by omega) (Ev.Zar (by omega) (Ev.bind (a:=vars[n].f1.take 12) (Ev.const rfl) (Ev.Zar (by simp[List.length_take];omega) (Ev.Zar (by omega) ?_)))));rw[hw,m1,Int.toNat_natCast,List.nil_append];exact ih
theorem bound_ev (vars:List S55) (cons:List S36) (gk:Int) (gv gc:List Int):Ev (fun k=>Zaa.f k vars cons gk gv gc) (bV vars,bC cons,gk,gv.take 14,gc.take 14):=bound_l0 vars cons gk gv gc (min 10 vars.length) 0 [] (by omega) (by simp)
end Go.Proofs.YtdpieallpbllkaaGreat.P
/- What comes in, within its bounds: what Bound makes of it is small. -/
namespace Go.Proofs.YtdpieallpbllkaaGreat.P
open Go.RowKit Go.Proofs.YtdpieallpbllkaaGreatW.PrintWords Go.Proofs.YtdpieallpbllkaaGreatW.PrintLast Go.Proofs.YtdpieallpbllkaaGreatW.PrintMore
def VarOk (v:S55):Prop:=ByteArray.size v.f0≤maxLen∧(List.length v.f1*16≤140737488351232∧∀y2_ ∈ v.f1,((Lit.int .i64 (y2_).f0).wf=true∧(Lit.int .i64 (y2_).f1).wf=true))
def ConOk (c:S36):Prop:=(Lit.int .i64 c.f0).wf=true∧(List.length c.f1*8≤140737488351232∧∀y2_ ∈ c.f1,(Lit.int .i64 y2_).wf=true)∧(List.length c.f2*8≤140737488351232∧∀y2_ ∈ c.f2,(Lit.int .i64 y2_).wf=true)∧(Lit.int .i64 c.f3).wf=true∧(Lit.int .i64 c.f4).wf=true∧(List.length c.f5*24≤140737488351232∧∀y2_ ∈ c.f5,(List.length y2_*8≤140737488351232∧∀y3_ ∈ y2_,(Lit.int .i64 y3_).wf=true))∧(Lit.int .i64 c.f6).wf=true
theorem bV_mem {vars:List S55} {v:S55} (h:v ∈ bV vars):∃x ∈ vars,v=bV1 x:=by
  obtain⟨x,hx,e⟩:=List.mem_map.1 h;exact⟨x,List.mem_of_mem_take hx,e.symm⟩
theorem bC_mem {cons:List S36} {c:S36} (h:c ∈ bC cons):∃x ∈ cons,c=bC1 x:=by
  obtain⟨x,hx,e⟩:=List.mem_map.1 h;exact⟨x,List.mem_of_mem_take hx,e.symm⟩
theorem bV_length (vars:List S55):(bV vars).length≤10:=by
  unfold bV;rw[List.length_map,List.length_take]
  omega
theorem bC_length (cons:List S36):(bC cons).length≤16:=by
  unfold bC;rw[List.length_map,List.length_take]
  omega
theorem bV_dom {vars:List S55} :∀v ∈ bV vars,v.f1.length≤12:=by
  intro v h;obtain⟨x,_,rfl⟩:=bV_mem h
  show(x.f1.take 12).length≤12
  rw[List.length_take]
  omega
theorem bC_small {cons:List S36} :∀c ∈ bC cons,c.f1.length≤14∧c.f2.length≤14∧c.f5.length≤20∧∀r ∈ c.f5,r.length≤14:=by
  intro c h;obtain⟨x,_,rfl⟩:=bC_mem h;exact⟨by show(x.f1.take 14).length≤14;rw[List.length_take];omega,by show(x.f2.take 14).length≤14;rw[List.length_take];omega,cutR_len x.f5,cutR_row x.f5⟩
theorem okC_bC {cons:List S36} (h:∀c ∈ cons,ConOk c):∀c ∈ bC cons,okC c:=by
  intro c hc;obtain⟨s1,s2,_,_⟩:=bC_small c hc;obtain⟨x,hx,rfl⟩:=bC_mem hc;obtain⟨_,_,⟨_,h2⟩,_,h4,_,_⟩:=h x hx;exact⟨by omega,by omega,fun y hy=>(wf64 (h2 y (List.mem_of_mem_take hy))).1,(wf64 h4).1⟩
theorem bV_dom6 {vars:List S55} :∀v ∈ bV vars,v.f1.length≤1000000:=fun v h=>by have:=bV_dom v h;omega
theorem take14 (l:List Int):(l.take 14).length≤1000000:=by rw[List.length_take];omega
theorem take14w {l:List Int} (h:∀y ∈ l,(Lit.int .i64 y).wf=true):∀c ∈ l.take 14,-9223372036854775808≤c:=fun y hy=>(wf64 (h y (List.mem_of_mem_take hy))).1
end Go.Proofs.YtdpieallpbllkaaGreat.P
namespace Go.Proofs.YtdpieallpbllkaaGreat.P
open Go.RowKit Go.Proofs.YtdpieallpbllkaaGreatW.PrintWords Go.Proofs.YtdpieallpbllkaaGreatW.PrintLast Go.Proofs.YtdpieallpbllkaaGreatW.PrintMore
attribute [local go_sem] Zcw Zcy Zdd Zde Zck Zcl Zcx Zcz
def Zdc.f (k:Nat) (aQ:Int) (aa:List Int) (au:List Int) (aV:Int) (bg:Int) (aI:List (List Int)) (bq:Int):Option (List Int):=(some (([]:List Int):List Int)).bind fun qG=>(if qG.length+aa.length<17592186044416 then((some (qG++aa:List Int)).bind fun kW=>(if aQ=4 then(if kW.length<17592186044416 then((Zaj.f k (kW++ [bq])).bind fun sD=>(some sD))else(none))else((Zaj.f k kW).bind fun wH=>(some wH))))else(none))
set_option maxRecDepth 100000 in
theorem Zdc.calls (k : Nat) (aQ : Int) (aW : Option Addr) (aT : Nat) (aa : List Int) (di : Option Addr) (dn : Nat) (au : List Int) (aV : Int) (bg : Int) (dM : Option Addr) (dJ : Nat) (aI : List (List Int)) (bq : Int) (r : List Int) (w : World) (dV : Kd.C (Kd.int .i64) w aW aa.length aa) (dU : aa.length ≤ aT) (gQ : Kd.C (Kd.int .i64) w di au.length au) (gP : au.length ≤ dn) (iO : Kd.C (Kd.slice 3 (Kd.int .i64)) w dM aI.length aI) (iN : aI.length ≤ dJ) (h : Zdc.f k aQ aa au aV bg aI bq = some r) :
  Calls Tryz.prog 74 #[.agg #[.int .i64 aQ,.slice aW aa.length aT,.slice di au.length dn,.int .i64 aV,.int .i64 bg,.slice dM aI.length dJ,.int .i64 bq]] w fun e w'=>∃v0_:Value,e= .returned (v0_)∧Kd.R (Kd.int .i64) 3 w' w.heap.size (fun _=>True) v0_ r∧Below w.heap.size w w':=by
 have hu36:=Tryz.underlying36;have eD:=Za.mk dV;have fo:=Za.mk dU;clear dV dU;have jh:=Za.mk gQ;have jA:=Za.mk gP;clear gQ gP;have ji:=Za.mk iO;have oC:=Za.mk iN;clear iO iN;have HB:=Za.mk (Below.refl w.heap.size w);have H:((some (([]:List Int):List Int)).bind fun qG=>(if qG.length+aa.length<17592186044416 then((some (qG++aa:List Int)).bind fun kW=>(if aQ=4 then(if kW.length<17592186044416 then((Zaj.f k (kW++ [bq])).bind fun sD=>(some sD))else(none))else((Zaj.f k kW).bind fun wH=>(some wH))))else(none)))=some r:=h;clear h;obtain⟨qG,Cy⟩:∃y_:List Int,y_=(([]:List Int)):=⟨_,rfl⟩;replace H:(if qG.length+aa.length<17592186044416 then((some (qG++aa:List Int)).bind fun kW=>(if aQ=4 then(if kW.length<17592186044416 then((Zaj.f k (kW++ [bq])).bind fun sD=>(some sD))else(none))else((Zaj.f k kW).bind fun wH=>(some wH))))else(none))=some r:=by first|(rw[Cy];with_reducible exact H)|(have H2_:=(Option.bind_some _ _).symm.trans H;rw[Cy];with_reducible exact H2_)|(have H2_:=(Option.bind_some _ _).symm.trans H;with_reducible exact H2_)|with_reducible exact H|(rw[Cy];exact H)|exact H
 have Fj:=Za.mk Cy;clear Cy;by_cases c2:qG.length+aa.length<17592186044416
 case neg=>
  rw[if_neg c2]at H;exact absurd H (by simp)
 rw[if_pos c2]at H;have Kt:=Za.mk c2;clear c2;obtain⟨kW,Cz⟩:∃y_:List Int,y_=(qG++aa):=⟨_,rfl⟩;replace H:(if aQ=4 then(if kW.length<17592186044416 then((Zaj.f k (kW++ [bq])).bind fun sD=>(some sD))else(none))else((Zaj.f k kW).bind fun wH=>(some wH)))=some r:=by first|(rw[Cz];with_reducible exact H)|(have H2_:=(Option.bind_some _ _).symm.trans H;rw[Cz];with_reducible exact H2_)|(have H2_:=(Option.bind_some _ _).symm.trans H;with_reducible exact H2_)|with_reducible exact H|(rw[Cz];exact H)|exact H
 have PH:=Za.mk Cz;clear Cz;by_cases c3:aQ=4
 case neg=>
  rw[if_neg c3]at H;have eY:(aQ==4)=false:=beq_eq_false_iff_ne.mpr c3;have jN:(aQ !=4)=true:=bne_iff_ne.mpr c3;obtain⟨wH,A15,H⟩:=bnd H;try dsimp only at H
  obtain rfl:=sj H;go_enter Tryz.func74,Tryz.ntmps74
  go_wp2_with (first|((with_reducible refine Zaq (N:=1) rfl ?_);refine bx 1 #[.int .i64 aQ,.slice aW aa.length aT,.slice di au.length dn,.int .i64 aV,.int .i64 bg,.slice dM aI.length dJ,.int .i64 bq] 36 ?_;intro Ll hg w16 hbox hb;have j6:=Za.mk (hbox);have Vu:=Za.mk ((gE hg HB.out:w.heap.size≤Ll));replace HB:=Za.mk (bS HB.out hb);clear hb hbox hg)|((with_reducible refine Zaq (N:=4) rfl ?_);refine Kd.Zdb (Kd.int .i64) _ 3 ?hg (N:=4) ?hd (xs:=([]:List Int)) (inner:= []) (ok:=fun _=>True) (okp:=fun _=>True) ?hr ?hp (fun _ hk=>hk) trivial (Below.refl _ _) (Nat.le_refl _) (by simp) ?_;(case hd=>rfl);(case hg=>rfl);(case hr=>first|(go_simp;done)|(go_simp;rfl));(case hp=>exact(Reps.none _ _));intro OQ w17 oK hb hg_ hnew_;clear hg_ hnew_;(first|rw[←Fj.out]at oK|(simp only[Int.reduceToNat]at oK;rw[←Fj.out]at oK));have vV:=Za.mk (Kd.Zbl oK (Zaf (bM HB.out)));replace j6:=Za.mk (kB j6.out hb);replace HB:=Za.mk (bS HB.out hb);clear hb oK;obtain⟨Ml,Mm,Mo,Mq,Mr,YR,YS,LF,LG,LH,LJ,LK,XI,XJ⟩:=cz7 j6.out)|((with_reducible refine Zbo (b:= .append) (xs:=#[.tmp 4,.tmp 6]) rfl ?_);at_builtin;refine Kd.Zd (Kd.int .i64) (w0:=w) w.heap.size rfl (.tmp 4) (.tmp 6) 24 3 (.int .i64 0) 8 rfl Tryz.underlying24 info3 rfl (by decide) (by omega) OQ qG aa _ _ _ (fun _=>True) (fun _=>False) rfl rfl ?aO ?aR (fun _ _ h=>h) (fun _ h=>h.elim) ?aF ?aB ?aS ?aL ?_;(case aR=>repeat(first|exact(Kd.Zad eD.out HB.out)|(with_reducible refine Kd.C_alloc ?_ _)|(with_reducible refine Kd.Zb6 ?_ _)|(with_reducible refine Kd.Zci ?_)));(case aB=>exact(bM HB.out));(case aF=>exact(fun _ _=>trivial));(case aO=>exact(rM vV.out));(case aS=>exact(Zaf (bM HB.out)));(case aL=>have:=Kt.out;omega);intro UJ w20 ho hb hg hat;rw[←PH.out]at ho;replace j6:=Za.mk (kG j6.out hg (Kd.R_ne vV.out j6.out (by decide)));replace HB:=Za.mk (hb);have sO:=Za.mk (ho);clear vV;clear ho hb hg hat;obtain⟨FW,FX,Rm,Rn,Ro,Rp,Rq,FC,FD,QF,QG,QH,QI,QJ⟩:=cz7 j6.out;obtain⟨nP,nQ,wz⟩:=Kd.Zbe sO.out;subst wz)|((with_reducible refine Zak (f:=43) rfl ?_);refine gl 17 Tryz.func43 #[.slice nP kW.length nQ] ?_;(with_reducible refine(Zaj.calls k _ _ kW wH _ (cM ((Kd.Zam sO.out).2.2)) ((Kd.Zam sO.out).2.1) A15.out).mono ?_);rintro e w23 ⟨nWa,rfl,ho0,hb⟩;refine⟨_,rfl,?_⟩;have VC:=Za.mk (Kd.Zbl (Kd.Zez ho0 (Kd.R_lt (rM sO.out))) (Zaf (bM HB.out)));replace HB:=Za.mk (bS HB.out hb);clear sO j6;(try clear hb);(try clear hb2);(try clear hk);(try clear hi);(try clear ho0)))
  go_ret;exact⟨_,eR,rM (Kd.Za4 VC.out (fun _ hk=>trivial)),bM HB.out⟩
 rw[if_pos c3]at H;have eY:(aQ==4)=true:=beq_iff_eq.mpr c3;have jN:(aQ !=4)=false:=bne_eq_false_iff_eq.mpr c3;clear c3;obtain⟨c4,H⟩:=ifP H;have baa:=Za.mk c4;clear c4;obtain⟨OY,C8⟩:∃y_:List Int,y_=(kW++ [bq]):=⟨_,rfl⟩;replace H:((Zaj.f k OY).bind fun sD=>(some sD))=some r:=by first|(rw[C8];with_reducible exact H)|(have H2_:=(Option.bind_some _ _).symm.trans H;rw[C8];with_reducible exact H2_)|(have H2_:=(Option.bind_some _ _).symm.trans H;with_reducible exact H2_)|with_reducible exact H|(rw[C8];exact H)|exact H
 have Wo:=Za.mk C8;clear C8;obtain⟨sD,A5,H⟩:=bnd H;try dsimp only at H
 obtain rfl:=sj H;go_enter Tryz.func74,Tryz.ntmps74
 go_wp2_with (first|((with_reducible refine Zaq (N:=1) rfl ?_);refine bx 1 #[.int .i64 aQ,.slice aW aa.length aT,.slice di au.length dn,.int .i64 aV,.int .i64 bg,.slice dM aI.length dJ,.int .i64 bq] 36 ?_;intro Ll hg w6 hbox hb;have j6:=Za.mk (hbox);have Vu:=Za.mk ((gE hg HB.out:w.heap.size≤Ll));replace HB:=Za.mk (bS HB.out hb);clear hb hbox hg)|((with_reducible refine Zaq (N:=4) rfl ?_);refine Kd.Zdb (Kd.int .i64) _ 3 ?hg (N:=4) ?hd (xs:=([]:List Int)) (inner:= []) (ok:=fun _=>True) (okp:=fun _=>True) ?hr ?hp (fun _ hk=>hk) trivial (Below.refl _ _) (Nat.le_refl _) (by simp) ?_;(case hd=>rfl);(case hg=>rfl);(case hr=>first|(go_simp;done)|(go_simp;rfl));(case hp=>exact(Reps.none _ _));intro OQ w7 ho8 hb hg_ hnew_;clear hg_ hnew_;(first|rw[←Fj.out]at ho8|(simp only[Int.reduceToNat]at ho8;rw[←Fj.out]at ho8));have vV:=Za.mk (Kd.Zbl ho8 (Zaf (bM HB.out)));replace j6:=Za.mk (kB j6.out hb);replace HB:=Za.mk (bS HB.out hb);clear hb ho8;obtain⟨AO,AP,AQ,I4,I5,I6,I7,AA,AB,AC,Iq,Ir,Iu,Iw⟩:=cz7 j6.out)|((with_reducible refine Zbo (b:= .append) (xs:=#[.tmp 4,.tmp 6]) rfl ?_);at_builtin;refine Kd.Zd (Kd.int .i64) (w0:=w) w.heap.size rfl (.tmp 4) (.tmp 6) 24 3 (.int .i64 0) 8 rfl Tryz.underlying24 info3 rfl (by decide) (by omega) OQ qG aa _ _ _ (fun _=>True) (fun _=>False) rfl rfl ?aO ?aR (fun _ _ h=>h) (fun _ h=>h.elim) ?aF ?aB ?aS ?aL ?_;(case aR=>repeat(first|exact(Kd.Zad eD.out HB.out)|(with_reducible refine Kd.C_alloc ?_ _)|(with_reducible refine Kd.Zb6 ?_ _)|(with_reducible refine Kd.Zci ?_)));(case aB=>exact(bM HB.out));(case aF=>exact(fun _ _=>trivial));(case aO=>exact(rM vV.out));(case aS=>exact(Zaf (bM HB.out)));(case aL=>have:=Kt.out;omega);intro UJ w10 ho hb hg hat;rw[←PH.out]at ho;replace j6:=Za.mk (kG j6.out hg (Kd.R_ne vV.out j6.out (by decide)));replace HB:=Za.mk (hb);have sO:=Za.mk (ho);clear vV;clear ho hb hg hat;obtain⟨DW,DX,FR,Mf,Mg,YI,YJ,D8,D9,F7,L6,L8,X9,XA⟩:=cz7 j6.out)|((with_reducible refine Zbo (b:= .append) (xs:=#[.tmp 11,.tmp 14]) rfl ?_);at_builtin;refine Kd.Zc4 (Kd.int .i64) (w0:=w) w.heap.size rfl (.tmp 11) (.tmp 14) 24 3 (.int .i64 0) 8 rfl Tryz.underlying24 info3 rfl (by decide) (by omega) UJ kW bq [.int .i64 bq] (fun _=>True) (fun _=>False) rfl rfl ?aP (fun _ hk=>hk.elim) ?aF ?aO ?aB ?aS ?aL ?_;(case aP=>exact rfl);(case aB=>exact(bM HB.out));(case aF=>exact(fun _ _=>trivial));(case aO=>exact(rM sO.out));(case aS=>exact(Zaf (bM HB.out)));(case aL=>have:=baa.out;omega);intro nUa w12 ho hb hg hat;rw[←Wo.out]at ho;replace HB:=Za.mk (hb);have AY:=Za.mk (ho);clear j6 sO;clear ho hb hg hat;obtain⟨dX,dI,Gt⟩:=Kd.Zbe AY.out;subst Gt)|((with_reducible refine Zak (f:=43) rfl ?_);refine gl 17 Tryz.func43 #[.slice dX OY.length dI] ?_;(with_reducible refine(Zaj.calls k _ _ OY sD _ (cM ((Kd.Zam AY.out).2.2)) ((Kd.Zam AY.out).2.1) A5.out).mono ?_);rintro e w14 ⟨nVa,rfl,ho0,hb⟩;refine⟨_,rfl,?_⟩;have VB:=Za.mk (Kd.Zbl (Kd.Zez ho0 (Kd.R_lt (rM AY.out))) (Zaf (bM HB.out)));replace HB:=Za.mk (bS HB.out hb);clear AY;(try clear hb);(try clear hb2);(try clear hk);(try clear hi);(try clear ho0)))
 go_ret;exact⟨_,eR,rM (Kd.Za4 VB.out (fun _ hk=>trivial)),bM HB.out⟩
mutual
def Zaw.l0 : Nat → List Int → Int → Option (Bool)
 | 0, _, _ => none
 |k+1,x0,x3=>if x3<(x0.length:Int)then(Zaw.l1 k x0 x3 0)else(some true)
def Zaw.l1 : Nat → List Int → Int → Int → Option (Bool)
 | 0, _, _, _ => none
 |k+1,x0,x3,x4=>if x4<x3 then(if 0≤x3 then(if x3<(x0.length:Int)then(if 0≤x4 then(if x4<(x0.length:Int)then(if(rd x0 x3)=(rd x0 x4)then(some false)else(Zaw.l1 k x0 x3 (wrap64 (x4+1))))else(none))else(none))else(none))else(none))else(Zaw.l0 k x0 (wrap64 (x3+1)))
end
def Zaw.f (k:Nat) (l0:List Int):Option (Bool):=Zaw.l0 k l0 0
set_option maxRecDepth 100000 in
theorem Zaw.calls (k : Nat) (A0 : Option Addr) (c0 : Nat) (l0 : List Int) (r : Bool) (w : World) (hr0 : Kd.C (Kd.int .i64) w A0 l0.length l0) (hc0 : l0.length ≤ c0) (h : Zaw.f k l0 = some r) :
  Calls Tryz.prog 102 #[.slice A0 l0.length c0] w fun e w'=>e= .returned (.bool r)∧Zas w w':=by
 have HR0:=Za.mk hr0;have HC0:=Za.mk hc0;clear hr0 hc0;have H:(Zaw.l0 k l0 0)=some r:=h;clear h;have H':=Za.mk H;clear H;go_enter Tryz.func102,Tryz.ntmps102;go_wp2
 repeat(go_quiet (fail);try go_wp2)
 go_loopg [3] k (fun kq v3 w'=>∃(af:Int),v3= .int .i64 af∧Za (Zaw.l0 kq l0 af=some r)∧Za (kq≤k)∧Zas w w')
 case atStart=>exact⟨(0),eS,H',⟨Nat.le_refl _⟩,by repeat(first|exact Zas.refl _|apply Zas.step)⟩
 case round=>
  clear H';try clear c1
  obtain⟨af,rfl,HA,HK1,⟨m1,rfl⟩⟩:=hrel
  cases gk with
  | zero => exact absurd HA.out (by simp [Zaw.l0])
  |succ k1=>
   have H:=HA.out;clear HA;simp only[Zaw.l0]at H;by_cases c2:af<(l0.length:Int)
   case neg=>
    rw[if_neg c2]at H;have jo:decide (af<(l0.length:Int))=false:=decide_eq_false c2;clear c2;obtain rfl:=sj H;go_wp2
    repeat(go_quiet (fail);try go_wp2)
    go_ret;exact⟨eS,by repeat(first|exact Zas.refl _|apply Zas.step)⟩
   rw[if_pos c2]at H;have jo:decide (af<(l0.length:Int))=true:=decide_eq_true c2;clear c2;have H':=Za.mk H;clear H;go_wp2
   repeat(go_quiet (fail);try go_wp2)
   go_loopg [4] k1 (fun kq v4 w'=>∃(fM:Int),v4= .int .i64 fM∧Za (Zaw.l1 kq l0 af fM=some r)∧Za (kq≤k1)∧Zas w w')
   case atStart=>exact⟨(0),eS,H',⟨Nat.le_refl _⟩,by repeat(first|exact Zas.refl _|apply Zas.step)⟩
   case round=>
    clear H';try clear c1
    try clear c2
    try clear jo
    try clear p2
    obtain⟨fM,rfl,HA,HK2,⟨m2,rfl⟩⟩:=hrel
    cases gk with
    | zero => exact absurd HA.out (by simp [Zaw.l1])
    |succ k2=>
     have H:=HA.out;clear HA;simp only[Zaw.l1]at H;by_cases c3:fM<af
     case neg=>
      rw[if_neg c3]at H;have eY:decide (fM<af)=false:=decide_eq_false c3;clear c3;have H':=Za.mk H;clear H;go_wp2
      repeat(go_quiet (fail);try go_wp2)
      go_roundg k2
      case measure=>have:=HK1.out;have:=HK2.out;omega
      case rel=>exact⟨(wrap64 (af+1)),eS,H',⟨by have:=HK1.out;have:=HK2.out;omega⟩,by repeat(first|exact Zas.refl _|apply Zas.step)⟩
     rw[if_pos c3]at H;have eY:decide (fM<af)=true:=decide_eq_true c3;clear c3;obtain⟨dz,H⟩:=ifT H;obtain⟨dh,H⟩:=ifT H;obtain⟨iQ,H⟩:=ifT H;obtain⟨mF,H⟩:=ifT H;by_cases c8:(rd l0 af)=(rd l0 fM)
     case pos=>
      rw[if_pos c8]at H;have mG:((rd l0 af)==(rd l0 fM))=true:=beq_iff_eq.mpr c8;have Gq:((rd l0 af) !=(rd l0 fM))=false:=bne_eq_false_iff_eq.mpr c8;clear c8;obtain rfl:=sj H;have zx:0≤(af:Int):=odt;have zO:af<(l0.length:Int):=odt;obtain⟨K9,rfl,Sr⟩:=Kd.Zb1 HR0.out af zx zO;replace zx:=eq_true zx;replace zO:=eq_true zO;have zy:0≤(fM:Int):=odt;have zP:fM<(l0.length:Int):=odt;obtain⟨KA,e258,Su⟩:=Kd.Zb1 HR0.out fM zy zP;obtain rfl:K9=KA:=(by injection e258);replace zy:=eq_true zy;replace zP:=eq_true zP;go_wp2
      repeat(go_quiet (fail);try go_wp2)
      go_ret;exact⟨eS,by repeat(first|exact Zas.refl _|apply Zas.step)⟩
     rw[if_neg c8]at H;have mG:((rd l0 af)==(rd l0 fM))=false:=beq_eq_false_iff_ne.mpr c8;have Gq:((rd l0 af) !=(rd l0 fM))=true:=bne_iff_ne.mpr c8;have H':=Za.mk H;clear H;have zx:0≤(af:Int):=odt;have zO:af<(l0.length:Int):=odt;obtain⟨K9,rfl,Sr⟩:=Kd.Zb1 HR0.out af zx zO;replace zx:=eq_true zx;replace zO:=eq_true zO;have zy:0≤(fM:Int):=odt;have zP:fM<(l0.length:Int):=odt;obtain⟨KA,e258,Su⟩:=Kd.Zb1 HR0.out fM zy zP;obtain rfl:K9=KA:=(by injection e258);replace zy:=eq_true zy;replace zP:=eq_true zP;go_wp2
     repeat(go_quiet (fail);try go_wp2)
     go_roundg k2
     case measure=>have:=HK1.out;have:=HK2.out;omega
     case rel=>exact⟨(wrap64 (fM+1)),eS,H',⟨by have:=HK1.out;have:=HK2.out;omega⟩,by repeat(first|exact Zas.refl _|apply Zas.step)⟩
def Zb4.f (k:Nat) (aQ:Int) (aa:List Int) (au:List Int) (aV:Int) (bg:Int) (aI:List (List Int)) (bq:Int):Option (Bool):=(Zaw.f k aa).bind fun Hl=>(if Hl=true then(if(aa.length:Int)>0 then(if(aa.length:Int)=(au.length:Int)then((Zbj.f k au 0).bind fun Hm=>(some (!Hm)))else(some false))else(some false))else(some false))
set_option maxRecDepth 100000 in
theorem Zb4.calls (k : Nat) (aQ : Int) (aW : Option Addr) (aT : Nat) (aa : List Int) (di : Option Addr) (dn : Nat) (au : List Int) (aV : Int) (bg : Int) (dM : Option Addr) (dJ : Nat) (aI : List (List Int)) (bq : Int) (r : Bool) (w : World) (dV : Kd.C (Kd.int .i64) w aW aa.length aa) (dU : aa.length ≤ aT) (gQ : Kd.C (Kd.int .i64) w di au.length au) (gP : au.length ≤ dn) (iO : Kd.C (Kd.slice 3 (Kd.int .i64)) w dM aI.length aI) (iN : aI.length ≤ dJ) (h : Zb4.f k aQ aa au aV bg aI bq = some r) :
  Calls Tryz.prog 103 #[.agg #[.int .i64 aQ,.slice aW aa.length aT,.slice di au.length dn,.int .i64 aV,.int .i64 bg,.slice dM aI.length dJ,.int .i64 bq]] w fun e w'=>e= .returned (.bool r)∧Below w.heap.size w w':=by
 have hu36:=Tryz.underlying36;have eD:=Za.mk dV;have fo:=Za.mk dU;clear dV dU;have jh:=Za.mk gQ;have jA:=Za.mk gP;clear gQ gP;have ji:=Za.mk iO;have oC:=Za.mk iN;clear iO iN;have HB:=Za.mk (Below.refl w.heap.size w);have H:((Zaw.f k aa).bind fun Hl=>(if Hl=true then(if(aa.length:Int)>0 then(if(aa.length:Int)=(au.length:Int)then((Zbj.f k au 0).bind fun Hm=>(some (!Hm)))else(some false))else(some false))else(some false)))=some r:=h;clear h;obtain⟨Hl,A2,H⟩:=bnd H;try dsimp only at H
 by_cases c3:Hl=true
 case neg=>
  replace c3:=Bool.eq_false_iff.mpr c3;subst c3;replace H:=ifF H;obtain rfl:=sj H;go_enter Tryz.func103,Tryz.ntmps103
  go_wp2_with (first|((with_reducible refine Zaq (N:=1) rfl ?_);(try(refine Zb3 (by rfl) ?_;dsimp only));refine bx 1 #[.int .i64 aQ,.slice aW aa.length aT,.slice di au.length dn,.int .i64 aV,.int .i64 bg,.slice dM aI.length dJ,.int .i64 bq] 36 ?_;intro wC hg w13 hbox hb;have vT:=Za.mk (hbox);have JE:=Za.mk ((gE hg HB.out:w.heap.size≤wC));replace HB:=Za.mk (bS HB.out hb);clear hb hbox hg;obtain⟨xy,xz,DY,FT,FU,Mh,Mi,wS,wT,DC,F8,F9,LA,LB⟩:=cz7 vT.out)|((with_reducible refine Zak (f:=102) rfl ?_);refine gl 5 Tryz.func102 #[.slice aW aa.length aT] ?_;(with_reducible refine(Zaw.calls k _ _ aa false _ (cM (Kd.Zad eD.out HB.out)) fo.out A2.out).mono ?_);rintro e w' ⟨rfl,⟨nd,rfl⟩⟩;refine⟨_,rfl,?_⟩))
  go_ret;exact⟨eR,bM HB.out⟩
 subst c3;rw[if_pos rfl]at H;by_cases c4:(aa.length:Int)>0
 case neg=>
  rw[if_neg c4]at H;have dz:decide (0<(aa.length:Int))=false:=decide_eq_false c4;have rE:decide (0<aa.length)=false:=decide_eq_false (by omega);clear c4;obtain rfl:=sj H;go_enter Tryz.func103,Tryz.ntmps103
  go_wp2_with (first|((with_reducible refine Zaq (N:=1) rfl ?_);(try(refine Zb3 (by rfl) ?_;dsimp only));refine bx 1 #[.int .i64 aQ,.slice aW aa.length aT,.slice di au.length dn,.int .i64 aV,.int .i64 bg,.slice dM aI.length dJ,.int .i64 bq] 36 ?_;intro wC hg w11 hbox hb;have vT:=Za.mk (hbox);have JE:=Za.mk ((gE hg HB.out:w.heap.size≤wC));replace HB:=Za.mk (bS HB.out hb);clear hb hbox hg;obtain⟨pz,p8,pE,pF,pG,tX,tY,oO,oP,oQ,oU,oV,tK,tL⟩:=cz7 vT.out)|((with_reducible refine Zak (f:=102) rfl ?_);refine gl 5 Tryz.func102 #[.slice aW aa.length aT] ?_;(with_reducible refine(Zaw.calls k _ _ aa true _ (cM (Kd.Zad eD.out HB.out)) fo.out A2.out).mono ?_);rintro e w' ⟨rfl,⟨nd,rfl⟩⟩;refine⟨_,rfl,?_⟩))
  go_ret;exact⟨eR,bM HB.out⟩
 rw[if_pos c4]at H;have dz:decide (0<(aa.length:Int))=true:=decide_eq_true c4;have rE:decide (0<aa.length)=true:=decide_eq_true (by omega);clear c4;by_cases c5:(aa.length:Int)=(au.length:Int)
 case neg=>
  rw[if_neg c5]at H;have dh:((aa.length:Int)==(au.length:Int))=false:=beq_eq_false_iff_ne.mpr c5;have kQ:((aa.length:Int) !=(au.length:Int))=true:=bne_iff_ne.mpr c5;have La:(aa.length==au.length)=false:=by first|simpa using c5|(simp at c5 ⊢;omega)
  obtain rfl:=sj H;go_enter Tryz.func103,Tryz.ntmps103
  go_wp2_with (first|((with_reducible refine Zaq (N:=1) rfl ?_);(try(refine Zb3 (by rfl) ?_;dsimp only));refine bx 1 #[.int .i64 aQ,.slice aW aa.length aT,.slice di au.length dn,.int .i64 aV,.int .i64 bg,.slice dM aI.length dJ,.int .i64 bq] 36 ?_;intro wC hg w9 hbox hb;have vT:=Za.mk (hbox);have JE:=Za.mk ((gE hg HB.out:w.heap.size≤wC));replace HB:=Za.mk (bS HB.out hb);clear hb hbox hg;obtain⟨mh,mi,mo,ng,ni,zg,zh,ma,mf,mg,mX,mY,yV,yX⟩:=cz7 vT.out)|((with_reducible refine Zak (f:=102) rfl ?_);refine gl 5 Tryz.func102 #[.slice aW aa.length aT] ?_;(with_reducible refine(Zaw.calls k _ _ aa true _ (cM (Kd.Zad eD.out HB.out)) fo.out A2.out).mono ?_);rintro e w' ⟨rfl,⟨nd,rfl⟩⟩;refine⟨_,rfl,?_⟩))
  go_ret;exact⟨eR,bM HB.out⟩
 rw[if_pos c5]at H;have dh:((aa.length:Int)==(au.length:Int))=true:=beq_iff_eq.mpr c5;have kQ:((aa.length:Int) !=(au.length:Int))=false:=bne_eq_false_iff_eq.mpr c5;have La:(aa.length==au.length)=true:=by first|simpa using c5|(simp at c5 ⊢;omega)
 clear c5;obtain⟨Hm,A6,H⟩:=bnd H;try dsimp only at H
 obtain rfl:=sj H;go_enter Tryz.func103,Tryz.ntmps103
 go_wp2_with (first|((with_reducible refine Zaq (N:=1) rfl ?_);(try(refine Zb3 (by rfl) ?_;dsimp only));refine bx 1 #[.int .i64 aQ,.slice aW aa.length aT,.slice di au.length dn,.int .i64 aV,.int .i64 bg,.slice dM aI.length dJ,.int .i64 bq] 36 ?_;intro wC hg w7 hbox hb;have vT:=Za.mk (hbox);have JE:=Za.mk ((gE hg HB.out:w.heap.size≤wC));replace HB:=Za.mk (bS HB.out hb);clear hb hbox hg;obtain⟨xK,xL,xM,xN,xO,yx,yz,xn,xq,xu,xw,xx,yu,yw⟩:=cz7 vT.out)|((with_reducible refine Zak (f:=102) rfl ?_);refine gl 5 Tryz.func102 #[.slice aW aa.length aT] ?_;(with_reducible refine(Zaw.calls k _ _ aa true _ (cM (Kd.Zad eD.out HB.out)) fo.out A2.out).mono ?_);rintro e w' ⟨rfl,⟨nd,rfl⟩⟩;refine⟨_,rfl,?_⟩)|(go_at_call 49;(with_reducible refine(Zbj.calls k _ _ au 0 Hm _ (cM (Kd.Zad jh.out (bM HB.out))) jA.out A6.out).mono ?_);rintro e w' ⟨rfl,⟨nd,rfl⟩⟩))
 go_ret;exact⟨eR,bM HB.out⟩
mutual
def Zbd.l0 : Nat → Int → Int → List Int → List Int → Int → Int → List (List Int) → Int → Option (Bool)
 | 0, _, _, _, _, _, _, _, _ => none
 |k+1,x3,yO,vI,yP,yQ,yR,lq,yS=>if x3<(lq.length:Int)then(if 0≤x3 then(if((Zco lq x3).length:Int)=(vI.length:Int)then(Zbd.l1 k x3 0 yO vI yP yQ yR lq yS)else(some false))else(none))else(some (decide ((lq.length:Int)≤1024)))
def Zbd.l1 : Nat → Int → Int → Int → List Int → List Int → Int → Int → List (List Int) → Int → Option (Bool)
 | 0, _, _, _, _, _, _, _, _, _ => none
 |k+1,x3,x4,yO,vI,yP,yQ,yR,lq,yS=>if 0≤x3 then(if x3<(lq.length:Int)then(if x4<((Zco lq x3).length:Int)then(if 0≤x4 then((Zbc.f (rd (Zco lq x3) x4)).bind fun Oh=>(if Oh=true then(Zbd.l1 k x3 (wrap64 (x4+1)) yO vI yP yQ yR lq yS)else(some false)))else(none))else(Zbd.l0 k (wrap64 (x3+1)) yO vI yP yQ yR lq yS))else(none))else(none)
end
def Zbd.f (k:Nat) (aQ:Int) (aa:List Int) (au:List Int) (aV:Int) (bg:Int) (aI:List (List Int)) (bq:Int):Option (Bool):=Zbd.l0 k 0 aQ aa au aV bg aI bq
set_option maxRecDepth 100000 in
theorem Zbd.calls (k : Nat) (aQ : Int) (aW : Option Addr) (aT : Nat) (aa : List Int) (di : Option Addr) (dn : Nat) (au : List Int) (aV : Int) (bg : Int) (dM : Option Addr) (dJ : Nat) (aI : List (List Int)) (bq : Int) (r : Bool) (w : World) (dV : Kd.C (Kd.int .i64) w aW aa.length aa) (dU : aa.length ≤ aT) (gQ : Kd.C (Kd.int .i64) w di au.length au) (gP : au.length ≤ dn) (iO : Kd.C (Kd.slice 3 (Kd.int .i64)) w dM aI.length aI) (iN : aI.length ≤ dJ) (h : Zbd.f k aQ aa au aV bg aI bq = some r) :
  Calls Tryz.prog 104 #[.agg #[.int .i64 aQ,.slice aW aa.length aT,.slice di au.length dn,.int .i64 aV,.int .i64 bg,.slice dM aI.length dJ,.int .i64 bq]] w fun e w'=>e= .returned (.bool r)∧Below w.heap.size w w':=by
 have hu36:=Tryz.underlying36;have eD:=Za.mk dV;have fo:=Za.mk dU;clear dV dU;have jh:=Za.mk gQ;have jA:=Za.mk gP;clear gQ gP;have ji:=Za.mk iO;have oC:=Za.mk iN;clear iO iN;have HB:=Za.mk (Below.refl w.heap.size w);have H:(Zbd.l0 k 0 aQ aa au aV bg aI bq)=some r:=h;clear h;have H':=Za.mk H;clear H;go_enter Tryz.func104,Tryz.ntmps104
 go_wp2_with (first|((with_reducible refine Zaq (N:=1) rfl ?_);refine bx 1 #[.int .i64 aQ,.slice aW aa.length aT,.slice di au.length dn,.int .i64 aV,.int .i64 bg,.slice dM aI.length dJ,.int .i64 bq] 36 ?_;intro wD hg w2 hbox hb;have lG:=Za.mk (hbox);have Ph:=Za.mk ((gE hg HB.out:w.heap.size≤wD));replace HB:=Za.mk (bS HB.out hb);clear hb hbox hg))
 repeat(go_quiet (first|((with_reducible refine Zaq (N:=1) rfl ?_);refine bx 1 #[.int .i64 aQ,.slice aW aa.length aT,.slice di au.length dn,.int .i64 aV,.int .i64 bg,.slice dM aI.length dJ,.int .i64 bq] 36 ?_;intro wD hg w2 hbox hb;have lG:=Za.mk (hbox);have Ph:=Za.mk ((gE hg HB.out:w.heap.size≤wD));replace HB:=Za.mk (bS HB.out hb);clear hb hbox hg));try go_wp2_with (first|((with_reducible refine Zaq (N:=1) rfl ?_);refine bx 1 #[.int .i64 aQ,.slice aW aa.length aT,.slice di au.length dn,.int .i64 aV,.int .i64 bg,.slice dM aI.length dJ,.int .i64 bq] 36 ?_;intro wD hg w2 hbox hb;have lG:=Za.mk (hbox);have Ph:=Za.mk ((gE hg HB.out:w.heap.size≤wD));replace HB:=Za.mk (bS HB.out hb);clear hb hbox hg)))
 go_loopg [3] k (fun kq v3 w'=>∃(af:Int),v3= .int .i64 af∧Za (Zbd.l0 kq af aQ aa au aV bg aI bq=some r)∧Za (kq≤k)∧Za (w'.heap[wD]? =some (.cells #[.int .i64 aQ,(.slice aW aa.length aT),(.slice di au.length dn),.int .i64 aV,.int .i64 bg,(.slice dM aI.length dJ),.int .i64 bq] 36 (0,0)))∧Za (Below w.heap.size w w'))
 case atStart=>exact⟨(0),eS,H',⟨Nat.le_refl _⟩,⟨kM lG.out⟩,⟨bM HB.out⟩⟩
 case round=>
  clear H';try clear c1
  try clear p2
  obtain⟨af,rfl,HA,HK1,lG,HB⟩:=hrel
  cases gk with
  | zero => exact absurd HA.out (by simp [Zbd.l0])
  |succ k1=>
   have H:=HA.out;clear HA;simp only[Zbd.l0]at H;by_cases c3:af<(aI.length:Int)
   case neg=>
    rw[if_neg c3]at H;have eY:decide (af<(aI.length:Int))=false:=decide_eq_false c3;clear c3;obtain rfl:=sj H;obtain⟨Eg,Eh,Mj,Ri,Rj,Rk,Rl,DR,DT,LC,QB,QC,QD,QE⟩:=cz7 lG.out;go_wp2
    repeat(go_quiet (fail);try go_wp2)
    go_ret;exact⟨eR,bM HB.out⟩
   rw[if_pos c3]at H;have eY:decide (af<(aI.length:Int))=true:=decide_eq_true c3;clear c3;obtain⟨dz,H⟩:=ifT H;by_cases c5:((Zco aI af).length:Int)=(aa.length:Int)
   case neg=>
    rw[if_neg c5]at H;have dh:(((Zco aI af).length:Int)==(aa.length:Int))=false:=beq_eq_false_iff_ne.mpr c5;have kQ:(((Zco aI af).length:Int) !=(aa.length:Int))=true:=bne_iff_ne.mpr c5;have La:((Zco aI af).length==aa.length)=false:=by first|simpa using c5|(simp at c5 ⊢;omega)
    obtain rfl:=sj H;obtain⟨zi,zk,zm,Ec,Ed,Ee,Ef,yY,za,zb,DJ,DK,DL,DN⟩:=cz7 lG.out;have Ue:(0≤(af:Int))=True:=teq;have Ul:(af<(aI.length:Int))=True:=teq;obtain⟨wh,SY,Tz,rfl,qO,uG,ut⟩:=Zfq ji.out af odt odt;replace qO:=hB HB.out qO;have Sg:=Za.mk ut;have RO:=Za.mk uG;clear ut uG;go_wp2
    repeat(go_quiet (fail);try go_wp2)
    go_ret;exact⟨eR,bM HB.out⟩
   rw[if_pos c5]at H;have dh:(((Zco aI af).length:Int)==(aa.length:Int))=true:=beq_iff_eq.mpr c5;have kQ:(((Zco aI af).length:Int) !=(aa.length:Int))=false:=bne_eq_false_iff_eq.mpr c5;have La:((Zco aI af).length==aa.length)=true:=by first|simpa using c5|(simp at c5 ⊢;omega)
   clear c5;have H':=Za.mk H;clear H;obtain⟨kH,kJ,kY,nI,nJ,EO,EP,kE,kF,kX,nG,nH,EM,EN⟩:=cz7 lG.out;have Ue:(0≤(af:Int))=True:=teq;have Ul:(af<(aI.length:Int))=True:=teq;obtain⟨wh,SY,Tz,rfl,qO,uG,ut⟩:=Zfq ji.out af odt odt;replace qO:=hB HB.out qO;have Sg:=Za.mk ut;have RO:=Za.mk uG;clear ut uG;go_wp2
   repeat(go_quiet (fail);try go_wp2)
   go_loopg [4] k1 (fun kq v4 w'=>∃(fM:Int),v4= .int .i64 fM∧Za (Zbd.l1 kq af fM aQ aa au aV bg aI bq=some r)∧Za (kq≤k1)∧Za (w'.heap[wD]? =some (.cells #[.int .i64 aQ,(.slice aW aa.length aT),(.slice di au.length dn),.int .i64 aV,.int .i64 bg,(.slice (some wh) aI.length dJ),.int .i64 bq] 36 (0,0)))∧Za (Below w.heap.size w w'))
   case atStart=>exact⟨(0),eS,H',⟨Nat.le_refl _⟩,⟨kM lG.out⟩,⟨bM HB.out⟩⟩
   case round=>
    clear H';try clear c1
    try clear c2
    try clear p2
    try clear q2
    try clear hx2
    try clear c3
    try clear eY
    try clear c4
    try clear dz
    try clear c5
    try clear dh
    try clear kQ
    try clear La
    try clear kH kJ kY nI nJ EO EP kE kF kX nG nH EM EN
    try clear qO
    try clear p2
    try clear Ue
    try clear Ul
    obtain⟨fM,rfl,HA,HK2,lG,HB⟩:=hrel
    cases gk with
    | zero => exact absurd HA.out (by simp [Zbd.l1])
    |succ k2=>
     have H:=HA.out;clear HA;simp only[Zbd.l1]at H;obtain⟨mF,H⟩:=ifT H;obtain⟨mG,H⟩:=ifT H;by_cases c9:fM<((Zco aI af).length:Int)
     case neg=>
      rw[if_neg c9]at H;have oI:decide (fM<((Zco aI af).length:Int))=false:=decide_eq_false c9;clear c9;have H':=Za.mk H;clear H;obtain⟨uf,ug,uh,xA,xB,Ea,Eb,tN,tO,tQ,wU,wV,DF,DI⟩:=cz7 lG.out;have Uf:(0≤(af:Int))=True:=teq;have Um:(af<(aI.length:Int))=True:=teq;obtain⟨Bw,MB,ML,e264,lg,oo,ol⟩:=Zfq ji.out af odt odt;obtain rfl:wh=Bw:=(by injection e264);replace lg:=hB HB.out lg;have IA:=Za.mk ol;have I8:=Za.mk oo;clear ol oo;go_wp2
      repeat(go_quiet (fail);try go_wp2)
      go_roundg k2
      case measure=>have:=HK1.out;have:=HK2.out;omega
      case rel=>exact⟨(wrap64 (af+1)),eS,H',⟨by have:=HK1.out;have:=HK2.out;omega⟩,⟨kM lG.out⟩,⟨bM HB.out⟩⟩
     rw[if_pos c9]at H;have oI:decide (fM<((Zco aI af).length:Int))=true:=decide_eq_true c9;clear c9;obtain⟨lN,H⟩:=ifT H;obtain⟨Oh,A11,H⟩:=bnd H;try dsimp only at H
     by_cases c12:Oh=true
     case pos=>
      subst c12;rw[if_pos rfl]at H;have H':=Za.mk H;clear H;obtain⟨YK,YL,YM,YN,YO,YP,YQ,XB,XC,XD,XE,XF,XG,XH⟩:=cz7 lG.out;have Uf:(0≤(af:Int))=True:=teq;have Um:(af<(aI.length:Int))=True:=teq;obtain⟨Bw,MB,ML,e264,lg,oo,ol⟩:=Zfq ji.out af odt odt;obtain rfl:wh=Bw:=(by injection e264);replace lg:=hB HB.out lg;have IA:=Za.mk ol;have I8:=Za.mk oo;clear ol oo;have bRa:(0≤(af:Int))=True:=teq;have cba:(af<(aI.length:Int))=True:=teq;obtain⟨KC,Ta,TA,Nq,ql,uH,uu⟩:=Zfq ji.out af odt odt;obtain rfl:wh=KC:=(by injection Nq);replace ql:=hB HB.out ql;have Eo:=Za.mk uu;have RP:=Za.mk uH;clear uu uH;have ea_:=Option.some.inj (lg.symm.trans ql)
      injection ea_ with ea_ en_ ec_
      subst ea_;subst ec_;clear en_;have zz:0≤(fM:Int):=odt;have zQ:fM<((Zco aI af).length:Int):=odt;obtain⟨WB,rfl,uW⟩:=Kd.Zb1 Eo.out fM zz zQ;replace uW:=hB HB.out uW;replace zz:=eq_true zz;replace zQ:=eq_true zQ
      go_wp2_with (first|(go_at_call 73;(with_reducible refine(Zbc.calls (rd (Zco aI af) fM) true _ A11.out).mono ?_);rintro e w' ⟨rfl,⟨nd,rfl⟩⟩;(try first|exact⟨rfl,_,World.drewN_drewN _ _ _⟩|exact⟨rfl,_,Eq.trans (World.drewN_drewN _ _ _) (congrArg (World.drewN _) (Nat.add_assoc _ _ _))⟩)))
      repeat(go_quiet (first|(go_at_call 73;(with_reducible refine(Zbc.calls (rd (Zco aI af) fM) true _ A11.out).mono ?_);rintro e w' ⟨rfl,⟨nd,rfl⟩⟩;(try first|exact⟨rfl,_,World.drewN_drewN _ _ _⟩|exact⟨rfl,_,Eq.trans (World.drewN_drewN _ _ _) (congrArg (World.drewN _) (Nat.add_assoc _ _ _))⟩)));try go_wp2_with (first|(go_at_call 73;(with_reducible refine(Zbc.calls (rd (Zco aI af) fM) true _ A11.out).mono ?_);rintro e w' ⟨rfl,⟨nd,rfl⟩⟩;(try first|exact⟨rfl,_,World.drewN_drewN _ _ _⟩|exact⟨rfl,_,Eq.trans (World.drewN_drewN _ _ _) (congrArg (World.drewN _) (Nat.add_assoc _ _ _))⟩))))
      go_roundg k2
      case measure=>have:=HK1.out;have:=HK2.out;omega
      case rel=>exact⟨(wrap64 (fM+1)),eS,H',⟨by have:=HK1.out;have:=HK2.out;omega⟩,⟨kM lG.out⟩,⟨bM HB.out⟩⟩
     replace c12:=Bool.eq_false_iff.mpr c12;subst c12;replace H:=ifF H;obtain rfl:=sj H;obtain⟨xy,xz,DY,FT,FU,Mh,Mi,wS,wT,DC,F8,F9,LA,LB⟩:=cz7 lG.out;have Uf:(0≤(af:Int))=True:=teq;have Um:(af<(aI.length:Int))=True:=teq;obtain⟨Bw,MB,ML,e264,lg,oo,ol⟩:=Zfq ji.out af odt odt;obtain rfl:wh=Bw:=(by injection e264);replace lg:=hB HB.out lg;have IA:=Za.mk ol;have I8:=Za.mk oo;clear ol oo;have bRa:(0≤(af:Int))=True:=teq;have cba:(af<(aI.length:Int))=True:=teq;obtain⟨KC,Ta,TA,Nq,ql,uH,uu⟩:=Zfq ji.out af odt odt;obtain rfl:wh=KC:=(by injection Nq);replace ql:=hB HB.out ql;have Eo:=Za.mk uu;have RP:=Za.mk uH;clear uu uH;have ea_:=Option.some.inj (lg.symm.trans ql)
     injection ea_ with ea_ en_ ec_
     subst ea_;subst ec_;clear en_;have zz:0≤(fM:Int):=odt;have zQ:fM<((Zco aI af).length:Int):=odt;obtain⟨WB,rfl,uW⟩:=Kd.Zb1 Eo.out fM zz zQ;replace uW:=hB HB.out uW;replace zz:=eq_true zz;replace zQ:=eq_true zQ
     go_wp2_with (first|(go_at_call 73;(with_reducible refine(Zbc.calls (rd (Zco aI af) fM) false _ A11.out).mono ?_);rintro e w' ⟨rfl,⟨nd,rfl⟩⟩;(try first|exact⟨rfl,_,World.drewN_drewN _ _ _⟩|exact⟨rfl,_,Eq.trans (World.drewN_drewN _ _ _) (congrArg (World.drewN _) (Nat.add_assoc _ _ _))⟩)))
     repeat(go_quiet (first|(go_at_call 73;(with_reducible refine(Zbc.calls (rd (Zco aI af) fM) false _ A11.out).mono ?_);rintro e w' ⟨rfl,⟨nd,rfl⟩⟩;(try first|exact⟨rfl,_,World.drewN_drewN _ _ _⟩|exact⟨rfl,_,Eq.trans (World.drewN_drewN _ _ _) (congrArg (World.drewN _) (Nat.add_assoc _ _ _))⟩)));try go_wp2_with (first|(go_at_call 73;(with_reducible refine(Zbc.calls (rd (Zco aI af) fM) false _ A11.out).mono ?_);rintro e w' ⟨rfl,⟨nd,rfl⟩⟩;(try first|exact⟨rfl,_,World.drewN_drewN _ _ _⟩|exact⟨rfl,_,Eq.trans (World.drewN_drewN _ _ _) (congrArg (World.drewN _) (Nat.add_assoc _ _ _))⟩))))
     go_ret;exact⟨eR,bM HB.out⟩
def Zbf.l0 : Nat → List (S82) → Int → Option (Bool)
 | 0, _, _ => none
 |k+1,x0,x3=>if x3<(x0.length:Int)then(if 0≤x3 then(if((Zbk x0 x3).f0)<0 then(some false)else(if((Zbk x0 x3).f1)>1 then(some false)else(Zbf.l0 k x0 (wrap64 (x3+1)))))else(none))else(some true)
def Zbf.f (k:Nat) (l0:List (S82)):Option (Bool):=Zbf.l0 k l0 0
set_option maxRecDepth 100000 in
theorem Zbf.calls (k : Nat) (A0 : Option Addr) (c0 : Nat) (l0 : List (S82)) (r : Bool) (w : World) (hr0 : Kd.C k82 w A0 l0.length l0) (hc0 : l0.length ≤ c0) (h : Zbf.f k l0 = some r) :
  Calls Tryz.prog 105 #[.slice A0 l0.length c0] w fun e w'=>e= .returned (.bool r)∧Zas w w':=by
 have HR0:=Za.mk hr0;have HC0:=Za.mk hc0;clear hr0 hc0;have H:(Zbf.l0 k l0 0)=some r:=h;clear h;have H':=Za.mk H;clear H;go_enter Tryz.func105,Tryz.ntmps105;go_wp2
 go_loopg [3] k (fun kq v3 w'=>∃(af:Int),v3= .int .i64 af∧Za (Zbf.l0 kq l0 af=some r)∧Za (kq≤k)∧Zas w w')
 case atStart=>exact⟨(0),eS,H',⟨Nat.le_refl _⟩,by repeat(first|exact Zas.refl _|apply Zas.step)⟩
 case round=>
  clear H';try clear c1
  obtain⟨af,rfl,HA,HK1,⟨m1,rfl⟩⟩:=hrel
  cases gk with
  | zero => exact absurd HA.out (by simp [Zbf.l0])
  |succ k1=>
   have H:=HA.out;clear HA;simp only[Zbf.l0]at H;by_cases c2:af<(l0.length:Int)
   case neg=>
    rw[if_neg c2]at H;have jo:decide (af<(l0.length:Int))=false:=decide_eq_false c2;clear c2;obtain rfl:=sj H;go_wp2;go_ret;exact⟨eS,by repeat(first|exact Zas.refl _|apply Zas.step)⟩
   rw[if_pos c2]at H;have jo:decide (af<(l0.length:Int))=true:=decide_eq_true c2;clear c2;obtain⟨eY,H⟩:=ifT H;by_cases c4:((Zbk l0 af).f0)<0
   case pos=>
    rw[if_pos c4]at H;have dz:decide (((Zbk l0 af).f0)<0)=true:=decide_eq_true c4;clear c4;obtain rfl:=sj H;have Ug:(0≤(af:Int))=True:=teq;have Un:(af<(l0.length:Int))=True:=teq;obtain⟨Fu,rfl,Jm,Jn⟩:=Zek HR0.out af odt odt;go_wp2;go_ret;exact⟨eS,by repeat(first|exact Zas.refl _|apply Zas.step)⟩
   rw[if_neg c4]at H;have dz:decide (((Zbk l0 af).f0)<0)=false:=decide_eq_false c4;clear c4;by_cases c5:((Zbk l0 af).f1)>1
   case pos=>
    rw[if_pos c5]at H;have dh:decide (1<((Zbk l0 af).f1))=true:=decide_eq_true c5;clear c5;obtain rfl:=sj H;have Ug:(0≤(af:Int))=True:=teq;have Un:(af<(l0.length:Int))=True:=teq;obtain⟨Fu,rfl,Jm,Jn⟩:=Zek HR0.out af odt odt;have bSa:(0≤(af:Int))=True:=teq;have cca:(af<(l0.length:Int))=True:=teq;obtain⟨KD,e269,Sv,Sw⟩:=Zek HR0.out af odt odt;obtain rfl:Fu=KD:=(by injection e269);go_wp2;go_ret;exact⟨eS,by repeat(first|exact Zas.refl _|apply Zas.step)⟩
   rw[if_neg c5]at H;have dh:decide (1<((Zbk l0 af).f1))=false:=decide_eq_false c5;clear c5;have H':=Za.mk H;clear H;have Ug:(0≤(af:Int))=True:=teq;have Un:(af<(l0.length:Int))=True:=teq;obtain⟨Fu,rfl,Jm,Jn⟩:=Zek HR0.out af odt odt;have bSa:(0≤(af:Int))=True:=teq;have cca:(af<(l0.length:Int))=True:=teq;obtain⟨KD,e269,Sv,Sw⟩:=Zek HR0.out af odt odt;obtain rfl:Fu=KD:=(by injection e269);go_wp2
   go_roundg k1
   case measure=>have:=HK1.out;omega
   case rel=>exact⟨(wrap64 (af+1)),eS,H',⟨by have:=HK1.out;omega⟩,by repeat(first|exact Zas.refl _|apply Zas.step)⟩
def Zbw.l0 : Nat → List (List (S82)) → Int → Int → List Int → List Int → Int → Int → List (List Int) → Int → Option (Bool)
 | 0, _, _, _, _, _, _, _, _, _ => none
 |k+1,x0,x5,Jy,qY,vJ,Jz,J2,J3,J4=>if x5<(qY.length:Int)then(if 0≤x5 then(if 0≤(rd qY x5)then(if(rd qY x5)<(x0.length:Int)then((Zbf.f k (Zdf x0 (rd qY x5))).bind fun Oi=>(if Oi=true then(if x5<(vJ.length:Int)then(if(rd vJ x5)=1 then(Zbw.l0 k x0 (wrap64 (x5+1)) Jy qY vJ Jz J2 J3 J4)else(if(rd vJ x5)=(-1)then(Zbw.l0 k x0 (wrap64 (x5+1)) Jy qY vJ Jz J2 J3 J4)else(some false)))else(none))else(some false)))else(none))else(none))else(none))else(some true)
def Zbw.f (k:Nat) (l0:List (List (S82))) (aC:Int) (az:List Int) (aJ:List Int) (cO:Int) (df:Int) (bn:List (List Int)) (bY:Int):Option (Bool):=Zbw.l0 k l0 0 aC az aJ cO df bn bY
set_option maxRecDepth 100000 in
theorem Zbw.calls (k : Nat) (A0 : Option Addr) (c0 : Nat) (l0 : List (List (S82))) (aC : Int) (fG : Option Addr) (fI : Nat) (az : List Int) (fB : Option Addr) (fC : Nat) (aJ : List Int) (cO : Int) (df : Int) (jk : Option Addr) (jm : Nat) (bn : List (List Int)) (bY : Int) (r : Bool) (w : World) (hr0 : Kd.C (Kd.slice 82 k82) w A0 l0.length l0) (hc0 : l0.length ≤ c0) (lX : Kd.C (Kd.int .i64) w fG az.length az) (lU : az.length ≤ fI) (lY : Kd.C (Kd.int .i64) w fB aJ.length aJ) (lV : aJ.length ≤ fC) (tJ : Kd.C (Kd.slice 3 (Kd.int .i64)) w jk bn.length bn) (tH : bn.length ≤ jm) (h : Zbw.f k l0 aC az aJ cO df bn bY = some r) :
  Calls Tryz.prog 106 #[.slice A0 l0.length c0,.agg #[.int .i64 aC,.slice fG az.length fI,.slice fB aJ.length fC,.int .i64 cO,.int .i64 df,.slice jk bn.length jm,.int .i64 bY]] w fun e w'=>e= .returned (.bool r)∧Below w.heap.size w w':=by
 have hu36:=Tryz.underlying36;have HR0:=Za.mk hr0;have HC0:=Za.mk hc0;clear hr0 hc0;have gD:=Za.mk lX;have iE:=Za.mk lU;clear lX lU;have fT:=Za.mk lY;have iF:=Za.mk lV;clear lY lV;have jE:=Za.mk tJ;have jB:=Za.mk tH;clear tJ tH;have HB:=Za.mk (Below.refl w.heap.size w);have H:(Zbw.l0 k l0 0 aC az aJ cO df bn bY)=some r:=h;clear h;have H':=Za.mk H;clear H;go_enter Tryz.func106,Tryz.ntmps106
 go_wp2_with (first|((with_reducible refine Zaq (N:=3) rfl ?_);refine bx 3 #[.int .i64 aC,.slice fG az.length fI,.slice fB aJ.length fC,.int .i64 cO,.int .i64 df,.slice jk bn.length jm,.int .i64 bY] 36 ?_;intro Qz hg w3 hbox hb;have qJ:=Za.mk (hbox);have dTa:=Za.mk ((gE hg HB.out:w.heap.size≤Qz));replace HB:=Za.mk (bS HB.out hb);clear hb hbox hg))
 go_loopg [5] k (fun kq v5 w'=>∃(ax:Int),v5= .int .i64 ax∧Za (Zbw.l0 kq l0 ax aC az aJ cO df bn bY=some r)∧Za (kq≤k)∧Za (w'.heap[Qz]? =some (.cells #[.int .i64 aC,(.slice fG az.length fI),(.slice fB aJ.length fC),.int .i64 cO,.int .i64 df,(.slice jk bn.length jm),.int .i64 bY] 36 (0,0)))∧Za (Below w.heap.size w w'))
 case atStart=>exact⟨(0),eS,H',⟨Nat.le_refl _⟩,⟨kM qJ.out⟩,⟨bM HB.out⟩⟩
 case round=>
  clear H';try clear c1
  try clear p2
  obtain⟨ax,rfl,HA,HK1,qJ,HB⟩:=hrel
  cases gk with
  | zero => exact absurd HA.out (by simp [Zbw.l0])
  |succ k1=>
   have H:=HA.out;clear HA;simp only[Zbw.l0]at H;by_cases c4:ax<(az.length:Int)
   case neg=>
    rw[if_neg c4]at H;have dz:decide (ax<(az.length:Int))=false:=decide_eq_false c4;clear c4;obtain rfl:=sj H;obtain⟨Eg,Eh,Mj,Ri,Rj,Rk,Rl,DR,DT,LC,QB,QC,QD,QE⟩:=cz7 qJ.out;go_wp2;go_ret;exact⟨eR,bM HB.out⟩
   rw[if_pos c4]at H;have dz:decide (ax<(az.length:Int))=true:=decide_eq_true c4;clear c4;obtain⟨dh,H⟩:=ifT H;obtain⟨iQ,H⟩:=ifT H;obtain⟨mF,H⟩:=ifT H;obtain⟨Oi,A8,H⟩:=bnd H;try dsimp only at H
   by_cases c9:Oi=true
   case neg=>
    replace c9:=Bool.eq_false_iff.mpr c9;subst c9;replace H:=ifF H;obtain rfl:=sj H;obtain⟨zi,zk,zm,Ec,Ed,Ee,Ef,yY,za,zb,DJ,DK,DL,DN⟩:=cz7 qJ.out;have nR:0≤(ax:Int):=odt;have nT:ax<(az.length:Int):=odt;obtain⟨KE,rfl,kg⟩:=Kd.Zb1 gD.out ax nR nT;replace kg:=hB HB.out kg;replace nR:=eq_true nR;replace nT:=eq_true nT;have NJ:(0≤((rd az ax):Int))=True:=teq;have NY:((rd az ax)<(l0.length:Int))=True:=teq;obtain⟨KF,rC,rD,rfl,ko,jY,jX⟩:=Zfr HR0.out (rd az ax) odt odt;replace ko:=hB HB.out ko;have pW:=Za.mk jX;have pK:=Za.mk jY;clear jX jY
    go_wp2_with (first|((with_reducible refine Zak (f:=105) rfl ?_);refine gl 21 Tryz.func105 #[.slice rC (Zdf l0 (rd az ax)).length rD] ?_;(with_reducible refine(Zbf.calls k1 _ _ (Zdf l0 (rd az ax)) false _ (cM (Kd.Zad pW.out HB.out)) pK.out A8.out).mono ?_);rintro e w' ⟨rfl,⟨nd,rfl⟩⟩;refine⟨_,rfl,?_⟩))
    go_ret;exact⟨eR,bM HB.out⟩
   subst c9;rw[if_pos rfl]at H;obtain⟨lN,H⟩:=ifT H;by_cases c11:(rd aJ ax)=1
   case pos=>
    rw[if_pos c11]at H;have nN:((rd aJ ax)==1)=true:=beq_iff_eq.mpr c11;have WQ:((rd aJ ax) !=1)=false:=bne_eq_false_iff_eq.mpr c11;clear c11;have H':=Za.mk H;clear H;obtain⟨pz,p8,pE,pF,pG,tX,tY,oO,oP,oQ,oU,oV,tK,tL⟩:=cz7 qJ.out;have nR:0≤(ax:Int):=odt;have nT:ax<(az.length:Int):=odt;obtain⟨KE,rfl,kg⟩:=Kd.Zb1 gD.out ax nR nT;replace kg:=hB HB.out kg;replace nR:=eq_true nR;replace nT:=eq_true nT;have NJ:(0≤((rd az ax):Int))=True:=teq;have NY:((rd az ax)<(l0.length:Int))=True:=teq;obtain⟨KF,rC,rD,rfl,ko,jY,jX⟩:=Zfr HR0.out (rd az ax) odt odt;replace ko:=hB HB.out ko;have pW:=Za.mk jX;have pK:=Za.mk jY;clear jX jY
    go_wp2_with (first|((with_reducible refine Zak (f:=105) rfl ?_);refine gl 21 Tryz.func105 #[.slice rC (Zdf l0 (rd az ax)).length rD] ?_;(with_reducible refine(Zbf.calls k1 _ _ (Zdf l0 (rd az ax)) true _ (cM (Kd.Zad pW.out HB.out)) pK.out A8.out).mono ?_);rintro e w' ⟨rfl,⟨nd,rfl⟩⟩;refine⟨_,rfl,?_⟩;have rO:0≤(ax:Int):=odt;have rW:ax<(aJ.length:Int):=odt;obtain⟨Fv,e274,ou⟩:=Kd.Zb1 fT.out ax rO rW;cases e274;replace ou:=hB HB.out ou;replace rO:=eq_true rO;replace rW:=eq_true rW))
    go_roundg k1
    case measure=>have:=HK1.out;omega
    case rel=>exact⟨(wrap64 (ax+1)),eS,H',⟨by have:=HK1.out;omega⟩,⟨kM qJ.out⟩,⟨bM HB.out⟩⟩
   rw[if_neg c11]at H;have nN:((rd aJ ax)==1)=false:=beq_eq_false_iff_ne.mpr c11;have WQ:((rd aJ ax) !=1)=true:=bne_iff_ne.mpr c11;by_cases c13:(rd aJ ax)=(-1)
   case neg=>
    rw[if_neg c13]at H;have nO:((rd aJ ax)==(-1))=false:=beq_eq_false_iff_ne.mpr c13;have KS:((rd aJ ax) !=(-1))=true:=bne_iff_ne.mpr c13;obtain rfl:=sj H;obtain⟨uf,ug,uh,xA,xB,Ea,Eb,tN,tO,tQ,wU,wV,DF,DI⟩:=cz7 qJ.out;have nR:0≤(ax:Int):=odt;have nT:ax<(az.length:Int):=odt;obtain⟨KE,rfl,kg⟩:=Kd.Zb1 gD.out ax nR nT;replace kg:=hB HB.out kg;replace nR:=eq_true nR;replace nT:=eq_true nT;have NJ:(0≤((rd az ax):Int))=True:=teq;have NY:((rd az ax)<(l0.length:Int))=True:=teq;obtain⟨KF,rC,rD,rfl,ko,jY,jX⟩:=Zfr HR0.out (rd az ax) odt odt;replace ko:=hB HB.out ko;have pW:=Za.mk jX;have pK:=Za.mk jY;clear jX jY
    go_wp2_with (first|((with_reducible refine Zak (f:=105) rfl ?_);refine gl 21 Tryz.func105 #[.slice rC (Zdf l0 (rd az ax)).length rD] ?_;(with_reducible refine(Zbf.calls k1 _ _ (Zdf l0 (rd az ax)) true _ (cM (Kd.Zad pW.out HB.out)) pK.out A8.out).mono ?_);rintro e w' ⟨rfl,⟨nd,rfl⟩⟩;refine⟨_,rfl,?_⟩;have rO:0≤(ax:Int):=odt;have rW:ax<(aJ.length:Int):=odt;obtain⟨Fv,e274,ou⟩:=Kd.Zb1 fT.out ax rO rW;cases e274;replace ou:=hB HB.out ou;replace rO:=eq_true rO;replace rW:=eq_true rW;have z8:0≤(ax:Int):=odt;have zR:ax<(aJ.length:Int):=odt;obtain⟨KG,e275,uX⟩:=Kd.Zb1 fT.out ax z8 zR;obtain rfl:Fv=KG:=(by injection e275);replace uX:=hB HB.out uX;replace z8:=eq_true z8;replace zR:=eq_true zR))
    go_ret;exact⟨eR,bM HB.out⟩
   rw[if_pos c13]at H;have nO:((rd aJ ax)==(-1))=true:=beq_iff_eq.mpr c13;have KS:((rd aJ ax) !=(-1))=false:=bne_eq_false_iff_eq.mpr c13;clear c13;have H':=Za.mk H;clear H;obtain⟨xy,xz,DY,FT,FU,Mh,Mi,wS,wT,DC,F8,F9,LA,LB⟩:=cz7 qJ.out;have nR:0≤(ax:Int):=odt;have nT:ax<(az.length:Int):=odt;obtain⟨KE,rfl,kg⟩:=Kd.Zb1 gD.out ax nR nT;replace kg:=hB HB.out kg;replace nR:=eq_true nR;replace nT:=eq_true nT;have NJ:(0≤((rd az ax):Int))=True:=teq;have NY:((rd az ax)<(l0.length:Int))=True:=teq;obtain⟨KF,rC,rD,rfl,ko,jY,jX⟩:=Zfr HR0.out (rd az ax) odt odt;replace ko:=hB HB.out ko;have pW:=Za.mk jX;have pK:=Za.mk jY;clear jX jY
   go_wp2_with (first|((with_reducible refine Zak (f:=105) rfl ?_);refine gl 21 Tryz.func105 #[.slice rC (Zdf l0 (rd az ax)).length rD] ?_;(with_reducible refine(Zbf.calls k1 _ _ (Zdf l0 (rd az ax)) true _ (cM (Kd.Zad pW.out HB.out)) pK.out A8.out).mono ?_);rintro e w' ⟨rfl,⟨nd,rfl⟩⟩;refine⟨_,rfl,?_⟩;have rO:0≤(ax:Int):=odt;have rW:ax<(aJ.length:Int):=odt;obtain⟨Fv,e274,ou⟩:=Kd.Zb1 fT.out ax rO rW;cases e274;replace ou:=hB HB.out ou;replace rO:=eq_true rO;replace rW:=eq_true rW;have z8:0≤(ax:Int):=odt;have zR:ax<(aJ.length:Int):=odt;obtain⟨KG,e275,uX⟩:=Kd.Zb1 fT.out ax z8 zR;obtain rfl:Fv=KG:=(by injection e275);replace uX:=hB HB.out uX;replace z8:=eq_true z8;replace zR:=eq_true zR))
   go_roundg k1
   case measure=>have:=HK1.out;omega
   case rel=>exact⟨(wrap64 (ax+1)),eS,H',⟨by have:=HK1.out;omega⟩,⟨kM qJ.out⟩,⟨bM HB.out⟩⟩
mutual
def Zap.j0 : Nat → List (List (S82)) → Bool → Int → List Int → List Int → Int → Int → List (List Int) → Int → Option (Bool)
 | 0, _, _, _, _, _, _, _, _, _ => none
 |k+1,x0,x5,gq,gu,iU,iP,iY,gz,gJ=>if x5=true then(Zap.j1 k x0 x5 ((iU.length:Int)==0) gq gu iU iP iY gz gJ)else(Zap.j1 k x0 x5 false gq gu iU iP iY gz gJ)
def Zap.j1 : Nat → List (List (S82)) → Bool → Bool → Int → List Int → List Int → Int → Int → List (List Int) → Int → Option (Bool)
 | 0, _, _, _, _, _, _, _, _, _, _ => none
 |k+1,x0,x5,x6,gq,gu,iU,iP,iY,gz,gJ=>if iP≥0 then(Zap.j2 k x0 x5 x6 (decide (iP≤2)) gq gu iU iP iY gz gJ)else(Zap.j2 k x0 x5 x6 false gq gu iU iP iY gz gJ)
def Zap.j2 : Nat → List (List (S82)) → Bool → Bool → Bool → Int → List Int → List Int → Int → Int → List (List Int) → Int → Option (Bool)
 | 0, _, _, _, _, _, _, _, _, _, _, _ => none
 |k+1,x0,x5,x6,x7,gq,gu,iU,iP,iY,gz,gJ=>if(gu.length:Int)>0 then((Zaw.f k gu).bind fun Lx=>(Zap.j3 k x0 x5 x6 x7 Lx gq gu iU iP iY gz gJ))else(Zap.j3 k x0 x5 x6 x7 false gq gu iU iP iY gz gJ)
def Zap.j3 : Nat → List (List (S82)) → Bool → Bool → Bool → Bool → Int → List Int → List Int → Int → Int → List (List Int) → Int → Option (Bool)
 | 0, _, _, _, _, _, _, _, _, _, _, _, _ => none
 |k+1,x0,x5,x6,x7,x8,gq,gu,iU,iP,iY,gz,gJ=>if gq=0 then(if(gz.length:Int)=0 then((Zb4.f k gq gu iU iP iY gz gJ).bind fun Oj=>(if Oj=true then(if x7=true then(some (gJ==0))else(some false))else(some false)))else(some false))else(if gq=1 then(if(gz.length:Int)=0 then(if x6=true then(some x8)else(some false))else(some false))else(if gq=2 then(if x6=true then(if x8=true then((Zbd.f k gq gu iU iP iY gz gJ).bind fun Ol=>(some Ol))else(some false))else(some false))else(if gq=3 then(if(gz.length:Int)=0 then(if x6=true then(if x8=true then(some (decide ((gu.length:Int)≥3)))else(some false))else(some false))else(some false))else(if gq=4 then(if(gz.length:Int)=0 then((Zb4.f k gq gu iU iP iY gz gJ).bind fun Om=>(if Om=true then(if x7=true then(if 0≤gJ then(if gJ<(x0.length:Int)then((Zbf.f k (Zdf x0 gJ)).bind fun Oo=>(if Oo=true then((Zbj.f k gu gJ).bind fun Oq=>(some (!Oq)))else(some false)))else(none))else(none))else(some false))else(some false)))else(some false))else(if gq=5 then(if(gz.length:Int)=0 then(if x5=true then((Zb4.f k gq gu iU iP iY gz gJ).bind fun Ot=>(if Ot=true then((Zbw.f k x0 gq gu iU iP iY gz gJ).bind fun Ou=>(some Ou))else(some false)))else(some false))else(some false))else(if(gz.length:Int)=0 then(if x6=true then(if(gu.length:Int)≥2 then(some (((gu.length:Int)%2)==0))else(some false))else(some false))else(some false)))))))
end
def Zap.f (k:Nat) (l0:List (List (S82))) (aC:Int) (az:List Int) (aJ:List Int) (cO:Int) (df:Int) (bn:List (List Int)) (bY:Int):Option (Bool):=if cO=0 then(if df=0 then(Zap.j0 k l0 (bY==0) aC az aJ cO df bn bY)else(Zap.j0 k l0 false aC az aJ cO df bn bY))else(Zap.j0 k l0 false aC az aJ cO df bn bY)
set_option maxRecDepth 100000 in
theorem Zap.calls (k : Nat) (A0 : Option Addr) (c0 : Nat) (l0 : List (List (S82))) (aC : Int) (fG : Option Addr) (fI : Nat) (az : List Int) (fB : Option Addr) (fC : Nat) (aJ : List Int) (cO : Int) (df : Int) (jk : Option Addr) (jm : Nat) (bn : List (List Int)) (bY : Int) (r : Bool) (w : World) (hr0 : Kd.C (Kd.slice 82 k82) w A0 l0.length l0) (hc0 : l0.length ≤ c0) (lX : Kd.C (Kd.int .i64) w fG az.length az) (lU : az.length ≤ fI) (lY : Kd.C (Kd.int .i64) w fB aJ.length aJ) (lV : aJ.length ≤ fC) (tJ : Kd.C (Kd.slice 3 (Kd.int .i64)) w jk bn.length bn) (tH : bn.length ≤ jm) (h : Zap.f k l0 aC az aJ cO df bn bY = some r) :
  Calls Tryz.prog 75 #[.slice A0 l0.length c0,.agg #[.int .i64 aC,.slice fG az.length fI,.slice fB aJ.length fC,.int .i64 cO,.int .i64 df,.slice jk bn.length jm,.int .i64 bY]] w fun e w'=>e= .returned (.bool r)∧Below w.heap.size w w':=by
 have hu36:=Tryz.underlying36;have HR0:=Za.mk hr0;have HC0:=Za.mk hc0;clear hr0 hc0;have gD:=Za.mk lX;have iE:=Za.mk lU;clear lX lU;have fT:=Za.mk lY;have iF:=Za.mk lV;clear lY lV;have jE:=Za.mk tJ;have jB:=Za.mk tH;clear tJ tH;have HB:=Za.mk (Below.refl w.heap.size w);have H:(if cO=0 then(if df=0 then(Zap.j0 k l0 (bY==0) aC az aJ cO df bn bY)else(Zap.j0 k l0 false aC az aJ cO df bn bY))else(Zap.j0 k l0 false aC az aJ cO df bn bY))=some r:=h;clear h;have HC3:=Za.mk H;clear H;go_enter Tryz.func75,Tryz.ntmps75
 go_upto_region 1 with (first|((with_reducible refine Zaq (N:=3) rfl ?_);(try(refine Zb3 (by rfl) ?_;dsimp only));refine bx 3 #[.int .i64 aC,.slice fG az.length fI,.slice fB aJ.length fC,.int .i64 cO,.int .i64 df,.slice jk bn.length jm,.int .i64 bY] 36 ?_;intro BJ hg w4 hbox hb;have bE:=Za.mk (hbox);have dUa:=Za.mk ((gE hg HB.out:w.heap.size≤BJ));replace HB:=Za.mk (bS HB.out hb);clear hb hbox hg))
 (try simp only[Act.put,List.setIfInBounds_toArray,List.set_cons_zero,List.set_cons_succ])
 go_cut [5] (fun v5 wc=>∃(kq:Nat) (d9:Bool),v5= .bool d9∧Za (Zap.j0 kq l0 d9 aC az aJ cO df bn bY=some r)∧Za (kq≤k)∧Za (wc.heap[BJ]? =some (.cells #[.int .i64 aC,(.slice fG az.length fI),(.slice fB aJ.length fC),.int .i64 cO,.int .i64 df,(.slice jk bn.length jm),.int .i64 bY] 36 (0,0)))∧Za (Below w.heap.size w wc))
 case first=>
  have H:=HC3.out;clear HC3;by_cases c5:cO=0
  case neg=>
   rw[if_neg c5]at H;have dh:(cO==0)=false:=beq_eq_false_iff_ne.mpr c5;have kQ:(cO !=0)=true:=bne_iff_ne.mpr c5
   (first|rw[dh]|(simp only[Zd0,Zel];rw[dh])|skip)
   have H':=Za.mk H;clear H;obtain⟨AO,AP,AQ,I4,I5,I6,I7,AA,AB,AC,Iq,Ir,Iu,Iw⟩:=cz7 bE.out;go_wp2
   go_meet
   case rel=>exact⟨_,(false),eS,H',⟨by first|omega|exact Nat.le_refl _⟩,⟨kM bE.out⟩,⟨bM HB.out⟩⟩
  rw[if_pos c5]at H;have dh:(cO==0)=true:=beq_iff_eq.mpr c5;have kQ:(cO !=0)=false:=bne_eq_false_iff_eq.mpr c5;clear c5
  (first|rw[dh]|(simp only[Zd0,Zel];rw[dh])|skip)
  by_cases c6:df=0
  case neg=>
   rw[if_neg c6]at H;have iQ:(df==0)=false:=beq_eq_false_iff_ne.mpr c6;have xQ:(df !=0)=true:=bne_iff_ne.mpr c6;have H':=Za.mk H;clear H;obtain⟨xK,xL,xM,xN,xO,yx,yz,xn,xq,xu,xw,xx,yu,yw⟩:=cz7 bE.out;go_wp2
   go_meet
   case rel=>exact⟨_,(false),eS,H',⟨by first|omega|exact Nat.le_refl _⟩,⟨kM bE.out⟩,⟨bM HB.out⟩⟩
  rw[if_pos c6]at H;have iQ:(df==0)=true:=beq_iff_eq.mpr c6;have xQ:(df !=0)=false:=bne_eq_false_iff_eq.mpr c6;clear c6;have H':=Za.mk H;clear H;obtain⟨pI,pJ,sI,xI,xJ,AJ,AL,pg,pq,sH,xk,xm,Ay,Az⟩:=cz7 bE.out;go_wp2
  go_meet
  case rel=>exact⟨_,((bY==0)),eS,H',⟨by first|omega|exact Nat.le_refl _⟩,⟨kM bE.out⟩,⟨bM HB.out⟩⟩
 case rest=>
  clear HC3;try clear c1
  try clear p2
  try clear c5
  try clear dh
  try clear kQ
  try clear c6
  try clear iQ
  try clear xQ
  try clear c7
  try clear pI pJ sI xI xJ AJ AL pg pq sH xk xm Ay Az
  try clear xK xL xM xN xO yx yz xn xq xu xw xx yu yw
  try clear AO AP AQ I4 I5 I6 I7 AA AB AC Iq Ir Iu Iw
  obtain⟨kq,d9,rfl,HA,HJ2,bE,HB⟩:=hcut
  cases kq with
  | zero => exact absurd HA.out (by simp [Zap.j0])
  |succ kj2=>
   have H:=HA.out;clear HA;simp only[Zap.j0]at H;have MX:=Za.mk H;clear H
   go_upto_region 2 with (fail)
   go_cut [6] (fun v6 wc=>∃(kq:Nat) (wP:Bool),v6= .bool wP∧Za (Zap.j1 kq l0 d9 wP aC az aJ cO df bn bY=some r)∧Za (kq≤kj2)∧Za (wc.heap[BJ]? =some (.cells #[.int .i64 aC,(.slice fG az.length fI),(.slice fB aJ.length fC),.int .i64 cO,.int .i64 df,(.slice jk bn.length jm),.int .i64 bY] 36 (0,0)))∧Za (Below w.heap.size w wc))
   case first=>
    have H:=MX.out;clear MX;by_cases c11:d9=true
    case pos=>
     subst c11;rw[if_pos rfl]at H;have H':=Za.mk H;clear H;obtain⟨pz,p8,pE,pF,pG,tX,tY,oO,oP,oQ,oU,oV,tK,tL⟩:=cz7 bE.out;go_wp2
     go_meet
     case rel=>exact⟨_,(((aJ.length:Int)==0)),eS,H',⟨by have:=HJ2.out;first|omega|exact Nat.le_refl _⟩,⟨kM bE.out⟩,⟨bM HB.out⟩⟩
    replace c11:=Bool.eq_false_iff.mpr c11;subst c11;replace H:=ifF H;have H':=Za.mk H;clear H;go_wp2
    go_meet
    case rel=>exact⟨_,(false),eS,H',⟨by have:=HJ2.out;first|omega|exact Nat.le_refl _⟩,⟨kM bE.out⟩,⟨bM HB.out⟩⟩
   case rest=>
    clear MX;try clear c1
    try clear p2
    try clear c5
    try clear dh
    try clear kQ
    try clear c6
    try clear iQ
    try clear xQ
    try clear c7
    try clear c11
    try clear pz p8 pE pF pG tX tY oO oP oQ oU oV tK tL
    try clear pI pJ sI xI xJ AJ AL pg pq sH xk xm Ay Az
    try clear xK xL xM xN xO yx yz xn xq xu xw xx yu yw
    try clear AO AP AQ I4 I5 I6 I7 AA AB AC Iq Ir Iu Iw
    try clear p2
    obtain⟨kq,wP,rfl,HA,HJ9,bE,HB⟩:=hcut
    cases kq with
    | zero => exact absurd HA.out (by simp [Zap.j1])
    |succ kj9=>
     have H:=HA.out;clear HA;simp only[Zap.j1]at H;have Nb:=Za.mk H;clear H
     go_upto_region 3 with (fail)
     go_cut [7] (fun v7 wc=>∃(kq:Nat) (yT:Bool),v7= .bool yT∧Za (Zap.j2 kq l0 d9 wP yT aC az aJ cO df bn bY=some r)∧Za (kq≤kj9)∧Za (wc.heap[BJ]? =some (.cells #[.int .i64 aC,(.slice fG az.length fI),(.slice fB aJ.length fC),.int .i64 cO,.int .i64 df,(.slice jk bn.length jm),.int .i64 bY] 36 (0,0)))∧Za (Below w.heap.size w wc))
     case first=>
      have H:=Nb.out;clear Nb;by_cases c14:cO≥0
      case neg=>
       rw[if_neg c14]at H;have kP:decide (0≤cO)=false:=decide_eq_false c14;clear c14
       (first|rw[kP]|(simp only[Zd0,Zel];rw[kP])|skip)
       have H':=Za.mk H;clear H;obtain⟨zi,zk,zm,Ec,Ed,Ee,Ef,yY,za,zb,DJ,DK,DL,DN⟩:=cz7 bE.out;go_wp2
       go_meet
       case rel=>exact⟨_,(false),eS,H',⟨by have:=HJ2.out;have:=HJ9.out;first|omega|exact Nat.le_refl _⟩,⟨kM bE.out⟩,⟨bM HB.out⟩⟩
      rw[if_pos c14]at H;have kP:decide (0≤cO)=true:=decide_eq_true c14;clear c14
      (first|rw[kP]|(simp only[Zd0,Zel];rw[kP])|skip)
      have H':=Za.mk H;clear H;obtain⟨uf,ug,uh,xA,xB,Ea,Eb,tN,tO,tQ,wU,wV,DF,DI⟩:=cz7 bE.out;go_wp2
      go_meet
      case rel=>exact⟨_,(decide (cO≤2)),eS,H',⟨by have:=HJ2.out;have:=HJ9.out;first|omega|exact Nat.le_refl _⟩,⟨kM bE.out⟩,⟨bM HB.out⟩⟩
     case rest=>
      clear Nb;try clear c1
      try clear p2
      try clear c5
      try clear dh
      try clear kQ
      try clear c6
      try clear iQ
      try clear xQ
      try clear c7
      try clear c11
      try clear c14
      try clear kP
      try clear pz p8 pE pF pG tX tY oO oP oQ oU oV tK tL
      try clear uf ug uh xA xB Ea Eb tN tO tQ wU wV DF DI
      try clear zi zk zm Ec Ed Ee Ef yY za zb DJ DK DL DN
      try clear pI pJ sI xI xJ AJ AL pg pq sH xk xm Ay Az
      try clear xK xL xM xN xO yx yz xn xq xu xw xx yu yw
      try clear AO AP AQ I4 I5 I6 I7 AA AB AC Iq Ir Iu Iw
      try clear p2
      obtain⟨kq,yT,rfl,HA,HJ12,bE,HB⟩:=hcut
      cases kq with
      | zero => exact absurd HA.out (by simp [Zap.j2])
      |succ kj12=>
       have H:=HA.out;clear HA;simp only[Zap.j2]at H;have Nc:=Za.mk H;clear H
       go_upto_region 4 with (fail)
       go_cut [8] (fun v8 wc=>∃(kq:Nat) (D7:Bool),v8= .bool D7∧Za (Zap.j3 kq l0 d9 wP yT D7 aC az aJ cO df bn bY=some r)∧Za (kq≤kj12)∧Za (wc.heap[BJ]? =some (.cells #[.int .i64 aC,(.slice fG az.length fI),(.slice fB aJ.length fC),.int .i64 cO,.int .i64 df,(.slice jk bn.length jm),.int .i64 bY] 36 (0,0)))∧Za (Below w.heap.size w wc))
       case first=>
        have H:=Nc.out;clear Nc;by_cases c18:(az.length:Int)>0
        case neg=>
         rw[if_neg c18]at H;have jU:decide (0<(az.length:Int))=false:=decide_eq_false c18;have qz:decide (0<az.length)=false:=decide_eq_false (by omega);clear c18
         (first|rw[jU]|(simp only[Zd0,Zel];rw[jU])|skip)
         have H':=Za.mk H;clear H;obtain⟨FW,FX,Rm,Rn,Ro,Rp,Rq,FC,FD,QF,QG,QH,QI,QJ⟩:=cz7 bE.out;go_wp2
         go_meet
         case rel=>exact⟨_,(false),eS,H',⟨by have:=HJ2.out;have:=HJ9.out;have:=HJ12.out;first|omega|exact Nat.le_refl _⟩,⟨kM bE.out⟩,⟨bM HB.out⟩⟩
        rw[if_pos c18]at H;have jU:decide (0<(az.length:Int))=true:=decide_eq_true c18;have qz:decide (0<az.length)=true:=decide_eq_true (by omega);clear c18
        (first|rw[jU]|(simp only[Zd0,Zel];rw[jU])|skip)
        obtain⟨Lx,A19,H⟩:=bnd H;try dsimp only at H
        have H':=Za.mk H;clear H;obtain⟨zn,zo,FV,Ms,Mt,YT,YU,ze,zf,FB,LM,LP,XK,XL⟩:=cz7 bE.out
        go_wp2_with (first|(go_at_call 102;(with_reducible refine(Zaw.calls kj12 _ _ az Lx _ (cM (Kd.Zad gD.out HB.out)) iE.out A19.out).mono ?_);rintro e w' ⟨rfl,⟨nd,rfl⟩⟩))
        go_meet
        case rel=>exact⟨_,(Lx),eS,H',⟨by have:=HJ2.out;have:=HJ9.out;have:=HJ12.out;first|omega|exact Nat.le_refl _⟩,⟨kM bE.out⟩,⟨bM HB.out⟩⟩
       case rest=>
        clear Nc;try clear c1
        try clear p2
        try clear c5
        try clear dh
        try clear kQ
        try clear c6
        try clear iQ
        try clear xQ
        try clear c7
        try clear c11
        try clear c14
        try clear kP
        try clear c18
        try clear jU
        try clear qz
        try clear pz p8 pE pF pG tX tY oO oP oQ oU oV tK tL
        try clear uf ug uh xA xB Ea Eb tN tO tQ wU wV DF DI
        try clear zi zk zm Ec Ed Ee Ef yY za zb DJ DK DL DN
        try clear zn zo FV Ms Mt YT YU ze zf FB LM LP XK XL
        try clear FW FX Rm Rn Ro Rp Rq FC FD QF QG QH QI QJ
        try clear pI pJ sI xI xJ AJ AL pg pq sH xk xm Ay Az
        try clear xK xL xM xN xO yx yz xn xq xu xw xx yu yw
        try clear AO AP AQ I4 I5 I6 I7 AA AB AC Iq Ir Iu Iw
        try clear p2
        obtain⟨kq,D7,rfl,HA,HJ16,bE,HB⟩:=hcut
        cases kq with
        | zero => exact absurd HA.out (by simp [Zap.j3])
        |succ kj16=>
         have H:=HA.out;clear HA;simp only[Zap.j3]at H;by_cases c22:aC=0
         case pos=>
          rw[if_pos c22]at H;have BH:(aC==0)=true:=beq_iff_eq.mpr c22;have KX:(aC !=0)=false:=bne_eq_false_iff_eq.mpr c22;clear c22;by_cases c23:(bn.length:Int)=0
          case neg=>
           rw[if_neg c23]at H;have yJ:((bn.length:Int)==0)=false:=beq_eq_false_iff_ne.mpr c23;have Fx:((bn.length:Int) !=0)=true:=bne_iff_ne.mpr c23;have Qs:¬(bn= []):=fun h_=>c23 (by rw[h_];rfl)
           obtain rfl:=sj H;obtain⟨ala,ama,ana,aoa,apa,aqa,ara,Yc,Yd,Ye,Yf,Yg,Yh,Yi⟩:=cz7 bE.out;go_wp2;go_ret;exact⟨eR,bM HB.out⟩
          rw[if_pos c23]at H;have yJ:((bn.length:Int)==0)=true:=beq_iff_eq.mpr c23;have Fx:((bn.length:Int) !=0)=false:=bne_eq_false_iff_eq.mpr c23;clear c23;obtain⟨Oj,A24,H⟩:=bnd H;try dsimp only at H
          by_cases c25:Oj=true
          case neg=>
           replace c25:=Bool.eq_false_iff.mpr c25;subst c25;replace H:=ifF H;obtain rfl:=sj H;obtain⟨R5,R6,afa,aga,aha,jRa,jSa,QU,QV,XV,XW,XX,fYa,gaa⟩:=cz7 bE.out
           go_wp2_with (first|(go_at_call 103;(with_reducible refine(Zb4.calls kj16 aC _ _ az _ _ aJ cO df _ _ bn bY false _ (cM (Kd.Zad gD.out HB.out)) iE.out (cM (Kd.Zad fT.out HB.out)) iF.out (cM (Kd.Zad jE.out HB.out)) jB.out A24.out).mono ?_);rintro e w33 ⟨rfl,hb⟩;replace HB:=Za.mk (bS HB.out hb);clear bE;(try clear hb);(try clear hb2);(try clear hk);(try clear hi)))
           go_ret;exact⟨eR,bM HB.out⟩
          subst c25;rw[if_pos rfl]at H;by_cases c26:yT=true
          case pos=>
           subst c26;rw[if_pos rfl]at H;obtain rfl:=sj H;obtain⟨M3,M4,Ru,Rv,Rw,jIa,jJa,LW,LX,QM,QN,QO,fPa,fQa⟩:=cz7 bE.out
           go_wp2_with (first|(go_at_call 103;(with_reducible refine(Zb4.calls kj16 aC _ _ az _ _ aJ cO df _ _ bn bY true _ (cM (Kd.Zad gD.out HB.out)) iE.out (cM (Kd.Zad fT.out HB.out)) iF.out (cM (Kd.Zad jE.out HB.out)) jB.out A24.out).mono ?_);rintro e w28 ⟨rfl,hb⟩;replace bE:=Za.mk (kB bE.out hb);replace HB:=Za.mk (bS HB.out hb);(try clear hb);(try clear hb2);(try clear hk);(try clear hi);obtain⟨ui,uj,M5,M6,M7,aaa,aba,tT,tV,LY,Ma,Mc,XQ,XR⟩:=cz7 bE.out))
           go_ret;exact⟨eR,bM HB.out⟩
          replace c26:=Bool.eq_false_iff.mpr c26;subst c26;replace H:=ifF H;obtain rfl:=sj H;obtain⟨aca,aea,jKa,jLa,jMa,jNa,jOa,XT,XU,fRa,fSa,fTa,fUa,fVa⟩:=cz7 bE.out
          go_wp2_with (first|(go_at_call 103;(with_reducible refine(Zb4.calls kj16 aC _ _ az _ _ aJ cO df _ _ bn bY true _ (cM (Kd.Zad gD.out HB.out)) iE.out (cM (Kd.Zad fT.out HB.out)) iF.out (cM (Kd.Zad jE.out HB.out)) jB.out A24.out).mono ?_);rintro e w31 ⟨rfl,hb⟩;replace HB:=Za.mk (bS HB.out hb);clear bE;(try clear hb);(try clear hb2);(try clear hk);(try clear hi)))
          go_ret;exact⟨eR,bM HB.out⟩
         rw[if_neg c22]at H;have BH:(aC==0)=false:=beq_eq_false_iff_ne.mpr c22;have KX:(aC !=0)=true:=bne_iff_ne.mpr c22;by_cases c35:aC=1
         case pos=>
          rw[if_pos c35]at H;have KY:(aC==1)=true:=beq_iff_eq.mpr c35;have Xc:(aC !=1)=false:=bne_eq_false_iff_eq.mpr c35;clear c35;by_cases c36:(bn.length:Int)=0
          case neg=>
           rw[if_neg c36]at H;have Qu:((bn.length:Int)==0)=false:=beq_eq_false_iff_ne.mpr c36;have Xd:((bn.length:Int) !=0)=true:=bne_iff_ne.mpr c36;have eua:¬(bn= []):=fun h_=>c36 (by rw[h_];rfl)
           obtain rfl:=sj H;obtain⟨kea,kfa,kga,kha,kia,kja,kka,gla,gma,gna,goa,gpa,gqa,gra⟩:=cz7 bE.out;go_wp2;go_ret;exact⟨eR,bM HB.out⟩
          rw[if_pos c36]at H;have Qu:((bn.length:Int)==0)=true:=beq_iff_eq.mpr c36;have Xd:((bn.length:Int) !=0)=false:=bne_eq_false_iff_eq.mpr c36;clear c36;by_cases c37:wP=true
          case pos=>
           subst c37;rw[if_pos rfl]at H;obtain rfl:=sj H;obtain⟨R9,RA,aua,ava,axa,aya,aza,QY,Ra,Yl,Ym,Yn,Yo,Yp⟩:=cz7 bE.out;go_wp2;go_ret;exact⟨eR,bM HB.out⟩
          replace c37:=Bool.eq_false_iff.mpr c37;subst c37;replace H:=ifF H;obtain rfl:=sj H;obtain⟨a0a,a1a,a2a,a3a,a4a,kca,kda,Yq,Yr,Yt,Yu,Yv,gja,gka⟩:=cz7 bE.out;go_wp2;go_ret;exact⟨eR,bM HB.out⟩
         rw[if_neg c35]at H;have KY:(aC==1)=false:=beq_eq_false_iff_ne.mpr c35;have Xc:(aC !=1)=true:=bne_iff_ne.mpr c35;by_cases c41:aC=2
         case pos=>
          rw[if_pos c41]at H;have Xg:(aC==2)=true:=beq_iff_eq.mpr c41;have Xh:(aC !=2)=false:=bne_eq_false_iff_eq.mpr c41;clear c41;by_cases c42:wP=true
          case neg=>
           replace c42:=Bool.eq_false_iff.mpr c42;subst c42;replace H:=ifF H;obtain rfl:=sj H;obtain⟨kua,kva,kwa,kxa,kya,kza,k0a,g2a,g3a,g4a,g5a,g6a,g7a,g8a⟩:=cz7 bE.out;go_wp2;go_ret;exact⟨eR,bM HB.out⟩
          subst c42;rw[if_pos rfl]at H;by_cases c43:D7=true
          case neg=>
           replace c43:=Bool.eq_false_iff.mpr c43;subst c43;replace H:=ifF H;obtain rfl:=sj H;obtain⟨kna,koa,kpa,kqa,kra,ksa,kta,gva,gwa,gxa,gya,gza,g0a,g1a⟩:=cz7 bE.out;go_wp2;go_ret;exact⟨eR,bM HB.out⟩
          subst c43;rw[if_pos rfl]at H;obtain⟨Ol,A44,H⟩:=bnd H;try dsimp only at H
          obtain rfl:=sj H;obtain⟨Gg,Gh,Gi,Gj,Gl,kla,kma,FM,FN,FO,FP,FQ,gta,gua⟩:=cz7 bE.out
          go_wp2_with (first|(go_at_call 104;(with_reducible refine(Zbd.calls kj16 aC _ _ az _ _ aJ cO df _ _ bn bY Ol _ (cM (Kd.Zad gD.out HB.out)) iE.out (cM (Kd.Zad fT.out HB.out)) iF.out (cM (Kd.Zad jE.out HB.out)) jB.out A44.out).mono ?_);rintro e w46 ⟨rfl,hb⟩;replace HB:=Za.mk (bS HB.out hb);clear bE;(try clear hb);(try clear hb2);(try clear hk);(try clear hi)))
          go_ret;exact⟨eR,bM HB.out⟩
         rw[if_neg c41]at H;have Xg:(aC==2)=false:=beq_eq_false_iff_ne.mpr c41;have Xh:(aC !=2)=true:=bne_iff_ne.mpr c41;by_cases c49:aC=3
         case pos=>
          rw[if_pos c49]at H;have Xi:(aC==3)=true:=beq_iff_eq.mpr c49;have Xj:(aC !=3)=false:=bne_eq_false_iff_eq.mpr c49;clear c49;by_cases c50:(bn.length:Int)=0
          case neg=>
           rw[if_neg c50]at H;have Xk:((bn.length:Int)==0)=false:=beq_eq_false_iff_ne.mpr c50;have Xl:((bn.length:Int) !=0)=true:=bne_iff_ne.mpr c50;have eva:¬(bn= []):=fun h_=>c50 (by rw[h_];rfl)
           obtain rfl:=sj H;obtain⟨kCa,kDa,kEa,kFa,kGa,kHa,kIa,gKa,gLa,gMa,gNa,gOa,gPa,gQa⟩:=cz7 bE.out;go_wp2;go_ret;exact⟨eR,bM HB.out⟩
          rw[if_pos c50]at H;have Xk:((bn.length:Int)==0)=true:=beq_iff_eq.mpr c50;have Xl:((bn.length:Int) !=0)=false:=bne_eq_false_iff_eq.mpr c50;clear c50;by_cases c51:wP=true
          case neg=>
           replace c51:=Bool.eq_false_iff.mpr c51;subst c51;replace H:=ifF H;obtain rfl:=sj H;obtain⟨aFa,aGa,aHa,aIa,aJa,kAa,kBa,Y6,Y7,Y8,Y9,YA,gIa,gJa⟩:=cz7 bE.out;go_wp2;go_ret;exact⟨eR,bM HB.out⟩
          subst c51;rw[if_pos rfl]at H;by_cases c52:D7=true
          case pos=>
           subst c52;rw[if_pos rfl]at H;obtain rfl:=sj H;obtain⟨RB,RD,RF,RG,RH,k1a,k2a,Rb,Rc,Re,Rf,Rh,g9a,gAa⟩:=cz7 bE.out;go_wp2;go_ret;exact⟨eR,bM HB.out⟩
          replace c52:=Bool.eq_false_iff.mpr c52;subst c52;replace H:=ifF H;obtain rfl:=sj H;obtain⟨k3a,k4a,k5a,k6a,k7a,k8a,k9a,gBa,gCa,gDa,gEa,gFa,gGa,gHa⟩:=cz7 bE.out;go_wp2;go_ret;exact⟨eR,bM HB.out⟩
         rw[if_neg c49]at H;have Xi:(aC==3)=false:=beq_eq_false_iff_ne.mpr c49;have Xj:(aC !=3)=true:=bne_iff_ne.mpr c49;by_cases c57:aC=4
         case pos=>
          rw[if_pos c57]at H;have Xm:(aC==4)=true:=beq_iff_eq.mpr c57;have Xn:(aC !=4)=false:=bne_eq_false_iff_eq.mpr c57;clear c57;by_cases c58:(bn.length:Int)=0
          case neg=>
           rw[if_neg c58]at H;have Qv:((bn.length:Int)==0)=false:=beq_eq_false_iff_ne.mpr c58;have Qw:((bn.length:Int) !=0)=true:=bne_iff_ne.mpr c58;have eya:¬(bn= []):=fun h_=>c58 (by rw[h_];rfl)
           obtain rfl:=sj H;obtain⟨lHa,lIa,lJa,lKa,lLa,lMa,lNa,ika,ila,ima,ina,ioa,ipa,iqa⟩:=cz7 bE.out;go_wp2;go_ret;exact⟨eR,bM HB.out⟩
          rw[if_pos c58]at H;have Qv:((bn.length:Int)==0)=true:=beq_iff_eq.mpr c58;have Qw:((bn.length:Int) !=0)=false:=bne_eq_false_iff_eq.mpr c58;clear c58;obtain⟨Om,A59,H⟩:=bnd H;try dsimp only at H
          by_cases c60:Om=true
          case neg=>
           replace c60:=Bool.eq_false_iff.mpr c60;subst c60;replace H:=ifF H;obtain rfl:=sj H;obtain⟨lAa,lBa,lCa,lDa,lEa,lFa,lGa,ica,ida,iea,ifa,iga,iia,ija⟩:=cz7 bE.out
           go_wp2_with (first|(go_at_call 103;(with_reducible refine(Zb4.calls kj16 aC _ _ az _ _ aJ cO df _ _ bn bY false _ (cM (Kd.Zad gD.out HB.out)) iE.out (cM (Kd.Zad fT.out HB.out)) iF.out (cM (Kd.Zad jE.out HB.out)) jB.out A59.out).mono ?_);rintro e w76 ⟨rfl,hb⟩;replace HB:=Za.mk (bS HB.out hb);clear bE;(try clear hb);(try clear hb2);(try clear hk);(try clear hi)))
           go_ret;exact⟨eR,bM HB.out⟩
          subst c60;rw[if_pos rfl]at H;by_cases c61:yT=true
          case neg=>
           replace c61:=Bool.eq_false_iff.mpr c61;subst c61;replace H:=ifF H;obtain rfl:=sj H;obtain⟨aKa,aLa,aMa,aNa,aOa,aPa,aQa,YB,YC,YD,YE,YF,YG,YH⟩:=cz7 bE.out
           go_wp2_with (first|(go_at_call 103;(with_reducible refine(Zb4.calls kj16 aC _ _ az _ _ aJ cO df _ _ bn bY true _ (cM (Kd.Zad gD.out HB.out)) iE.out (cM (Kd.Zad fT.out HB.out)) iF.out (cM (Kd.Zad jE.out HB.out)) jB.out A59.out).mono ?_);rintro e w74 ⟨rfl,hb⟩;replace HB:=Za.mk (bS HB.out hb);clear bE;(try clear hb);(try clear hb2);(try clear hk);(try clear hi)))
           go_ret;exact⟨eR,bM HB.out⟩
          subst c61;rw[if_pos rfl]at H;obtain⟨Xo,H⟩:=ifT H;obtain⟨e4a,H⟩:=ifT H;obtain⟨Oo,A64,H⟩:=bnd H;try dsimp only at H
          by_cases c65:Oo=true
          case neg=>
           replace c65:=Bool.eq_false_iff.mpr c65;subst c65;replace H:=ifF H;obtain rfl:=sj H;obtain⟨lwa,lxa,lya,lza,l0a,l1a,l2a,hMa,hNa,hOa,hPa,hQa,hRa,hSa⟩:=cz7 bE.out
           go_wp2_with (first|(go_at_call 103;(with_reducible refine(Zb4.calls kj16 aC _ _ az _ _ aJ cO df _ _ bn bY true _ (cM (Kd.Zad gD.out HB.out)) iE.out (cM (Kd.Zad fT.out HB.out)) iF.out (cM (Kd.Zad jE.out HB.out)) jB.out A59.out).mono ?_);rintro e w71 ⟨rfl,hb⟩;replace bE:=Za.mk (kB bE.out hb);replace HB:=Za.mk (bS HB.out hb);(try clear hb);(try clear hb2);(try clear hk);(try clear hi);obtain⟨l3a,l4a,l5a,l6a,l7a,l8a,l9a,hTa,hUa,hVa,hXa,hYa,iaa,iba⟩:=cz7 bE.out;have zA:0≤(bY:Int):=odt;have zS:bY<(l0.length:Int):=odt;obtain⟨WC,Tc,TB,Nr,uY,uI,uw⟩:=Zfr HR0.out bY zA zS;cases Nr;replace uY:=hB HB.out uY;have Ep:=Za.mk uw;have Em:=Za.mk uI;clear uw uI;replace zA:=eq_true zA;replace zS:=eq_true zS)|(go_at_call 105;(with_reducible refine(Zbf.calls kj16 _ _ (Zdf l0 bY) false _ (cM (Kd.Zad Ep.out HB.out)) Em.out A64.out).mono ?_);rintro e w' ⟨rfl,⟨nd,rfl⟩⟩))
           go_ret;exact⟨eR,bM HB.out⟩
          subst c65;rw[if_pos rfl]at H;obtain⟨Oq,A66,H⟩:=bnd H;try dsimp only at H
          obtain rfl:=sj H;obtain⟨lda,lea,lfa,lga,lha,lia,lja,hwa,h0a,h2a,h3a,h4a,h5a,h6a⟩:=cz7 bE.out
          go_wp2_with (first|(go_at_call 103;(with_reducible refine(Zb4.calls kj16 aC _ _ az _ _ aJ cO df _ _ bn bY true _ (cM (Kd.Zad gD.out HB.out)) iE.out (cM (Kd.Zad fT.out HB.out)) iF.out (cM (Kd.Zad jE.out HB.out)) jB.out A59.out).mono ?_);rintro e w68 ⟨rfl,hb⟩;replace bE:=Za.mk (kB bE.out hb);replace HB:=Za.mk (bS HB.out hb);(try clear hb);(try clear hb2);(try clear hk);(try clear hi);obtain⟨lpa,lqa,lra,lsa,lta,lua,lva,hDa,hFa,hGa,hHa,hIa,hJa,hLa⟩:=cz7 bE.out;have zA:0≤(bY:Int):=odt;have zS:bY<(l0.length:Int):=odt;obtain⟨WC,Tc,TB,Nr,uY,uI,uw⟩:=Zfr HR0.out bY zA zS;cases Nr;replace uY:=hB HB.out uY;have Ep:=Za.mk uw;have Em:=Za.mk uI;clear uw uI;replace zA:=eq_true zA;replace zS:=eq_true zS)|(go_at_call 105;(with_reducible refine(Zbf.calls kj16 _ _ (Zdf l0 bY) true _ (cM (Kd.Zad Ep.out HB.out)) Em.out A64.out).mono ?_);rintro e w' ⟨rfl,⟨nd,rfl⟩⟩)|(go_at_call 49;(with_reducible refine(Zbj.calls kj16 _ _ az bY Oq _ (cM (Kd.Zad gD.out (bM HB.out))) iE.out A66.out).mono ?_);rintro e w' ⟨rfl,⟨nd,rfl⟩⟩))
          go_ret;exact⟨eR,bM HB.out⟩
         rw[if_neg c57]at H;have Xm:(aC==4)=false:=beq_eq_false_iff_ne.mpr c57;have Xn:(aC !=4)=true:=bne_iff_ne.mpr c57;by_cases c78:aC=5
         case neg=>
          rw[if_neg c78]at H;have Xp:(aC==5)=false:=beq_eq_false_iff_ne.mpr c78;have Xq:(aC !=5)=true:=bne_iff_ne.mpr c78;by_cases c92:(bn.length:Int)=0
          case neg=>
           rw[if_neg c92]at H;have Xu:((bn.length:Int)==0)=false:=beq_eq_false_iff_ne.mpr c92;have Xv:((bn.length:Int) !=0)=true:=bne_iff_ne.mpr c92;have eAa:¬(bn= []):=fun h_=>c92 (by rw[h_];rfl)
           obtain rfl:=sj H;obtain⟨mQa,mRa,mSa,mTa,mUa,mVa,mWa,jta,jua,jva,jwa,jxa,jya,jza⟩:=cz7 bE.out;go_wp2;go_ret;exact⟨eR,bM HB.out⟩
          rw[if_pos c92]at H;have Xu:((bn.length:Int)==0)=true:=beq_iff_eq.mpr c92;have Xv:((bn.length:Int) !=0)=false:=bne_eq_false_iff_eq.mpr c92;clear c92;by_cases c93:wP=true
          case neg=>
           replace c93:=Bool.eq_false_iff.mpr c93;subst c93;replace H:=ifF H;obtain rfl:=sj H;obtain⟨mJa,mKa,mLa,mMa,mNa,mOa,mPa,jma,jna,joa,jpa,jqa,jra,jsa⟩:=cz7 bE.out;go_wp2;go_ret;exact⟨eR,bM HB.out⟩
          subst c93;rw[if_pos rfl]at H;by_cases c94:(az.length:Int)≥2
          case neg=>
           rw[if_neg c94]at H;have Qx:decide (2≤(az.length:Int))=false:=decide_eq_false c94;have Qy:decide (2≤az.length)=false:=decide_eq_false (by omega);clear c94;obtain rfl:=sj H;obtain⟨mCa,mDa,mEa,mFa,mGa,mHa,mIa,jfa,jga,jha,jia,jja,jka,jla⟩:=cz7 bE.out;go_wp2;go_ret;exact⟨eR,bM HB.out⟩
          rw[if_pos c94]at H;have Qx:decide (2≤(az.length:Int))=true:=decide_eq_true c94;have Qy:decide (2≤az.length)=true:=decide_eq_true (by omega);clear c94;obtain rfl:=sj H;obtain⟨m5a,m6a,m7a,m8a,m9a,mAa,mBa,iXa,iYa,jaa,jba,jca,jda,jea⟩:=cz7 bE.out;go_wp2;go_ret;exact⟨eR,bM HB.out⟩
         rw[if_pos c78]at H;have Xp:(aC==5)=true:=beq_iff_eq.mpr c78;have Xq:(aC !=5)=false:=bne_eq_false_iff_eq.mpr c78;clear c78;by_cases c79:(bn.length:Int)=0
         case neg=>
          rw[if_neg c79]at H;have Xr:((bn.length:Int)==0)=false:=beq_eq_false_iff_ne.mpr c79;have Xt:((bn.length:Int) !=0)=true:=bne_iff_ne.mpr c79;have e5a:¬(bn= []):=fun h_=>c79 (by rw[h_];rfl)
          obtain rfl:=sj H;obtain⟨mya,mza,m0a,m1a,m2a,m3a,m4a,iQa,iRa,iSa,iTa,iUa,iVa,iWa⟩:=cz7 bE.out;go_wp2;go_ret;exact⟨eR,bM HB.out⟩
         rw[if_pos c79]at H;have Xr:((bn.length:Int)==0)=true:=beq_iff_eq.mpr c79;have Xt:((bn.length:Int) !=0)=false:=bne_eq_false_iff_eq.mpr c79;clear c79;by_cases c80:d9=true
         case neg=>
          replace c80:=Bool.eq_false_iff.mpr c80;subst c80;replace H:=ifF H;obtain rfl:=sj H;obtain⟨mra,msa,mta,mua,mva,mwa,mxa,iJa,iKa,iLa,iMa,iNa,iOa,iPa⟩:=cz7 bE.out;go_wp2;go_ret;exact⟨eR,bM HB.out⟩
         subst c80;rw[if_pos rfl]at H;obtain⟨Ot,A81,H⟩:=bnd H;try dsimp only at H
         by_cases c82:Ot=true
         case neg=>
          replace c82:=Bool.eq_false_iff.mpr c82;subst c82;replace H:=ifF H;obtain rfl:=sj H;obtain⟨mka,mla,mma,mna,moa,mpa,mqa,iCa,iDa,iEa,iFa,iGa,iHa,iIa⟩:=cz7 bE.out
          go_wp2_with (first|(go_at_call 103;(with_reducible refine(Zb4.calls kj16 aC _ _ az _ _ aJ cO df _ _ bn bY false _ (cM (Kd.Zad gD.out HB.out)) iE.out (cM (Kd.Zad fT.out HB.out)) iF.out (cM (Kd.Zad jE.out HB.out)) jB.out A81.out).mono ?_);rintro e w89 ⟨rfl,hb⟩;replace HB:=Za.mk (bS HB.out hb);clear bE;(try clear hb);(try clear hb2);(try clear hk);(try clear hi)))
          go_ret;exact⟨eR,bM HB.out⟩
         subst c82;rw[if_pos rfl]at H;obtain⟨Ou,A83,H⟩:=bnd H;try dsimp only at H
         obtain rfl:=sj H;obtain⟨lVa,lWa,lXa,lYa,maa,mba,mca,iya,iza,i0a,i1a,i2a,i3a,i4a⟩:=cz7 bE.out
         go_wp2_with (first|(go_at_call 103;(with_reducible refine(Zb4.calls kj16 aC _ _ az _ _ aJ cO df _ _ bn bY true _ (cM (Kd.Zad gD.out HB.out)) iE.out (cM (Kd.Zad fT.out HB.out)) iF.out (cM (Kd.Zad jE.out HB.out)) jB.out A81.out).mono ?_);rintro e w85 ⟨rfl,hb⟩;replace bE:=Za.mk (kB bE.out hb);replace HB:=Za.mk (bS HB.out hb);(try clear hb);(try clear hb2);(try clear hk);(try clear hi);obtain⟨mda,mea,mfa,mga,mha,mia,mja,i5a,i6a,i7a,i8a,i9a,iAa,iBa⟩:=cz7 bE.out)|(go_at_call 106;(with_reducible refine(Zbw.calls kj16 _ _ l0 aC _ _ az _ _ aJ cO df _ _ bn bY Ou _ (cM (Kd.Zad HR0.out HB.out)) HC0.out (cM (Kd.Zad gD.out HB.out)) iE.out (cM (Kd.Zad fT.out HB.out)) iF.out (cM (Kd.Zad jE.out HB.out)) jB.out A83.out).mono ?_);rintro e w87 ⟨rfl,hb⟩;replace HB:=Za.mk (bS HB.out hb);clear bE;(try clear hb);(try clear hb2);(try clear hk);(try clear hi)))
         go_ret;exact⟨eR,bM HB.out⟩
mutual
def Zav.j0 : Nat → List Int → Int → Int → Bool → Option (Bool)
 | 0, _, _, _, _ => none
 |k+1,x0,x1,x5,x15=>if x15=true then(some true)else(Zav.l0 k x0 (wrap64 (x5 - (mx x1 (wrap64 (-x1))))) 0)
def Zav.l0 : Nat → List Int → Int → Int → Option (Bool)
 | 0, _, _, _ => none
 |k+1,x0,x5,x6=>if x6<(x0.length:Int)then(if 0≤x6 then(if(rd x0 x6)>4398046511104 then(Zav.j2 k x0 x5 x6 true)else(Zav.j2 k x0 x5 x6 (decide ((rd x0 x6)<(-4398046511104)))))else(none))else(some false)
def Zav.j2 : Nat → List Int → Int → Int → Bool → Option (Bool)
 | 0, _, _, _, _ => none
 |k+1,x0,x5,x6,x39=>if x39=true then(some true)else(if 0≤x6 then(if x6<(x0.length:Int)then(if(wrap64 (x5 - (wrap64 ((mx (rd x0 x6) (wrap64 (-(rd x0 x6))))*1048576))))<0 then(some true)else(Zav.l0 k x0 (wrap64 (x5 - (wrap64 ((mx (rd x0 x6) (wrap64 (-(rd x0 x6))))*1048576)))) (wrap64 (x6+1))))else(none))else(none))
end
def Zav.f (k:Nat) (l0:List Int) (a1:Int):Option (Bool):=if a1>4611686018427387904 then(Zav.j0 k l0 a1 4611686018427387904 true)else(Zav.j0 k l0 a1 4611686018427387904 (decide (a1<(-4611686018427387904))))
set_option maxRecDepth 100000 in
theorem Zav.calls (k : Nat) (A0 : Option Addr) (c0 : Nat) (l0 : List Int) (a1 : Int) (r : Bool) (w : World) (hr0 : Kd.C (Kd.int .i64) w A0 l0.length l0) (hc0 : l0.length ≤ c0) (h : Zav.f k l0 a1 = some r) :
  Calls Tryz.prog 76 #[.slice A0 l0.length c0,.int .i64 a1] w fun e w'=>e= .returned (.bool r)∧Below w.heap.size w w':=by
 have HR0:=Za.mk hr0;have HC0:=Za.mk hc0;clear hr0 hc0;have HB:=Za.mk (Below.refl w.heap.size w);have H:(if a1>4611686018427387904 then(Zav.j0 k l0 a1 4611686018427387904 true)else(Zav.j0 k l0 a1 4611686018427387904 (decide (a1<(-4611686018427387904)))))=some r:=h;clear h;have HC3:=Za.mk H;clear H;go_enter Tryz.func76,Tryz.ntmps76
 go_upto_region 2 with (fail)
 repeat(go_quiet (fail);go_upto_region 2 with (fail))
 go_cut [15] (fun v15 wc=>∃(kq:Nat) (F3:Bool),v15= .bool F3∧Za (Zav.j0 kq l0 a1 4611686018427387904 F3=some r)∧Za (kq≤k)∧Za (Below w.heap.size w wc))
 case first=>
  have H:=HC3.out;clear HC3;by_cases c4:a1>4611686018427387904
  case neg=>
   rw[if_neg c4]at H;have dz:decide (4611686018427387904<a1)=false:=decide_eq_false c4;clear c4
   (first|rw[dz]|(simp only[Zd0,Zel];rw[dz])|skip)
   have H':=Za.mk H;clear H;go_wp2
   repeat(go_quiet (fail);try go_wp2)
   go_meet
   case rel=>exact⟨_,(decide (a1<(-4611686018427387904))),eS,H',⟨by first|omega|exact Nat.le_refl _⟩,⟨bM HB.out⟩⟩
  rw[if_pos c4]at H;have dz:decide (4611686018427387904<a1)=true:=decide_eq_true c4;clear c4
  (first|rw[dz]|(simp only[Zd0,Zel];rw[dz])|skip)
  have H':=Za.mk H;clear H;go_wp2
  repeat(go_quiet (fail);try go_wp2)
  go_meet
  case rel=>exact⟨_,(true),eS,H',⟨by first|omega|exact Nat.le_refl _⟩,⟨bM HB.out⟩⟩
 case rest=>
  clear HC3;try clear p2
  try clear c4
  try clear dz
  obtain⟨kq,F3,rfl,HA,HJ2,HB⟩:=hcut
  cases kq with
  | zero => exact absurd HA.out (by simp [Zav.j0])
  |succ kj2=>
   have H:=HA.out;clear HA;simp only[Zav.j0]at H;by_cases c5:F3=true
   case pos=>
    subst c5;rw[if_pos rfl]at H;obtain rfl:=sj H;go_wp2
    repeat(go_quiet (fail);try go_wp2)
    go_ret;exact⟨eR,bM HB.out⟩
   replace c5:=Bool.eq_false_iff.mpr c5;subst c5;replace H:=ifF H;obtain⟨ji6,hji6⟩:∃j_:Int,(mx a1 (wrap64 (-a1)))=j_:=⟨_,rfl⟩;replace H:(Zav.l0 kj2 l0 (wrap64 (4611686018427387904 - (ji6))) 0)=some r:=by first|(rw[hji6]at H;exact H)|(simp only[hji6]at H ⊢;exact H)
   have hji6_:(if a1<(wrap64 (-a1))then(wrap64 (-a1))else a1)=ji6:=hji6;have H':=Za.mk H;clear H;go_wp2
   repeat(go_quiet (fail);try go_wp2)
   go_loopg [5,6] kj2 (fun kq v5 v6 w'=>∃(d9:Int) (ae:Int),v5= .int .i64 d9∧v6= .int .i64 ae∧Za (Zav.l0 kq l0 d9 ae=some r)∧Za (kq≤kj2)∧Za (Below w.heap.size w w'))
   case atStart=>exact⟨(wrap64 (4611686018427387904 - (ji6))),(0),(by first|rfl|(simp;done)|(simp only[←hji6]<;>(first|rfl|simp))|(simp[*];done)),eS,H',⟨Nat.le_refl _⟩,⟨bM HB.out⟩⟩
   case round=>
    clear H';try clear p2
    try clear c4
    try clear dz
    try clear c5
    try clear p6
    try clear p2
    obtain⟨d9,ae,rfl,rfl,HA,HK2,HB⟩:=hrel
    cases gk with
    | zero => exact absurd HA.out (by simp [Zav.l0])
    |succ k2=>
     have H:=HA.out;clear HA;simp only[Zav.l0]at H;by_cases c7:ae<(l0.length:Int)
     case neg=>
      rw[if_neg c7]at H;have mF:decide (ae<(l0.length:Int))=false:=decide_eq_false c7;clear c7;obtain rfl:=sj H;go_wp2
      repeat(go_quiet (fail);try go_wp2)
      go_ret;exact⟨by first|rfl|(simp[Zdo,Zdp]<;>rfl)|(simp only[←hji6];first|rfl|(simp[Zdo,Zdp]<;>rfl))|(simp[*,Zdo,Zdp]<;>rfl),bM HB.out⟩
     rw[if_pos c7]at H;have mF:decide (ae<(l0.length:Int))=true:=decide_eq_true c7;clear c7;have HC8:=Za.mk H;clear H
     go_upto_region 8 with (fail)
     repeat(go_quiet (fail);go_upto_region 8 with (fail))
     go_cut [39] (fun v39 wc=>∃(kq:Nat) (F6:Bool),v39= .bool F6∧Za (Zav.j2 kq l0 d9 ae F6=some r)∧Za (kq≤k2)∧Za (Below w.heap.size w wc))
     case first=>
      have H:=HC8.out;clear HC8;obtain⟨oI,H⟩:=ifT H
      (first|rw[oI]|(simp only[Zd0,Zel];rw[oI])|skip)
      by_cases c10:(rd l0 ae)>4398046511104
      case pos=>
       rw[if_pos c10]at H;have lN:decide (4398046511104<(rd l0 ae))=true:=decide_eq_true c10;clear c10;have H':=Za.mk H;clear H;have xW:0≤(ae:Int):=odt;have xX:ae<(l0.length:Int):=odt;obtain⟨Qi,rfl,qP⟩:=Kd.Zb1 HR0.out ae xW xX;replace qP:=hB HB.out qP;replace xW:=eq_true xW;replace xX:=eq_true xX;go_wp2
       repeat(go_quiet (fail);try go_wp2)
       go_meet
       case rel=>exact⟨_,(true),eS,H',⟨by have:=HJ2.out;have:=HK2.out;first|omega|exact Nat.le_refl _⟩,⟨bM HB.out⟩⟩
      rw[if_neg c10]at H;have lN:decide (4398046511104<(rd l0 ae))=false:=decide_eq_false c10;clear c10;have H':=Za.mk H;clear H;have xW:0≤(ae:Int):=odt;have xX:ae<(l0.length:Int):=odt;obtain⟨Qi,rfl,qP⟩:=Kd.Zb1 HR0.out ae xW xX;replace qP:=hB HB.out qP;replace xW:=eq_true xW;replace xX:=eq_true xX;have Lt:0≤(ae:Int):=odt;have Lv:ae<(l0.length:Int):=odt;obtain⟨WE,e287,E8⟩:=Kd.Zb1 HR0.out ae Lt Lv;obtain rfl:Qi=WE:=(by injection e287);replace E8:=hB HB.out E8;replace Lt:=eq_true Lt;replace Lv:=eq_true Lv;go_wp2
      repeat(go_quiet (fail);try go_wp2)
      go_meet
      case rel=>exact⟨_,(decide ((rd l0 ae)<(-4398046511104))),eS,H',⟨by have:=HJ2.out;have:=HK2.out;first|omega|exact Nat.le_refl _⟩,⟨bM HB.out⟩⟩
     case rest=>
      clear HC8;try clear c1
      try clear p2
      try clear q2
      try clear hx2
      try clear c4
      try clear dz
      try clear c5
      try clear p6
      try clear c7
      try clear mF
      try clear c9
      try clear oI
      try clear c10
      try clear lN
      try clear qP
      try clear E8
      try clear p2
      try clear xW
      try clear Lt
      try clear p6
      try clear xX
      try clear Lv
      obtain⟨kq,F6,rfl,HA,HJ7,HB⟩:=hcut
      cases kq with
      | zero => exact absurd HA.out (by simp [Zav.j2])
      |succ kj7=>
       have H:=HA.out;clear HA;simp only[Zav.j2]at H;by_cases c11:F6=true
       case pos=>
        subst c11;rw[if_pos rfl]at H;obtain rfl:=sj H;go_wp2
        repeat(go_quiet (fail);try go_wp2)
        go_ret;exact⟨by first|rfl|(simp[Zdo,Zdp]<;>rfl)|(simp only[←hji6];first|rfl|(simp[Zdo,Zdp]<;>rfl))|(simp[*,Zdo,Zdp]<;>rfl),bM HB.out⟩
       replace c11:=Bool.eq_false_iff.mpr c11;subst c11;replace H:=ifF H;obtain⟨iM,H⟩:=ifT H;obtain⟨nO,H⟩:=ifT H;obtain⟨jr,hji14⟩:∃j_:Int,(mx (rd l0 ae) (wrap64 (-(rd l0 ae))))=j_:=⟨_,rfl⟩;replace H:(if(wrap64 (d9 - (wrap64 ((jr)*1048576))))<0 then(some true)else(Zav.l0 kj7 l0 (wrap64 (d9 - (wrap64 ((jr)*1048576)))) (wrap64 (ae+1))))=some r:=by first|(rw[hji14]at H;exact H)|(simp only[hji14]at H ⊢;exact H)
       have hji14_:(if(rd l0 ae)<(wrap64 (-(rd l0 ae)))then(wrap64 (-(rd l0 ae)))else(rd l0 ae))=jr:=hji14;by_cases c15:(wrap64 (d9 - (wrap64 ((jr)*1048576))))<0
       case pos=>
        rw[if_pos c15]at H;have jc:decide ((wrap64 (d9 - (wrap64 ((jr)*1048576))))<0)=true:=decide_eq_true c15;clear c15;obtain rfl:=sj H;have zB:0≤(ae:Int):=odt;have zT:ae<(l0.length:Int):=odt;obtain⟨KH,rfl,vk⟩:=Kd.Zb1 HR0.out ae zB zT;replace vk:=hB HB.out vk;replace zB:=eq_true zB;replace zT:=eq_true zT;have zC:0≤(ae:Int):=odt;have zU:ae<(l0.length:Int):=odt;obtain⟨KI,e289,vo⟩:=Kd.Zb1 HR0.out ae zC zU;obtain rfl:KH=KI:=(by injection e289);replace vo:=hB HB.out vo;replace zC:=eq_true zC;replace zU:=eq_true zU;go_wp2
        repeat(go_quiet (fail);try go_wp2)
        go_ret;exact⟨by first|rfl|(simp[Zdo,Zdp]<;>rfl)|(simp only[←hji6,←hji14];first|rfl|(simp[Zdo,Zdp]<;>rfl))|(simp[*,Zdo,Zdp]<;>rfl),bM HB.out⟩
       rw[if_neg c15]at H;have jc:decide ((wrap64 (d9 - (wrap64 ((jr)*1048576))))<0)=false:=decide_eq_false c15;clear c15;have H':=Za.mk H;clear H;have zB:0≤(ae:Int):=odt;have zT:ae<(l0.length:Int):=odt;obtain⟨KH,rfl,vk⟩:=Kd.Zb1 HR0.out ae zB zT;replace vk:=hB HB.out vk;replace zB:=eq_true zB;replace zT:=eq_true zT;have zC:0≤(ae:Int):=odt;have zU:ae<(l0.length:Int):=odt;obtain⟨KI,e289,vo⟩:=Kd.Zb1 HR0.out ae zC zU;obtain rfl:KH=KI:=(by injection e289);replace vo:=hB HB.out vo;replace zC:=eq_true zC;replace zU:=eq_true zU;go_wp2
       repeat(go_quiet (fail);try go_wp2)
       go_roundg kj7
       case measure=>have:=HJ2.out;have:=HK2.out;have:=HJ7.out;omega
       case rel=>exact⟨(wrap64 (d9 - (wrap64 ((jr)*1048576)))),(wrap64 (ae+1)),(by first|rfl|(simp;done)|(simp only[←hji14]<;>(first|rfl|simp))|(simp[*];done)),eS,H',⟨by have:=HJ2.out;have:=HK2.out;have:=HJ7.out;omega⟩,⟨bM HB.out⟩⟩
end Go.Proofs.YtdpieallpbllkaaGreat.P
