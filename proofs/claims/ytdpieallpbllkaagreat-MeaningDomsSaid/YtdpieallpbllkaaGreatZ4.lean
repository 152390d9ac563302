/- Proved: what each function of the program that the statements of this seat reach comes to, for whatever memory and arguments it is called with (on condition that its plain text tells a result). -/
import Derived.Test.YtdpieallpbllkaaGreatZ1
import Derived.Test.YtdpieallpbllkaaGreatZ3
import Derived.Test.YtdpieallpbllkaaGreatZ2
set_option linter.unusedSimpArgs false
set_option linter.unusedVariables false
set_option maxHeartbeats 8000000
namespace Go.Proofs.YtdpieallpbllkaaGreat.P
open Go.RowKit Go.Proofs.YtdpieallpbllkaaGreatW.PrintWords Go.Proofs.YtdpieallpbllkaaGreatW.PrintLast Go.Proofs.YtdpieallpbllkaaGreatW.PrintMore
attribute [local go_sem] Zcv Zcx Zdj Zdk Zcm Zcn Zcw Zcy
def cutR (l:List (List Int)):List (List Int):=(l.take 20).map fun r=>r.take 14
def bRows.f (l:List (List Int)):Option (List (List Int)):=some (cutR l)
mutual
def Zab.j1 : Nat → List (S55) → List (S36) → Int → List Int → List Int → List (S55) → Int → List Int → List Int → Option ((List (S55)) × (List (S36)) × Int × List Int × List Int)
 | 0, _, _, _, _, _, _, _, _, _ => none
 |k+1,fH,eF,lu,iB,iC,jy,ky,lw,l6=>Zab.l1 k 0 fH eF lu iB iC jy ([]:List (S36)) ky lw l6
def Zab.l1 : Nat → Int → List (S55) → List (S36) → Int → List Int → List Int → List (S55) → List (S36) → Int → List Int → List Int → Option ((List (S55)) × (List (S36)) × Int × List Int × List Int)
 | 0, _, _, _, _, _, _, _, _, _, _, _ => none
 |k+1,x6,fH,eF,lu,iB,iC,jy,qU,ky,lw,l6=>if x6<(eF.length:Int)then(Zab.j3 k x6 (decide (x6<16)) fH eF lu iB iC jy qU ky lw l6)else(Zab.j3 k x6 false fH eF lu iB iC jy qU ky lw l6)
def Zab.j3 : Nat → Int → Bool → List (S55) → List (S36) → Int → List Int → List Int → List (S55) → List (S36) → Int → List Int → List Int → Option ((List (S55)) × (List (S36)) × Int × List Int × List Int)
 | 0, _, _, _, _, _, _, _, _, _, _, _, _ => none
 |k+1,x6,x59,fH,eF,lu,iB,iC,jy,qU,ky,lw,l6=>if x59=true then(if 0≤x6 then(if x6<(eF.length:Int)then(if 0≤(mn (((Zaf eF x6).f1).length:Int) 14)then(if(mn (((Zaf eF x6).f1).length:Int) 14)≤(((Zaf eF x6).f1).length:Int)then(if 0≤(mn (((Zaf eF x6).f2).length:Int) 14)then(if(mn (((Zaf eF x6).f2).length:Int) 14)≤(((Zaf eF x6).f2).length:Int)then((bRows.f ((Zaf eF x6).f5)).bind fun t167=>((Zcp.f k ((Zaf eF x6).f0) (((Zaf eF x6).f1).take ((mn (((Zaf eF x6).f1).length:Int) 14):Int).toNat) (((Zaf eF x6).f2).take ((mn (((Zaf eF x6).f2).length:Int) 14):Int).toNat) ((Zaf eF x6).f3) ((Zaf eF x6).f4) t167 ((Zaf eF x6).f6)).bind fun eB=>(if qU.length<1353245080339 then(Zab.l1 k (wrap64 (x6+1)) fH eF lu iB iC jy (qU++ [(⟨eB.1,eB.2.1,eB.2.2.1,eB.2.2.2.1,eB.2.2.2.2.1,eB.2.2.2.2.2.1,eB.2.2.2.2.2.2⟩:S36)]) ky lw l6)else(none))))else(none))else(none))else(none))else(none))else(none))else(none))else((some (([]:List Int):List Int)).bind fun wC=>(if 0≤(mn (iB.length:Int) 14)then(if(mn (iB.length:Int) 14)≤(iB.length:Int)then(if wC.length+(iB.take ((mn (iB.length:Int) 14):Int).toNat).length<17592186044416 then((some (([]:List Int):List Int)).bind fun lI=>(if 0≤(mn (iC.length:Int) 14)then(if(mn (iC.length:Int) 14)≤(iC.length:Int)then(if lI.length+(iC.take ((mn (iC.length:Int) 14):Int).toNat).length<17592186044416 then(some (jy,qU,ky,(wC++(iB.take ((mn (iB.length:Int) 14):Int).toNat)),(lI++(iC.take ((mn (iC.length:Int) 14):Int).toNat))))else(none))else(none))else(none)))else(none))else(none))else(none)))
def Zab.l0 : Nat → Int → List (S55) → List (S36) → Int → List Int → List Int → List (S55) → Int → List Int → List Int → Option ((List (S55)) × (List (S36)) × Int × List Int × List Int)
 | 0, _, _, _, _, _, _, _, _, _, _ => none
 |k+1,x4,fH,eF,lu,iB,iC,jy,ky,lw,l6=>if x4<(fH.length:Int)then(if x4<10 then(if 0≤x4 then(if 0≤(mn (((Zb fH x4).f0).size:Int) 20)then(if(mn (((Zb fH x4).f0).size:Int) 20)≤(((Zb fH x4).f0).size:Int)then((some (([]:List (S82)):List (S82))).bind fun p8=>(if 0≤(mn (((Zb fH x4).f1).length:Int) 12)then(if(mn (((Zb fH x4).f1).length:Int) 12)≤(((Zb fH x4).f1).length:Int)then((some (((Zb fH x4).f1).take ((mn (((Zb fH x4).f1).length:Int) 12):Int).toNat:List (S82))).bind fun lH=>(if p8.length+lH.length<8796093022208 then(if jy.length<3518437208883 then(Zab.l0 k (wrap64 (x4+1)) fH eF lu iB iC (jy++ [(⟨((Zb fH x4).f0).extract 0 ((mn (((Zb fH x4).f0).size:Int) 20):Int).toNat,(p8++lH)⟩:S55)]) ky lw l6)else(none))else(none)))else(none))else(none)))else(none))else(none))else(none))else(Zab.j1 k fH eF lu iB iC jy ky lw l6))else(Zab.j1 k fH eF lu iB iC jy ky lw l6)
end
def Zab.f (k:Nat) (ag:List (S55)) (aa:List (S36)) (ay:Int) (ak:List Int) (ah:List Int):Option ((List (S55)) × (List (S36)) × Int × List Int × List Int):=Zab.l0 k 0 ag aa ay ak ah ([]:List (S55)) ay ak ah
def Zab.T6:Bool × List (List Nat × List Nat):=(true,[([],[]),([0],[0]),([],[]),([2],[2]),([],[]),([4],[4]),([5],[5]),([6],[6]),([3,7],[3,7]),([],[]),([],[]),([10],[10]),([],[]),([12],[12]),([13],[13]),([14],[14]),([11,15],[11,15]),([9,16],[9,16]),([8,17],[8,17]),([18],[18]),([1,19,17],[1,19]),([0,1,2,3,4,5,6,7,8,9,10,11,12,13,14,15,16,17,18,19,20],[]),([21,20,20,0,1,2,3,4,5,6,7,8,9,10,11,12,13,14,15,16,17,18,19,20],[20,21])])
def Zab.B6:List Nat:= [0,1,0,4,0,16,48,112,252,0,0,1024,0,4096,12288,28672,64512,130560,262140,524284,1048575,2097151,4194303]
theorem Zab.tab6:rtab .any (opsOf Tryz.f19 6)=Zab.T6:=by kernel_rfl
theorem Zab.bits6:waitsOk Zab.T6.2 Zab.B6=true:=by kernel_rfl
def Zab.T17:Bool × List (List Nat × List Nat):=(true,[([],[]),([],[]),([1],[1]),([],[]),([2,3],[2,3]),([4],[4]),([],[]),([6],[6]),([],[]),([7,8],[7,8]),([9],[9]),([10],[10]),([11],[11]),([5,12],[5,12]),([13],[13]),([0,14],[0,14]),([15,15,0,1,2,3,4,5,6,7,8,9,10,11,12,13,14,15],[0,15])])
def Zab.B17:List Nat:= [0,0,2,0,14,30,0,64,0,448,960,1984,4032,8190,16382,32767,65535]
theorem Zab.tab17:rtab .any (opsOf Tryz.f19 17)=Zab.T17:=by kernel_rfl
theorem Zab.bits17:waitsOk Zab.T17.2 Zab.B17=true:=by kernel_rfl
def Zab.T19:Bool × List (List Nat × List Nat):=(true,[([],[]),([0],[0]),([],[]),([2],[2]),([3],[3]),([1,4,3],[1,4]),([0,1,2,3,4,5],[]),([6,5,5,0,1,2,3,4,5],[5,6])])
def Zab.B19:List Nat:= [0,1,0,4,12,31,63,127]
theorem Zab.tab19:rtab .any (opsOf Tryz.f19 19)=Zab.T19:=by kernel_rfl
theorem Zab.bits19:waitsOk Zab.T19.2 Zab.B19=true:=by kernel_rfl
set_option maxRecDepth 100000 in
theorem Zab.calls (k : Nat) (dU : Option Addr) (dO : Nat) (ag : List (S55)) (aM : Option Addr) (aJ : Nat) (aa : List (S36)) (ay : Int) (bF : Option Addr) (bG : Nat) (ak : List Int) (bz : Option Addr) (bA : Nat) (ah : List Int) (r1 : List (S55)) (r2 : List (S36)) (r3 : Int) (r4 : List Int) (r5 : List Int) (w : World) (mf : Kd.C k55 w dU ag.length ag) (lX : ag.length ≤ dO) (dL : Kd.C k36 w aM aa.length aa) (dK : aa.length ≤ aJ) (jK : Kd.C (Kd.int .i64) w bF ak.length ak) (jH : ak.length ≤ bG) (jL : Kd.C (Kd.int .i64) w bz ah.length ah) (jJ : ah.length ≤ bA) (h : Zab.f k ag aa ay ak ah = some (r1, r2, r3, r4, r5)) :
  Calls Tryz.prog 19 #[.agg #[.slice dU ag.length dO,.slice aM aa.length aJ,.int .i64 ay,.slice bF ak.length bG,.slice bz ah.length bA]] w fun e w'=>∃v0_ v1_ v3_ v4_:Value,e= .returned (.agg #[v0_,v1_,.int .i64 r3,v3_,v4_])∧Kd.S k55 55 w' w.heap.size (fun _=>True) v0_ r1∧Kd.R k36 36 w' w.heap.size (fun k_=>some k_≠(v3_:Value).ownBlock∧some k_≠(v4_:Value).ownBlock) v1_ r2∧Kd.R (Kd.int .i64) 3 w' w.heap.size (fun k_=>some k_≠(v4_:Value).ownBlock) v3_ r4∧Kd.R (Kd.int .i64) 3 w' w.heap.size (fun k_=>some k_≠(v3_:Value).ownBlock) v4_ r5∧Below w.heap.size w w':=by
 have hu28:=Tryz.underlying28;have hu26:=Tryz.underlying26;have hu55:=Tryz.underlying55;have hu36:=Tryz.underlying36;have iF:=Za.mk mf;have oI:=Za.mk lX;clear mf lX;have dW:=Za.mk dL;have eO:=Za.mk dK;clear dL dK;have jQ:=Za.mk jK;have jO:=Za.mk jH;clear jK jH;have jR:=Za.mk jL;have jP:=Za.mk jJ;clear jL jJ;have HB:=Za.mk (Below.refl w.heap.size w);have H:(Zab.l0 k 0 ag aa ay ak ah ([]:List (S55)) ay ak ah)=some (r1,r2,r3,r4,r5):=h;clear h;have HC2:=Za.mk H;clear H;go_enter Tryz.func19,Tryz.ntmps19
 go_upto_block 0 with (first|((with_reducible refine Zao (N:=1) rfl ?_);refine bx 1 #[.slice dU ag.length dO,.slice aM aa.length aJ,.int .i64 ay,.slice bF ak.length bG,.slice bz ah.length bA] 28 ?_;intro iP hg w3 hbox hb;have bv:=Za.mk (hbox);have GW131:=Za.mk ((gE hg HB.out:w.heap.size≤iP));have VB:=Za.mk ((gE hg HB.out:w.heap.size≤iP));replace HB:=Za.mk (bS HB.out hb);clear hb hbox hg)|((with_reducible refine Zao (N:=2) rfl ?_);refine bx 2 #[.slice none 0 0,.slice none 0 0,.int .i64 0,.slice none 0 0,.slice none 0 0] 28 ?_;intro dP hg w4 hbox hb;have bB:=Za.mk (hbox);have GW132:=Za.mk ((gE hg HB.out:w.heap.size≤dP));have VC:=Za.mk ((gE hg HB.out:w.heap.size≤dP));replace HB:=Za.mk (bS HB.out hb);have kL:=Za.mk ((by rw[hg];exact Nat.ne_of_lt (Zc5 (kM bv.out)):iP≠dP));have kN:=Za.mk ((by rw[hg];exact Nat.ne_of_gt (Zc5 (kM bv.out)):dP≠iP));replace bv:=Za.mk (kB bv.out hb);clear hb hbox hg;have n4a:=kL.out;have n6a:=kN.out;obtain⟨kJ,kK,ll,ng,ni,kF,kH,lh,mX,mY⟩:=cz5 bv.out)|((with_reducible refine Zao (N:=3) rfl ?_);refine bx 3 #[.slice none 0 0,.slice none 0 0,.int .i64 0,.slice none 0 0,.slice none 0 0] 28 ?_;intro dJ hg w7 hbox hb;have aD:=Za.mk (hbox);have GW133:=Za.mk ((gE hg HB.out:w.heap.size≤dJ));have VD:=Za.mk ((gE hg HB.out:w.heap.size≤dJ));replace HB:=Za.mk (bS HB.out hb);have gK:=Za.mk ((by rw[hg];exact Nat.ne_of_lt (Zc5 (kM bv.out)):iP≠dJ));have jg:=Za.mk ((by rw[hg];exact Nat.ne_of_gt (Zc5 (kM bv.out)):dJ≠iP));replace bv:=Za.mk (kB bv.out hb);have jE:=Za.mk ((by rw[hg];exact Nat.ne_of_lt (Zc5 (kM bB.out)):dP≠dJ));have sO:=Za.mk ((by rw[hg];exact Nat.ne_of_gt (Zc5 (kM bB.out)):dJ≠dP));replace bB:=Za.mk (kB bB.out hb);clear hb hbox hg;have n5a:=jg.out;have n7a:=gK.out;have bLa:=sO.out;have bMa:=jE.out;obtain⟨nJ,nK,nL,pE,pF,nz,nA,nC,pq,pz⟩:=cz5 aD.out))
 (try simp only[Act.put,List.setIfInBounds_toArray,List.set_cons_zero,List.set_cons_succ])
 go_cut [] (fun wc=>∃(kq:Nat) (bf:List (S55)) (dI:Value),Za (Zab.j1 kq ag aa ay ak ah bf ay ak ah=some (r1,r2,r3,r4,r5))∧Za (kq≤k)∧Za (Kd.S k55 55 wc w.heap.size (fun _=>True) dI bf)∧Za (wc.heap[iP]? =some (.cells #[(.slice dU ag.length dO),(.slice aM aa.length aJ),.int .i64 ay,(.slice bF ak.length bG),(.slice bz ah.length bA)] 28 (0,0)))∧Za (wc.heap[dP]? =some (.cells #[(.slice none 0 0),(.slice none 0 0),.int .i64 0,(.slice none 0 0),(.slice none 0 0)] 28 (0,0)))∧Za (wc.heap[dJ]? =some (.cells #[dI,(.slice none 0 0),.int .i64 ay,(.slice bF ak.length bG),(.slice bz ah.length bA)] 28 (0,0)))∧Za (Below w.heap.size w wc))
 case first=>
  have H:=HC2.out;clear HC2;have H':=Za.mk H;clear H;go_wp2
  go_loopg [4] k (fun kq v4 w'=>∃(ai:Int) (bf:List (S55)) (dI:Value),v4= .int .i64 ai∧Za (Zab.l0 kq ai ag aa ay ak ah bf ay ak ah=some (r1,r2,r3,r4,r5))∧Za (kq≤k)∧Za (Kd.S k55 55 w' w.heap.size (fun _=>True) dI bf)∧Za (w'.heap[iP]? =some (.cells #[(.slice dU ag.length dO),(.slice aM aa.length aJ),.int .i64 ay,(.slice bF ak.length bG),(.slice bz ah.length bA)] 28 (0,0)))∧Za (w'.heap[dP]? =some (.cells #[(.slice none 0 0),(.slice none 0 0),.int .i64 0,(.slice none 0 0),(.slice none 0 0)] 28 (0,0)))∧Za (w'.heap[dJ]? =some (.cells #[dI,(.slice none 0 0),.int .i64 ay,(.slice bF ak.length bG),(.slice bz ah.length bA)] 28 (0,0)))∧Za (Below w.heap.size w w'))
  case atStart=>exact⟨(0),(([]:List (S55))),(.slice none 0 0),eS,H',⟨Nat.le_refl _⟩,⟨by first|exact Kd.S_nil _ _ _ _ _|exact Kd.N_nil _ _ _ _ _|exact Kd.V_nil _ _ _ _ _|exact Kd.Q_nil _ _ _ _ _|exact Kd.R_nil _ _ _ _ _⟩,⟨by(with_reducible repeat(first|exact bv.out|refine Zcr ?_ gK.out _|refine Zaa ?_ _|refine Zah ?_|refine Zag ?_ _))⟩,⟨by(with_reducible repeat(first|exact bB.out|refine Zcr ?_ jE.out _|refine Zaa ?_ _|refine Zah ?_|refine Zag ?_ _))⟩,⟨by(with_reducible repeat(first|refine Zag ?_ _|refine Zah ?_|refine Zaa ?_ _));refine Zau (cs:=#[.slice none 0 0,.slice none 0 0,.int .i64 ay,.slice bF ak.length bG,.slice none 0 0]) ?_ 4 _ rfl;(with_reducible repeat(first|refine Zag ?_ _|refine Zah ?_|refine Zaa ?_ _));refine Zau (cs:=#[.slice none 0 0,.slice none 0 0,.int .i64 ay,.slice none 0 0,.slice none 0 0]) ?_ 3 _ rfl;(with_reducible repeat(first|refine Zag ?_ _|refine Zah ?_|refine Zaa ?_ _));refine Zau (cs:=#[.slice none 0 0,.slice none 0 0,.int .i64 0,.slice none 0 0,.slice none 0 0]) ?_ 2 _ rfl;(with_reducible repeat(first|refine Zag ?_ _|refine Zah ?_|refine Zaa ?_ _));refine Zau (cs:=#[.slice none 0 0,.slice none 0 0,.int .i64 0,.slice none 0 0,.slice none 0 0]) ?_ 1 _ rfl;(with_reducible repeat(first|refine Zag ?_ _|refine Zah ?_|refine Zaa ?_ _));refine Zau (cs:=#[.slice none 0 0,.slice none 0 0,.int .i64 0,.slice none 0 0,.slice none 0 0]) ?_ 0 _ rfl;(with_reducible repeat(first|refine Zag ?_ _|refine Zah ?_|refine Zaa ?_ _));exact aD.out⟩,⟨bM HB.out⟩⟩
  case round=>
   clear H';try clear c1
   try clear p2
   try clear c5
   try clear c8
   try clear c9
   try clear nJ nK nL pE pF nz nA nC pq pz
   try clear kJ kK ll ng ni kF kH lh mX mY
   obtain⟨ai,bf,dI,rfl,HA,HK1,aN,bv,bB,aD,HB⟩:=hrel
   cases gk with
   | zero => exact absurd HA.out (by simp [Zab.l0])
   |succ k1=>
    have H:=HA.out;clear HA;simp only[Zab.l0]at H;by_cases c11:ai<(ag.length:Int)
    case neg=>
     rw[if_neg c11]at H;have kR:decide (ai<(ag.length:Int))=false:=decide_eq_false c11;clear c11
     (first|rw[kR]|(simp only[Zd0,Zd8];rw[kR])|skip)
     have H':=Za.mk H;clear H;have eSa:=kL.out;have fta:=kN.out;have eTa:=gK.out;have fua:=jg.out;obtain⟨Gm,Gn,Gp,Gq,Gr,FU,FV,FW,FX,FY⟩:=cz5 bv.out;go_wp2
     go_meet
     case rel=>exact⟨_,(bf),(dI),H',⟨by have:=HK1.out;first|omega|exact Nat.le_refl _⟩,⟨sM aN.out⟩,⟨by(with_reducible repeat(first|refine Zag ?_ _|refine Zah ?_|refine Zaa ?_ _));exact bv.out⟩,⟨by(with_reducible repeat(first|refine Zag ?_ _|refine Zah ?_|refine Zaa ?_ _));exact bB.out⟩,⟨by(with_reducible repeat(first|refine Zag ?_ _|refine Zah ?_|refine Zaa ?_ _));exact aD.out⟩,⟨bM HB.out⟩⟩
    rw[if_pos c11]at H;have kR:decide (ai<(ag.length:Int))=true:=decide_eq_true c11;clear c11
    (first|rw[kR]|(simp only[Zd0,Zd8];rw[kR])|skip)
    by_cases c12:ai<10
    case neg=>
     rw[if_neg c12]at H;have gL:decide (ai<10)=false:=decide_eq_false c12;clear c12;have H':=Za.mk H;clear H;have eQa:=kL.out;have fra:=kN.out;have eRa:=gK.out;have fsa:=jg.out;obtain⟨Gg,Gh,Gi,Gj,Gl,FO,FP,FQ,FR,FT⟩:=cz5 bv.out;go_wp2
     go_meet
     case rel=>exact⟨_,(bf),(dI),H',⟨by have:=HK1.out;first|omega|exact Nat.le_refl _⟩,⟨sM aN.out⟩,⟨by(with_reducible repeat(first|refine Zag ?_ _|refine Zah ?_|refine Zaa ?_ _));exact bv.out⟩,⟨by(with_reducible repeat(first|refine Zag ?_ _|refine Zah ?_|refine Zaa ?_ _));exact bB.out⟩,⟨by(with_reducible repeat(first|refine Zag ?_ _|refine Zah ?_|refine Zaa ?_ _));exact aD.out⟩,⟨bM HB.out⟩⟩
    rw[if_pos c12]at H;have gL:decide (ai<10)=true:=decide_eq_true c12;clear c12;obtain⟨ny,H⟩:=ifT H;obtain⟨jr,hji14⟩:∃j_:Int,(mn (((Zb ag ai).f0).size:Int) 20)=j_:=⟨_,rfl⟩;replace H:(if 0≤(jr)then(if(jr)≤(((Zb ag ai).f0).size:Int)then((some (([]:List (S82)):List (S82))).bind fun p8=>(if 0≤(mn (((Zb ag ai).f1).length:Int) 12)then(if(mn (((Zb ag ai).f1).length:Int) 12)≤(((Zb ag ai).f1).length:Int)then((some (((Zb ag ai).f1).take ((mn (((Zb ag ai).f1).length:Int) 12):Int).toNat:List (S82))).bind fun lH=>(if p8.length+lH.length<8796093022208 then(if bf.length<3518437208883 then(Zab.l0 k1 (wrap64 (ai+1)) ag aa ay ak ah (bf++ [(⟨((Zb ag ai).f0).extract 0 ((jr):Int).toNat,(p8++lH)⟩:S55)]) ay ak ah)else(none))else(none)))else(none))else(none)))else(none))else(none))=some (r1,r2,r3,r4,r5):=by first|(rw[hji14]at H;exact H)|(simp only[hji14]at H ⊢;exact H)
    have hji14_:(if 20<(((Zb ag ai).f0).size:Int)then 20 else(((Zb ag ai).f0).size:Int))=jr:=hji14;obtain⟨c15,H⟩:=ifP H;have jf:=eq_true c15;have vR:decide (0≤(jr))=true:=decide_eq_true c15;clear c15;obtain⟨c16,H⟩:=ifP H;have sU:=eq_true c16;have Ld:decide ((jr)≤(((Zb ag ai).f0).size:Int))=true:=decide_eq_true c16;clear c16;obtain⟨p8,Cf⟩:∃y_:List (S82),y_=(([]:List (S82))):=⟨_,rfl⟩;replace H:(if 0≤(mn (((Zb ag ai).f1).length:Int) 12)then(if(mn (((Zb ag ai).f1).length:Int) 12)≤(((Zb ag ai).f1).length:Int)then((some (((Zb ag ai).f1).take ((mn (((Zb ag ai).f1).length:Int) 12):Int).toNat:List (S82))).bind fun lH=>(if p8.length+lH.length<8796093022208 then(if bf.length<3518437208883 then(Zab.l0 k1 (wrap64 (ai+1)) ag aa ay ak ah (bf++ [(⟨((Zb ag ai).f0).extract 0 ((jr):Int).toNat,(p8++lH)⟩:S55)]) ay ak ah)else(none))else(none)))else(none))else(none))=some (r1,r2,r3,r4,r5):=by first|(rw[Cf];with_reducible exact H)|(have H2_:=(Option.bind_some _ _).symm.trans H;rw[Cf];with_reducible exact H2_)|(have H2_:=(Option.bind_some _ _).symm.trans H;with_reducible exact H2_)|with_reducible exact H|(rw[Cf];exact H)|exact H
    have PV:=Za.mk Cf;clear Cf;obtain⟨rC,hji17⟩:∃j_:Int,(mn (((Zb ag ai).f1).length:Int) 12)=j_:=⟨_,rfl⟩;replace H:(if 0≤(rC)then(if(rC)≤(((Zb ag ai).f1).length:Int)then((some (((Zb ag ai).f1).take ((rC):Int).toNat:List (S82))).bind fun lH=>(if p8.length+lH.length<8796093022208 then(if bf.length<3518437208883 then(Zab.l0 k1 (wrap64 (ai+1)) ag aa ay ak ah (bf++ [(⟨((Zb ag ai).f0).extract 0 ((jr):Int).toNat,(p8++lH)⟩:S55)]) ay ak ah)else(none))else(none)))else(none))else(none))=some (r1,r2,r3,r4,r5):=by first|(rw[hji17]at H;exact H)|(simp only[hji17]at H ⊢;exact H)
    have hji17_:(if 12<(((Zb ag ai).f1).length:Int)then 12 else(((Zb ag ai).f1).length:Int))=rC:=hji17;obtain⟨c18,H⟩:=ifP H;have jT:=eq_true c18;have qp:decide (0≤(rC))=true:=decide_eq_true c18;clear c18;obtain⟨c19,H⟩:=ifP H;have BN:=eq_true c19;have Lf:decide ((rC)≤(((Zb ag ai).f1).length:Int))=true:=decide_eq_true c19;clear c19;obtain⟨lH,Cg⟩:∃y_:List (S82),y_=(((Zb ag ai).f1).take ((rC):Int).toNat):=⟨_,rfl⟩;replace H:(if p8.length+lH.length<8796093022208 then(if bf.length<3518437208883 then(Zab.l0 k1 (wrap64 (ai+1)) ag aa ay ak ah (bf++ [(⟨((Zb ag ai).f0).extract 0 ((jr):Int).toNat,(p8++lH)⟩:S55)]) ay ak ah)else(none))else(none))=some (r1,r2,r3,r4,r5):=by first|(rw[Cg];with_reducible exact H)|(have H2_:=(Option.bind_some _ _).symm.trans H;rw[Cg];with_reducible exact H2_)|(have H2_:=(Option.bind_some _ _).symm.trans H;with_reducible exact H2_)|with_reducible exact H|(rw[Cg];exact H)|exact H
    have PW:=Za.mk Cg;clear Cg;obtain⟨c20,H⟩:=ifP H;have Bw:=Za.mk c20;clear c20;obtain⟨EQ,Ch⟩:∃y_:List (S82),y_=(p8++lH):=⟨_,rfl⟩;replace H:(if bf.length<3518437208883 then(Zab.l0 k1 (wrap64 (ai+1)) ag aa ay ak ah (bf++ [(⟨((Zb ag ai).f0).extract 0 ((jr):Int).toNat,EQ⟩:S55)]) ay ak ah)else(none))=some (r1,r2,r3,r4,r5):=by first|(rw[Ch];with_reducible exact H)|(have H2_:=(Option.bind_some _ _).symm.trans H;rw[Ch];with_reducible exact H2_)|(have H2_:=(Option.bind_some _ _).symm.trans H;with_reducible exact H2_)|with_reducible exact H|(rw[Ch];exact H)|exact H
    have WG:=Za.mk Ch;clear Ch;obtain⟨c21,H⟩:=ifP H;have Wu:=Za.mk c21;clear c21;obtain⟨LK,Ci⟩:∃y_:List (S55),y_=(bf++ [(⟨((Zb ag ai).f0).extract 0 ((jr):Int).toNat,EQ⟩:S55)]):=⟨_,rfl⟩;replace H:(Zab.l0 k1 (wrap64 (ai+1)) ag aa ay ak ah LK ay ak ah)=some (r1,r2,r3,r4,r5):=by first|(rw[Ci];with_reducible exact H)|(have H2_:=(Option.bind_some _ _).symm.trans H;rw[Ci];with_reducible exact H2_)|(have H2_:=(Option.bind_some _ _).symm.trans H;with_reducible exact H2_)|with_reducible exact H|(rw[Ci];exact H)|exact H
    have WH:=Za.mk Ci;clear Ci;have H':=Za.mk H;clear H;have eKa:=kL.out;have fka:=kN.out;have eLa:=gK.out;have fla:=jg.out;obtain⟨xk,xm,xn,xq,xu,wJ,wK,wM,wO,wP⟩:=cz5 bv.out;have NW:(0≤(ai:Int))=True:=teq;have Oo:(ai<(ag.length:Int))=True:=teq;obtain⟨WW,lm,jW,rfl,uJ,uK,Jg,IV⟩:=Zes iF.out ai odt odt;replace uJ:=hB HB.out uJ;replace uK:=hB HB.out uK;have SC:=Za.mk IV;have Sq:=Za.mk Jg;clear IV Jg;try go_wp2_with (first|((with_reducible refine Zao (N:=5) rfl ?_);refine bx 5 #[.string (⟨#[]⟩:ByteArray),.slice none 0 0] 55 ?_;intro eU hg w25 hbox hb;replace aN:=Za.mk (Kd.Ze0 (Kd.S_elderB (sM aN.out) eU (Nat.le_of_eq hg.symm)) hb);have gq:=Za.mk (hbox);have dVa:=Za.mk ((gE hg HB.out:w.heap.size≤eU));replace HB:=Za.mk (bS HB.out hb);have Fb:=Za.mk ((by rw[hg];exact Nat.ne_of_lt (Zc5 (kM bv.out)):iP≠eU));have MX:=Za.mk ((by rw[hg];exact Nat.ne_of_gt (Zc5 (kM bv.out)):eU≠iP));replace bv:=Za.mk (kB bv.out hb);have Fe:=Za.mk ((by rw[hg];exact Nat.ne_of_lt (Zc5 (kM bB.out)):dP≠eU));have Na:=Za.mk ((by rw[hg];exact Nat.ne_of_gt (Zc5 (kM bB.out)):eU≠dP));replace bB:=Za.mk (kB bB.out hb);have xC:=Za.mk ((by rw[hg];exact Nat.ne_of_lt (Zc5 (kM aD.out)):dJ≠eU));have Ff:=Za.mk ((by rw[hg];exact Nat.ne_of_gt (Zc5 (kM aD.out)):eU≠dJ));replace aD:=Za.mk (kB aD.out hb);clear hb hbox hg;have eNa:=MX.out;have foa:=Fb.out;have eOa:=Na.out;have fpa:=Fe.out;have ePa:=Ff.out;have fqa:=xC.out;obtain⟨tL,tN,tF,tH⟩:=cz2 gq.out))
    have n0_:Za (Kd.S k55 55 ((w25.setCell ⟨eU,0,none⟩ (.string ((Zb ag ai).f0))).setCell ⟨eU,1,none⟩ (.slice lm ((Zb ag ai).f1).length jW)) w.heap.size (fun k_=>k_≠eU) dI bf):=⟨sM (Kd.Zd7 (Kd.Zdy (p:=⟨eU,1,none⟩) (Kd.Zdy (p:=⟨eU,0,none⟩) (Kd.Zd7 aN.out (fun k_ hk=>(⟨hk,hk.2⟩:_∧k_≠eU))) (fun _ hk=>hk.2) (.string ((Zb ag ai).f0))) (fun _ hk=>hk.2) (.slice lm ((Zb ag ai).f1).length jW)) (fun _ hk=>hk.1.2))⟩;have n1_:Za (((w25.setCell ⟨eU,0,none⟩ (.string ((Zb ag ai).f0))).setCell ⟨eU,1,none⟩ (.slice lm ((Zb ag ai).f1).length jW)).heap[iP]? =some (.cells #[.slice (some WW) ag.length dO,.slice aM aa.length aJ,.int .i64 ay,.slice bF ak.length bG,.slice bz ah.length bA] 28 (0,0))):=⟨by(with_reducible repeat(first|exact bv.out|refine Zcr ?_ Fb.out _|refine Zaa ?_ _|refine Zah ?_|refine Zag ?_ _))⟩;have n2_:Za (((w25.setCell ⟨eU,0,none⟩ (.string ((Zb ag ai).f0))).setCell ⟨eU,1,none⟩ (.slice lm ((Zb ag ai).f1).length jW)).heap[dP]? =some (.cells #[.slice none 0 0,.slice none 0 0,.int .i64 0,.slice none 0 0,.slice none 0 0] 28 (0,0))):=⟨by(with_reducible repeat(first|exact bB.out|refine Zcr ?_ Fe.out _|refine Zaa ?_ _|refine Zah ?_|refine Zag ?_ _))⟩;have n3_:Za (((w25.setCell ⟨eU,0,none⟩ (.string ((Zb ag ai).f0))).setCell ⟨eU,1,none⟩ (.slice lm ((Zb ag ai).f1).length jW)).heap[dJ]? =some (.cells #[dI,.slice none 0 0,.int .i64 ay,.slice bF ak.length bG,.slice bz ah.length bA] 28 (0,0))):=⟨by(with_reducible repeat(first|exact aD.out|refine Zcr ?_ xC.out _|refine Zaa ?_ _|refine Zah ?_|refine Zag ?_ _))⟩;have n4_:Za (((w25.setCell ⟨eU,0,none⟩ (.string ((Zb ag ai).f0))).setCell ⟨eU,1,none⟩ (.slice lm ((Zb ag ai).f1).length jW)).heap[eU]? =some (.cells #[.string ((Zb ag ai).f0),.slice lm ((Zb ag ai).f1).length jW] 55 (0,0))):=⟨by(with_reducible repeat(first|refine Zag ?_ _|refine Zah ?_|refine Zaa ?_ _));refine Zau (cs:=#[.string ((Zb ag ai).f0),.slice none 0 0]) ?_ 1 _ rfl;(with_reducible repeat(first|refine Zag ?_ _|refine Zah ?_|refine Zaa ?_ _));refine Zau (cs:=#[.string (⟨#[]⟩:ByteArray),.slice none 0 0]) ?_ 0 _ rfl;(with_reducible repeat(first|refine Zag ?_ _|refine Zah ?_|refine Zaa ?_ _));exact gq.out⟩;have n5_:Za (Below w.heap.size w ((w25.setCell ⟨eU,0,none⟩ (.string ((Zb ag ai).f0))).setCell ⟨eU,1,none⟩ (.slice lm ((Zb ag ai).f1).length jW))):=⟨bM HB.out⟩
    (try clear aN)
    (try clear bv)
    (try clear bB)
    (try clear aD)
    (try clear gq)
    (try clear HB)
    generalize ((w25.setCell ⟨eU,0,none⟩ (.string ((Zb ag ai).f0))).setCell ⟨eU,1,none⟩ (.slice lm ((Zb ag ai).f1).length jW))=w30 at n0_ n1_ n2_ n3_ n4_ n5_ ⊢
    have aN:=n0_;have bv:=n1_;have bB:=n2_;have aD:=n3_;have gq:=n4_;have HB:=n5_;clear n0_ n1_ n2_ n3_ n4_ n5_;replace aN:=Za.mk (Kd.S_drew aN.out);replace bv:=Za.mk (Zah bv.out);replace bB:=Za.mk (Zah bB.out);replace aD:=Za.mk (Zah aD.out);replace gq:=Za.mk (Zah gq.out);replace HB:=Za.mk (Zc4 HB.out);have q32:((rC):Int)≤((((Zb ag ai).f1).length:Int):Int):=odt;obtain⟨i032,QW,_,hsz32,_⟩:=info_parts Zh7;have hroom32:((Zb ag ai).f1).length≤jW:=Sq.out;have hC32:Kd.C k82 _ lm ((Zb ag ai).f1).length ((Zb ag ai).f1):=SC.out;have hcut32:=cut_to (P:=Tryz.prog) 53 82 .i64 Tryz.underlying53 QW lm ((Zb ag ai).f1).length jW (rC) (of_decide_eq_true (by first|(with_reducible assumption)|assumption)) q32 hroom32;have NU:=Kd.C_take (m:=((rC):Int).toNat) hC32 (by omega);have hy32:lH.length=((rC):Int).toNat:=(by rw[PW.out,List.length_take];omega);rw[←PW.out]at NU;rw[←hy32]at hcut32;have PQ:=Za.mk NU;have eka:=Za.mk (show lH.length≤jW from by omega);clear NU hC32 hroom32 QW hsz32;have KY32:=Za.mk hy32;clear hy32;replace q32:=eq_true q32;refine Zfp (n:=23) (S:=fun w'=>w'.cell? ⟨dJ,0,none⟩=some (dI)∧w'.cell? ⟨dJ,1,none⟩=some (.slice none 0 0)∧w'.cell? ⟨dJ,2,none⟩=some (.int .i64 ay)∧w'.cell? ⟨dJ,3,none⟩=some (.slice bF ak.length bG)∧w'.cell? ⟨dJ,4,none⟩=some (.slice bz ah.length bA)∧w'.cell? ⟨eU,0,none⟩=some (.string ((Zb ag ai).f0))∧w'.cell? ⟨eU,1,none⟩=some (.slice lm ((Zb ag ai).f1).length jW)) (ds:= [22]) #[false,false,false,false,false,false,false,false,false,false,false,false,false,false,false,false,false,false,false,false,false,false,false] (by kernel_rfl) rfl rfl ⟨bc aD.out 0,bc aD.out 1,bc aD.out 2,bc aD.out 3,bc aD.out 4,bc gq.out 0,bc gq.out 1⟩ (fun hHeld=> ?_);refine Zej Zab.tab6 Zab.bits6 (fun HT_ HW_=> ?_)
    generalize w30.drew=w31 at aN bv bB aD gq HB PQ hHeld ⊢
    refine pu HT_ 0 29 ?_;refine pu HT_ 2 31 ?_;refine pu HT_ 4 33 ?_;refine pu HT_ 10 39 ?_;refine pu HT_ 12 41 ?_;refine tk HT_ HW_ hHeld 1 30 ?_;refine tk HT_ HW_ hHeld 3 32 ?_;refine tk HT_ HW_ hHeld 5 34 ?_;refine pu HT_ 6 35 ?_;refine pu HT_ 7 36 ?_;refine pu HT_ 8 37 ?_;refine tk HT_ HW_ hHeld 11 40 ?_;refine tk HT_ HW_ hHeld 13 42 ?_;refine pu HT_ 14 43 ?_;refine pu HT_ 15 44 ?_;refine pu HT_ 16 45 ?_;refine on1 HT_ 9 38 (fun K hK=> ?_);refine Kd.R_lit_step k82 _ 82 ?hg (N:=38) ?hd (xs:=([]:List (S82))) (inner:= []) (ok:=fun _=>True) (okp:=fun _=>True) ?hr ?hp (fun _ hk=>hk) trivial (Below.refl _ _) (Nat.le_refl _) (by simp) ?_;(case hd=>rfl);(case hg=>rfl);(case hr=>first|(go_simp;done)|(go_simp;rfl));(case hp=>exact(Reps.none _ _));intro cya w33 EC hb hg_ hnew_;clear hg_ hnew_
    (first|rw[←PV.out]at EC|(simp only[Int.reduceToNat]at EC;rw[←PV.out]at EC))
    replace aN:=Za.mk (Kd.Zgu (sM aN.out) (Kd.Zct EC) hb);have yh:=Za.mk (Kd.Zbk EC (Zac (bM HB.out)));replace bv:=Za.mk (kB bv.out hb);replace bB:=Za.mk (kB bB.out hb);replace aD:=Za.mk (kB aD.out hb);replace gq:=Za.mk (kB gq.out hb);replace HB:=Za.mk (bS HB.out hb);clear hb EC;refine hK.out _ _ ⟨bc aD.out 0,bc aD.out 1,bc aD.out 2,bc aD.out 3,bc aD.out 4,bc gq.out 0,bc gq.out 1⟩ (fun hHeld=> ?_);clear hK K;refine nmp 38 ?_;refine on1 HT_ 17 46 (fun K hK=> ?_);refine Kd.Zfw k82 (w0:=w) w.heap.size (by rfl) (.tmp 38) (.tmp 45) 53 82 (.agg #[(.int .i64 0),(.int .i64 0)]) 16 rfl Tryz.underlying53 Zh7 rfl (by decide) (by omega) cya p8 lH _ _ _ (fun _=>True) (fun _=>False) rfl rfl ?aO ?aR (fun _ _ h=>h) (fun _ h=>h.elim) ?aF ?aB ?aS ?aL ?_
    (case aR=>repeat(first|exact(Kd.Zae PQ.out HB.out)|(with_reducible refine Kd.C_alloc ?_ _)|(with_reducible refine Kd.Zb7 ?_ _)|(with_reducible refine Kd.Zci ?_)))
    (case aB=>exact(bM HB.out))
    (case aF=>exact(fun _ _=>trivial))
    (case aO=>exact(rM yh.out))
    (case aS=>exact(Zac (bM HB.out)))
    (case aL=>have:=Bw.out;omega)
    intro nKa w35 ho hb hg hat;rw[←WG.out]at ho;replace aN:=Za.mk (Kd.S_after (ok:=(fun k_=>k_≠eU)) (sM aN.out) hg hat);replace bv:=Za.mk (kG bv.out hg (Kd.R_ne yh.out bv.out (by decide)));replace bB:=Za.mk (kG bB.out hg (Kd.R_ne yh.out bB.out (by decide)));replace aD:=Za.mk (kG aD.out hg (Kd.R_ne yh.out aD.out (by decide)));replace gq:=Za.mk (kG gq.out hg (Kd.R_ne yh.out gq.out (by decide)));replace HB:=Za.mk (hb);have Fs:=Za.mk (ho);clear yh ho hb hg hat;obtain⟨fw,fA,tO⟩:=Kd.Zbe Fs.out
    (first|subst tO|(injection tO with f1_ f2_ f3_;have f4_:=f1_.symm;have f5_:=f3_.symm;clear f1_ f2_ f3_;subst f4_;subst f5_))
    refine hK.out _ _ ⟨bc aD.out 0,bc aD.out 1,bc aD.out 2,bc aD.out 3,bc aD.out 4,bc gq.out 0,bc gq.out 1⟩ (fun hHeld=> ?_);clear hK K;refine nmp 46 ?_;refine pu HT_ 18 47 ?_;refine on1 HT_ 19 48 (fun K hK=> ?_);refine value_ (w1:=?_) (v:=?_) (by rfl) rfl ?_ ?_;rotate_left 2
    ·go_simp
     constructor
     ·rfl
     rfl
    refine hK.out _ _ ⟨(Zan (Zaa aD.out _) 0).trans rfl,(Zan (Zaa aD.out _) 1).trans rfl,(Zan (Zaa aD.out _) 2).trans rfl,(Zan (Zaa aD.out _) 3).trans rfl,(Zan (Zaa aD.out _) 4).trans rfl,(Zan (Zaa gq.out _) 0).trans rfl,(Zan (Zaa gq.out _) 1).trans rfl⟩ (fun hHeld=> ?_);clear hK K;refine nmp 48 ?_;refine on1 HT_ 20 49 (fun K hK=> ?_);refine Kd.S_append_step k55 (w0:=w) w.heap.size (by rfl) (.tmp 30) (.tmp 48) 22 55 (.agg #[(.string ⟨#[]⟩),(.slice none 0 0)]) 40 rfl Tryz.underlying22 info55 rfl (by decide) (by omega) dI bf (⟨((Zb ag ai).f0).extract 0 ((jr):Int).toNat,EQ⟩:S55) [.string (((Zb ag ai).f0).extract 0 ((jr):Int).toNat),.slice fw EQ.length fA] (fun k_=>k_≠eU) (fun k_=>some k_=(.slice fw EQ.length fA:Value).ownBlock) rfl rfl ?aP (fun k_ hk_=>((Kd.Za5 (ok':=fun k_=>((fun k_=>k_≠eU)) k_∧some k_≠(dI:Value).ownBlock) (Kd.Zca (Kd.Zdc (Fs.out) (Kd.Ze aN.out) (by decide)) gq.out (by decide)) (fun k_ hk=>⟨hk.2,hk.1.2⟩))).1 k_ hk_.symm) ?aF ?aO ?aB ?aS ?aL ?_
    (case aP=>exact k55_mkM _ _ _ (⟨((Zb ag ai).f0).extract 0 ((jr):Int).toNat,EQ⟩:S55) (Kd.Za5 (Kd.Zgf rfl (Kd.Za5 (ok':=fun k_=>((fun k_=>k_≠eU)) k_∧some k_≠(dI:Value).ownBlock) (Kd.Zca (Kd.Zdc (Fs.out) (Kd.Ze aN.out) (by decide)) gq.out (by decide)) (fun k_ hk=>⟨hk.2,hk.1.2⟩))) (fun _ h_=>h_)))
    (case aB=>exact(bM HB.out))
    (case aF=>exact(fun k_ hk=>Kd.freshB (kM gq.out) k_ hk))
    (case aO=>exact(sM (Kd.Zd7 aN.out (fun k_ hk=>⟨hk.1,fun e_=>hk.2 e_⟩))))
    (case aS=>exact(Zac (bM HB.out)))
    (case aL=>have:=Wu.out;omega)
    intro nLa w37 ho hb hg hat;rw[←WH.out]at ho;replace bv:=Za.mk (kG bv.out hg (Kd.S_ne aN.out bv.out (by decide)));replace bB:=Za.mk (kG bB.out hg (Kd.S_ne aN.out bB.out (by decide)));replace aD:=Za.mk (kG aD.out hg (Kd.S_ne aN.out aD.out (by decide)));replace gq:=Za.mk (kG gq.out hg (Kd.S_away aN.out (fun _ hk=>hk.1)));replace HB:=Za.mk (hb);have PI:=Za.mk (ho);clear aN Fs ho hb hg hat;obtain⟨iG,iH,xG⟩:=Kd.S_slice PI.out
    (first|subst xG|(injection xG with f1_ f2_ f3_;have f4_:=f1_.symm;have f5_:=f3_.symm;clear f1_ f2_ f3_;subst f4_;subst f5_))
    refine hK.out _ _ ⟨bc aD.out 0,bc aD.out 1,bc aD.out 2,bc aD.out 3,bc aD.out 4,bc gq.out 0,bc gq.out 1⟩ (fun hHeld=> ?_);clear hK K;refine nmp 49 ?_;refine pu HT_ 21 50 ?_;refine last_ (i:=22) (N:=none) #[true,true,true,true,true,true,true,true,true,true,true,true,true,true,true,true,true,true,true,true,true,true,true] rfl rfl (Zh9 HT_.out (by kernel_rfl)) (by decide) (fun K hK=> ?_);have hs39:w37.cell? ⟨dJ,0,none⟩=some (dI):=(Zan aD.out 0).trans rfl;have hfs39:=Za1 aD.out 0;have hns39_0:=gK.out;have hns39_1:=jE.out;have hns39_3:=Ff.out;have hms39_0:=jg.out;have hms39_1:=sO.out;have hms39_3:=xC.out;refine skip_ (w1:=?_) (by rfl) rfl ?_ ?_;rotate_left
    ·go_simp
     rfl
    refine hK.out _ _ ?_;clear hK K;refine Zhw (Ze7 HT_.out (by kernel_rfl)) ?_;try go_wp2
    go_roundg k1
    case measure=>have:=HK1.out;omega
    case rel=>exact⟨(wrap64 (ai+1)),(LK),(.slice iG LK.length iH),eS,H',⟨by have:=HK1.out;omega⟩,⟨sM (Kd.Zd7 (Kd.Zdy (p:=⟨dJ,0,none⟩) (Kd.Zeq PI.out aD.out (by decide)) (fun _ hk=>hk.2) (.slice iG LK.length iH)) (fun _ hk=>trivial))⟩,⟨by(with_reducible repeat(first|exact bv.out|refine Zcr ?_ gK.out _|refine Zaa ?_ _|refine Zah ?_|refine Zag ?_ _))⟩,⟨by(with_reducible repeat(first|exact bB.out|refine Zcr ?_ jE.out _|refine Zaa ?_ _|refine Zah ?_|refine Zag ?_ _))⟩,⟨by(with_reducible repeat(first|refine Zag ?_ _|refine Zah ?_|refine Zaa ?_ _));refine Zau (cs:=#[dI,.slice none 0 0,.int .i64 ay,.slice bF ak.length bG,.slice bz ah.length bA]) ?_ 0 _ rfl;(with_reducible repeat(first|refine Zag ?_ _|refine Zah ?_|refine Zaa ?_ _));exact aD.out⟩,⟨bM HB.out⟩⟩
 case rest=>
  clear HC2;try clear c1
  try clear p1
  try clear q1
  try clear hx1
  try clear c2
  try clear p2
  try clear q3
  try clear c4
  try clear c5
  try clear p6
  try clear c8
  try clear c9
  try clear c11
  try clear kR
  try clear c12
  try clear gL
  try clear c13
  try clear ny
  try clear p13
  try clear q13
  try clear L6
  try clear c15
  try clear jf
  try clear vR
  try clear c16
  try clear sU
  try clear Ld
  try clear c18
  try clear jT
  try clear qp
  try clear c19
  try clear BN
  try clear Lf
  try clear c20
  try clear c21
  try clear c22
  try clear c23
  try clear c26
  try clear c27
  try clear c28
  try clear q32
  try clear c40
  try clear c41
  try clear c43
  try clear c44
  try clear nJ nK nL pE pF nz nA nC pq pz
  try clear xk xm xn xq xu wJ wK wM wO wP
  try clear tL tN tF tH
  try clear Gg Gh Gi Gj Gl FO FP FQ FR FT
  try clear Gm Gn Gp Gq Gr FU FV FW FX FY
  try clear kJ kK ll ng ni kF kH lh mX mY
  try clear uJ
  try clear uK
  try clear NW
  try clear p2
  try clear Oo
  try clear q32
  obtain⟨kq,bf,dI,HA,HJ1,aN,bv,bB,aD,HB⟩:=hcut
  cases kq with
  | zero => exact absurd HA.out (by simp [Zab.j1])
  |succ kj1=>
   have H:=HA.out;clear HA;simp only[Zab.j1]at H;have H':=Za.mk H;clear H;go_wp2
   go_loopg [6] kj1 (fun kq v6 w'=>∃(ae:Int) (bL:List (S36)) (gQ:Value),v6= .int .i64 ae∧Za (Zab.l1 kq ae ag aa ay ak ah bf bL ay ak ah=some (r1,r2,r3,r4,r5))∧Za (kq≤kj1)∧Za (Kd.S k55 55 w' w.heap.size (fun _=>True) dI bf)∧Za (Kd.R k36 36 w' w.heap.size (fun _=>True) gQ bL)∧Za (w'.heap[iP]? =some (.cells #[(.slice dU ag.length dO),(.slice aM aa.length aJ),.int .i64 ay,(.slice bF ak.length bG),(.slice bz ah.length bA)] 28 (0,0)))∧Za (w'.heap[dP]? =some (.cells #[(.slice none 0 0),(.slice none 0 0),.int .i64 0,(.slice none 0 0),(.slice none 0 0)] 28 (0,0)))∧Za (w'.heap[dJ]? =some (.cells #[dI,gQ,.int .i64 ay,(.slice bF ak.length bG),(.slice bz ah.length bA)] 28 (0,0)))∧Za (Below w.heap.size w w'))
   case atStart=>exact⟨(0),(([]:List (S36))),(.slice none 0 0),eS,H',⟨Nat.le_refl _⟩,⟨sM aN.out⟩,⟨by first|exact Kd.R_nil _ _ _ _ _|exact Kd.N_nil _ _ _ _ _|exact Kd.V_nil _ _ _ _ _|exact Kd.Q_nil _ _ _ _ _|exact Kd.S_nil _ _ _ _ _⟩,⟨by(with_reducible repeat(first|refine Zag ?_ _|refine Zah ?_|refine Zaa ?_ _));exact bv.out⟩,⟨by(with_reducible repeat(first|refine Zag ?_ _|refine Zah ?_|refine Zaa ?_ _));exact bB.out⟩,⟨by(with_reducible repeat(first|refine Zag ?_ _|refine Zah ?_|refine Zaa ?_ _));exact aD.out⟩,⟨bM HB.out⟩⟩
   case round=>
    clear H';try clear c1
    try clear p1
    try clear q1
    try clear hx1
    try clear c2
    try clear p2
    try clear q3
    try clear c4
    try clear c5
    try clear p6
    try clear c8
    try clear c9
    try clear c11
    try clear kR
    try clear c12
    try clear gL
    try clear c13
    try clear ny
    try clear p13
    try clear q13
    try clear L6
    try clear c15
    try clear jf
    try clear vR
    try clear c16
    try clear sU
    try clear Ld
    try clear c18
    try clear jT
    try clear qp
    try clear c19
    try clear BN
    try clear Lf
    try clear c20
    try clear c21
    try clear c22
    try clear c23
    try clear c26
    try clear c27
    try clear c28
    try clear q32
    try clear c40
    try clear c41
    try clear c43
    try clear c44
    try clear nJ nK nL pE pF nz nA nC pq pz
    try clear xk xm xn xq xu wJ wK wM wO wP
    try clear tL tN tF tH
    try clear Gg Gh Gi Gj Gl FO FP FQ FR FT
    try clear Gm Gn Gp Gq Gr FU FV FW FX FY
    try clear kJ kK ll ng ni kF kH lh mX mY
    try clear uJ
    try clear uK
    try clear p1
    try clear p13
    try clear NW
    try clear p2
    try clear p6
    try clear q1
    try clear q13
    try clear Oo
    try clear q3
    try clear q32
    obtain⟨ae,bL,gQ,rfl,HA,HK2,aN,bD,bv,bB,aD,HB⟩:=hrel
    cases gk with
    | zero => exact absurd HA.out (by simp [Zab.l1])
    |succ k2=>
     have H:=HA.out;clear HA;simp only[Zab.l1]at H;have N7:=Za.mk H;clear H
     go_upto_region 8 with (fail)
     go_cut [59] (fun v59 wc=>∃(kq:Nat) (DJ:Bool),v59= .bool DJ∧Za (Zab.j3 kq ae DJ ag aa ay ak ah bf bL ay ak ah=some (r1,r2,r3,r4,r5))∧Za (kq≤k2)∧Za (Kd.S k55 55 wc w.heap.size (fun _=>True) dI bf)∧Za (Kd.R k36 36 wc w.heap.size (fun _=>True) gQ bL)∧Za (wc.heap[iP]? =some (.cells #[(.slice dU ag.length dO),(.slice aM aa.length aJ),.int .i64 ay,(.slice bF ak.length bG),(.slice bz ah.length bA)] 28 (0,0)))∧Za (wc.heap[dP]? =some (.cells #[(.slice none 0 0),(.slice none 0 0),.int .i64 0,(.slice none 0 0),(.slice none 0 0)] 28 (0,0)))∧Za (wc.heap[dJ]? =some (.cells #[dI,gQ,.int .i64 ay,(.slice bF ak.length bG),(.slice bz ah.length bA)] 28 (0,0)))∧Za (Below w.heap.size w wc))
     case first=>
      have H:=N7.out;clear N7;by_cases c47:ae<(aa.length:Int)
      case neg=>
       rw[if_neg c47]at H;have yB:decide (ae<(aa.length:Int))=false:=decide_eq_false c47;clear c47
       (first|rw[yB]|(simp only[Zd0,Zd8];rw[yB])|skip)
       have H':=Za.mk H;clear H;have eWa:=kL.out;have fxa:=kN.out;have eXa:=gK.out;have fya:=jg.out;obtain⟨Sj,Sk,Sl,Sm,Sn,R4,R5,R6,R7,R8⟩:=cz5 bv.out;go_wp2
       go_meet
       case rel=>exact⟨_,(false),eS,H',⟨by have:=HJ1.out;have:=HK2.out;first|omega|exact Nat.le_refl _⟩,⟨sM aN.out⟩,⟨rM bD.out⟩,⟨by(with_reducible repeat(first|refine Zag ?_ _|refine Zah ?_|refine Zaa ?_ _));exact bv.out⟩,⟨by(with_reducible repeat(first|refine Zag ?_ _|refine Zah ?_|refine Zaa ?_ _));exact bB.out⟩,⟨by(with_reducible repeat(first|refine Zag ?_ _|refine Zah ?_|refine Zaa ?_ _));exact aD.out⟩,⟨bM HB.out⟩⟩
      rw[if_pos c47]at H;have yB:decide (ae<(aa.length:Int))=true:=decide_eq_true c47;clear c47
      (first|rw[yB]|(simp only[Zd0,Zd8];rw[yB])|skip)
      have H':=Za.mk H;clear H;have eUa:=kL.out;have fva:=kN.out;have eVa:=gK.out;have fwa:=jg.out;obtain⟨aIa,aJa,aKa,aLa,aMa,YG,YH,YI,YJ,YK⟩:=cz5 bv.out;go_wp2
      go_meet
      case rel=>exact⟨_,(decide (ae<16)),eS,H',⟨by have:=HJ1.out;have:=HK2.out;first|omega|exact Nat.le_refl _⟩,⟨sM aN.out⟩,⟨rM bD.out⟩,⟨by(with_reducible repeat(first|refine Zag ?_ _|refine Zah ?_|refine Zaa ?_ _));exact bv.out⟩,⟨by(with_reducible repeat(first|refine Zag ?_ _|refine Zah ?_|refine Zaa ?_ _));exact bB.out⟩,⟨by(with_reducible repeat(first|refine Zag ?_ _|refine Zah ?_|refine Zaa ?_ _));exact aD.out⟩,⟨bM HB.out⟩⟩
     case rest=>
      clear N7;try clear c1
      try clear p1
      try clear q1
      try clear hx1
      try clear c2
      try clear p2
      try clear q3
      try clear c4
      try clear c5
      try clear p6
      try clear c8
      try clear c9
      try clear c11
      try clear kR
      try clear c12
      try clear gL
      try clear c13
      try clear ny
      try clear p13
      try clear q13
      try clear L6
      try clear c15
      try clear jf
      try clear vR
      try clear c16
      try clear sU
      try clear Ld
      try clear c18
      try clear jT
      try clear qp
      try clear c19
      try clear BN
      try clear Lf
      try clear c20
      try clear c21
      try clear c22
      try clear c23
      try clear c26
      try clear c27
      try clear c28
      try clear q32
      try clear c40
      try clear c41
      try clear c43
      try clear c44
      try clear c47
      try clear yB
      try clear c48
      try clear c49
      try clear c51
      try clear c52
      try clear nJ nK nL pE pF nz nA nC pq pz
      try clear xk xm xn xq xu wJ wK wM wO wP
      try clear tL tN tF tH
      try clear Gg Gh Gi Gj Gl FO FP FQ FR FT
      try clear Gm Gn Gp Gq Gr FU FV FW FX FY
      try clear aIa aJa aKa aLa aMa YG YH YI YJ YK
      try clear Sj Sk Sl Sm Sn R4 R5 R6 R7 R8
      try clear kJ kK ll ng ni kF kH lh mX mY
      try clear uJ
      try clear uK
      try clear p1
      try clear p13
      try clear NW
      try clear p2
      try clear p6
      try clear q1
      try clear q13
      try clear Oo
      try clear q3
      try clear q32
      obtain⟨kq,DJ,rfl,HA,HJ45,aN,bD,bv,bB,aD,HB⟩:=hcut
      cases kq with
      | zero => exact absurd HA.out (by simp [Zab.j3])
      |succ kj45=>
       have H:=HA.out;clear HA;simp only[Zab.j3]at H;by_cases c54:DJ=true
       case neg=>
        replace c54:=Bool.eq_false_iff.mpr c54;subst c54;replace H:=ifF H;obtain⟨wC,Cj⟩:∃y_:List Int,y_=(([]:List Int)):=⟨_,rfl⟩;replace H:(if 0≤(mn (ak.length:Int) 14)then(if(mn (ak.length:Int) 14)≤(ak.length:Int)then(if wC.length+(ak.take ((mn (ak.length:Int) 14):Int).toNat).length<17592186044416 then((some (([]:List Int):List Int)).bind fun lI=>(if 0≤(mn (ah.length:Int) 14)then(if(mn (ah.length:Int) 14)≤(ah.length:Int)then(if lI.length+(ah.take ((mn (ah.length:Int) 14):Int).toNat).length<17592186044416 then(some (bf,bL,ay,(wC++(ak.take ((mn (ak.length:Int) 14):Int).toNat)),(lI++(ah.take ((mn (ah.length:Int) 14):Int).toNat))))else(none))else(none))else(none)))else(none))else(none))else(none))=some (r1,r2,r3,r4,r5):=by first|(rw[Cj];with_reducible exact H)|(have H2_:=(Option.bind_some _ _).symm.trans H;rw[Cj];with_reducible exact H2_)|(have H2_:=(Option.bind_some _ _).symm.trans H;with_reducible exact H2_)|with_reducible exact H|(rw[Cj];exact H)|exact H
        have PX:=Za.mk Cj;clear Cj;obtain⟨kv,hji88⟩:∃j_:Int,(mn (ak.length:Int) 14)=j_:=⟨_,rfl⟩;replace H:(if 0≤(kv)then(if(kv)≤(ak.length:Int)then(if wC.length+(ak.take ((kv):Int).toNat).length<17592186044416 then((some (([]:List Int):List Int)).bind fun lI=>(if 0≤(mn (ah.length:Int) 14)then(if(mn (ah.length:Int) 14)≤(ah.length:Int)then(if lI.length+(ah.take ((mn (ah.length:Int) 14):Int).toNat).length<17592186044416 then(some (bf,bL,ay,(wC++(ak.take ((kv):Int).toNat)),(lI++(ah.take ((mn (ah.length:Int) 14):Int).toNat))))else(none))else(none))else(none)))else(none))else(none))else(none))=some (r1,r2,r3,r4,r5):=by first|(rw[hji88]at H;exact H)|(simp only[hji88]at H ⊢;exact H)
        have hji88_:(if 14<(ak.length:Int)then 14 else(ak.length:Int))=kv:=hji88;by_cases c89:0≤(kv)
        case neg=>
         rw[if_neg c89]at H;exact absurd H (by simp)
        rw[if_pos c89]at H;have e9a:=eq_true c89;have eAa:decide (0≤(kv))=true:=decide_eq_true c89;clear c89;obtain⟨c90,H⟩:=ifP H;have eBa:=eq_true c90;have eCa:decide ((kv)≤(ak.length:Int))=true:=decide_eq_true c90;clear c90;obtain⟨c91,H⟩:=ifP H;have W9:=Za.mk c91;clear c91;obtain⟨y153,hy153⟩:∃y_:List Int,y_=(wC++(ak.take ((kv):Int).toNat)):=⟨_,rfl⟩;replace H:((some (([]:List Int):List Int)).bind fun lI=>(if 0≤(mn (ah.length:Int) 14)then(if(mn (ah.length:Int) 14)≤(ah.length:Int)then(if lI.length+(ah.take ((mn (ah.length:Int) 14):Int).toNat).length<17592186044416 then(some (bf,bL,ay,y153,(lI++(ah.take ((mn (ah.length:Int) 14):Int).toNat))))else(none))else(none))else(none)))=some (r1,r2,r3,r4,r5):=by first|(rw[hy153];with_reducible exact H)|(have H2_:=(Option.bind_some _ _).symm.trans H;rw[hy153];with_reducible exact H2_)|(have H2_:=(Option.bind_some _ _).symm.trans H;with_reducible exact H2_)|with_reducible exact H|(rw[hy153];exact H)|exact H
        have WI:=Za.mk hy153;clear hy153;obtain⟨lI,Ck⟩:∃y_:List Int,y_=(([]:List Int)):=⟨_,rfl⟩;replace H:(if 0≤(mn (ah.length:Int) 14)then(if(mn (ah.length:Int) 14)≤(ah.length:Int)then(if lI.length+(ah.take ((mn (ah.length:Int) 14):Int).toNat).length<17592186044416 then(some (bf,bL,ay,y153,(lI++(ah.take ((mn (ah.length:Int) 14):Int).toNat))))else(none))else(none))else(none))=some (r1,r2,r3,r4,r5):=by first|(rw[Ck];with_reducible exact H)|(have H2_:=(Option.bind_some _ _).symm.trans H;rw[Ck];with_reducible exact H2_)|(have H2_:=(Option.bind_some _ _).symm.trans H;with_reducible exact H2_)|with_reducible exact H|(rw[Ck];exact H)|exact H
        have PY:=Za.mk Ck;clear Ck;obtain⟨kV,hji92⟩:∃j_:Int,(mn (ah.length:Int) 14)=j_:=⟨_,rfl⟩;replace H:(if 0≤(kV)then(if(kV)≤(ah.length:Int)then(if lI.length+(ah.take ((kV):Int).toNat).length<17592186044416 then(some (bf,bL,ay,y153,(lI++(ah.take ((kV):Int).toNat))))else(none))else(none))else(none))=some (r1,r2,r3,r4,r5):=by first|(rw[hji92]at H;exact H)|(simp only[hji92]at H ⊢;exact H)
        have hji92_:(if 14<(ah.length:Int)then 14 else(ah.length:Int))=kV:=hji92;obtain⟨c93,H⟩:=ifP H;have eEa:=eq_true c93;have eFa:decide (0≤(kV))=true:=decide_eq_true c93;clear c93;obtain⟨c94,H⟩:=ifP H;have QS:=eq_true c94;have QT:decide ((kV)≤(ah.length:Int))=true:=decide_eq_true c94;clear c94;obtain⟨c95,H⟩:=ifP H;have WA:=Za.mk c95;clear c95;obtain⟨y160,hy160⟩:∃y_:List Int,y_=(lI++(ah.take ((kV):Int).toNat)):=⟨_,rfl⟩;replace H:(some (bf,bL,ay,y153,y160))=some (r1,r2,r3,r4,r5):=by first|(rw[hy160];with_reducible exact H)|(have H2_:=(Option.bind_some _ _).symm.trans H;rw[hy160];with_reducible exact H2_)|(have H2_:=(Option.bind_some _ _).symm.trans H;with_reducible exact H2_)|with_reducible exact H|(rw[hy160];exact H)|exact H
        have WJ:=Za.mk hy160;clear hy160;simp only[Option.some.injEq,Prod.mk.injEq]at H;obtain⟨rfl,rfl,rfl,rfl,rfl⟩:=H
        go_wp2_with (first|((with_reducible refine Zao (N:=120) rfl ?_);refine Kd.Zdf (Kd.int .i64) _ 3 ?hg (N:=120) ?hd (xs:=([]:List Int)) (inner:= []) (ok:=fun _=>True) (okp:=fun _=>True) ?hr ?hp (fun _ hk=>hk) trivial (Below.refl _ _) (Nat.le_refl _) (by simp) ?_;(case hd=>rfl);(case hg=>rfl);(case hr=>first|(go_simp;done)|(go_simp;rfl));(case hp=>exact(Reps.none _ _));intro cza w96 ED hb hg_ hnew_;clear hg_ hnew_;(first|rw[←PX.out]at ED|(simp only[Int.reduceToNat]at ED;rw[←PX.out]at ED));replace aN:=Za.mk (Kd.Ze0 (sM aN.out) hb);replace bD:=Za.mk (Kd.Zed (rM bD.out) (Kd.Zct ED) hb);have yj:=Za.mk (Kd.Zbk ED (Zac (bM HB.out)));replace bv:=Za.mk (kB bv.out hb);replace bB:=Za.mk (kB bB.out hb);replace aD:=Za.mk (kB aD.out hb);replace HB:=Za.mk (bS HB.out hb);clear hb ED;have fea:=kL.out;have f6a:=kN.out;have ffa:=gK.out;have f7a:=jg.out;obtain⟨d4a,d5a,d6a,d7a,d8a,dfa,dga,dha,dia,dja⟩:=cz5 bv.out;obtain⟨i0101,Nl,_,hsz101,_⟩:=info_parts info3;obtain⟨hcut101,hA101,hC101⟩:=Zd6 (P:=Tryz.prog) (Value.int .i64) 0 24 3 .i64 Tryz.underlying24 Nl hsz101 bF bG ak (kv) (of_decide_eq_true (by first|(with_reducible assumption)|assumption)) (of_decide_eq_true (by first|(with_reducible assumption)|assumption)) jO.out;have K3:=Za.mk (Kd.Zea (h1:=fun _=>rfl) (hA101 _ (Kd.Zeb jQ.out)));have ela:=Za.mk hC101;clear hA101 hC101 Nl hsz101)|((with_reducible refine Zbl (b:= .append) (xs:=#[.tmp 120,.tmp 129]) rfl ?_);at_builtin;refine Kd.Zc9 (Kd.int .i64) (w0:=w) w.heap.size rfl (.tmp 120) (.tmp 129) 24 3 (.int .i64 0) 8 rfl Tryz.underlying24 info3 rfl (by decide) (by omega) cza wC (ak.take ((kv):Int).toNat) _ _ _ (fun _=>True) (fun _=>False) rfl rfl ?aO ?aR (fun _ _ h=>h) (fun _ h=>h.elim) ?aF ?aB ?aS ?aL ?_;(case aR=>first|(have q_:=(Kd.Zae K3.out HB.out);rw[show(ak.take ((kv):Int).toNat).length=(kv).toNat from(by rw[List.length_take];have h_:((kv):Int)≤(ak.length:Int):=(by first|exact odt|(have h2_:=hji88_;split at h2_<;>omega));omega)]at q_;exact q_)|(rw[←show(ak.take ((kv):Int).toNat).length=(kv).toNat from(by rw[List.length_take];have h_:((kv):Int)≤(ak.length:Int):=(by first|exact odt|(have h2_:=hji88_;split at h2_<;>omega));omega)];repeat(first|exact(Kd.Zae K3.out HB.out)|(with_reducible refine Kd.C_alloc ?_ _)|(with_reducible refine Kd.Zb7 ?_ _)|(with_reducible refine Kd.Zci ?_)))|(repeat(first|exact(Kd.Zae K3.out HB.out)|(with_reducible refine Kd.C_alloc ?_ _)|(with_reducible refine Kd.Zb7 ?_ _)|(with_reducible refine Kd.Zci ?_))));(case aB=>exact(bM HB.out));(case aF=>exact(fun _ _=>trivial));(case aO=>exact(rM yj.out));(case aS=>exact(Zac (bM HB.out)));(case aL=>have:=W9.out;have hlx_:=(show(ak.take ((kv):Int).toNat).length=(kv).toNat from(by rw[List.length_take];have h_:((kv):Int)≤(ak.length:Int):=(by first|exact odt|(have h2_:=hji88_;split at h2_<;>omega));omega));omega);intro v154 oPa ho hb hg hat;rw[←WI.out]at ho;replace aN:=Za.mk (Kd.S_over' (sM aN.out) (Kd.Zee (rM yj.out)) (by decide) hg);replace bD:=Za.mk (Kd.Zdv (ok:=(fun _=>True)) (rM bD.out) hg hat);replace bv:=Za.mk (kG bv.out hg (Kd.R_ne yj.out bv.out (by decide)));replace bB:=Za.mk (kG bB.out hg (Kd.R_ne yj.out bB.out (by decide)));replace aD:=Za.mk (kG aD.out hg (Kd.R_ne yj.out aD.out (by decide)));replace HB:=Za.mk (hb);have sF:=Za.mk (ho);clear yj;clear ho hb hg hat;obtain⟨mD,mI,XH⟩:=Kd.Zbe sF.out;subst XH;have dda:=sO.out;have dea:=jE.out;obtain⟨d9a,dAa,dBa,dCa,dDa,dka,dla,dma,dna,doa⟩:=cz5 aD.out)|((with_reducible refine Zao (N:=133) rfl ?_);refine Kd.Zdf (Kd.int .i64) _ 3 ?hg (N:=133) ?hd (xs:=([]:List Int)) (inner:= []) (ok:=fun _=>True) (okp:=fun _=>True) ?hr ?hp (fun _ hk=>hk) trivial (Below.refl _ _) (Nat.le_refl _) (by simp) ?_;(case hd=>rfl);(case hg=>rfl);(case hr=>first|(go_simp;done)|(go_simp;rfl));(case hp=>exact(Reps.none _ _));intro v157 oQa wh hb hg_ hnew_;clear hg_ hnew_;(first|rw[←PY.out]at wh|(simp only[Int.reduceToNat]at wh;rw[←PY.out]at wh));replace aN:=Za.mk (Kd.Ze0 (sM (Kd.Zd7 (Kd.Zdy (p:=⟨dJ,3,none⟩) (Kd.Zeq aN.out aD.out (by decide)) (fun _ hk=>hk.2) (.slice mD y153.length mI)) (fun _ h_=>h_.1))) hb);replace bD:=Za.mk (Kd.Zed (rM (Kd.Za5 (Kd.Zbs (p:=⟨dJ,3,none⟩) (Kd.Zca bD.out aD.out (by decide)) (fun _ hk=>hk.2) (.slice mD y153.length mI)) (fun _ h_=>h_.1))) (Kd.Zct wh) hb);have AX:=Za.mk (Kd.Zbk (Kd.Ze9 wh (Kd.R_lt (rM (Kd.Za5 (Kd.Zbs (p:=⟨dJ,3,none⟩) (Kd.Zca sF.out aD.out (by decide)) (fun _ hk=>hk.2) (.slice mD y153.length mI)) (fun _ h_=>h_.1))))) (Zac (bM HB.out)));replace sF:=Za.mk (Kd.Zed (rM (Kd.Za5 (Kd.Zbs (p:=⟨dJ,3,none⟩) (Kd.Zca sF.out aD.out (by decide)) (fun _ hk=>hk.2) (.slice mD y153.length mI)) (fun _ h_=>h_.1))) (Kd.Zct wh) hb);replace bv:=Za.mk (Zb8 (g:=iP) (o:= .cells #[.slice dU ag.length dO,.slice aM aa.length aJ,.int .i64 ay,.slice bF ak.length bG,.slice bz ah.length bA] 28 (0,0)) (by(with_reducible repeat(first|exact bv.out|refine Zcr ?_ gK.out _|refine Zaa ?_ _|refine Zah ?_|refine Zag ?_ _))) hb);replace bB:=Za.mk (Zb8 (g:=dP) (o:= .cells #[.slice none 0 0,.slice none 0 0,.int .i64 0,.slice none 0 0,.slice none 0 0] 28 (0,0)) (by(with_reducible repeat(first|exact bB.out|refine Zcr ?_ jE.out _|refine Zaa ?_ _|refine Zah ?_|refine Zag ?_ _))) hb);replace aD:=Za.mk (Zb8 (g:=dJ) (o:= .cells #[dI,gQ,.int .i64 ay,.slice mD y153.length mI,.slice bz ah.length bA] 28 (0,0)) (by(with_reducible repeat(first|refine Zag ?_ _|refine Zah ?_|refine Zaa ?_ _));refine Zau (cs:=#[dI,gQ,.int .i64 ay,.slice bF ak.length bG,.slice bz ah.length bA]) ?_ 3 _ rfl;(with_reducible repeat(first|refine Zag ?_ _|refine Zah ?_|refine Zaa ?_ _));exact aD.out) hb);replace HB:=Za.mk (bS HB.out hb);clear hb wh;obtain⟨dEa,dFa,dGa,dHa,dIa,dpa,dqa,dra,dsa,dta⟩:=cz5 bv.out;obtain⟨i0109,Nn,_,hsz109,_⟩:=info_parts info3;obtain⟨hcut109,hA109,hC109⟩:=Zd6 (P:=Tryz.prog) (Value.int .i64) 0 24 3 .i64 Tryz.underlying24 Nn hsz109 bz bA ah (kV) (of_decide_eq_true (by first|(with_reducible assumption)|assumption)) (of_decide_eq_true (by first|(with_reducible assumption)|assumption)) jP.out;have K4:=Za.mk (Kd.Zea (h1:=fun _=>rfl) (hA109 _ (Kd.Zeb jR.out)));have ema:=Za.mk hC109;clear hA109 hC109 Nn hsz109)|((with_reducible refine Zbl (b:= .append) (xs:=#[.tmp 133,.tmp 142]) rfl ?_);at_builtin;refine Kd.Zc9 (Kd.int .i64) (w0:=w) w.heap.size rfl (.tmp 133) (.tmp 142) 24 3 (.int .i64 0) 8 rfl Tryz.underlying24 info3 rfl (by decide) (by omega) v157 lI (ah.take ((kV):Int).toNat) _ _ _ (fun k_=>some k_≠(.slice mD y153.length mI:Value).ownBlock) (fun _=>False) rfl rfl ?aO ?aR (fun _ _ h=>h) (fun _ h=>h.elim) ?aF ?aB ?aS ?aL ?_;(case aR=>first|(have q_:=(Kd.Zae K4.out HB.out);rw[show(ah.take ((kV):Int).toNat).length=(kV).toNat from(by rw[List.length_take];have h_:((kV):Int)≤(ah.length:Int):=(by first|exact odt|(have h2_:=hji92_;split at h2_<;>omega));omega)]at q_;exact q_)|(rw[←show(ah.take ((kV):Int).toNat).length=(kV).toNat from(by rw[List.length_take];have h_:((kV):Int)≤(ah.length:Int):=(by first|exact odt|(have h2_:=hji92_;split at h2_<;>omega));omega)];repeat(first|exact(Kd.Zae K4.out HB.out)|(with_reducible refine Kd.C_alloc ?_ _)|(with_reducible refine Kd.Zb7 ?_ _)|(with_reducible refine Kd.Zci ?_)))|(repeat(first|exact(Kd.Zae K4.out HB.out)|(with_reducible refine Kd.C_alloc ?_ _)|(with_reducible refine Kd.Zb7 ?_ _)|(with_reducible refine Kd.Zci ?_))));(case aB=>exact(bM HB.out));(case aF=>exact(fun k_ hk=>Kd.fresh' (Kd.R_lt (rM sF.out)) k_ hk));(case aO=>exact(rM (Kd.Za5 AX.out (fun _ hk=>hk.2))));(case aS=>exact(Zac (bM HB.out)));(case aL=>have:=WA.out;have hlx_:=(show(ah.take ((kV):Int).toNat).length=(kV).toNat from(by rw[List.length_take];have h_:((kV):Int)≤(ah.length:Int):=(by first|exact odt|(have h2_:=hji92_;split at h2_<;>omega));omega));omega);intro nMa oRa ho hb hg hat;rw[←WJ.out]at ho;replace aN:=Za.mk (Kd.S_over' (sM aN.out) (Kd.Zee (rM AX.out)) (by decide) hg);replace bD:=Za.mk (Kd.Zdv (ok:=(fun k_=>some k_≠(.slice mD y153.length mI:Value).ownBlock)) (rM (Kd.Za5 bD.out (fun _ hk=>⟨hk.1.2,hk.2⟩))) hg hat);replace bB:=Za.mk (kG bB.out hg (Kd.R_ne AX.out bB.out (by decide)));replace aD:=Za.mk (kG aD.out hg (Kd.R_ne AX.out aD.out (by decide)));replace sF:=Za.mk (Kd.Zdv (ok:=(fun _=>True)) (rM sF.out) hg hat);replace HB:=Za.mk (hb);have PK:=Za.mk (ho);clear bv AX;clear ho hb hg hat;obtain⟨qG,qJ,XI⟩:=Kd.Zbe PK.out;subst XI;obtain⟨dJa,dKa,dLa,dMa,dNa,dua,dva,dwa,dxa,dya⟩:=cz5 aD.out;obtain⟨qH,qK,XJ⟩:=Kd.S_slice aN.out;subst XJ;obtain⟨dOa,dPa,dQa,dRa,dSa,dza,d0a,d1a,d2a,d3a⟩:=cz5 bB.out;obtain⟨sD,sV,XK⟩:=Kd.Zbe bD.out;subst XK))
        refine bodyPost_ret (results_cell_row rfl _ _ dP 28 #[.slice qH bf.length qK,.slice sD bL.length sV,.int .i64 ay,.slice mD y153.length mI,.slice qG y160.length qJ] (0,0) _ rfl (by(with_reducible repeat(first|refine Zag ?_ _|refine Zah ?_|refine Zaa ?_ _));refine Zau (cs:=#[.slice qH bf.length qK,.slice sD bL.length sV,.int .i64 ay,.slice mD y153.length mI,.slice none 0 0]) ?_ 4 _ rfl;(with_reducible repeat(first|refine Zag ?_ _|refine Zah ?_|refine Zaa ?_ _));refine Zau (cs:=#[.slice qH bf.length qK,.slice sD bL.length sV,.int .i64 ay,.slice none 0 0,.slice none 0 0]) ?_ 3 _ rfl;(with_reducible repeat(first|refine Zag ?_ _|refine Zah ?_|refine Zaa ?_ _));refine Zau (cs:=#[.slice qH bf.length qK,.slice sD bL.length sV,.int .i64 0,.slice none 0 0,.slice none 0 0]) ?_ 2 _ rfl;(with_reducible repeat(first|refine Zag ?_ _|refine Zah ?_|refine Zaa ?_ _));refine Zau (cs:=#[.slice qH bf.length qK,.slice none 0 0,.int .i64 0,.slice none 0 0,.slice none 0 0]) ?_ 1 _ rfl;(with_reducible repeat(first|refine Zag ?_ _|refine Zah ?_|refine Zaa ?_ _));refine Zau (cs:=#[.slice none 0 0,.slice none 0 0,.int .i64 0,.slice none 0 0,.slice none 0 0]) ?_ 0 _ rfl;(with_reducible repeat(first|refine Zag ?_ _|refine Zah ?_|refine Zaa ?_ _));refine Zcr ?_ jE.out _;(with_reducible repeat(first|refine Zag ?_ _|refine Zah ?_|refine Zaa ?_ _));exact bB.out) Tryz.underlying28 rfl (by kernel_rfl)) rfl ?_;exact⟨_,_,_,_,by first|rfl|(simp[Zdh,Zdi]<;>rfl)|(simp only[←hji88,←hji92];first|rfl|(simp[Zdh,Zdi]<;>rfl))|(simp[*,Zdh,Zdi]<;>rfl),sM (Kd.Zd7 (Kd.Zdy (p:=⟨dP,4,none⟩) (Kd.Zdy (p:=⟨dP,3,none⟩) (Kd.Zdy (p:=⟨dP,2,none⟩) (Kd.Zdy (p:=⟨dP,1,none⟩) (Kd.Zdy (p:=⟨dP,0,none⟩) (Kd.Zdy (p:=⟨dJ,4,none⟩) (Kd.Zeq (Kd.Zeq aN.out aD.out (by decide)) bB.out (by decide)) (fun _ hk=>hk.1.2) (.slice qG y160.length qJ)) (fun _ hk=>hk.2) (.slice qH bf.length qK)) (fun _ hk=>hk.2) (.slice sD bL.length sV)) (fun _ hk=>hk.2) (.int .i64 ay)) (fun _ hk=>hk.2) (.slice mD y153.length mI)) (fun _ hk=>hk.2) (.slice qG y160.length qJ)) (fun _ hk=>trivial)),rM (Kd.Za5 (Kd.Zbs (p:=⟨dP,4,none⟩) (Kd.Zbs (p:=⟨dP,3,none⟩) (Kd.Zbs (p:=⟨dP,2,none⟩) (Kd.Zbs (p:=⟨dP,1,none⟩) (Kd.Zbs (p:=⟨dP,0,none⟩) (Kd.Zbs (p:=⟨dJ,4,none⟩) (Kd.Zca (Kd.Zca bD.out aD.out (by decide)) bB.out (by decide)) (fun _ hk=>hk.1.2) (.slice qG y160.length qJ)) (fun _ hk=>hk.2) (.slice qH bf.length qK)) (fun _ hk=>hk.2) (.slice sD bL.length sV)) (fun _ hk=>hk.2) (.int .i64 ay)) (fun _ hk=>hk.2) (.slice mD y153.length mI)) (fun _ hk=>hk.2) (.slice qG y160.length qJ)) (fun _ hk=>⟨hk.1.1.1,hk.1.1.2⟩)),rM (Kd.Za5 (Kd.Zbs (p:=⟨dP,4,none⟩) (Kd.Zbs (p:=⟨dP,3,none⟩) (Kd.Zbs (p:=⟨dP,2,none⟩) (Kd.Zbs (p:=⟨dP,1,none⟩) (Kd.Zbs (p:=⟨dP,0,none⟩) (Kd.Zbs (p:=⟨dJ,4,none⟩) (Kd.Zca (Kd.Zca sF.out aD.out (by decide)) bB.out (by decide)) (fun _ hk=>hk.1.2) (.slice qG y160.length qJ)) (fun _ hk=>hk.2) (.slice qH bf.length qK)) (fun _ hk=>hk.2) (.slice sD bL.length sV)) (fun _ hk=>hk.2) (.int .i64 ay)) (fun _ hk=>hk.2) (.slice mD y153.length mI)) (fun _ hk=>hk.2) (.slice qG y160.length qJ)) (fun _ hk=>hk.1.1.2)),rM (Kd.Za5 (Kd.Zbs (p:=⟨dP,4,none⟩) (Kd.Zbs (p:=⟨dP,3,none⟩) (Kd.Zbs (p:=⟨dP,2,none⟩) (Kd.Zbs (p:=⟨dP,1,none⟩) (Kd.Zbs (p:=⟨dP,0,none⟩) (Kd.Zbs (p:=⟨dJ,4,none⟩) (Kd.Zca (Kd.Zca PK.out aD.out (by decide)) bB.out (by decide)) (fun _ hk=>hk.1.2) (.slice qG y160.length qJ)) (fun _ hk=>hk.2) (.slice qH bf.length qK)) (fun _ hk=>hk.2) (.slice sD bL.length sV)) (fun _ hk=>hk.2) (.int .i64 ay)) (fun _ hk=>hk.2) (.slice mD y153.length mI)) (fun _ hk=>hk.2) (.slice qG y160.length qJ)) (fun _ hk=>hk.1.1)),bM HB.out⟩
       subst c54;have H1:(if 0≤ae then(if ae<(aa.length:Int)then(if 0≤(mn (((Zaf aa ae).f1).length:Int) 14)then(if(mn (((Zaf aa ae).f1).length:Int) 14)≤(((Zaf aa ae).f1).length:Int)then(if 0≤(mn (((Zaf aa ae).f2).length:Int) 14)then(if(mn (((Zaf aa ae).f2).length:Int) 14)≤(((Zaf aa ae).f2).length:Int)then((bRows.f ((Zaf aa ae).f5)).bind fun t167=>((Zcp.f kj45 ((Zaf aa ae).f0) (((Zaf aa ae).f1).take ((mn (((Zaf aa ae).f1).length:Int) 14):Int).toNat) (((Zaf aa ae).f2).take ((mn (((Zaf aa ae).f2).length:Int) 14):Int).toNat) ((Zaf aa ae).f3) ((Zaf aa ae).f4) t167 ((Zaf aa ae).f6)).bind fun eB=>(if bL.length<1353245080339 then(Zab.l1 kj45 (wrap64 (ae+1)) ag aa ay ak ah bf (bL++ [(⟨eB.1,eB.2.1,eB.2.2.1,eB.2.2.2.1,eB.2.2.2.2.1,eB.2.2.2.2.2.1,eB.2.2.2.2.2.2⟩:S36)]) ay ak ah)else(none))))else(none))else(none))else(none))else(none))else(none))else(none))=some (r1,r2,r3,r4,r5):=by rw[if_pos rfl]at H;exact H
       clear H;have H:=H1;clear H1;obtain⟨eza,H⟩:=ifT H;obtain⟨e0a,H⟩:=ifT H;obtain⟨fK,hji57⟩:∃j_:Int,(mn (((Zaf aa ae).f1).length:Int) 14)=j_:=⟨_,rfl⟩;replace H:(if 0≤(fK)then(if(fK)≤(((Zaf aa ae).f1).length:Int)then(if 0≤(mn (((Zaf aa ae).f2).length:Int) 14)then(if(mn (((Zaf aa ae).f2).length:Int) 14)≤(((Zaf aa ae).f2).length:Int)then((bRows.f ((Zaf aa ae).f5)).bind fun t167=>((Zcp.f kj45 ((Zaf aa ae).f0) (((Zaf aa ae).f1).take ((fK):Int).toNat) (((Zaf aa ae).f2).take ((mn (((Zaf aa ae).f2).length:Int) 14):Int).toNat) ((Zaf aa ae).f3) ((Zaf aa ae).f4) t167 ((Zaf aa ae).f6)).bind fun eB=>(if bL.length<1353245080339 then(Zab.l1 kj45 (wrap64 (ae+1)) ag aa ay ak ah bf (bL++ [(⟨eB.1,eB.2.1,eB.2.2.1,eB.2.2.2.1,eB.2.2.2.2.1,eB.2.2.2.2.2.1,eB.2.2.2.2.2.2⟩:S36)]) ay ak ah)else(none))))else(none))else(none))else(none))else(none))=some (r1,r2,r3,r4,r5):=by first|(rw[hji57]at H;exact H)|(simp only[hji57]at H ⊢;exact H)
       have hji57_:(if 14<(((Zaf aa ae).f1).length:Int)then 14 else(((Zaf aa ae).f1).length:Int))=fK:=hji57;obtain⟨c58,H⟩:=ifP H;have QQ:=eq_true c58;have QR:decide (0≤(fK))=true:=decide_eq_true c58;clear c58;obtain⟨c59,H⟩:=ifP H;have e2a:=eq_true c59;have e3a:decide ((fK)≤(((Zaf aa ae).f1).length:Int))=true:=decide_eq_true c59;clear c59;obtain⟨gX,hji60⟩:∃j_:Int,(mn (((Zaf aa ae).f2).length:Int) 14)=j_:=⟨_,rfl⟩;replace H:(if 0≤(gX)then(if(gX)≤(((Zaf aa ae).f2).length:Int)then((bRows.f ((Zaf aa ae).f5)).bind fun t167=>((Zcp.f kj45 ((Zaf aa ae).f0) (((Zaf aa ae).f1).take ((fK):Int).toNat) (((Zaf aa ae).f2).take ((gX):Int).toNat) ((Zaf aa ae).f3) ((Zaf aa ae).f4) t167 ((Zaf aa ae).f6)).bind fun eB=>(if bL.length<1353245080339 then(Zab.l1 kj45 (wrap64 (ae+1)) ag aa ay ak ah bf (bL++ [(⟨eB.1,eB.2.1,eB.2.2.1,eB.2.2.2.1,eB.2.2.2.2.1,eB.2.2.2.2.2.1,eB.2.2.2.2.2.2⟩:S36)]) ay ak ah)else(none))))else(none))else(none))=some (r1,r2,r3,r4,r5):=by first|(rw[hji60]at H;exact H)|(simp only[hji60]at H ⊢;exact H)
       have hji60_:(if 14<(((Zaf aa ae).f2).length:Int)then 14 else(((Zaf aa ae).f2).length:Int))=gX:=hji60;obtain⟨c61,H⟩:=ifP H;have e4a:=eq_true c61;have e5a:decide (0≤(gX))=true:=decide_eq_true c61;clear c61;obtain⟨c62,H⟩:=ifP H;have XA:=eq_true c62;have e6a:decide ((gX)≤(((Zaf aa ae).f2).length:Int))=true:=decide_eq_true c62;clear c62;obtain⟨t167,A63,H⟩:=bnd H;replace H:((Zcp.f kj45 ((Zaf aa ae).f0) (((Zaf aa ae).f1).take ((fK):Int).toNat) (((Zaf aa ae).f2).take ((gX):Int).toNat) ((Zaf aa ae).f3) ((Zaf aa ae).f4) t167 ((Zaf aa ae).f6)).bind fun eB=>(if bL.length<1353245080339 then(Zab.l1 kj45 (wrap64 (ae+1)) ag aa ay ak ah bf (bL++ [(⟨eB.1,eB.2.1,eB.2.2.1,eB.2.2.2.1,eB.2.2.2.2.1,eB.2.2.2.2.2.1,eB.2.2.2.2.2.2⟩:S36)]) ay ak ah)else(none)))=some (r1,r2,r3,r4,r5):=H;obtain⟨⟨EL,t171,zX,EM,EN,zY,t182⟩,A64,H⟩:=bnd H;replace H:(if bL.length<1353245080339 then(Zab.l1 kj45 (wrap64 (ae+1)) ag aa ay ak ah bf (bL++ [(⟨EL,t171,zX,EM,EN,zY,t182⟩:S36)]) ay ak ah)else(none))=some (r1,r2,r3,r4,r5):=H;obtain⟨c65,H⟩:=ifP H;have Wz:=Za.mk c65;clear c65;obtain⟨Ir,Cm⟩:∃y_:List (S36),y_=(bL++ [(⟨EL,t171,zX,EM,EN,zY,t182⟩:S36)]):=⟨_,rfl⟩;replace H:(Zab.l1 kj45 (wrap64 (ae+1)) ag aa ay ak ah bf Ir ay ak ah)=some (r1,r2,r3,r4,r5):=by first|(rw[Cm];with_reducible exact H)|(have H2_:=(Option.bind_some _ _).symm.trans H;rw[Cm];with_reducible exact H2_)|(have H2_:=(Option.bind_some _ _).symm.trans H;with_reducible exact H2_)|with_reducible exact H|(rw[Cm];exact H)|exact H
       have WK:=Za.mk Cm;clear Cm;have H':=Za.mk H;clear H;have eYa:=kL.out;have fza:=kN.out;have faa:=gK.out;have f2a:=jg.out;obtain⟨lja,lka,lla,lma,lna,h7a,h8a,h9a,hAa,hCa⟩:=cz5 bv.out;have n9a:(0≤(ae:Int))=True:=teq;have nCa:(ae<(aa.length:Int))=True:=teq;obtain⟨KG,dw,dx,dC,dD,iA,gV,rfl,Jq,Jr,Js,Jt,Ju,Jv,Jw,Jh,IW,Ji,IX,Jj,IY⟩:=at_T36 dW.out ae odt odt;replace Jq:=hB HB.out Jq;replace Jr:=hB HB.out Jr;replace Js:=hB HB.out Js;replace Jt:=hB HB.out Jt;replace Ju:=hB HB.out Ju;replace Jv:=hB HB.out Jv;replace Jw:=hB HB.out Jw;have SE:=Za.mk IW;have Sr:=Za.mk Jh;clear IW Jh;have SF:=Za.mk IX;have Su:=Za.mk Ji;clear IX Ji;have SG:=Za.mk IY;have cMa:=Za.mk Jj;clear IY Jj;have WB164:=Za.mk (Below.refl w.heap.size w)
       go_upto_region 13 with (first|((with_reducible refine Zao (N:=7) rfl ?_);refine bx 7 #[.int .i64 0,.slice none 0 0,.slice none 0 0,.int .i64 0,.int .i64 0,.slice none 0 0,.int .i64 0] 36 ?_;intro aT hg w69 hbox hb;replace aN:=Za.mk (Kd.Ze0 (sM aN.out) hb);replace bD:=Za.mk (Kd.Zc (Kd.R_elderB (rM bD.out) aT (Nat.le_of_eq hg.symm)) hb);have df:=Za.mk (hbox);have GW164:=Za.mk ((gE hg HB.out:w.heap.size≤aT));have VE:=Za.mk ((gE hg HB.out:w.heap.size≤aT));replace HB:=Za.mk (bS HB.out hb);have sK:=Za.mk ((by rw[hg];exact Nat.ne_of_lt (Zc5 (kM bv.out)):iP≠aT));have Nb:=Za.mk ((by rw[hg];exact Nat.ne_of_gt (Zc5 (kM bv.out)):aT≠iP));replace bv:=Za.mk (kB bv.out hb);have sN:=Za.mk ((by rw[hg];exact Nat.ne_of_lt (Zc5 (kM bB.out)):dP≠aT));have Nc:=Za.mk ((by rw[hg];exact Nat.ne_of_gt (Zc5 (kM bB.out)):aT≠dP));replace bB:=Za.mk (kB bB.out hb);have qw:=Za.mk ((by rw[hg];exact Nat.ne_of_lt (Zc5 (kM aD.out)):dJ≠aT));have Fg:=Za.mk ((by rw[hg];exact Nat.ne_of_gt (Zc5 (kM aD.out)):aT≠dJ));replace aD:=Za.mk (kB aD.out hb);clear hb hbox hg;have fba:=Nb.out;have f3a:=sK.out;have fca:=Nc.out;have f4a:=sN.out;have fda:=Fg.out;have f5a:=qw.out;obtain⟨aNa,aOa,aPa,aQa,aRa,aSa,aTa,YL,YM,YN,YO,YP,YQ,YR⟩:=cz7 df.out;obtain⟨i074,QX,_,hsz74,_⟩:=info_parts info3;obtain⟨hcut74,hA74,hC74⟩:=Zd6 (P:=Tryz.prog) (Value.int .i64) 0 24 3 .i64 Tryz.underlying24 QX hsz74 dw dx ((Zaf aa ae).f1) (fK) (of_decide_eq_true (by first|(with_reducible assumption)|assumption)) (of_decide_eq_true (by first|(with_reducible assumption)|assumption)) Sr.out;have Ws:=Za.mk (Kd.Zea (h1:=fun _=>rfl) (hA74 _ (Kd.Zeb SE.out)));have VK:=Za.mk hC74;clear hA74 hC74 QX hsz74;obtain⟨i075,QY,_,hsz75,_⟩:=info_parts info3;obtain⟨hcut75,hA75,hC75⟩:=Zd6 (P:=Tryz.prog) (Value.int .i64) 0 24 3 .i64 Tryz.underlying24 QY hsz75 dC dD ((Zaf aa ae).f2) (gX) (of_decide_eq_true (by first|(with_reducible assumption)|assumption)) (of_decide_eq_true (by first|(with_reducible assumption)|assumption)) Su.out;have Wt:=Za.mk (Kd.Zea (h1:=fun _=>rfl) (hA75 _ (Kd.Zeb SF.out)));have VL:=Za.mk hC75;clear hA75 hC75 QY hsz75))
       obtain⟨wX,hX⟩:∃x_:World,x_=(((((((((w69.setCell ⟨aT,0,none⟩ (.int .i64 ((Zaf aa ae).f0))).setCell ⟨aT,1,none⟩ (.slice dw ((Zaf aa ae).f1).length dx)).setCell ⟨aT,2,none⟩ (.slice dC ((Zaf aa ae).f2).length dD)).setCell ⟨aT,3,none⟩ (.int .i64 ((Zaf aa ae).f3))).setCell ⟨aT,4,none⟩ (.int .i64 ((Zaf aa ae).f4))).setCell ⟨aT,5,none⟩ (.slice iA ((Zaf aa ae).f5).length gV)).setCell ⟨aT,6,none⟩ (.int .i64 ((Zaf aa ae).f6))).setCell ⟨aT,1,none⟩ (.slice dw (((Zaf aa ae).f1).take ((fK):Int).toNat).length dx)).setCell ⟨aT,2,none⟩ (.slice dC (((Zaf aa ae).f2).take ((gX):Int).toNat).length dD)):=⟨_,rfl⟩;have BX:Za (wX.heap[aT]? =some (.cells #[.int .i64 ((Zaf aa ae).f0),.slice dw (((Zaf aa ae).f1).take ((fK):Int).toNat).length dx,.slice dC (((Zaf aa ae).f2).take ((gX):Int).toNat).length dD,.int .i64 ((Zaf aa ae).f3),.int .i64 ((Zaf aa ae).f4),.slice iA ((Zaf aa ae).f5).length gV,.int .i64 ((Zaf aa ae).f6)] 36 (0,0))):=⟨by rw[hX];(with_reducible repeat(first|refine Zag ?_ _|refine Zah ?_|refine Zaa ?_ _));refine Zau (cs:=#[.int .i64 ((Zaf aa ae).f0),.slice dw (((Zaf aa ae).f1).take ((fK):Int).toNat).length dx,.slice dC ((Zaf aa ae).f2).length dD,.int .i64 ((Zaf aa ae).f3),.int .i64 ((Zaf aa ae).f4),.slice iA ((Zaf aa ae).f5).length gV,.int .i64 ((Zaf aa ae).f6)]) ?_ 2 _ rfl;(with_reducible repeat(first|refine Zag ?_ _|refine Zah ?_|refine Zaa ?_ _));refine Zau (cs:=#[.int .i64 ((Zaf aa ae).f0),.slice dw ((Zaf aa ae).f1).length dx,.slice dC ((Zaf aa ae).f2).length dD,.int .i64 ((Zaf aa ae).f3),.int .i64 ((Zaf aa ae).f4),.slice iA ((Zaf aa ae).f5).length gV,.int .i64 ((Zaf aa ae).f6)]) ?_ 1 _ rfl;(with_reducible repeat(first|refine Zag ?_ _|refine Zah ?_|refine Zaa ?_ _));refine Zau (cs:=#[.int .i64 ((Zaf aa ae).f0),.slice dw ((Zaf aa ae).f1).length dx,.slice dC ((Zaf aa ae).f2).length dD,.int .i64 ((Zaf aa ae).f3),.int .i64 ((Zaf aa ae).f4),.slice iA ((Zaf aa ae).f5).length gV,.int .i64 0]) ?_ 6 _ rfl;(with_reducible repeat(first|refine Zag ?_ _|refine Zah ?_|refine Zaa ?_ _));refine Zau (cs:=#[.int .i64 ((Zaf aa ae).f0),.slice dw ((Zaf aa ae).f1).length dx,.slice dC ((Zaf aa ae).f2).length dD,.int .i64 ((Zaf aa ae).f3),.int .i64 ((Zaf aa ae).f4),.slice none 0 0,.int .i64 0]) ?_ 5 _ rfl;(with_reducible repeat(first|refine Zag ?_ _|refine Zah ?_|refine Zaa ?_ _));refine Zau (cs:=#[.int .i64 ((Zaf aa ae).f0),.slice dw ((Zaf aa ae).f1).length dx,.slice dC ((Zaf aa ae).f2).length dD,.int .i64 ((Zaf aa ae).f3),.int .i64 0,.slice none 0 0,.int .i64 0]) ?_ 4 _ rfl;(with_reducible repeat(first|refine Zag ?_ _|refine Zah ?_|refine Zaa ?_ _));refine Zau (cs:=#[.int .i64 ((Zaf aa ae).f0),.slice dw ((Zaf aa ae).f1).length dx,.slice dC ((Zaf aa ae).f2).length dD,.int .i64 0,.int .i64 0,.slice none 0 0,.int .i64 0]) ?_ 3 _ rfl;(with_reducible repeat(first|refine Zag ?_ _|refine Zah ?_|refine Zaa ?_ _));refine Zau (cs:=#[.int .i64 ((Zaf aa ae).f0),.slice dw ((Zaf aa ae).f1).length dx,.slice none 0 0,.int .i64 0,.int .i64 0,.slice none 0 0,.int .i64 0]) ?_ 2 _ rfl;(with_reducible repeat(first|refine Zag ?_ _|refine Zah ?_|refine Zaa ?_ _));refine Zau (cs:=#[.int .i64 ((Zaf aa ae).f0),.slice none 0 0,.slice none 0 0,.int .i64 0,.int .i64 0,.slice none 0 0,.int .i64 0]) ?_ 1 _ rfl;(with_reducible repeat(first|refine Zag ?_ _|refine Zah ?_|refine Zaa ?_ _));refine Zau (cs:=#[.int .i64 0,.slice none 0 0,.slice none 0 0,.int .i64 0,.int .i64 0,.slice none 0 0,.int .i64 0]) ?_ 0 _ rfl;(with_reducible repeat(first|refine Zag ?_ _|refine Zah ?_|refine Zaa ?_ _));exact df.out⟩;have HBW:Za (Below w.heap.size w wX):=⟨by rw[hX];repeat(first|(with_reducible first|exact HB.out|apply Za6|apply Zb3|apply Zc4|refine Zbb ?_ VB.out|refine Zbb ?_ VC.out|refine Zbb ?_ VD.out|refine Zbb ?_ VE.out)|exact HB.out)⟩;have eL1:(((Zaf aa ae).f1).take (fK:Int).toNat).length=(fK:Int).toNat:=by(have h_:(fK:Int)≤(((Zaf aa ae).f1).length:Int):=of_decide_eq_true (by first|(with_reducible assumption)|assumption));rw[List.length_take];omega
       have eL2:(((Zaf aa ae).f2).take (gX:Int).toNat).length=(gX:Int).toNat:=by(have h_:(gX:Int)≤(((Zaf aa ae).f2).length:Int):=of_decide_eq_true (by first|(with_reducible assumption)|assumption));rw[List.length_take];omega
       have eT:(((((((((w69.setCell ⟨aT,0,none⟩ (.int .i64 ((Zaf aa ae).f0))).setCell ⟨aT,1,none⟩ (.slice dw ((Zaf aa ae).f1).length dx)).setCell ⟨aT,2,none⟩ (.slice dC ((Zaf aa ae).f2).length dD)).setCell ⟨aT,3,none⟩ (.int .i64 ((Zaf aa ae).f3))).setCell ⟨aT,4,none⟩ (.int .i64 ((Zaf aa ae).f4))).setCell ⟨aT,5,none⟩ (.slice iA ((Zaf aa ae).f5).length gV)).setCell ⟨aT,6,none⟩ (.int .i64 ((Zaf aa ae).f6))).setCell ⟨aT,1,none⟩ (.slice dw (fK:Int).toNat dx)).setCell ⟨aT,2,none⟩ (.slice dC (gX:Int).toNat dD))=wX:=by rw[hX,eL1,eL2]
       rw[eT];clear eT eL1 eL2;have HX:=Za.mk hX;clear hX
       go_upto_block 4 with (first|((with_reducible refine Zao (N:=83) rfl ?_);refine Kd.S_lit (Kd.slice 3 (Kd.int .i64)) _ 24 ?hg (N:=83) ?hd (xs:=([]:List (List Int))) (inner:= []) (ok:=fun _=>True) (okp:=fun _=>True) ?hr ?hp (fun _ hk=>hk) trivial (Below.refl _ _) (Nat.le_refl _) (by simp) ?_;(case hd=>rfl);(case hg=>rfl);(case hr=>first|(go_simp;done)|(go_simp;rfl));(case hp=>exact(Reps.none _ _));intro vL wL hoL hb hg_ hnew_;clear hg_ hnew_;have HL:=Za.mk (Kd.Zb4 (ok':=fun k_=>k_<w.heap.size∨wX.heap.size≤k_) (Kd.S_N (Kd.Ze6 hoL)) (fun k_ hk_=> .inr hk_.2.1));have HBL:=Za.mk hb;clear hb hoL))
       (try simp only[Act.put,List.setIfInBounds_toArray,List.set_cons_zero,List.set_cons_succ])
       go_cut [8] (fun v8 wc=>∃vr:Value,vr=v8∧Za (Kd.N (Kd.slice 3 (Kd.int .i64)) 24 wc wX.heap.size (fun k_=>k_<w.heap.size∨wX.heap.size≤k_) vr t167)∧Za (Below wX.heap.size wX wc))
       case first=>
        obtain rfl:cutR (Zaf aa ae).f5=t167:=Option.some.inj A63.out;clear A63;go_wp2
        go_loopg [8,9] 21 (fun kq v8 v9 w'=>∃(n:Nat) (x:Int),v9= .int .i64 x∧Za (x=(n:Int))∧Za (n+kq=21)∧Za (n≤((Zaf aa ae).f5).length∧n≤20)∧Za (Kd.N (Kd.slice 3 (Kd.int .i64)) 24 w' wX.heap.size (fun k_=>k_<w.heap.size∨wX.heap.size≤k_) v8 ((((Zaf aa ae).f5).take n).map fun r=>r.take 14))∧Za (Below wX.heap.size wX w'))
        case atStart=>exact⟨0,0,rfl,⟨rfl⟩,⟨rfl⟩,⟨Nat.zero_le _,Nat.zero_le _⟩,⟨nM HL.out⟩,⟨bM HBL.out⟩⟩
        case round=>
         clear HL HBL;obtain⟨n,x,rfl,HE,HK,HN,HO8,HBL⟩:=hrel
         cases gk with
         | zero => exact absurd HK.out (by have := HN.out.2; omega)
         |succ kI=>
          have BXr:=Za.mk (Zb8 (g:=aT) (o:= .cells #[.int .i64 ((Zaf aa ae).f0),.slice dw (((Zaf aa ae).f1).take ((fK):Int).toNat).length dx,.slice dC (((Zaf aa ae).f2).take ((gX):Int).toNat).length dD,.int .i64 ((Zaf aa ae).f3),.int .i64 ((Zaf aa ae).f4),.slice iA ((Zaf aa ae).f5).length gV,.int .i64 ((Zaf aa ae).f6)] 36 (0,0)) BX.out HBL.out);obtain⟨hczI_0,hczI_1,hczI_2,hczI_3,hczI_4,hczI_5,hczI_6,hfzI_0,hfzI_1,hfzI_2,hfzI_3,hfzI_4,hfzI_5,hfzI_6⟩:=cz7 BXr.out;by_cases c1:n<((Zaf aa ae).f5).length
          case neg=>
           have d1:decide (x<(((Zaf aa ae).f5).length:Int))=false:=decide_eq_false (by have:=HE.out;omega);have d1p:¬(x<(((Zaf aa ae).f5).length:Int)):=by have:=HE.out;omega
           have HOF:Za (Kd.N (Kd.slice 3 (Kd.int .i64)) 24 wr wX.heap.size (fun k_=>k_<w.heap.size∨wX.heap.size≤k_) u8 (cutR (Zaf aa ae).f5)):=⟨by have e_:cutR (Zaf aa ae).f5=(((Zaf aa ae).f5).take n).map fun r=>r.take 14:=(by have h1_:=HN.out;unfold cutR;rw[List.take_of_length_le (by omega:((Zaf aa ae).f5).length≤n),List.take_of_length_le (by omega:((Zaf aa ae).f5).length≤20)]);rw[e_];exact HO8.out⟩;clear c1;go_wp2
           go_meet
           case rel=>exact⟨_,rfl,⟨nM HOF.out⟩,⟨bM HBL.out⟩⟩
          have d1:decide (x<(((Zaf aa ae).f5).length:Int))=true:=decide_eq_true (by have:=HE.out;omega);by_cases c2:n<20
          case neg=>
           have d2:decide (x<20)=false:=decide_eq_false (by have:=HE.out;omega);have d2p:¬(x<20):=by have:=HE.out;omega
           have HOF:Za (Kd.N (Kd.slice 3 (Kd.int .i64)) 24 wr wX.heap.size (fun k_=>k_<w.heap.size∨wX.heap.size≤k_) u8 (cutR (Zaf aa ae).f5)):=⟨by have e_:cutR (Zaf aa ae).f5=(((Zaf aa ae).f5).take n).map fun r=>r.take 14:=(by have h1_:=HN.out;unfold cutR;rw[show n=20 by omega]);rw[e_];exact HO8.out⟩;clear c1 c2;go_wp2
           go_meet
           case rel=>exact⟨_,rfl,⟨nM HOF.out⟩,⟨bM HBL.out⟩⟩
          have d2:decide (x<20)=true:=decide_eq_true (by have:=HE.out;omega);obtain⟨HK1,HN1,LMI,HEW,JI,JJ⟩:Za (n+1+kI=21)∧Za (n+1≤((Zaf aa ae).f5).length∧n+1≤20)∧Za (((((Zaf aa ae).f5).take n).map fun r=>r.take 14).length<5864062014805)∧Za (wrap64 (x+1)=((n+1:Nat):Int))∧Za ((0:Int)≤x)∧Za (x<(((Zaf aa ae).f5).length:Int)):=⟨⟨by have:=HK.out;omega⟩,⟨by omega,by omega⟩,⟨by rw[List.length_map,List.length_take];omega⟩,⟨by rw[HE.out];unfold wrap64;omega⟩,⟨by have:=HE.out;omega⟩,⟨by have:=HE.out;omega⟩⟩;have RE:Za (((((Zaf aa ae).f5).take n).map fun r=>r.take 14)++ [(Zck ((Zaf aa ae).f5) x).take 14]=(((Zaf aa ae).f5).take (n+1)).map fun r=>r.take 14):=⟨by rw[List.take_succ_eq_append_getElem c1,List.map_append,HE.out];simp[Zck,List.getD_eq_getElem?_getD,List.getElem?_eq_getElem c1]⟩;clear c1 c2;obtain⟨adI,AI,cI,eI,hxI,hlI,hiI⟩:=Zfs SG.out x JI.out JJ.out;cases eI;have HBwr:=Za.mk (Zad HBW.out HBL.out);replace hxI:=Za.mk hxI;obtain⟨jI,hjI⟩:∃j_:Int,(mn ((Zck ((Zaf aa ae).f5) x).length:Int) 14)=j_:=⟨_,rfl⟩;have hjI_:(if 14<((Zck ((Zaf aa ae).f5) x).length:Int)then 14 else((Zck ((Zaf aa ae).f5) x).length:Int))=jI:=hjI;have hj0:0≤jI:=by rw[←hjI_];split<;>omega
          have hj1:jI≤((Zck ((Zaf aa ae).f5) x).length:Int):=by rw[←hjI_];split<;>omega
          have RJ:Za ((Zck ((Zaf aa ae).f5) x).take jI.toNat=(Zck ((Zaf aa ae).f5) x).take 14):=⟨by rw[←hjI_];split<;>(first|rfl|(rw[List.take_of_length_le (by omega),List.take_of_length_le (by omega)]))⟩;have eLI:=Za.mk (show((Zck ((Zaf aa ae).f5) x).take jI.toNat).length=jI.toNat by rw[List.length_take];omega);obtain⟨i0I,hi0I,_,hszI,_⟩:=info_parts info3;obtain⟨hcutI,hAI,hCI⟩:=Zd6 (P:=Tryz.prog) (Value.int .i64) 0 24 3 .i64 Tryz.underlying24 hi0I hszI AI cI (Zck ((Zaf aa ae).f5) x) jI hj0 hj1 hlI;have HIT:=Za.mk (Kd.Zea (h1:=fun _=>rfl) (hAI _ (Kd.Zeb hiI)));have HCI:=Za.mk hCI;clear hAI hCI hi0I hszI hiI;have j0b:decide (0≤jI)=true:=decide_eq_true hj0;have j1b:decide (jI≤((Zck ((Zaf aa ae).f5) x).length:Int))=true:=decide_eq_true hj1;replace hj0:=eq_true hj0;replace hj1:=eq_true hj1;have x0:decide (0≤x)=true:=decide_eq_true JI.out;have p0:=eq_true JI.out;have q0:=eq_true JJ.out;have FKI:∀W:World,Below w.heap.size w W→Kd.FK (Kd.slice 3 (Kd.int .i64)) W (fun k_=>(k_<w.heap.size∨wX.heap.size≤k_)∧some k_≠(u8:Value).ownBlock) ((Zck ((Zaf aa ae).f5) x).take jI.toNat) [.slice AI ((Zck ((Zaf aa ae).f5) x).take jI.toNat).length cI]:=fun W hW=>Kd.Zel HCI.out (Kd.Zh1 (Kd.Zgd (Kd.C_F (Kd.heap_int .i64) HIT.out) hW) (fun k_ hk_=>⟨.inl hk_,fun e_=>by have h1_:=Kd.Zew HO8.out k_ e_.symm;have h2_:=Zac HBW.out;omega⟩))
          have FKA:=Za.mk FKI;clear FKI;try go_wp2_with (fail)
          clear hczI_0 hfzI_0 hczI_1 hfzI_1 hczI_2 hfzI_2 hczI_3 hfzI_3 hczI_4 hfzI_4 hczI_5 hfzI_5 hczI_6 hfzI_6;have HO8d:=Za.mk (Kd.Zfj HO8.out);replace BXr:=Za.mk (Zah BXr.out);replace HBL:=Za.mk (Zc4 HBL.out);replace HBwr:=Za.mk (Zc4 HBwr.out);refine Zfp (n:=17) (S:=fun w'=>w'.cell? ⟨aT,5,none⟩=some (.slice (some adI) ((Zaf aa ae).f5).length gV)∧w'.cell? (adI.add (x:Int).toNat)=some (.slice AI (Zck ((Zaf aa ae).f5) x).length cI)) (ds:= [15]) #[false,false,false,false,false,false,false,false,false,false,false,false,false,false,false,false,false] (by kernel_rfl) rfl rfl ⟨bc BXr.out 5,(HBwr.out.cell (World.block_lt_of_cell? w _ hxI.out)).trans hxI.out⟩ (fun hHeld=> ?_);refine Zej Zab.tab17 Zab.bits17 (fun HT_ HW_=> ?_)
          generalize wr.drew=wd at HO8d BXr HBL HBwr hHeld ⊢
          refine pu HT_ 0 95 ?_;refine pu HT_ 1 96 ?_;refine tk HT_ HW_ hHeld 2 97 ?_;refine pu HT_ 3 98 ?_;refine pu HT_ 4 99 ?_;refine tk HT_ HW_ hHeld 5 100 ?_;refine pu HT_ 6 101 ?_;refine tk HT_ HW_ hHeld 7 102 ?_;refine pu HT_ 8 103 ?_;refine pu HT_ 9 104 ?_;refine tk HT_ HW_ hHeld 10 105 ?_;refine pu HT_ 11 106 ?_;refine pu HT_ 12 107 ?_;refine pu HT_ 13 108 ?_;refine on1 HT_ 14 109 (fun K hK=> ?_);refine value_ (w1:=?_) (v:=?_) (by rfl) rfl ?_ ?_;rotate_left 2
          ·go_simp
           constructor
           ·rfl
           rfl
          refine hK.out _ _ ⟨(Zan (Zaa BXr.out _) 5).trans rfl,((Zad HBwr.out (Za6 (Below.refl _ _) _)).cell (World.block_lt_of_cell? w _ hxI.out)).trans hxI.out⟩ (fun hHeld=> ?_);clear hK K;refine nmp 109 ?_;refine last_ (i:=15) (N:=some 110) #[true,true,true,true,true,true,true,true,true,true,true,true,true,true,true,true,false] rfl rfl (Zh9 HT_.out (by kernel_rfl)) (by decide) (fun K hK=> ?_);refine Kd.N_append_step (Kd.slice 3 (Kd.int .i64)) (w0:=wX) wX.heap.size (by rfl) (.tmp 95) (.tmp 109) 34 24 (.slice none 0 0) 24 rfl Tryz.underlying34 Zg8 rfl (by decide) (by omega) u8 ((((Zaf aa ae).f5).take n).map fun r=>r.take 14) ((Zck ((Zaf aa ae).f5) x).take jI.toNat) [.slice AI (jI:Int).toNat cI] (fun k_=>k_<w.heap.size∨wX.heap.size≤k_) (fun k_=>(k_<w.heap.size∨wX.heap.size≤k_)∧some k_≠(u8:Value).ownBlock) rfl rfl ?aP (fun _ hk=>hk) (fun k_ hk=> .inr (Nat.le_trans (Zac HBL.out) hk)) HO8d.out HBL.out (Zac HBL.out) (by have:=LMI.out;omega) ?_
          (case aP=>have hq_:=FKA.out _ HBwr.out;rw[eLI.out]at hq_;exact hq_)
          intro vN wN ho hb hg hat;have HON:=Za.mk ho;have HBN:=Za.mk hb;clear ho hb hg hat;refine hK.out _ _ ?_;clear hK K;refine nmp 110 ?_;refine pu HT_ 16 8 ?_;refine Zhw (Ze7 HT_.out (by kernel_rfl)) ?_;try go_wp2
          go_roundg kI
          case measure=>omega
          case rel=>exact⟨n+1,_,rfl,HEW,HK1,HN1,⟨by rw[←RE.out,←RJ.out];(with_reducible repeat(first|apply Kd.N_alloc|apply Kd.N_drewN|apply Kd.Zfj));exact HON.out⟩,⟨bM HBN.out⟩⟩
       case rest=>
        obtain⟨v168,rfl,HN,HBL⟩:=hcut;obtain⟨w76,rfl⟩:∃w_:World,w_=wc:=⟨_,rfl⟩;have hX:=HX.out;clear HX BX HBW;subst hX;have hb:=HBL.out;have mG:Za (Kd.V (Kd.slice 3 (Kd.int .i64)) 24 w76 w.heap.size (fun k_=>some k_≠(dI:Value).ownBlock∧some k_≠(gQ:Value).ownBlock∧k_≠iP∧k_≠dP∧k_≠dJ∧k_≠aT) v168 t167):=⟨Kd.Zfa (Kd.N_V HN.out) (fun k_ hk_=>hk_.elim (fun hk_=>⟨fun e_=>Nat.not_le.2 hk_ (Kd.Zev aN.out k_ e_.symm),fun e_=>Nat.not_le.2 hk_ (Kd.Zct bD.out k_ e_.symm),fun e_=>Nat.not_le.2 hk_ (by rw[e_];exact GW131.out),fun e_=>Nat.not_le.2 hk_ (by rw[e_];exact GW132.out),fun e_=>Nat.not_le.2 hk_ (by rw[e_];exact GW133.out),fun e_=>Nat.not_le.2 hk_ (by rw[e_];exact GW164.out)⟩) (fun hk_=>⟨(Kd.fresh' (Kd.S_lt (sM (Kd.Zd7 (Kd.Zdy (p:=⟨aT,2,none⟩) (Kd.Zdy (p:=⟨aT,1,none⟩) (Kd.Zdy (p:=⟨aT,6,none⟩) (Kd.Zdy (p:=⟨aT,5,none⟩) (Kd.Zdy (p:=⟨aT,4,none⟩) (Kd.Zdy (p:=⟨aT,3,none⟩) (Kd.Zdy (p:=⟨aT,2,none⟩) (Kd.Zdy (p:=⟨aT,1,none⟩) (Kd.Zdy (p:=⟨aT,0,none⟩) (Kd.Zeq aN.out df.out (by decide)) (fun _ hk=>hk.2) (.int .i64 ((Zaf aa ae).f0))) (fun _ hk=>hk.2) (.slice dw ((Zaf aa ae).f1).length dx)) (fun _ hk=>hk.2) (.slice dC ((Zaf aa ae).f2).length dD)) (fun _ hk=>hk.2) (.int .i64 ((Zaf aa ae).f3))) (fun _ hk=>hk.2) (.int .i64 ((Zaf aa ae).f4))) (fun _ hk=>hk.2) (.slice iA ((Zaf aa ae).f5).length gV)) (fun _ hk=>hk.2) (.int .i64 ((Zaf aa ae).f6))) (fun _ hk=>hk.2) (.slice dw (((Zaf aa ae).f1).take ((fK):Int).toNat).length dx)) (fun _ hk=>hk.2) (.slice dC (((Zaf aa ae).f2).take ((gX):Int).toNat).length dD)) (fun _ h_=>h_.1)))) k_ hk_),(Kd.fresh' (Kd.R_lt (rM (Kd.Za5 (Kd.Zbs (p:=⟨aT,2,none⟩) (Kd.Zbs (p:=⟨aT,1,none⟩) (Kd.Zbs (p:=⟨aT,6,none⟩) (Kd.Zbs (p:=⟨aT,5,none⟩) (Kd.Zbs (p:=⟨aT,4,none⟩) (Kd.Zbs (p:=⟨aT,3,none⟩) (Kd.Zbs (p:=⟨aT,2,none⟩) (Kd.Zbs (p:=⟨aT,1,none⟩) (Kd.Zbs (p:=⟨aT,0,none⟩) (Kd.Za5 bD.out (fun k_ hk=>(⟨hk,hk.2⟩:_∧k_≠aT))) (fun _ hk=>hk.2) (.int .i64 ((Zaf aa ae).f0))) (fun _ hk=>hk.2) (.slice dw ((Zaf aa ae).f1).length dx)) (fun _ hk=>hk.2) (.slice dC ((Zaf aa ae).f2).length dD)) (fun _ hk=>hk.2) (.int .i64 ((Zaf aa ae).f3))) (fun _ hk=>hk.2) (.int .i64 ((Zaf aa ae).f4))) (fun _ hk=>hk.2) (.slice iA ((Zaf aa ae).f5).length gV)) (fun _ hk=>hk.2) (.int .i64 ((Zaf aa ae).f6))) (fun _ hk=>hk.2) (.slice dw (((Zaf aa ae).f1).take ((fK):Int).toNat).length dx)) (fun _ hk=>hk.2) (.slice dC (((Zaf aa ae).f2).take ((gX):Int).toNat).length dD)) (fun _ h_=>h_.1)))) k_ hk_),(Kd.freshB (g:=iP) (o:= .cells #[.slice dU ag.length dO,.slice (some KG) aa.length aJ,.int .i64 ay,.slice bF ak.length bG,.slice bz ah.length bA] 28 (0,0)) (by(with_reducible repeat(first|exact bv.out|refine Zcr ?_ sK.out _|refine Zaa ?_ _|refine Zah ?_|refine Zag ?_ _))) k_ hk_),(Kd.freshB (g:=dP) (o:= .cells #[.slice none 0 0,.slice none 0 0,.int .i64 0,.slice none 0 0,.slice none 0 0] 28 (0,0)) (by(with_reducible repeat(first|exact bB.out|refine Zcr ?_ sN.out _|refine Zaa ?_ _|refine Zah ?_|refine Zag ?_ _))) k_ hk_),(Kd.freshB (g:=dJ) (o:= .cells #[dI,gQ,.int .i64 ay,.slice bF ak.length bG,.slice bz ah.length bA] 28 (0,0)) (by(with_reducible repeat(first|exact aD.out|refine Zcr ?_ qw.out _|refine Zaa ?_ _|refine Zah ?_|refine Zag ?_ _))) k_ hk_),(Kd.freshB (g:=aT) (o:= .cells #[.int .i64 ((Zaf aa ae).f0),.slice dw (((Zaf aa ae).f1).take ((fK):Int).toNat).length dx,.slice dC (((Zaf aa ae).f2).take ((gX):Int).toNat).length dD,.int .i64 ((Zaf aa ae).f3),.int .i64 ((Zaf aa ae).f4),.slice iA ((Zaf aa ae).f5).length gV,.int .i64 ((Zaf aa ae).f6)] 36 (0,0)) (by(with_reducible repeat(first|refine Zag ?_ _|refine Zah ?_|refine Zaa ?_ _));refine Zau (cs:=#[.int .i64 ((Zaf aa ae).f0),.slice dw (((Zaf aa ae).f1).take ((fK):Int).toNat).length dx,.slice dC ((Zaf aa ae).f2).length dD,.int .i64 ((Zaf aa ae).f3),.int .i64 ((Zaf aa ae).f4),.slice iA ((Zaf aa ae).f5).length gV,.int .i64 ((Zaf aa ae).f6)]) ?_ 2 _ rfl;(with_reducible repeat(first|refine Zag ?_ _|refine Zah ?_|refine Zaa ?_ _));refine Zau (cs:=#[.int .i64 ((Zaf aa ae).f0),.slice dw ((Zaf aa ae).f1).length dx,.slice dC ((Zaf aa ae).f2).length dD,.int .i64 ((Zaf aa ae).f3),.int .i64 ((Zaf aa ae).f4),.slice iA ((Zaf aa ae).f5).length gV,.int .i64 ((Zaf aa ae).f6)]) ?_ 1 _ rfl;(with_reducible repeat(first|refine Zag ?_ _|refine Zah ?_|refine Zaa ?_ _));refine Zau (cs:=#[.int .i64 ((Zaf aa ae).f0),.slice dw ((Zaf aa ae).f1).length dx,.slice dC ((Zaf aa ae).f2).length dD,.int .i64 ((Zaf aa ae).f3),.int .i64 ((Zaf aa ae).f4),.slice iA ((Zaf aa ae).f5).length gV,.int .i64 0]) ?_ 6 _ rfl;(with_reducible repeat(first|refine Zag ?_ _|refine Zah ?_|refine Zaa ?_ _));refine Zau (cs:=#[.int .i64 ((Zaf aa ae).f0),.slice dw ((Zaf aa ae).f1).length dx,.slice dC ((Zaf aa ae).f2).length dD,.int .i64 ((Zaf aa ae).f3),.int .i64 ((Zaf aa ae).f4),.slice none 0 0,.int .i64 0]) ?_ 5 _ rfl;(with_reducible repeat(first|refine Zag ?_ _|refine Zah ?_|refine Zaa ?_ _));refine Zau (cs:=#[.int .i64 ((Zaf aa ae).f0),.slice dw ((Zaf aa ae).f1).length dx,.slice dC ((Zaf aa ae).f2).length dD,.int .i64 ((Zaf aa ae).f3),.int .i64 0,.slice none 0 0,.int .i64 0]) ?_ 4 _ rfl;(with_reducible repeat(first|refine Zag ?_ _|refine Zah ?_|refine Zaa ?_ _));refine Zau (cs:=#[.int .i64 ((Zaf aa ae).f0),.slice dw ((Zaf aa ae).f1).length dx,.slice dC ((Zaf aa ae).f2).length dD,.int .i64 0,.int .i64 0,.slice none 0 0,.int .i64 0]) ?_ 3 _ rfl;(with_reducible repeat(first|refine Zag ?_ _|refine Zah ?_|refine Zaa ?_ _));refine Zau (cs:=#[.int .i64 ((Zaf aa ae).f0),.slice dw ((Zaf aa ae).f1).length dx,.slice none 0 0,.int .i64 0,.int .i64 0,.slice none 0 0,.int .i64 0]) ?_ 2 _ rfl;(with_reducible repeat(first|refine Zag ?_ _|refine Zah ?_|refine Zaa ?_ _));refine Zau (cs:=#[.int .i64 ((Zaf aa ae).f0),.slice none 0 0,.slice none 0 0,.int .i64 0,.int .i64 0,.slice none 0 0,.int .i64 0]) ?_ 1 _ rfl;(with_reducible repeat(first|refine Zag ?_ _|refine Zah ?_|refine Zaa ?_ _));refine Zau (cs:=#[.int .i64 0,.slice none 0 0,.slice none 0 0,.int .i64 0,.int .i64 0,.slice none 0 0,.int .i64 0]) ?_ 0 _ rfl;(with_reducible repeat(first|refine Zag ?_ _|refine Zah ?_|refine Zaa ?_ _));exact df.out) k_ hk_)⟩))⟩;replace aN:=Za.mk (Kd.Ze0 (sM (Kd.Zd7 (Kd.Zdy (p:=⟨aT,2,none⟩) (Kd.Zdy (p:=⟨aT,1,none⟩) (Kd.Zdy (p:=⟨aT,6,none⟩) (Kd.Zdy (p:=⟨aT,5,none⟩) (Kd.Zdy (p:=⟨aT,4,none⟩) (Kd.Zdy (p:=⟨aT,3,none⟩) (Kd.Zdy (p:=⟨aT,2,none⟩) (Kd.Zdy (p:=⟨aT,1,none⟩) (Kd.Zdy (p:=⟨aT,0,none⟩) (Kd.Zeq aN.out df.out (by decide)) (fun _ hk=>hk.2) (.int .i64 ((Zaf aa ae).f0))) (fun _ hk=>hk.2) (.slice dw ((Zaf aa ae).f1).length dx)) (fun _ hk=>hk.2) (.slice dC ((Zaf aa ae).f2).length dD)) (fun _ hk=>hk.2) (.int .i64 ((Zaf aa ae).f3))) (fun _ hk=>hk.2) (.int .i64 ((Zaf aa ae).f4))) (fun _ hk=>hk.2) (.slice iA ((Zaf aa ae).f5).length gV)) (fun _ hk=>hk.2) (.int .i64 ((Zaf aa ae).f6))) (fun _ hk=>hk.2) (.slice dw (((Zaf aa ae).f1).take ((fK):Int).toNat).length dx)) (fun _ hk=>hk.2) (.slice dC (((Zaf aa ae).f2).take ((gX):Int).toNat).length dD)) (fun _ h_=>h_.1))) hb);replace bD:=Za.mk (Kd.Zc (rM (Kd.Za5 (Kd.Zbs (p:=⟨aT,2,none⟩) (Kd.Zbs (p:=⟨aT,1,none⟩) (Kd.Zbs (p:=⟨aT,6,none⟩) (Kd.Zbs (p:=⟨aT,5,none⟩) (Kd.Zbs (p:=⟨aT,4,none⟩) (Kd.Zbs (p:=⟨aT,3,none⟩) (Kd.Zbs (p:=⟨aT,2,none⟩) (Kd.Zbs (p:=⟨aT,1,none⟩) (Kd.Zbs (p:=⟨aT,0,none⟩) (Kd.Za5 bD.out (fun k_ hk=>(⟨hk,hk.2⟩:_∧k_≠aT))) (fun _ hk=>hk.2) (.int .i64 ((Zaf aa ae).f0))) (fun _ hk=>hk.2) (.slice dw ((Zaf aa ae).f1).length dx)) (fun _ hk=>hk.2) (.slice dC ((Zaf aa ae).f2).length dD)) (fun _ hk=>hk.2) (.int .i64 ((Zaf aa ae).f3))) (fun _ hk=>hk.2) (.int .i64 ((Zaf aa ae).f4))) (fun _ hk=>hk.2) (.slice iA ((Zaf aa ae).f5).length gV)) (fun _ hk=>hk.2) (.int .i64 ((Zaf aa ae).f6))) (fun _ hk=>hk.2) (.slice dw (((Zaf aa ae).f1).take ((fK):Int).toNat).length dx)) (fun _ hk=>hk.2) (.slice dC (((Zaf aa ae).f2).take ((gX):Int).toNat).length dD)) (fun _ h_=>h_.1))) hb);replace bv:=Za.mk (Zb8 (g:=iP) (o:= .cells #[.slice dU ag.length dO,.slice (some KG) aa.length aJ,.int .i64 ay,.slice bF ak.length bG,.slice bz ah.length bA] 28 (0,0)) (by(with_reducible repeat(first|exact bv.out|refine Zcr ?_ sK.out _|refine Zaa ?_ _|refine Zah ?_|refine Zag ?_ _))) hb);replace bB:=Za.mk (Zb8 (g:=dP) (o:= .cells #[.slice none 0 0,.slice none 0 0,.int .i64 0,.slice none 0 0,.slice none 0 0] 28 (0,0)) (by(with_reducible repeat(first|exact bB.out|refine Zcr ?_ sN.out _|refine Zaa ?_ _|refine Zah ?_|refine Zag ?_ _))) hb);replace aD:=Za.mk (Zb8 (g:=dJ) (o:= .cells #[dI,gQ,.int .i64 ay,.slice bF ak.length bG,.slice bz ah.length bA] 28 (0,0)) (by(with_reducible repeat(first|exact aD.out|refine Zcr ?_ qw.out _|refine Zaa ?_ _|refine Zah ?_|refine Zag ?_ _))) hb);replace df:=Za.mk (Zb8 (g:=aT) (o:= .cells #[.int .i64 ((Zaf aa ae).f0),.slice dw (((Zaf aa ae).f1).take ((fK):Int).toNat).length dx,.slice dC (((Zaf aa ae).f2).take ((gX):Int).toNat).length dD,.int .i64 ((Zaf aa ae).f3),.int .i64 ((Zaf aa ae).f4),.slice iA ((Zaf aa ae).f5).length gV,.int .i64 ((Zaf aa ae).f6)] 36 (0,0)) (by(with_reducible repeat(first|refine Zag ?_ _|refine Zah ?_|refine Zaa ?_ _));refine Zau (cs:=#[.int .i64 ((Zaf aa ae).f0),.slice dw (((Zaf aa ae).f1).take ((fK):Int).toNat).length dx,.slice dC ((Zaf aa ae).f2).length dD,.int .i64 ((Zaf aa ae).f3),.int .i64 ((Zaf aa ae).f4),.slice iA ((Zaf aa ae).f5).length gV,.int .i64 ((Zaf aa ae).f6)]) ?_ 2 _ rfl;(with_reducible repeat(first|refine Zag ?_ _|refine Zah ?_|refine Zaa ?_ _));refine Zau (cs:=#[.int .i64 ((Zaf aa ae).f0),.slice dw ((Zaf aa ae).f1).length dx,.slice dC ((Zaf aa ae).f2).length dD,.int .i64 ((Zaf aa ae).f3),.int .i64 ((Zaf aa ae).f4),.slice iA ((Zaf aa ae).f5).length gV,.int .i64 ((Zaf aa ae).f6)]) ?_ 1 _ rfl;(with_reducible repeat(first|refine Zag ?_ _|refine Zah ?_|refine Zaa ?_ _));refine Zau (cs:=#[.int .i64 ((Zaf aa ae).f0),.slice dw ((Zaf aa ae).f1).length dx,.slice dC ((Zaf aa ae).f2).length dD,.int .i64 ((Zaf aa ae).f3),.int .i64 ((Zaf aa ae).f4),.slice iA ((Zaf aa ae).f5).length gV,.int .i64 0]) ?_ 6 _ rfl;(with_reducible repeat(first|refine Zag ?_ _|refine Zah ?_|refine Zaa ?_ _));refine Zau (cs:=#[.int .i64 ((Zaf aa ae).f0),.slice dw ((Zaf aa ae).f1).length dx,.slice dC ((Zaf aa ae).f2).length dD,.int .i64 ((Zaf aa ae).f3),.int .i64 ((Zaf aa ae).f4),.slice none 0 0,.int .i64 0]) ?_ 5 _ rfl;(with_reducible repeat(first|refine Zag ?_ _|refine Zah ?_|refine Zaa ?_ _));refine Zau (cs:=#[.int .i64 ((Zaf aa ae).f0),.slice dw ((Zaf aa ae).f1).length dx,.slice dC ((Zaf aa ae).f2).length dD,.int .i64 ((Zaf aa ae).f3),.int .i64 0,.slice none 0 0,.int .i64 0]) ?_ 4 _ rfl;(with_reducible repeat(first|refine Zag ?_ _|refine Zah ?_|refine Zaa ?_ _));refine Zau (cs:=#[.int .i64 ((Zaf aa ae).f0),.slice dw ((Zaf aa ae).f1).length dx,.slice dC ((Zaf aa ae).f2).length dD,.int .i64 0,.int .i64 0,.slice none 0 0,.int .i64 0]) ?_ 3 _ rfl;(with_reducible repeat(first|refine Zag ?_ _|refine Zah ?_|refine Zaa ?_ _));refine Zau (cs:=#[.int .i64 ((Zaf aa ae).f0),.slice dw ((Zaf aa ae).f1).length dx,.slice none 0 0,.int .i64 0,.int .i64 0,.slice none 0 0,.int .i64 0]) ?_ 2 _ rfl;(with_reducible repeat(first|refine Zag ?_ _|refine Zah ?_|refine Zaa ?_ _));refine Zau (cs:=#[.int .i64 ((Zaf aa ae).f0),.slice none 0 0,.slice none 0 0,.int .i64 0,.int .i64 0,.slice none 0 0,.int .i64 0]) ?_ 1 _ rfl;(with_reducible repeat(first|refine Zag ?_ _|refine Zah ?_|refine Zaa ?_ _));refine Zau (cs:=#[.int .i64 0,.slice none 0 0,.slice none 0 0,.int .i64 0,.int .i64 0,.slice none 0 0,.int .i64 0]) ?_ 0 _ rfl;(with_reducible repeat(first|refine Zag ?_ _|refine Zah ?_|refine Zaa ?_ _));exact df.out) hb);replace HB:=Za.mk (bS HB.out hb)
        (try clear hb)
        (try clear hb2)
        (try clear hk)
        (try clear hi)
        (try clear ho0)
        obtain⟨mQ,mR,b4a⟩:=Kd.V_slice mG.out;subst b4a;obtain⟨lNa,lOa,lPa,lQa,lRa,lSa,lTa,ira,isa,ita,iua,iva,iwa,ixa⟩:=cz7 df.out;try go_wp2_with (fail)
        have n0_:Za (Kd.S k55 55 (w76.setCell ⟨aT,5,none⟩ (.slice mQ t167.length mR)) w.heap.size (fun _=>True) dI bf):=⟨sM (Kd.Zd7 (Kd.Zdy (p:=⟨aT,5,none⟩) (Kd.Zeq aN.out df.out (by decide)) (fun _ hk=>hk.2) (.slice mQ t167.length mR)) (fun _ hk=>trivial))⟩;have n1_:Za (Kd.R k36 36 (w76.setCell ⟨aT,5,none⟩ (.slice mQ t167.length mR)) w.heap.size (fun k_=>k_≠aT) gQ bL):=⟨rM (Kd.Za5 (Kd.Zbs (p:=⟨aT,5,none⟩) (Kd.Za5 bD.out (fun k_ hk=>(⟨hk,hk.2⟩:_∧k_≠aT))) (fun _ hk=>hk.2) (.slice mQ t167.length mR)) (fun _ hk=>hk.1.2))⟩;have n2_:Za (Kd.V (Kd.slice 3 (Kd.int .i64)) 24 (w76.setCell ⟨aT,5,none⟩ (.slice mQ t167.length mR)) w.heap.size (fun k_=>some k_≠(dI:Value).ownBlock∧some k_≠(gQ:Value).ownBlock∧k_≠iP∧k_≠dP∧k_≠dJ∧k_≠aT) (.slice mQ t167.length mR) t167):=⟨vM (Kd.Zfa (Kd.V_far (p:=⟨aT,5,none⟩) (Kd.Zfa mG.out (fun k_ hk=>(⟨hk,hk.2.2.2.2.2⟩:_∧k_≠aT))) (fun _ hk=>hk.2) (.slice mQ t167.length mR)) (fun _ hk=>⟨hk.1.1,⟨hk.1.2.1,⟨hk.1.2.2.1,⟨hk.1.2.2.2.1,⟨hk.1.2.2.2.2.1,hk.1.2.2.2.2.2⟩⟩⟩⟩⟩))⟩;have n3_:Za ((w76.setCell ⟨aT,5,none⟩ (.slice mQ t167.length mR)).heap[iP]? =some (.cells #[.slice dU ag.length dO,.slice (some KG) aa.length aJ,.int .i64 ay,.slice bF ak.length bG,.slice bz ah.length bA] 28 (0,0))):=⟨by(with_reducible repeat(first|exact bv.out|refine Zcr ?_ sK.out _|refine Zaa ?_ _|refine Zah ?_|refine Zag ?_ _))⟩;have n4_:Za ((w76.setCell ⟨aT,5,none⟩ (.slice mQ t167.length mR)).heap[dP]? =some (.cells #[.slice none 0 0,.slice none 0 0,.int .i64 0,.slice none 0 0,.slice none 0 0] 28 (0,0))):=⟨by(with_reducible repeat(first|exact bB.out|refine Zcr ?_ sN.out _|refine Zaa ?_ _|refine Zah ?_|refine Zag ?_ _))⟩;have n5_:Za ((w76.setCell ⟨aT,5,none⟩ (.slice mQ t167.length mR)).heap[dJ]? =some (.cells #[dI,gQ,.int .i64 ay,.slice bF ak.length bG,.slice bz ah.length bA] 28 (0,0))):=⟨by(with_reducible repeat(first|exact aD.out|refine Zcr ?_ qw.out _|refine Zaa ?_ _|refine Zah ?_|refine Zag ?_ _))⟩;have n6_:Za ((w76.setCell ⟨aT,5,none⟩ (.slice mQ t167.length mR)).heap[aT]? =some (.cells #[.int .i64 ((Zaf aa ae).f0),.slice dw (((Zaf aa ae).f1).take ((fK):Int).toNat).length dx,.slice dC (((Zaf aa ae).f2).take ((gX):Int).toNat).length dD,.int .i64 ((Zaf aa ae).f3),.int .i64 ((Zaf aa ae).f4),.slice mQ t167.length mR,.int .i64 ((Zaf aa ae).f6)] 36 (0,0))):=⟨by(with_reducible repeat(first|refine Zag ?_ _|refine Zah ?_|refine Zaa ?_ _));refine Zau (cs:=#[.int .i64 ((Zaf aa ae).f0),.slice dw (((Zaf aa ae).f1).take ((fK):Int).toNat).length dx,.slice dC (((Zaf aa ae).f2).take ((gX):Int).toNat).length dD,.int .i64 ((Zaf aa ae).f3),.int .i64 ((Zaf aa ae).f4),.slice iA ((Zaf aa ae).f5).length gV,.int .i64 ((Zaf aa ae).f6)]) ?_ 5 _ rfl;(with_reducible repeat(first|refine Zag ?_ _|refine Zah ?_|refine Zaa ?_ _));exact df.out⟩;have n7_:Za (Below w.heap.size w (w76.setCell ⟨aT,5,none⟩ (.slice mQ t167.length mR))):=⟨bM HB.out⟩
        (try clear aN)
        (try clear bD)
        (try clear mG)
        (try clear bv)
        (try clear bB)
        (try clear aD)
        (try clear df)
        (try clear HB)
        generalize (w76.setCell ⟨aT,5,none⟩ (.slice mQ t167.length mR))=w79 at n0_ n1_ n2_ n3_ n4_ n5_ n6_ n7_ ⊢
        have aN:=n0_;have bD:=n1_;have mG:=n2_;have bv:=n3_;have bB:=n4_;have aD:=n5_;have df:=n6_;have HB:=n7_;clear n0_ n1_ n2_ n3_ n4_ n5_ n6_ n7_;replace aN:=Za.mk (Kd.S_drew aN.out);replace bD:=Za.mk (Kd.Zgp bD.out);replace mG:=Za.mk (Kd.V_drew mG.out);replace bv:=Za.mk (Zah bv.out);replace bB:=Za.mk (Zah bB.out);replace aD:=Za.mk (Zah aD.out);replace df:=Za.mk (Zah df.out);replace HB:=Za.mk (Zc4 HB.out);refine Zfp (n:=8) (S:=fun w'=>w'.cell? ⟨dJ,0,none⟩=some (dI)∧w'.cell? ⟨dJ,1,none⟩=some (gQ)∧w'.cell? ⟨dJ,2,none⟩=some (.int .i64 ay)∧w'.cell? ⟨dJ,3,none⟩=some (.slice bF ak.length bG)∧w'.cell? ⟨dJ,4,none⟩=some (.slice bz ah.length bA)∧w'.cell? ⟨aT,0,none⟩=some (.int .i64 ((Zaf aa ae).f0))∧w'.cell? ⟨aT,1,none⟩=some (.slice dw (((Zaf aa ae).f1).take ((fK):Int).toNat).length dx)∧w'.cell? ⟨aT,2,none⟩=some (.slice dC (((Zaf aa ae).f2).take ((gX):Int).toNat).length dD)∧w'.cell? ⟨aT,3,none⟩=some (.int .i64 ((Zaf aa ae).f3))∧w'.cell? ⟨aT,4,none⟩=some (.int .i64 ((Zaf aa ae).f4))∧w'.cell? ⟨aT,5,none⟩=some (.slice mQ t167.length mR)∧w'.cell? ⟨aT,6,none⟩=some (.int .i64 ((Zaf aa ae).f6))) (ds:= [7]) #[false,false,false,false,false,false,false,false] (by kernel_rfl) rfl rfl ⟨bc aD.out 0,bc aD.out 1,bc aD.out 2,bc aD.out 3,bc aD.out 4,bc df.out 0,bc df.out 1,bc df.out 2,bc df.out 3,bc df.out 4,bc df.out 5,bc df.out 6⟩ (fun hHeld=> ?_);refine Zej Zab.tab19 Zab.bits19 (fun HT_ HW_=> ?_)
        generalize w79.drew=w80 at aN bD mG bv bB aD df HB hHeld ⊢
        refine pu HT_ 0 113 ?_;refine tk HT_ HW_ hHeld 1 114 ?_;refine tk HT_ HW_ hHeld 2 115 ?_;refine on1 HT_ 3 116 (fun K hK=> ?_);refine goes_ Tryz.func52 (by kernel_rfl) rfl #[.agg #[.int .i64 ((Zaf aa ae).f0),.slice dw (((Zaf aa ae).f1).take ((fK):Int).toNat).length dx,.slice dC (((Zaf aa ae).f2).take ((gX):Int).toNat).length dD,.int .i64 ((Zaf aa ae).f3),.int .i64 ((Zaf aa ae).f4),.slice mQ t167.length mR,.int .i64 ((Zaf aa ae).f6)]] (by rfl) rfl rfl (by(try simp only[List.map_toArray,List.map_cons,List.map_nil]);first|done|(rw[show(((Zaf aa ae).f1).take ((fK):Int).toNat).length=(fK).toNat from(by rw[List.length_take];have h_:((fK):Int)≤(((Zaf aa ae).f1).length:Int):=odt;omega),show(((Zaf aa ae).f2).take ((gX):Int).toNat).length=(gX).toNat from(by rw[List.length_take];have h_:((gX):Int)≤(((Zaf aa ae).f2).length:Int):=odt;omega)]<;>rfl)|(rw[show(((Zaf aa ae).f1).take ((fK):Int).toNat).length=(fK).toNat from(by rw[List.length_take];have h_:((fK):Int)≤(((Zaf aa ae).f1).length:Int):=odt;omega)]<;>rfl)|(rw[show(((Zaf aa ae).f2).take ((gX):Int).toNat).length=(gX).toNat from(by rw[List.length_take];have h_:((gX):Int)≤(((Zaf aa ae).f2).length:Int):=odt;omega)]<;>rfl)|(simp only[hji57,hji60];rfl)|rfl|(simp only[List.length_drop,List.length_take];rfl)) ?_
        with_reducible refine(Zcp.calls kj45 ((Zaf aa ae).f0) _ _ (((Zaf aa ae).f1).take ((fK):Int).toNat) _ _ (((Zaf aa ae).f2).take ((gX):Int).toNat) ((Zaf aa ae).f3) ((Zaf aa ae).f4) _ _ t167 ((Zaf aa ae).f6) EL t171 zX EM EN zY t182 _ ?side1 ?side2 ?side3 ?side4 ?side5 ?side6 A64.out).mono ?_
        (case side1=>repeat(first|exact(Kd.Zae Ws.out HB.out)|(with_reducible refine Kd.C_alloc ?_ _)|(with_reducible refine Kd.Zb7 ?_ _)|(with_reducible refine Kd.Zci ?_)))
        (case side2=>exact VK.out)
        (case side3=>repeat(first|exact(Kd.Zae Wt.out HB.out)|(with_reducible refine Kd.C_alloc ?_ _)|(with_reducible refine Kd.Zb7 ?_ _)|(with_reducible refine Kd.Zci ?_)))
        (case side4=>exact VL.out)
        (case side5=>repeat(first|exact(Kd.Zfx mG.out).2.2|(with_reducible refine Kd.C_alloc ?_ _)|(with_reducible refine Kd.Zb7 ?_ _)|(with_reducible refine Kd.Zci ?_)))
        (case side6=>exact(Kd.Zfx mG.out).2.1)
        rintro e w81 ⟨nNa,v175,nOa,rfl,ho0,ho1,ho2,hb⟩;refine⟨_,rfl,?_⟩;replace aN:=Za.mk (Kd.Ze0 (sM aN.out) hb);replace bD:=Za.mk (Kd.Za5 (Kd.R_told (Kd.R_told (Kd.R_told (Kd.R_old (rM bD.out) hb) (Kd.Zct ho0)) (Kd.Zct ho1)) (Kd.Zev ho2)) (fun _ h_=>h_.1));replace mG:=Za.mk (Kd.Zfa (Kd.V_told (Kd.V_told (Kd.V_told (Kd.V_old (vM mG.out) hb) (Kd.Zct ho0)) (Kd.Zct ho1)) (Kd.Zev ho2)) (fun _ h_=>h_.1));have JV:=Za.mk (Kd.Zbk ho0 (Zac (bM HB.out)));have JW:=Za.mk (Kd.Zbk ho1 (Zac (bM HB.out)));have JX:=Za.mk (Kd.Zg0 ho2 (Zac (bM HB.out)));replace bv:=Za.mk (kB bv.out hb);replace bB:=Za.mk (kB bB.out hb);replace aD:=Za.mk (kB aD.out hb);replace df:=Za.mk (kB df.out hb);replace HB:=Za.mk (bS HB.out hb)
        (try clear hb)
        (try clear hb2)
        (try clear hk)
        (try clear hi)
        (try clear ho0)
        (try clear ho1)
        (try clear ho2)
        obtain⟨Nr,ND,Lr⟩:=Kd.Zbe JV.out
        (first|subst Lr|(injection Lr with f1_ f2_ f3_;have f4_:=f1_.symm;have f5_:=f3_.symm;clear f1_ f2_ f3_;subst f4_;subst f5_))
        obtain⟨Ns,NE,Ls⟩:=Kd.Zbe JW.out
        (first|subst Ls|(injection Ls with f1_ f2_ f3_;have f4_:=f1_.symm;have f5_:=f3_.symm;clear f1_ f2_ f3_;subst f4_;subst f5_))
        obtain⟨Nt,NF,Lt⟩:=Kd.S_slice JX.out
        (first|subst Lt|(injection Lt with f1_ f2_ f3_;have f4_:=f1_.symm;have f5_:=f3_.symm;clear f1_ f2_ f3_;subst f4_;subst f5_))
        refine hK.out _ _ ⟨bc aD.out 0,bc aD.out 1,bc aD.out 2,bc aD.out 3,bc aD.out 4,bc df.out 0,bc df.out 1,bc df.out 2,bc df.out 3,bc df.out 4,bc df.out 5,bc df.out 6⟩ (fun hHeld=> ?_);clear hK K;refine nmp 116 ?_;refine on1 HT_ 4 117 (fun K hK=> ?_);refine value_ (w1:=?_) (v:=?_) (by rfl) rfl ?_ ?_;rotate_left 2
        ·go_simp
         constructor
         ·rfl
         rfl
        refine hK.out _ _ ⟨(Zan (Zaa aD.out _) 0).trans rfl,(Zan (Zaa aD.out _) 1).trans rfl,(Zan (Zaa aD.out _) 2).trans rfl,(Zan (Zaa aD.out _) 3).trans rfl,(Zan (Zaa aD.out _) 4).trans rfl,(Zan (Zaa df.out _) 0).trans rfl,(Zan (Zaa df.out _) 1).trans rfl,(Zan (Zaa df.out _) 2).trans rfl,(Zan (Zaa df.out _) 3).trans rfl,(Zan (Zaa df.out _) 4).trans rfl,(Zan (Zaa df.out _) 5).trans rfl,(Zan (Zaa df.out _) 6).trans rfl⟩ (fun hHeld=> ?_);clear hK K;refine nmp 117 ?_;refine on1 HT_ 5 118 (fun K hK=> ?_);refine Kd.Ze5 k36 (w0:=w) w.heap.size (by rfl) (.tmp 114) (.tmp 117) 23 36 (.agg #[(.int .i64 0),(.slice none 0 0),(.slice none 0 0),(.int .i64 0),(.int .i64 0),(.slice none 0 0),(.int .i64 0)]) 104 rfl Tryz.underlying23 info36 rfl (by decide) (by omega) gQ bL (⟨EL,t171,zX,EM,EN,zY,t182⟩:S36) [.int .i64 EL,.slice Nr t171.length ND,.slice Ns zX.length NE,.int .i64 EM,.int .i64 EN,.slice Nt zY.length NF,.int .i64 t182] (fun k_=>k_≠aT) (fun k_=>((fun k_=>k_≠aT)) k_∧some k_≠(gQ:Value).ownBlock) rfl rfl ?aP (fun _ hk=>hk) ?aF ?aO ?aB ?aS ?aL ?_
        (case aP=>exact k36_mkM _ _ _ (⟨EL,t171,zX,EM,EN,zY,t182⟩:S36) (Kd.Za5 (Kd.Zca (Kd.Zdc (JV.out) (Kd.Zee bD.out) (by decide)) df.out (by decide)) (fun k_ hk=>⟨hk.2,hk.1.2⟩)) (Kd.Za5 (Kd.Zca (Kd.Zdc (JW.out) (Kd.Zee bD.out) (by decide)) df.out (by decide)) (fun k_ hk=>⟨hk.2,hk.1.2⟩)) (Kd.Za5 (Kd.Zca (Kd.Zdc ((Kd.S_R JX.out)) (Kd.Zee bD.out) (by decide)) df.out (by decide)) (fun k_ hk=>⟨hk.2,hk.1.2⟩)))
        (case aB=>exact(bM HB.out))
        (case aF=>exact(fun k_ hk=>Kd.freshB (kM df.out) k_ hk))
        (case aO=>exact(rM (Kd.Za5 bD.out (fun _ hk=>hk.1.1.1))))
        (case aS=>exact(Zac (bM HB.out)))
        (case aL=>have:=Wz.out;omega)
        intro nPa w82 ho hb hg hat;rw[←WK.out]at ho;replace aN:=Za.mk (Kd.S_over' (sM aN.out) (Kd.Zee (rM bD.out)) (by decide) hg);replace bv:=Za.mk (kG bv.out hg (Kd.R_ne bD.out bv.out (by decide)));replace bB:=Za.mk (kG bB.out hg (Kd.R_ne bD.out bB.out (by decide)));replace aD:=Za.mk (kG aD.out hg (Kd.R_ne bD.out aD.out (by decide)));replace df:=Za.mk (kG df.out hg (Kd.R_away bD.out (fun _ hk=>hk.1.1.1)));replace mG:=Za.mk (Kd.V_afterv (ok:=(fun k_=>some k_≠(dI:Value).ownBlock∧some k_≠(.slice Nr t171.length ND:Value).ownBlock∧some k_≠(.slice Ns zX.length NE:Value).ownBlock∧some k_≠(.slice Nt zY.length NF:Value).ownBlock∧k_≠iP∧k_≠dP∧k_≠dJ∧k_≠aT)) (vM (Kd.Zfa mG.out (fun _ hk=>⟨⟨hk.1.1.1.1,⟨hk.1.1.2,⟨hk.1.2,⟨hk.2,⟨hk.1.1.1.2.2.1,⟨hk.1.1.1.2.2.2.1,⟨hk.1.1.1.2.2.2.2.1,hk.1.1.1.2.2.2.2.2⟩⟩⟩⟩⟩⟩⟩,hk.1.1.1.2.1⟩))) hg hat);replace HB:=Za.mk (hb);have PL:=Za.mk (ho);clear bD JV JW JX ho hb hg hat;obtain⟨Nu,NG,Uo⟩:=Kd.Zbe PL.out
        (first|subst Uo|(injection Uo with f1_ f2_ f3_;have f4_:=f1_.symm;have f5_:=f3_.symm;clear f1_ f2_ f3_;subst f4_;subst f5_))
        refine hK.out _ _ ⟨bc aD.out 0,bc aD.out 1,bc aD.out 2,bc aD.out 3,bc aD.out 4,bc df.out 0,bc df.out 1,bc df.out 2,bc df.out 3,bc df.out 4,bc df.out 5,bc df.out 6⟩ (fun hHeld=> ?_);clear hK K;refine nmp 118 ?_;refine pu HT_ 6 119 ?_;refine last_ (i:=7) (N:=none) #[true,true,true,true,true,true,true,true] rfl rfl (Zh9 HT_.out (by kernel_rfl)) (by decide) (fun K hK=> ?_);have hs87:w82.cell? ⟨dJ,1,none⟩=some (gQ):=(Zan aD.out 1).trans rfl;have hfs87:=Za1 aD.out 1;have hns87_0:=gK.out;have hns87_1:=jE.out;have hns87_3:=Fg.out;have hms87_0:=jg.out;have hms87_1:=sO.out;have hms87_3:=qw.out;refine skip_ (w1:=?_) (by rfl) rfl ?_ ?_;rotate_left
        ·go_simp
         rfl
        refine hK.out _ _ ?_;clear hK K;refine Zhw (Ze7 HT_.out (by kernel_rfl)) ?_;try go_wp2
        go_roundg kj45
        case measure=>have:=HJ1.out;have:=HK2.out;have:=HJ45.out;omega
        case rel=>exact⟨(wrap64 (ae+1)),(Ir),(.slice Nu Ir.length NG),eS,H',⟨by have:=HJ1.out;have:=HK2.out;have:=HJ45.out;omega⟩,⟨sM (Kd.Zd7 (Kd.Zdy (p:=⟨dJ,1,none⟩) (Kd.Zeq aN.out aD.out (by decide)) (fun _ hk=>hk.2) (.slice Nu Ir.length NG)) (fun _ hk=>trivial))⟩,⟨rM (Kd.Za5 (Kd.Zbs (p:=⟨dJ,1,none⟩) (Kd.Zca PL.out aD.out (by decide)) (fun _ hk=>hk.2) (.slice Nu Ir.length NG)) (fun _ hk=>trivial))⟩,⟨by(with_reducible repeat(first|exact bv.out|refine Zcr ?_ gK.out _|refine Zaa ?_ _|refine Zah ?_|refine Zag ?_ _))⟩,⟨by(with_reducible repeat(first|exact bB.out|refine Zcr ?_ jE.out _|refine Zaa ?_ _|refine Zah ?_|refine Zag ?_ _))⟩,⟨by(with_reducible repeat(first|refine Zag ?_ _|refine Zah ?_|refine Zaa ?_ _));refine Zau (cs:=#[dI,gQ,.int .i64 ay,.slice bF ak.length bG,.slice bz ah.length bA]) ?_ 1 _ rfl;(with_reducible repeat(first|refine Zag ?_ _|refine Zah ?_|refine Zaa ?_ _));exact aD.out⟩,⟨bM HB.out⟩⟩
end Go.Proofs.YtdpieallpbllkaaGreat.P
/- A model no larger than a statement can hold, in plain words. -/
namespace Go.Proofs.YtdpieallpbllkaaGreat.P
open Go.RowKit Go.Proofs.YtdpieallpbllkaaGreatW.PrintWords Go.Proofs.YtdpieallpbllkaaGreatW.PrintLast Go.Proofs.YtdpieallpbllkaaGreatW.PrintMore
theorem Zhf (a:Nat) (b:Int) (c:Nat) (h:b=c):mn (a:Int) b=((min a c:Nat):Int):=by
  subst h;unfold mn
  split<;>omega
theorem Zhg {α:Type} (l:List α) (b:Int) (c:Nat) (h:b=c):l.take (mn (l.length:Int) b).toNat=l.take c:=by
  rw[Zhf _ _ _ h,Int.toNat_natCast];by_cases q:l.length≤c;rotate_left
  · rw[Nat.min_eq_right (by omega)]
  rw[Nat.min_eq_left q,List.take_length,List.take_of_length_le q]
theorem Zfo (l : List (List Int)) (hl : l.length ≤ 1000000) (hr : ∀ r ∈ l, r.length ≤ 1000000) : ∀ (d n : Nat) (acc : List (List Int)), n + d = l.length → acc.length ≤ n → Ev (fun k => Zbh.l0 k l acc (n : Int)) (acc ++ l.drop n)
  |0,n,acc,h,ha=>by
    obtain rfl:n=l.length:=by omega
    rw[List.drop_length,List.append_nil];exact Ev.step (G:=fun _=>some acc) (fun k=>by rw[Zbh.l0,if_neg (by omega)]) (Ev.const rfl)
  |d+1,n,acc,h,ha=>by
    have hn:n<l.length:=by omega
    have hw:wrap64 ((n:Int)+1)=((n+1:Nat):Int):=w1 (by omega);have hrd:Zck l (n:Int)=l[n]:=by simp[Zck,List.getD_eq_getElem?_getD,List.getElem?_eq_getElem hn]
    have hq:=hr _ (List.getElem_mem hn);have ih:=Zfo l hl hr d (n+1) (acc++ [l[n]]) (by omega) (by simp;omega);rw[List.append_assoc,List.singleton_append,←List.drop_eq_getElem_cons hn]at ih;refine Ev.step (fun k=>by rw[Zbh.l0,if_pos (by omega),hrd]) (Ev.bind (a:=([]:List Int)) (Ev.const rfl) ?_);rw[hw,List.nil_append];refine Ev.Zaj (Int.natCast_nonneg n) ?_;refine Ev.Zaj ?_ ?_
    · show 0 + l[n].length < _
      omega
    refine Ev.Zaj ?_ ih
    omega
theorem ref_nums4 (l:List (List Int)) (hl:l.length≤1000000) (hr:∀r ∈ l,r.length≤1000000):Ev (fun k=>Zbh.f k l) l:=Zfo l hl hr l.length 0 [] (by omega) (by simp)
theorem ref_own4 (a0:Int) (l1 l2:List Int) (a3 a4:Int) (l5:List (List Int)) (a6:Int) (h1:l1.length≤1000000) (h2:l2.length≤1000000) (hl:l5.length≤1000000) (hr:∀r ∈ l5,r.length≤1000000):Ev (fun k=>Zcp.f k a0 l1 l2 a3 a4 l5 a6) (a0,l1,l2,a3,a4,l5,a6):=by
  unfold Zcp.f;refine Ev.bind (a:=([]:List Int)) (Ev.const rfl) (Ev.Zaj (by simp;omega) (Ev.bind (a:=([]:List Int)) (Ev.const rfl) (Ev.Zaj (by simp;omega) (Ev.bind (ref_nums4 l5 hl hr) (Ev.const ?_)))))
  simp
def bV1 (v:S55):S55:=⟨v.f0.extract 0 (min v.f0.size 20),v.f1.take 12⟩
def bC1 (c:S36):S36:=⟨c.f0,c.f1.take 14,c.f2.take 14,c.f3,c.f4,cutR c.f5,c.f6⟩
def bV (l:List S55):List S55:=(l.take 10).map bV1
def bC (l:List S36):List S36:=(l.take 16).map bC1
theorem cutR_len (l:List (List Int)):(cutR l).length≤20:=by
  unfold cutR;rw[List.length_map,List.length_take]
  omega
theorem cutR_row (l:List (List Int)):∀r ∈ cutR l,r.length≤14:=by
  intro r hr;unfold cutR at hr;obtain⟨x,_,rfl⟩:=List.mem_map.1 hr;rw[List.length_take]
  omega
section
variable (vars:List S55) (cons:List S36) (gk:Int) (gv gc:List Int) (V:List S55)
theorem bound_end (x:Int) (acc:List S36):Ev (fun k=>Zab.j3 k x false vars cons gk gv gc V acc gk gv gc) (V,acc,gk,gv.take 14,gc.take 14):=by
  have e1:=Zhg gv 14 14 rfl;have e2:=Zhg gc 14 14 rfl;have m1:=Zhf gv.length 14 14 rfl;have m2:=Zhf gc.length 14 14 rfl;refine Ev.step (fun k=>by rw[Zab.j3,if_neg (by simp)]) ?_;rw[e1,e2];refine Ev.bind (a:=([]:List Int)) (Ev.const rfl) (Ev.Zaj (by omega) (Ev.Zaj (by omega) (Ev.Zaj (by simp[List.length_take];omega) ?_)));refine Ev.bind (a:=([]:List Int)) (Ev.const rfl) (Ev.Zaj (by omega) (Ev.Zaj (by omega) (Ev.Zaj (by simp[List.length_take];omega) (Ev.const rfl))))
theorem bound_l1 : ∀ (d n : Nat) (acc : List S36), n + d = min 16 cons.length → acc.length ≤ n → Ev (fun k => Zab.l1 k (n : Int) vars cons gk gv gc V acc gk gv gc) (V, acc ++ ((cons.take 16).drop n).map bC1, gk, gv.take 14, gc.take 14)
  |0,n,acc,h,ha=>by
    have e:(cons.take 16).drop n= []:=List.drop_eq_nil_of_le (by rw[List.length_take];omega);rw[e,List.map_nil,List.append_nil];by_cases q:n<cons.length;rotate_left
    · exact Ev.step (fun k=>by rw[Zab.l1,if_neg (by omega)]) (bound_end vars cons gk gv gc V _ _)
    have d1:decide ((n:Int)<16)=false:=decide_eq_false (by omega);exact Ev.step (fun k=>by rw[Zab.l1,if_pos (by omega),d1]) (bound_end vars cons gk gv gc V _ _)
  |d+1,n,acc,h,ha=>by
    have hn:n<cons.length:=by omega
    have h16:n<16:=by omega
    have d1:decide ((n:Int)<16)=true:=decide_eq_true (by omega);have hw:wrap64 ((n:Int)+1)=((n+1:Nat):Int):=w1 (by omega);have hrd:Zaf cons (n:Int)=cons[n]:=by simp[Zaf,List.getD_eq_getElem?_getD,List.getElem?_eq_getElem hn]
    have ih:=bound_l1 d (n+1) (acc++ [bC1 cons[n]]) (by omega) (by simp;omega)
    have hd:(cons.take 16).drop n=cons[n]::(cons.take 16).drop (n+1):=by
      rw[List.drop_eq_getElem_cons (by rw[List.length_take];omega),List.getElem_take]
    rw[hd,List.map_cons];rw[List.append_assoc,List.singleton_append]at ih;have m1:=Zhf cons[n].f1.length 14 14 rfl;have m2:=Zhf cons[n].f2.length 14 14 rfl;refine Ev.step (fun k=>by rw[Zab.l1,if_pos (by omega),d1]) (Ev.step (fun k=>by rw[Zab.j3,if_pos rfl,hrd]) ?_);rw[Zhg cons[n].f1 14 14 rfl,Zhg cons[n].f2 14 14 rfl];refine Ev.Zaj (by omega) (Ev.Zaj (by omega) (Ev.Zaj (by omega) (Ev.Zaj (by omega) (Ev.Zaj (by omega) (Ev.Zaj (by omega) ?_)))));refine Ev.bind (a:=cutR cons[n].f5) (Ev.const rfl) (Ev.bind (ref_own4 _ _ _ _ _ _ _ (by rw[List.length_take];omega) (by rw[List.length_take];omega) (by have:=cutR_len cons[n].f5;omega) (fun r hr=>by have:=cutR_row _ r hr;omega)) (Ev.Zaj (by omega) ?_));rw[hw];exact ih
theorem bound_j1:Ev (fun k=>Zab.j1 k vars cons gk gv gc V gk gv gc) (V,bC cons,gk,gv.take 14,gc.take 14):=
  Ev.step (fun k=>by rw[Zab.j1];rfl) (bound_l1 vars cons gk gv gc V (min 16 cons.length) 0 [] (by omega) (by simp))
end
theorem bound_l0 (vars : List S55) (cons : List S36) (gk : Int) (gv gc : List Int) : ∀ (d n : Nat) (acc : List S55), n + d = min 10 vars.length → acc.length ≤ n → Ev (fun k => Zab.l0 k (n : Int) vars cons gk gv gc acc gk gv gc) (acc ++ ((vars.take 10).drop n).map bV1, bC cons, gk, gv.take 14, gc.take 14)
  |0,n,acc,h,ha=>by
    have e:(vars.take 10).drop n= []:=List.drop_eq_nil_of_le (by rw[List.length_take];omega);rw[e,List.map_nil,List.append_nil];by_cases q:n<vars.length;rotate_left
    · exact Ev.step (fun k=>by rw[Zab.l0,if_neg (by omega)]) (bound_j1 vars cons gk gv gc _)
    exact Ev.step (fun k=>by rw[Zab.l0,if_pos (by omega),if_neg (by omega)]) (bound_j1 vars cons gk gv gc _)
  |d+1,n,acc,h,ha=>by
    have hn:n<vars.length:=by omega
    have hw:wrap64 ((n:Int)+1)=((n+1:Nat):Int):=w1 (by omega);have hrd:Zb vars (n:Int)=vars[n]:=by simp[Zb,List.getD_eq_getElem?_getD,List.getElem?_eq_getElem hn]
    have ih:=bound_l0 vars cons gk gv gc d (n+1) (acc++ [bV1 vars[n]]) (by omega) (by simp;omega)
    have hd:(vars.take 10).drop n=vars[n]::(vars.take 10).drop (n+1):=by
      rw[List.drop_eq_getElem_cons (by rw[List.length_take];omega),List.getElem_take]
    rw[hd,List.map_cons];rw[List.append_assoc,List.singleton_append]at ih;have m1:=Zhf vars[n].f0.size 20 20 rfl;have m2:=Zhf vars[n].f1.length 12 12 rfl;refine Ev.step (fun k=>by rw[Zab.l0,if_pos (by omega),if_pos (by omega),hrd]) ?_;rw[Zhg vars[n].f1 12 12 rfl];refine Ev.Zaj (by omega) (Ev.Zaj (by omega) (Ev.Zaj (by omega) ?_));refine Ev.bind (a:=([]:List S82)) (Ev.const rfl) (Ev.Zaj (by omega) (Ev.Zaj (by omega) (Ev.bind (a:=vars[n].f1.take 12) (Ev.const rfl) (Ev.Zaj (by simp[List.length_take];omega) (Ev.Zaj (by omega) ?_)))));rw[hw,m1,Int.toNat_natCast,List.nil_append];exact ih
theorem bound_ev (vars:List S55) (cons:List S36) (gk:Int) (gv gc:List Int):Ev (fun k=>Zab.f k vars cons gk gv gc) (bV vars,bC cons,gk,gv.take 14,gc.take 14):=bound_l0 vars cons gk gv gc (min 10 vars.length) 0 [] (by omega) (by simp)
end Go.Proofs.YtdpieallpbllkaaGreat.P
/- What comes in, within its bounds: what Bound makes of it is small. -/
namespace Go.Proofs.YtdpieallpbllkaaGreat.P
open Go.RowKit Go.Proofs.YtdpieallpbllkaaGreatW.PrintWords Go.Proofs.YtdpieallpbllkaaGreatW.PrintLast Go.Proofs.YtdpieallpbllkaaGreatW.PrintMore
def VarOk (v:S55):Prop:=ByteArray.size v.f0≤maxLen∧(List.length v.f1*16≤140737488351232∧∀y2_ ∈ v.f1,((Lit.int .i64 (y2_).f0).wf=true∧(Lit.int .i64 (y2_).f1).wf=true))
def ConOk (c:S36):Prop:=(Lit.int .i64 c.f0).wf=true∧(List.length c.f1*8≤140737488351232∧∀y2_ ∈ c.f1,(Lit.int .i64 y2_).wf=true)∧(List.length c.f2*8≤140737488351232∧∀y2_ ∈ c.f2,(Lit.int .i64 y2_).wf=true)∧(Lit.int .i64 c.f3).wf=true∧(Lit.int .i64 c.f4).wf=true∧(List.length c.f5*24≤140737488351232∧∀y2_ ∈ c.f5,(List.length y2_*8≤140737488351232∧∀y3_ ∈ y2_,(Lit.int .i64 y3_).wf=true))∧(Lit.int .i64 c.f6).wf=true
theorem bV_mem {vars:List S55} {v:S55} (h:v ∈ bV vars):∃x ∈ vars,v=bV1 x:=by
  obtain⟨x,hx,e⟩:=List.mem_map.1 h;exact⟨x,List.mem_of_mem_take hx,e.symm⟩
theorem bC_mem {cons:List S36} {c:S36} (h:c ∈ bC cons):∃x ∈ cons,c=bC1 x:=by
  obtain⟨x,hx,e⟩:=List.mem_map.1 h;exact⟨x,List.mem_of_mem_take hx,e.symm⟩
theorem bV_length (vars:List S55):(bV vars).length≤10:=by
  unfold bV;rw[List.length_map,List.length_take]
  omega
theorem bC_length (cons:List S36):(bC cons).length≤16:=by
  unfold bC;rw[List.length_map,List.length_take]
  omega
theorem bV_dom {vars:List S55} :∀v ∈ bV vars,v.f1.length≤12:=by
  intro v h;obtain⟨x,_,rfl⟩:=bV_mem h
  show(x.f1.take 12).length≤12
  rw[List.length_take]
  omega
theorem bC_small {cons:List S36} :∀c ∈ bC cons,c.f1.length≤14∧c.f2.length≤14∧c.f5.length≤20∧∀r ∈ c.f5,r.length≤14:=by
  intro c h;obtain⟨x,_,rfl⟩:=bC_mem h;exact⟨by show(x.f1.take 14).length≤14;rw[List.length_take];omega,by show(x.f2.take 14).length≤14;rw[List.length_take];omega,cutR_len x.f5,cutR_row x.f5⟩
theorem okC_bC {cons:List S36} (h:∀c ∈ cons,ConOk c):∀c ∈ bC cons,okC c:=by
  intro c hc;obtain⟨s1,s2,_,_⟩:=bC_small c hc;obtain⟨x,hx,rfl⟩:=bC_mem hc;obtain⟨_,_,⟨_,h2⟩,_,h4,_,_⟩:=h x hx;exact⟨by omega,by omega,fun y hy=>(wf64 (h2 y (List.mem_of_mem_take hy))).1,(wf64 h4).1⟩
theorem bV_dom6 {vars:List S55} :∀v ∈ bV vars,v.f1.length≤1000000:=fun v h=>by have:=bV_dom v h;omega
theorem take14 (l:List Int):(l.take 14).length≤1000000:=by rw[List.length_take];omega
theorem take14w {l:List Int} (h:∀y ∈ l,(Lit.int .i64 y).wf=true):∀c ∈ l.take 14,-9223372036854775808≤c:=fun y hy=>(wf64 (h y (List.mem_of_mem_take hy))).1
end Go.Proofs.YtdpieallpbllkaaGreat.P
namespace Go.Proofs.YtdpieallpbllkaaGreat.P
open Go.RowKit Go.Proofs.YtdpieallpbllkaaGreatW.PrintWords Go.Proofs.YtdpieallpbllkaaGreatW.PrintLast Go.Proofs.YtdpieallpbllkaaGreatW.PrintMore
attribute [local go_sem] Zcv Zcx Zdj Zdk Zcm Zcn Zcw Zcy
def Zdo.f (k:Nat) (aQ:Int) (aa:List Int) (au:List Int) (aV:Int) (bg:Int) (aH:List (List Int)) (bq:Int):Option (List Int):=(some (([]:List Int):List Int)).bind fun qB=>(if qB.length+aa.length<17592186044416 then((some (qB++aa:List Int)).bind fun lg=>(if aQ=4 then(if lg.length<17592186044416 then((Zai.f k (lg++ [bq])).bind fun si=>(some si))else(none))else((Zai.f k lg).bind fun wu=>(some wu))))else(none))
set_option maxRecDepth 100000 in
theorem Zdo.calls (k : Nat) (aQ : Int) (aM : Option Addr) (aJ : Nat) (aa : List Int) (bW : Option Addr) (bX : Nat) (au : List Int) (aV : Int) (bg : Int) (dB : Option Addr) (dA : Nat) (aH : List (List Int)) (bq : Int) (r : List Int) (w : World) (dL : Kd.C (Kd.int .i64) w aM aa.length aa) (dK : aa.length ≤ aJ) (gP : Kd.C (Kd.int .i64) w bW au.length au) (gN : au.length ≤ bX) (iK : Kd.C (Kd.slice 3 (Kd.int .i64)) w dB aH.length aH) (iJ : aH.length ≤ dA) (h : Zdo.f k aQ aa au aV bg aH bq = some r) :
  Calls Tryz.prog 74 #[.agg #[.int .i64 aQ,.slice aM aa.length aJ,.slice bW au.length bX,.int .i64 aV,.int .i64 bg,.slice dB aH.length dA,.int .i64 bq]] w fun e w'=>∃v0_:Value,e= .returned (v0_)∧Kd.R (Kd.int .i64) 3 w' w.heap.size (fun _=>True) v0_ r∧Below w.heap.size w w':=by
 have hu36:=Tryz.underlying36;have dW:=Za.mk dL;have eO:=Za.mk dK;clear dL dK;have jk:=Za.mk gP;have j6:=Za.mk gN;clear gP gN;have jl:=Za.mk iK;have oJ:=Za.mk iJ;clear iK iJ;have HB:=Za.mk (Below.refl w.heap.size w);have H:((some (([]:List Int):List Int)).bind fun qB=>(if qB.length+aa.length<17592186044416 then((some (qB++aa:List Int)).bind fun lg=>(if aQ=4 then(if lg.length<17592186044416 then((Zai.f k (lg++ [bq])).bind fun si=>(some si))else(none))else((Zai.f k lg).bind fun wu=>(some wu))))else(none)))=some r:=h;clear h;obtain⟨qB,C9⟩:∃y_:List Int,y_=(([]:List Int)):=⟨_,rfl⟩;replace H:(if qB.length+aa.length<17592186044416 then((some (qB++aa:List Int)).bind fun lg=>(if aQ=4 then(if lg.length<17592186044416 then((Zai.f k (lg++ [bq])).bind fun si=>(some si))else(none))else((Zai.f k lg).bind fun wu=>(some wu))))else(none))=some r:=by first|(rw[C9];with_reducible exact H)|(have H2_:=(Option.bind_some _ _).symm.trans H;rw[C9];with_reducible exact H2_)|(have H2_:=(Option.bind_some _ _).symm.trans H;with_reducible exact H2_)|with_reducible exact H|(rw[C9];exact H)|exact H
 have Fz:=Za.mk C9;clear C9;by_cases c2:qB.length+aa.length<17592186044416
 case neg=>
  rw[if_neg c2]at H;exact absurd H (by simp)
 rw[if_pos c2]at H;have K7:=Za.mk c2;clear c2;obtain⟨lg,CE⟩:∃y_:List Int,y_=(qB++aa):=⟨_,rfl⟩;replace H:(if aQ=4 then(if lg.length<17592186044416 then((Zai.f k (lg++ [bq])).bind fun si=>(some si))else(none))else((Zai.f k lg).bind fun wu=>(some wu)))=some r:=by first|(rw[CE];with_reducible exact H)|(have H2_:=(Option.bind_some _ _).symm.trans H;rw[CE];with_reducible exact H2_)|(have H2_:=(Option.bind_some _ _).symm.trans H;with_reducible exact H2_)|with_reducible exact H|(rw[CE];exact H)|exact H
 have Qd:=Za.mk CE;clear CE;by_cases c3:aQ=4
 case neg=>
  rw[if_neg c3]at H;have eD:(aQ==4)=false:=beq_eq_false_iff_ne.mpr c3;have jc:(aQ !=4)=true:=bne_iff_ne.mpr c3;obtain⟨wu,A15,H⟩:=bnd H;try dsimp only at H
  obtain rfl:=sj H;go_enter Tryz.func74,Tryz.ntmps74
  go_wp2_with (first|((with_reducible refine Zao (N:=1) rfl ?_);refine bx 1 #[.int .i64 aQ,.slice aM aa.length aJ,.slice bW au.length bX,.int .i64 aV,.int .i64 bg,.slice dB aH.length dA,.int .i64 bq] 36 ?_;intro Lu hg w16 hbox hb;have j5:=Za.mk (hbox);have VF:=Za.mk ((gE hg HB.out:w.heap.size≤Lu));replace HB:=Za.mk (bS HB.out hb);clear hb hbox hg)|((with_reducible refine Zao (N:=4) rfl ?_);refine Kd.Zdf (Kd.int .i64) _ 3 ?hg (N:=4) ?hd (xs:=([]:List Int)) (inner:= []) (ok:=fun _=>True) (okp:=fun _=>True) ?hr ?hp (fun _ hk=>hk) trivial (Below.refl _ _) (Nat.le_refl _) (by simp) ?_;(case hd=>rfl);(case hg=>rfl);(case hr=>first|(go_simp;done)|(go_simp;rfl));(case hp=>exact(Reps.none _ _));intro Pn w17 oQ hb hg_ hnew_;clear hg_ hnew_;(first|rw[←Fz.out]at oQ|(simp only[Int.reduceToNat]at oQ;rw[←Fz.out]at oQ));have vH:=Za.mk (Kd.Zbk oQ (Zac (bM HB.out)));replace j5:=Za.mk (kB j5.out hb);replace HB:=Za.mk (bS HB.out hb);clear hb oQ;obtain⟨M6,M7,M8,M9,MB,aea,afa,LW,LX,LY,Ma,Mc,Yc,Yd⟩:=cz7 j5.out)|((with_reducible refine Zbl (b:= .append) (xs:=#[.tmp 4,.tmp 6]) rfl ?_);at_builtin;refine Kd.Zc9 (Kd.int .i64) (w0:=w) w.heap.size rfl (.tmp 4) (.tmp 6) 24 3 (.int .i64 0) 8 rfl Tryz.underlying24 info3 rfl (by decide) (by omega) Pn qB aa _ _ _ (fun _=>True) (fun _=>False) rfl rfl ?aO ?aR (fun _ _ h=>h) (fun _ h=>h.elim) ?aF ?aB ?aS ?aL ?_;(case aR=>repeat(first|exact(Kd.Zae dW.out HB.out)|(with_reducible refine Kd.C_alloc ?_ _)|(with_reducible refine Kd.Zb7 ?_ _)|(with_reducible refine Kd.Zci ?_)));(case aB=>exact(bM HB.out));(case aF=>exact(fun _ _=>trivial));(case aO=>exact(rM vH.out));(case aS=>exact(Zac (bM HB.out)));(case aL=>have:=K7.out;omega);intro Vh w20 ho hb hg hat;rw[←Qd.out]at ho;replace j5:=Za.mk (kG j5.out hg (Kd.R_ne vH.out j5.out (by decide)));replace HB:=Za.mk (hb);have sH:=Za.mk (ho);clear vH;clear ho hb hg hat;obtain⟨Er,Es,MF,MG,MH,RF,RG,Ec,Ed,Mf,Mg,Mh,Rf,Rh⟩:=cz7 j5.out;obtain⟨nS,nU,vU⟩:=Kd.Zbe sH.out;subst vU)|((with_reducible refine Zak (f:=43) rfl ?_);refine gl 17 Tryz.func43 #[.slice nS lg.length nU] ?_;(with_reducible refine(Zai.calls k _ _ lg wu _ (cM ((Kd.Zaq sH.out).2.2)) ((Kd.Zaq sH.out).2.1) A15.out).mono ?_);rintro e w23 ⟨nVa,rfl,ho0,hb⟩;refine⟨_,rfl,?_⟩;have VU:=Za.mk (Kd.Zbk (Kd.Ze9 ho0 (Kd.R_lt (rM sH.out))) (Zac (bM HB.out)));replace HB:=Za.mk (bS HB.out hb);clear sH j5;(try clear hb);(try clear hb2);(try clear hk);(try clear hi);(try clear ho0)))
  go_ret;exact⟨_,eR,rM (Kd.Za5 VU.out (fun _ hk=>trivial)),bM HB.out⟩
 rw[if_pos c3]at H;have eD:(aQ==4)=true:=beq_iff_eq.mpr c3;have jc:(aQ !=4)=false:=bne_eq_false_iff_eq.mpr c3;clear c3;obtain⟨c4,H⟩:=ifP H;have baa:=Za.mk c4;clear c4;obtain⟨Pw,CF⟩:∃y_:List Int,y_=(lg++ [bq]):=⟨_,rfl⟩;replace H:((Zai.f k Pw).bind fun si=>(some si))=some r:=by first|(rw[CF];with_reducible exact H)|(have H2_:=(Option.bind_some _ _).symm.trans H;rw[CF];with_reducible exact H2_)|(have H2_:=(Option.bind_some _ _).symm.trans H;with_reducible exact H2_)|with_reducible exact H|(rw[CF];exact H)|exact H
 have WO:=Za.mk CF;clear CF;obtain⟨si,A5,H⟩:=bnd H;try dsimp only at H
 obtain rfl:=sj H;go_enter Tryz.func74,Tryz.ntmps74
 go_wp2_with (first|((with_reducible refine Zao (N:=1) rfl ?_);refine bx 1 #[.int .i64 aQ,.slice aM aa.length aJ,.slice bW au.length bX,.int .i64 aV,.int .i64 bg,.slice dB aH.length dA,.int .i64 bq] 36 ?_;intro Lu hg w6 hbox hb;have j5:=Za.mk (hbox);have VF:=Za.mk ((gE hg HB.out:w.heap.size≤Lu));replace HB:=Za.mk (bS HB.out hb);clear hb hbox hg)|((with_reducible refine Zao (N:=4) rfl ?_);refine Kd.Zdf (Kd.int .i64) _ 3 ?hg (N:=4) ?hd (xs:=([]:List Int)) (inner:= []) (ok:=fun _=>True) (okp:=fun _=>True) ?hr ?hp (fun _ hk=>hk) trivial (Below.refl _ _) (Nat.le_refl _) (by simp) ?_;(case hd=>rfl);(case hg=>rfl);(case hr=>first|(go_simp;done)|(go_simp;rfl));(case hp=>exact(Reps.none _ _));intro Pn w7 ho8 hb hg_ hnew_;clear hg_ hnew_;(first|rw[←Fz.out]at ho8|(simp only[Int.reduceToNat]at ho8;rw[←Fz.out]at ho8));have vH:=Za.mk (Kd.Zbk ho8 (Zac (bM HB.out)));replace j5:=Za.mk (kB j5.out hb);replace HB:=Za.mk (bS HB.out hb);clear hb ho8;obtain⟨AO,AP,AQ,IG,II,IJ,IK,Ay,Az,AA,I7,I8,I9,IA⟩:=cz7 j5.out)|((with_reducible refine Zbl (b:= .append) (xs:=#[.tmp 4,.tmp 6]) rfl ?_);at_builtin;refine Kd.Zc9 (Kd.int .i64) (w0:=w) w.heap.size rfl (.tmp 4) (.tmp 6) 24 3 (.int .i64 0) 8 rfl Tryz.underlying24 info3 rfl (by decide) (by omega) Pn qB aa _ _ _ (fun _=>True) (fun _=>False) rfl rfl ?aO ?aR (fun _ _ h=>h) (fun _ h=>h.elim) ?aF ?aB ?aS ?aL ?_;(case aR=>repeat(first|exact(Kd.Zae dW.out HB.out)|(with_reducible refine Kd.C_alloc ?_ _)|(with_reducible refine Kd.Zb7 ?_ _)|(with_reducible refine Kd.Zci ?_)));(case aB=>exact(bM HB.out));(case aF=>exact(fun _ _=>trivial));(case aO=>exact(rM vH.out));(case aS=>exact(Zac (bM HB.out)));(case aL=>have:=K7.out;omega);intro Vh w10 ho hb hg hat;rw[←Qd.out]at ho;replace j5:=Za.mk (kG j5.out hg (Kd.R_ne vH.out j5.out (by decide)));replace HB:=Za.mk (hb);have sH:=Za.mk (ho);clear vH;clear ho hb hg hat;obtain⟨Ee,Ef,Ga,Mt,Mw,YS,YT,DL,DN,FJ,LH,LJ,XQ,XR⟩:=cz7 j5.out)|((with_reducible refine Zbl (b:= .append) (xs:=#[.tmp 11,.tmp 14]) rfl ?_);at_builtin;refine Kd.Zc8 (Kd.int .i64) (w0:=w) w.heap.size rfl (.tmp 11) (.tmp 14) 24 3 (.int .i64 0) 8 rfl Tryz.underlying24 info3 rfl (by decide) (by omega) Vh lg bq [.int .i64 bq] (fun _=>True) (fun _=>False) rfl rfl ?aP (fun _ hk=>hk.elim) ?aF ?aO ?aB ?aS ?aL ?_;(case aP=>exact rfl);(case aB=>exact(bM HB.out));(case aF=>exact(fun _ _=>trivial));(case aO=>exact(rM sH.out));(case aS=>exact(Zac (bM HB.out)));(case aL=>have:=baa.out;omega);intro nTa w12 ho hb hg hat;rw[←WO.out]at ho;replace HB:=Za.mk (hb);have AY:=Za.mk (ho);clear j5 sH;clear ho hb hg hat;obtain⟨gF,gH,NK⟩:=Kd.Zbe AY.out;subst NK)|((with_reducible refine Zak (f:=43) rfl ?_);refine gl 17 Tryz.func43 #[.slice gF Pw.length gH] ?_;(with_reducible refine(Zai.calls k _ _ Pw si _ (cM ((Kd.Zaq AY.out).2.2)) ((Kd.Zaq AY.out).2.1) A5.out).mono ?_);rintro e w14 ⟨nUa,rfl,ho0,hb⟩;refine⟨_,rfl,?_⟩;have VT:=Za.mk (Kd.Zbk (Kd.Ze9 ho0 (Kd.R_lt (rM AY.out))) (Zac (bM HB.out)));replace HB:=Za.mk (bS HB.out hb);clear AY;(try clear hb);(try clear hb2);(try clear hk);(try clear hi);(try clear ho0)))
 go_ret;exact⟨_,eR,rM (Kd.Za5 VT.out (fun _ hk=>trivial)),bM HB.out⟩
mutual
def Za0.l0 : Nat → List Int → Int → Option (Bool)
 | 0, _, _ => none
 |k+1,x0,x3=>if x3<(x0.length:Int)then(Za0.l1 k x0 x3 0)else(some true)
def Za0.l1 : Nat → List Int → Int → Int → Option (Bool)
 | 0, _, _, _ => none
 |k+1,x0,x3,x4=>if x4<x3 then(if 0≤x3 then(if x3<(x0.length:Int)then(if 0≤x4 then(if x4<(x0.length:Int)then(if(rd x0 x3)=(rd x0 x4)then(some false)else(Za0.l1 k x0 x3 (wrap64 (x4+1))))else(none))else(none))else(none))else(none))else(Za0.l0 k x0 (wrap64 (x3+1)))
end
def Za0.f (k:Nat) (l0:List Int):Option (Bool):=Za0.l0 k l0 0
set_option maxRecDepth 100000 in
theorem Za0.calls (k : Nat) (A0 : Option Addr) (c0 : Nat) (l0 : List Int) (r : Bool) (w : World) (hr0 : Kd.C (Kd.int .i64) w A0 l0.length l0) (hc0 : l0.length ≤ c0) (h : Za0.f k l0 = some r) :
  Calls Tryz.prog 102 #[.slice A0 l0.length c0] w fun e w'=>e= .returned (.bool r)∧Zav w w':=by
 have HR0:=Za.mk hr0;have HC0:=Za.mk hc0;clear hr0 hc0;have H:(Za0.l0 k l0 0)=some r:=h;clear h;have H':=Za.mk H;clear H;go_enter Tryz.func102,Tryz.ntmps102;go_wp2
 repeat(go_quiet (fail);try go_wp2)
 go_loopg [3] k (fun kq v3 w'=>∃(af:Int),v3= .int .i64 af∧Za (Za0.l0 kq l0 af=some r)∧Za (kq≤k)∧Zav w w')
 case atStart=>exact⟨(0),eS,H',⟨Nat.le_refl _⟩,by repeat(first|exact Zav.refl _|apply Zav.step)⟩
 case round=>
  clear H';try clear c1
  obtain⟨af,rfl,HA,HK1,⟨m1,rfl⟩⟩:=hrel
  cases gk with
  | zero => exact absurd HA.out (by simp [Za0.l0])
  |succ k1=>
   have H:=HA.out;clear HA;simp only[Za0.l0]at H;by_cases c2:af<(l0.length:Int)
   case neg=>
    rw[if_neg c2]at H;have jq:decide (af<(l0.length:Int))=false:=decide_eq_false c2;clear c2;obtain rfl:=sj H;go_wp2
    repeat(go_quiet (fail);try go_wp2)
    go_ret;exact⟨eS,by repeat(first|exact Zav.refl _|apply Zav.step)⟩
   rw[if_pos c2]at H;have jq:decide (af<(l0.length:Int))=true:=decide_eq_true c2;clear c2;have H':=Za.mk H;clear H;go_wp2
   repeat(go_quiet (fail);try go_wp2)
   go_loopg [4] k1 (fun kq v4 w'=>∃(fE:Int),v4= .int .i64 fE∧Za (Za0.l1 kq l0 af fE=some r)∧Za (kq≤k1)∧Zav w w')
   case atStart=>exact⟨(0),eS,H',⟨Nat.le_refl _⟩,by repeat(first|exact Zav.refl _|apply Zav.step)⟩
   case round=>
    clear H';try clear c1
    try clear c2
    try clear jq
    try clear p2
    obtain⟨fE,rfl,HA,HK2,⟨m2,rfl⟩⟩:=hrel
    cases gk with
    | zero => exact absurd HA.out (by simp [Za0.l1])
    |succ k2=>
     have H:=HA.out;clear HA;simp only[Za0.l1]at H;by_cases c3:fE<af
     case neg=>
      rw[if_neg c3]at H;have eD:decide (fE<af)=false:=decide_eq_false c3;clear c3;have H':=Za.mk H;clear H;go_wp2
      repeat(go_quiet (fail);try go_wp2)
      go_roundg k2
      case measure=>have:=HK1.out;have:=HK2.out;omega
      case rel=>exact⟨(wrap64 (af+1)),eS,H',⟨by have:=HK1.out;have:=HK2.out;omega⟩,by repeat(first|exact Zav.refl _|apply Zav.step)⟩
     rw[if_pos c3]at H;have eD:decide (fE<af)=true:=decide_eq_true c3;clear c3;obtain⟨dn,H⟩:=ifT H;obtain⟨bY,H⟩:=ifT H;obtain⟨iQ,H⟩:=ifT H;obtain⟨l9,H⟩:=ifT H;by_cases c8:(rd l0 af)=(rd l0 fE)
     case pos=>
      rw[if_pos c8]at H;have mq:((rd l0 af)==(rd l0 fE))=true:=beq_iff_eq.mpr c8;have Gy:((rd l0 af) !=(rd l0 fE))=false:=bne_eq_false_iff_eq.mpr c8;clear c8;obtain rfl:=sj H;have zo:0≤(af:Int):=odt;have zJ:af<(l0.length:Int):=odt;obtain⟨KJ,rfl,Ta⟩:=Kd.Zbz HR0.out af zo zJ;replace zo:=eq_true zo;replace zJ:=eq_true zJ;have zq:0≤(fE:Int):=odt;have zK:fE<(l0.length:Int):=odt;obtain⟨KL,e258,Tc⟩:=Kd.Zbz HR0.out fE zq zK;obtain rfl:KJ=KL:=(by injection e258);replace zq:=eq_true zq;replace zK:=eq_true zK;go_wp2
      repeat(go_quiet (fail);try go_wp2)
      go_ret;exact⟨eS,by repeat(first|exact Zav.refl _|apply Zav.step)⟩
     rw[if_neg c8]at H;have mq:((rd l0 af)==(rd l0 fE))=false:=beq_eq_false_iff_ne.mpr c8;have Gy:((rd l0 af) !=(rd l0 fE))=true:=bne_iff_ne.mpr c8;have H':=Za.mk H;clear H;have zo:0≤(af:Int):=odt;have zJ:af<(l0.length:Int):=odt;obtain⟨KJ,rfl,Ta⟩:=Kd.Zbz HR0.out af zo zJ;replace zo:=eq_true zo;replace zJ:=eq_true zJ;have zq:0≤(fE:Int):=odt;have zK:fE<(l0.length:Int):=odt;obtain⟨KL,e258,Tc⟩:=Kd.Zbz HR0.out fE zq zK;obtain rfl:KJ=KL:=(by injection e258);replace zq:=eq_true zq;replace zK:=eq_true zK;go_wp2
     repeat(go_quiet (fail);try go_wp2)
     go_roundg k2
     case measure=>have:=HK1.out;have:=HK2.out;omega
     case rel=>exact⟨(wrap64 (fE+1)),eS,H',⟨by have:=HK1.out;have:=HK2.out;omega⟩,by repeat(first|exact Zav.refl _|apply Zav.step)⟩
def Zb2.f (k:Nat) (aQ:Int) (aa:List Int) (au:List Int) (aV:Int) (bg:Int) (aH:List (List Int)) (bq:Int):Option (Bool):=(Za0.f k aa).bind fun Hw=>(if Hw=true then(if(aa.length:Int)>0 then(if(aa.length:Int)=(au.length:Int)then((Zbj.f k au 0).bind fun Hy=>(some (!Hy)))else(some false))else(some false))else(some false))
set_option maxRecDepth 100000 in
theorem Zb2.calls (k : Nat) (aQ : Int) (aM : Option Addr) (aJ : Nat) (aa : List Int) (bW : Option Addr) (bX : Nat) (au : List Int) (aV : Int) (bg : Int) (dB : Option Addr) (dA : Nat) (aH : List (List Int)) (bq : Int) (r : Bool) (w : World) (dL : Kd.C (Kd.int .i64) w aM aa.length aa) (dK : aa.length ≤ aJ) (gP : Kd.C (Kd.int .i64) w bW au.length au) (gN : au.length ≤ bX) (iK : Kd.C (Kd.slice 3 (Kd.int .i64)) w dB aH.length aH) (iJ : aH.length ≤ dA) (h : Zb2.f k aQ aa au aV bg aH bq = some r) :
  Calls Tryz.prog 103 #[.agg #[.int .i64 aQ,.slice aM aa.length aJ,.slice bW au.length bX,.int .i64 aV,.int .i64 bg,.slice dB aH.length dA,.int .i64 bq]] w fun e w'=>e= .returned (.bool r)∧Below w.heap.size w w':=by
 have hu36:=Tryz.underlying36;have dW:=Za.mk dL;have eO:=Za.mk dK;clear dL dK;have jk:=Za.mk gP;have j6:=Za.mk gN;clear gP gN;have jl:=Za.mk iK;have oJ:=Za.mk iJ;clear iK iJ;have HB:=Za.mk (Below.refl w.heap.size w);have H:((Za0.f k aa).bind fun Hw=>(if Hw=true then(if(aa.length:Int)>0 then(if(aa.length:Int)=(au.length:Int)then((Zbj.f k au 0).bind fun Hy=>(some (!Hy)))else(some false))else(some false))else(some false)))=some r:=h;clear h;obtain⟨Hw,A2,H⟩:=bnd H;try dsimp only at H
 by_cases c3:Hw=true
 case neg=>
  replace c3:=Bool.eq_false_iff.mpr c3;subst c3;replace H:=ifF H;obtain rfl:=sj H;go_enter Tryz.func103,Tryz.ntmps103
  go_wp2_with (first|((with_reducible refine Zao (N:=1) rfl ?_);(try(refine Zb0 (by rfl) ?_;dsimp only));refine bx 1 #[.int .i64 aQ,.slice aM aa.length aJ,.slice bW au.length bX,.int .i64 aV,.int .i64 bg,.slice dB aH.length dA,.int .i64 bq] 36 ?_;intro vV hg w13 hbox hb;have vF:=Za.mk (hbox);have JR:=Za.mk ((gE hg HB.out:w.heap.size≤vV));replace HB:=Za.mk (bS HB.out hb);clear hb hbox hg;obtain⟨wY,xc,Eg,Gb,Gc,Mx,M0,wD,wE,DR,FL,FM,LM,LP⟩:=cz7 vF.out)|((with_reducible refine Zak (f:=102) rfl ?_);refine gl 5 Tryz.func102 #[.slice aM aa.length aJ] ?_;(with_reducible refine(Za0.calls k _ _ aa false _ (cM (Kd.Zae dW.out HB.out)) eO.out A2.out).mono ?_);rintro e w' ⟨rfl,⟨nd,rfl⟩⟩;refine⟨_,rfl,?_⟩))
  go_ret;exact⟨eR,bM HB.out⟩
 subst c3;rw[if_pos rfl]at H;by_cases c4:(aa.length:Int)>0
 case neg=>
  rw[if_neg c4]at H;have dn:decide (0<(aa.length:Int))=false:=decide_eq_false c4;have rA:decide (0<aa.length)=false:=decide_eq_false (by omega);clear c4;obtain rfl:=sj H;go_enter Tryz.func103,Tryz.ntmps103
  go_wp2_with (first|((with_reducible refine Zao (N:=1) rfl ?_);(try(refine Zb0 (by rfl) ?_;dsimp only));refine bx 1 #[.int .i64 aQ,.slice aM aa.length aJ,.slice bW au.length bX,.int .i64 aV,.int .i64 bg,.slice dB aH.length dA,.int .i64 bq] 36 ?_;intro vV hg w11 hbox hb;have vF:=Za.mk (hbox);have JR:=Za.mk ((gE hg HB.out:w.heap.size≤vV));replace HB:=Za.mk (bS HB.out hb);clear hb hbox hg;obtain⟨nN,nO,nP,nQ,nR,tJ,tK,nD,nE,nG,nH,nI,tu,tC⟩:=cz7 vF.out)|((with_reducible refine Zak (f:=102) rfl ?_);refine gl 5 Tryz.func102 #[.slice aM aa.length aJ] ?_;(with_reducible refine(Za0.calls k _ _ aa true _ (cM (Kd.Zae dW.out HB.out)) eO.out A2.out).mono ?_);rintro e w' ⟨rfl,⟨nd,rfl⟩⟩;refine⟨_,rfl,?_⟩))
  go_ret;exact⟨eR,bM HB.out⟩
 rw[if_pos c4]at H;have dn:decide (0<(aa.length:Int))=true:=decide_eq_true c4;have rA:decide (0<aa.length)=true:=decide_eq_true (by omega);clear c4;by_cases c5:(aa.length:Int)=(au.length:Int)
 case neg=>
  rw[if_neg c5]at H;have bY:((aa.length:Int)==(au.length:Int))=false:=beq_eq_false_iff_ne.mpr c5;have kT:((aa.length:Int) !=(au.length:Int))=true:=bne_iff_ne.mpr c5;have Lj:(aa.length==au.length)=false:=by first|simpa using c5|(simp at c5 ⊢;omega)
  obtain rfl:=sj H;go_enter Tryz.func103,Tryz.ntmps103
  go_wp2_with (first|((with_reducible refine Zao (N:=1) rfl ?_);(try(refine Zb0 (by rfl) ?_;dsimp only));refine bx 1 #[.int .i64 aQ,.slice aM aa.length aJ,.slice bW au.length bX,.int .i64 aV,.int .i64 bg,.slice dB aH.length dA,.int .i64 bq] 36 ?_;intro vV hg w9 hbox hb;have vF:=Za.mk (hbox);have JR:=Za.mk ((gE hg HB.out:w.heap.size≤vV));replace HB:=Za.mk (bS HB.out hb);clear hb hbox hg;obtain⟨nJ,nK,nL,pE,pF,yU,yV,nz,nA,nC,pq,pz,yL,yM⟩:=cz7 vF.out)|((with_reducible refine Zak (f:=102) rfl ?_);refine gl 5 Tryz.func102 #[.slice aM aa.length aJ] ?_;(with_reducible refine(Za0.calls k _ _ aa true _ (cM (Kd.Zae dW.out HB.out)) eO.out A2.out).mono ?_);rintro e w' ⟨rfl,⟨nd,rfl⟩⟩;refine⟨_,rfl,?_⟩))
  go_ret;exact⟨eR,bM HB.out⟩
 rw[if_pos c5]at H;have bY:((aa.length:Int)==(au.length:Int))=true:=beq_iff_eq.mpr c5;have kT:((aa.length:Int) !=(au.length:Int))=false:=bne_eq_false_iff_eq.mpr c5;have Lj:(aa.length==au.length)=true:=by first|simpa using c5|(simp at c5 ⊢;omega)
 clear c5;obtain⟨Hy,A6,H⟩:=bnd H;try dsimp only at H
 obtain rfl:=sj H;go_enter Tryz.func103,Tryz.ntmps103
 go_wp2_with (first|((with_reducible refine Zao (N:=1) rfl ?_);(try(refine Zb0 (by rfl) ?_;dsimp only));refine bx 1 #[.int .i64 aQ,.slice aM aa.length aJ,.slice bW au.length bX,.int .i64 aV,.int .i64 bg,.slice dB aH.length dA,.int .i64 bq] 36 ?_;intro vV hg w7 hbox hb;have vF:=Za.mk (hbox);have JR:=Za.mk ((gE hg HB.out:w.heap.size≤vV));replace HB:=Za.mk (bS HB.out hb);clear hb hbox hg;obtain⟨xx,xy,xz,xA,xB,yf,yg,wS,wT,wU,wV,wW,xY,yc⟩:=cz7 vF.out)|((with_reducible refine Zak (f:=102) rfl ?_);refine gl 5 Tryz.func102 #[.slice aM aa.length aJ] ?_;(with_reducible refine(Za0.calls k _ _ aa true _ (cM (Kd.Zae dW.out HB.out)) eO.out A2.out).mono ?_);rintro e w' ⟨rfl,⟨nd,rfl⟩⟩;refine⟨_,rfl,?_⟩)|(go_at_call 49;(with_reducible refine(Zbj.calls k _ _ au 0 Hy _ (cM (Kd.Zae jk.out (bM HB.out))) j6.out A6.out).mono ?_);rintro e w' ⟨rfl,⟨nd,rfl⟩⟩))
 go_ret;exact⟨eR,bM HB.out⟩
mutual
def Zbf.l0 : Nat → Int → Int → List Int → List Int → Int → Int → List (List Int) → Int → Option (Bool)
 | 0, _, _, _, _, _, _, _, _ => none
 |k+1,x3,yF,vv,yG,yH,yI,l7,yJ=>if x3<(l7.length:Int)then(if 0≤x3 then(if((Zck l7 x3).length:Int)=(vv.length:Int)then(Zbf.l1 k x3 0 yF vv yG yH yI l7 yJ)else(some false))else(none))else(some (decide ((l7.length:Int)≤1024)))
def Zbf.l1 : Nat → Int → Int → Int → List Int → List Int → Int → Int → List (List Int) → Int → Option (Bool)
 | 0, _, _, _, _, _, _, _, _, _ => none
 |k+1,x3,x4,yF,vv,yG,yH,yI,l7,yJ=>if 0≤x3 then(if x3<(l7.length:Int)then(if x4<((Zck l7 x3).length:Int)then(if 0≤x4 then((Zbd.f (rd (Zck l7 x3) x4)).bind fun O5=>(if O5=true then(Zbf.l1 k x3 (wrap64 (x4+1)) yF vv yG yH yI l7 yJ)else(some false)))else(none))else(Zbf.l0 k (wrap64 (x3+1)) yF vv yG yH yI l7 yJ))else(none))else(none)
end
def Zbf.f (k:Nat) (aQ:Int) (aa:List Int) (au:List Int) (aV:Int) (bg:Int) (aH:List (List Int)) (bq:Int):Option (Bool):=Zbf.l0 k 0 aQ aa au aV bg aH bq
set_option maxRecDepth 100000 in
theorem Zbf.calls (k : Nat) (aQ : Int) (aM : Option Addr) (aJ : Nat) (aa : List Int) (bW : Option Addr) (bX : Nat) (au : List Int) (aV : Int) (bg : Int) (dB : Option Addr) (dA : Nat) (aH : List (List Int)) (bq : Int) (r : Bool) (w : World) (dL : Kd.C (Kd.int .i64) w aM aa.length aa) (dK : aa.length ≤ aJ) (gP : Kd.C (Kd.int .i64) w bW au.length au) (gN : au.length ≤ bX) (iK : Kd.C (Kd.slice 3 (Kd.int .i64)) w dB aH.length aH) (iJ : aH.length ≤ dA) (h : Zbf.f k aQ aa au aV bg aH bq = some r) :
  Calls Tryz.prog 104 #[.agg #[.int .i64 aQ,.slice aM aa.length aJ,.slice bW au.length bX,.int .i64 aV,.int .i64 bg,.slice dB aH.length dA,.int .i64 bq]] w fun e w'=>e= .returned (.bool r)∧Below w.heap.size w w':=by
 have hu36:=Tryz.underlying36;have dW:=Za.mk dL;have eO:=Za.mk dK;clear dL dK;have jk:=Za.mk gP;have j6:=Za.mk gN;clear gP gN;have jl:=Za.mk iK;have oJ:=Za.mk iJ;clear iK iJ;have HB:=Za.mk (Below.refl w.heap.size w);have H:(Zbf.l0 k 0 aQ aa au aV bg aH bq)=some r:=h;clear h;have H':=Za.mk H;clear H;go_enter Tryz.func104,Tryz.ntmps104
 go_wp2_with (first|((with_reducible refine Zao (N:=1) rfl ?_);refine bx 1 #[.int .i64 aQ,.slice aM aa.length aJ,.slice bW au.length bX,.int .i64 aV,.int .i64 bg,.slice dB aH.length dA,.int .i64 bq] 36 ?_;intro vW hg w2 hbox hb;have lK:=Za.mk (hbox);have P8:=Za.mk ((gE hg HB.out:w.heap.size≤vW));replace HB:=Za.mk (bS HB.out hb);clear hb hbox hg))
 repeat(go_quiet (first|((with_reducible refine Zao (N:=1) rfl ?_);refine bx 1 #[.int .i64 aQ,.slice aM aa.length aJ,.slice bW au.length bX,.int .i64 aV,.int .i64 bg,.slice dB aH.length dA,.int .i64 bq] 36 ?_;intro vW hg w2 hbox hb;have lK:=Za.mk (hbox);have P8:=Za.mk ((gE hg HB.out:w.heap.size≤vW));replace HB:=Za.mk (bS HB.out hb);clear hb hbox hg));try go_wp2_with (first|((with_reducible refine Zao (N:=1) rfl ?_);refine bx 1 #[.int .i64 aQ,.slice aM aa.length aJ,.slice bW au.length bX,.int .i64 aV,.int .i64 bg,.slice dB aH.length dA,.int .i64 bq] 36 ?_;intro vW hg w2 hbox hb;have lK:=Za.mk (hbox);have P8:=Za.mk ((gE hg HB.out:w.heap.size≤vW));replace HB:=Za.mk (bS HB.out hb);clear hb hbox hg)))
 go_loopg [3] k (fun kq v3 w'=>∃(af:Int),v3= .int .i64 af∧Za (Zbf.l0 kq af aQ aa au aV bg aH bq=some r)∧Za (kq≤k)∧Za (w'.heap[vW]? =some (.cells #[.int .i64 aQ,(.slice aM aa.length aJ),(.slice bW au.length bX),.int .i64 aV,.int .i64 bg,(.slice dB aH.length dA),.int .i64 bq] 36 (0,0)))∧Za (Below w.heap.size w w'))
 case atStart=>exact⟨(0),eS,H',⟨Nat.le_refl _⟩,⟨kM lK.out⟩,⟨bM HB.out⟩⟩
 case round=>
  clear H';try clear c1
  try clear p2
  obtain⟨af,rfl,HA,HK1,lK,HB⟩:=hrel
  cases gk with
  | zero => exact absurd HA.out (by simp [Zbf.l0])
  |succ k1=>
   have H:=HA.out;clear HA;simp only[Zbf.l0]at H;by_cases c3:af<(aH.length:Int)
   case neg=>
    rw[if_neg c3]at H;have eD:decide (af<(aH.length:Int))=false:=decide_eq_false c3;clear c3;obtain rfl:=sj H;obtain⟨Eo,Ep,M3,R9,RA,RB,RD,Ea,Eb,LQ,Ra,Rb,Rc,Re⟩:=cz7 lK.out;go_wp2
    repeat(go_quiet (fail);try go_wp2)
    go_ret;exact⟨eR,bM HB.out⟩
   rw[if_pos c3]at H;have eD:decide (af<(aH.length:Int))=true:=decide_eq_true c3;clear c3;obtain⟨dn,H⟩:=ifT H;by_cases c5:((Zck aH af).length:Int)=(aa.length:Int)
   case neg=>
    rw[if_neg c5]at H;have bY:(((Zck aH af).length:Int)==(aa.length:Int))=false:=beq_eq_false_iff_ne.mpr c5;have kT:(((Zck aH af).length:Int) !=(aa.length:Int))=true:=bne_iff_ne.mpr c5;have Lj:((Zck aH af).length==aa.length)=false:=by first|simpa using c5|(simp at c5 ⊢;omega)
    obtain rfl:=sj H;obtain⟨za,zb,ze,Ej,El,Em,En,yP,yQ,yR,DV,DW,DX,DY⟩:=cz7 lK.out;have Ux:(0≤(af:Int))=True:=teq;have U4:(af<(aH.length:Int))=True:=teq;obtain⟨vP,T9,TU,rfl,qL,uw,tY⟩:=Zfs jl.out af odt odt;replace qL:=hB HB.out qL;have SI:=Za.mk tY;have Sv:=Za.mk uw;clear tY uw;go_wp2
    repeat(go_quiet (fail);try go_wp2)
    go_ret;exact⟨eR,bM HB.out⟩
   rw[if_pos c5]at H;have bY:(((Zck aH af).length:Int)==(aa.length:Int))=true:=beq_iff_eq.mpr c5;have kT:(((Zck aH af).length:Int) !=(aa.length:Int))=false:=bne_eq_false_iff_eq.mpr c5;have Lj:((Zck aH af).length==aa.length)=true:=by first|simpa using c5|(simp at c5 ⊢;omega)
   clear c5;have H':=Za.mk H;clear H;obtain⟨kJ,kK,ll,ng,ni,EY,Fa,kF,kH,lh,mX,mY,EW,EX⟩:=cz7 lK.out;have Ux:(0≤(af:Int))=True:=teq;have U4:(af<(aH.length:Int))=True:=teq;obtain⟨vP,T9,TU,rfl,qL,uw,tY⟩:=Zfs jl.out af odt odt;replace qL:=hB HB.out qL;have SI:=Za.mk tY;have Sv:=Za.mk uw;clear tY uw;go_wp2
   repeat(go_quiet (fail);try go_wp2)
   go_loopg [4] k1 (fun kq v4 w'=>∃(fE:Int),v4= .int .i64 fE∧Za (Zbf.l1 kq af fE aQ aa au aV bg aH bq=some r)∧Za (kq≤k1)∧Za (w'.heap[vW]? =some (.cells #[.int .i64 aQ,(.slice aM aa.length aJ),(.slice bW au.length bX),.int .i64 aV,.int .i64 bg,(.slice (some vP) aH.length dA),.int .i64 bq] 36 (0,0)))∧Za (Below w.heap.size w w'))
   case atStart=>exact⟨(0),eS,H',⟨Nat.le_refl _⟩,⟨kM lK.out⟩,⟨bM HB.out⟩⟩
   case round=>
    clear H';try clear c1
    try clear c2
    try clear p2
    try clear q2
    try clear hx2
    try clear c3
    try clear eD
    try clear c4
    try clear dn
    try clear c5
    try clear bY
    try clear kT
    try clear Lj
    try clear kJ kK ll ng ni EY Fa kF kH lh mX mY EW EX
    try clear qL
    try clear p2
    try clear Ux
    try clear U4
    obtain⟨fE,rfl,HA,HK2,lK,HB⟩:=hrel
    cases gk with
    | zero => exact absurd HA.out (by simp [Zbf.l1])
    |succ k2=>
     have H:=HA.out;clear HA;simp only[Zbf.l1]at H;obtain⟨l9,H⟩:=ifT H;obtain⟨mq,H⟩:=ifT H;by_cases c9:fE<((Zck aH af).length:Int)
     case neg=>
      rw[if_neg c9]at H;have oN:decide (fE<((Zck aH af).length:Int))=false:=decide_eq_false c9;clear c9;have H':=Za.mk H;clear H;obtain⟨xe,xg,xh,yX,yY,Eh,Ei,wF,wG,wH,yN,yO,DT,DU⟩:=cz7 lK.out;have Uy:(0≤(af:Int))=True:=teq;have U5:(af<(aH.length:Int))=True:=teq;obtain⟨BB,MR,Nh,e264,lq,o6,oz⟩:=Zfs jl.out af odt odt;obtain rfl:vP=BB:=(by injection e264);replace lq:=hB HB.out lq;have IP:=Za.mk oz;have IL:=Za.mk o6;clear oz o6;go_wp2
      repeat(go_quiet (fail);try go_wp2)
      go_roundg k2
      case measure=>have:=HK1.out;have:=HK2.out;omega
      case rel=>exact⟨(wrap64 (af+1)),eS,H',⟨by have:=HK1.out;have:=HK2.out;omega⟩,⟨kM lK.out⟩,⟨bM HB.out⟩⟩
     rw[if_pos c9]at H;have oN:decide (fE<((Zck aH af).length:Int))=true:=decide_eq_true c9;clear c9;obtain⟨lU,H⟩:=ifT H;obtain⟨O5,A11,H⟩:=bnd H;try dsimp only at H
     by_cases c12:O5=true
     case pos=>
      subst c12;rw[if_pos rfl]at H;have H':=Za.mk H;clear H;obtain⟨YU,YV,YW,YX,YY,aaa,aba,XT,XU,XV,XW,XX,XY,Ya⟩:=cz7 lK.out;have Uy:(0≤(af:Int))=True:=teq;have U5:(af<(aH.length:Int))=True:=teq;obtain⟨BB,MR,Nh,e264,lq,o6,oz⟩:=Zfs jl.out af odt odt;obtain rfl:vP=BB:=(by injection e264);replace lq:=hB HB.out lq;have IP:=Za.mk oz;have IL:=Za.mk o6;clear oz o6;have bOa:(0≤(af:Int))=True:=teq;have bXa:(af<(aH.length:Int))=True:=teq;obtain⟨KM,TA,TV,NH,qi,uy,uf⟩:=Zfs jl.out af odt odt;obtain rfl:vP=KM:=(by injection NH);replace qi:=hB HB.out qi;have Ex:=Za.mk uf;have Sw:=Za.mk uy;clear uf uy;have ea_:=Option.some.inj (lq.symm.trans qi)
      injection ea_ with ea_ en_ ec_
      subst ea_;subst ec_;clear en_;have zt:0≤(fE:Int):=odt;have zL:fE<((Zck aH af).length:Int):=odt;obtain⟨Xc,rfl,uM⟩:=Kd.Zbz Ex.out fE zt zL;replace uM:=hB HB.out uM;replace zt:=eq_true zt;replace zL:=eq_true zL
      go_wp2_with (first|(go_at_call 73;(with_reducible refine(Zbd.calls (rd (Zck aH af) fE) true _ A11.out).mono ?_);rintro e w' ⟨rfl,⟨nd,rfl⟩⟩;(try first|exact⟨rfl,_,World.drewN_drewN _ _ _⟩|exact⟨rfl,_,Eq.trans (World.drewN_drewN _ _ _) (congrArg (World.drewN _) (Nat.add_assoc _ _ _))⟩)))
      repeat(go_quiet (first|(go_at_call 73;(with_reducible refine(Zbd.calls (rd (Zck aH af) fE) true _ A11.out).mono ?_);rintro e w' ⟨rfl,⟨nd,rfl⟩⟩;(try first|exact⟨rfl,_,World.drewN_drewN _ _ _⟩|exact⟨rfl,_,Eq.trans (World.drewN_drewN _ _ _) (congrArg (World.drewN _) (Nat.add_assoc _ _ _))⟩)));try go_wp2_with (first|(go_at_call 73;(with_reducible refine(Zbd.calls (rd (Zck aH af) fE) true _ A11.out).mono ?_);rintro e w' ⟨rfl,⟨nd,rfl⟩⟩;(try first|exact⟨rfl,_,World.drewN_drewN _ _ _⟩|exact⟨rfl,_,Eq.trans (World.drewN_drewN _ _ _) (congrArg (World.drewN _) (Nat.add_assoc _ _ _))⟩))))
      go_roundg k2
      case measure=>have:=HK1.out;have:=HK2.out;omega
      case rel=>exact⟨(wrap64 (fE+1)),eS,H',⟨by have:=HK1.out;have:=HK2.out;omega⟩,⟨kM lK.out⟩,⟨bM HB.out⟩⟩
     replace c12:=Bool.eq_false_iff.mpr c12;subst c12;replace H:=ifF H;obtain rfl:=sj H;obtain⟨wY,xc,Eg,Gb,Gc,Mx,M0,wD,wE,DR,FL,FM,LM,LP⟩:=cz7 lK.out;have Uy:(0≤(af:Int))=True:=teq;have U5:(af<(aH.length:Int))=True:=teq;obtain⟨BB,MR,Nh,e264,lq,o6,oz⟩:=Zfs jl.out af odt odt;obtain rfl:vP=BB:=(by injection e264);replace lq:=hB HB.out lq;have IP:=Za.mk oz;have IL:=Za.mk o6;clear oz o6;have bOa:(0≤(af:Int))=True:=teq;have bXa:(af<(aH.length:Int))=True:=teq;obtain⟨KM,TA,TV,NH,qi,uy,uf⟩:=Zfs jl.out af odt odt;obtain rfl:vP=KM:=(by injection NH);replace qi:=hB HB.out qi;have Ex:=Za.mk uf;have Sw:=Za.mk uy;clear uf uy;have ea_:=Option.some.inj (lq.symm.trans qi)
     injection ea_ with ea_ en_ ec_
     subst ea_;subst ec_;clear en_;have zt:0≤(fE:Int):=odt;have zL:fE<((Zck aH af).length:Int):=odt;obtain⟨Xc,rfl,uM⟩:=Kd.Zbz Ex.out fE zt zL;replace uM:=hB HB.out uM;replace zt:=eq_true zt;replace zL:=eq_true zL
     go_wp2_with (first|(go_at_call 73;(with_reducible refine(Zbd.calls (rd (Zck aH af) fE) false _ A11.out).mono ?_);rintro e w' ⟨rfl,⟨nd,rfl⟩⟩;(try first|exact⟨rfl,_,World.drewN_drewN _ _ _⟩|exact⟨rfl,_,Eq.trans (World.drewN_drewN _ _ _) (congrArg (World.drewN _) (Nat.add_assoc _ _ _))⟩)))
     repeat(go_quiet (first|(go_at_call 73;(with_reducible refine(Zbd.calls (rd (Zck aH af) fE) false _ A11.out).mono ?_);rintro e w' ⟨rfl,⟨nd,rfl⟩⟩;(try first|exact⟨rfl,_,World.drewN_drewN _ _ _⟩|exact⟨rfl,_,Eq.trans (World.drewN_drewN _ _ _) (congrArg (World.drewN _) (Nat.add_assoc _ _ _))⟩)));try go_wp2_with (first|(go_at_call 73;(with_reducible refine(Zbd.calls (rd (Zck aH af) fE) false _ A11.out).mono ?_);rintro e w' ⟨rfl,⟨nd,rfl⟩⟩;(try first|exact⟨rfl,_,World.drewN_drewN _ _ _⟩|exact⟨rfl,_,Eq.trans (World.drewN_drewN _ _ _) (congrArg (World.drewN _) (Nat.add_assoc _ _ _))⟩))))
     go_ret;exact⟨eR,bM HB.out⟩
def Zbg.l0 : Nat → List (S82) → Int → Option (Bool)
 | 0, _, _ => none
 |k+1,x0,x3=>if x3<(x0.length:Int)then(if 0≤x3 then(if((Zbi x0 x3).f0)<0 then(some false)else(if((Zbi x0 x3).f1)>1 then(some false)else(Zbg.l0 k x0 (wrap64 (x3+1)))))else(none))else(some true)
def Zbg.f (k:Nat) (l0:List (S82)):Option (Bool):=Zbg.l0 k l0 0
set_option maxRecDepth 100000 in
theorem Zbg.calls (k : Nat) (A0 : Option Addr) (c0 : Nat) (l0 : List (S82)) (r : Bool) (w : World) (hr0 : Kd.C k82 w A0 l0.length l0) (hc0 : l0.length ≤ c0) (h : Zbg.f k l0 = some r) :
  Calls Tryz.prog 105 #[.slice A0 l0.length c0] w fun e w'=>e= .returned (.bool r)∧Zav w w':=by
 have HR0:=Za.mk hr0;have HC0:=Za.mk hc0;clear hr0 hc0;have H:(Zbg.l0 k l0 0)=some r:=h;clear h;have H':=Za.mk H;clear H;go_enter Tryz.func105,Tryz.ntmps105;go_wp2
 go_loopg [3] k (fun kq v3 w'=>∃(af:Int),v3= .int .i64 af∧Za (Zbg.l0 kq l0 af=some r)∧Za (kq≤k)∧Zav w w')
 case atStart=>exact⟨(0),eS,H',⟨Nat.le_refl _⟩,by repeat(first|exact Zav.refl _|apply Zav.step)⟩
 case round=>
  clear H';try clear c1
  obtain⟨af,rfl,HA,HK1,⟨m1,rfl⟩⟩:=hrel
  cases gk with
  | zero => exact absurd HA.out (by simp [Zbg.l0])
  |succ k1=>
   have H:=HA.out;clear HA;simp only[Zbg.l0]at H;by_cases c2:af<(l0.length:Int)
   case neg=>
    rw[if_neg c2]at H;have jq:decide (af<(l0.length:Int))=false:=decide_eq_false c2;clear c2;obtain rfl:=sj H;go_wp2;go_ret;exact⟨eS,by repeat(first|exact Zav.refl _|apply Zav.step)⟩
   rw[if_pos c2]at H;have jq:decide (af<(l0.length:Int))=true:=decide_eq_true c2;clear c2;obtain⟨eD,H⟩:=ifT H;by_cases c4:((Zbi l0 af).f0)<0
   case pos=>
    rw[if_pos c4]at H;have dn:decide (((Zbi l0 af).f0)<0)=true:=decide_eq_true c4;clear c4;obtain rfl:=sj H;have Uz:(0≤(af:Int))=True:=teq;have U6:(af<(l0.length:Int))=True:=teq;obtain⟨F6,rfl,J4,J5⟩:=Zek HR0.out af odt odt;go_wp2;go_ret;exact⟨eS,by repeat(first|exact Zav.refl _|apply Zav.step)⟩
   rw[if_neg c4]at H;have dn:decide (((Zbi l0 af).f0)<0)=false:=decide_eq_false c4;clear c4;by_cases c5:((Zbi l0 af).f1)>1
   case pos=>
    rw[if_pos c5]at H;have bY:decide (1<((Zbi l0 af).f1))=true:=decide_eq_true c5;clear c5;obtain rfl:=sj H;have Uz:(0≤(af:Int))=True:=teq;have U6:(af<(l0.length:Int))=True:=teq;obtain⟨F6,rfl,J4,J5⟩:=Zek HR0.out af odt odt;have bPa:(0≤(af:Int))=True:=teq;have bYa:(af<(l0.length:Int))=True:=teq;obtain⟨KN,e269,Td,Te⟩:=Zek HR0.out af odt odt;obtain rfl:F6=KN:=(by injection e269);go_wp2;go_ret;exact⟨eS,by repeat(first|exact Zav.refl _|apply Zav.step)⟩
   rw[if_neg c5]at H;have bY:decide (1<((Zbi l0 af).f1))=false:=decide_eq_false c5;clear c5;have H':=Za.mk H;clear H;have Uz:(0≤(af:Int))=True:=teq;have U6:(af<(l0.length:Int))=True:=teq;obtain⟨F6,rfl,J4,J5⟩:=Zek HR0.out af odt odt;have bPa:(0≤(af:Int))=True:=teq;have bYa:(af<(l0.length:Int))=True:=teq;obtain⟨KN,e269,Td,Te⟩:=Zek HR0.out af odt odt;obtain rfl:F6=KN:=(by injection e269);go_wp2
   go_roundg k1
   case measure=>have:=HK1.out;omega
   case rel=>exact⟨(wrap64 (af+1)),eS,H',⟨by have:=HK1.out;omega⟩,by repeat(first|exact Zav.refl _|apply Zav.step)⟩
def Zbv.l0 : Nat → List (List (S82)) → Int → Int → List Int → List Int → Int → Int → List (List Int) → Int → Option (Bool)
 | 0, _, _, _, _, _, _, _, _, _ => none
 |k+1,x0,x5,JD,qV,vw,JE,JF,JG,JH=>if x5<(qV.length:Int)then(if 0≤x5 then(if 0≤(rd qV x5)then(if(rd qV x5)<(x0.length:Int)then((Zbg.f k (Zda x0 (rd qV x5))).bind fun O6=>(if O6=true then(if x5<(vw.length:Int)then(if(rd vw x5)=1 then(Zbv.l0 k x0 (wrap64 (x5+1)) JD qV vw JE JF JG JH)else(if(rd vw x5)=(-1)then(Zbv.l0 k x0 (wrap64 (x5+1)) JD qV vw JE JF JG JH)else(some false)))else(none))else(some false)))else(none))else(none))else(none))else(some true)
def Zbv.f (k:Nat) (l0:List (List (S82))) (aC:Int) (aA:List Int) (aI:List Int) (bT:Int) (bU:Int) (bn:List (List Int)) (bP:Int):Option (Bool):=Zbv.l0 k l0 0 aC aA aI bT bU bn bP
set_option maxRecDepth 100000 in
theorem Zbv.calls (k : Nat) (A0 : Option Addr) (c0 : Nat) (l0 : List (List (S82))) (aC : Int) (fB : Option Addr) (fC : Nat) (aA : List Int) (eY : Option Addr) (fe : Nat) (aI : List Int) (bT : Int) (bU : Int) (jm : Option Addr) (jo : Nat) (bn : List (List Int)) (bP : Int) (r : Bool) (w : World) (hr0 : Kd.C (Kd.slice 82 k82) w A0 l0.length l0) (hc0 : l0.length ≤ c0) (mg : Kd.C (Kd.int .i64) w fB aA.length aA) (lY : aA.length ≤ fC) (mh : Kd.C (Kd.int .i64) w eY aI.length aI) (ma : aI.length ≤ fe) (tq : Kd.C (Kd.slice 3 (Kd.int .i64)) w jm bn.length bn) (sW : bn.length ≤ jo) (h : Zbv.f k l0 aC aA aI bT bU bn bP = some r) :
  Calls Tryz.prog 106 #[.slice A0 l0.length c0,.agg #[.int .i64 aC,.slice fB aA.length fC,.slice eY aI.length fe,.int .i64 bT,.int .i64 bU,.slice jm bn.length jo,.int .i64 bP]] w fun e w'=>e= .returned (.bool r)∧Below w.heap.size w w':=by
 have hu36:=Tryz.underlying36;have HR0:=Za.mk hr0;have HC0:=Za.mk hc0;clear hr0 hc0;have fU:=Za.mk mg;have iD:=Za.mk lY;clear mg lY;have fI:=Za.mk mh;have iE:=Za.mk ma;clear mh ma;have jD:=Za.mk tq;have jA:=Za.mk sW;clear tq sW;have HB:=Za.mk (Below.refl w.heap.size w);have H:(Zbv.l0 k l0 0 aC aA aI bT bU bn bP)=some r:=h;clear h;have H':=Za.mk H;clear H;go_enter Tryz.func106,Tryz.ntmps106
 go_wp2_with (first|((with_reducible refine Zao (N:=3) rfl ?_);refine bx 3 #[.int .i64 aC,.slice fB aA.length fC,.slice eY aI.length fe,.int .i64 bT,.int .i64 bU,.slice jm bn.length jo,.int .i64 bP] 36 ?_;intro QU hg w3 hbox hb;have qI:=Za.mk (hbox);have dXa:=Za.mk ((gE hg HB.out:w.heap.size≤QU));replace HB:=Za.mk (bS HB.out hb);clear hb hbox hg))
 go_loopg [5] k (fun kq v5 w'=>∃(ax:Int),v5= .int .i64 ax∧Za (Zbv.l0 kq l0 ax aC aA aI bT bU bn bP=some r)∧Za (kq≤k)∧Za (w'.heap[QU]? =some (.cells #[.int .i64 aC,(.slice fB aA.length fC),(.slice eY aI.length fe),.int .i64 bT,.int .i64 bU,(.slice jm bn.length jo),.int .i64 bP] 36 (0,0)))∧Za (Below w.heap.size w w'))
 case atStart=>exact⟨(0),eS,H',⟨Nat.le_refl _⟩,⟨kM qI.out⟩,⟨bM HB.out⟩⟩
 case round=>
  clear H';try clear c1
  try clear p2
  obtain⟨ax,rfl,HA,HK1,qI,HB⟩:=hrel
  cases gk with
  | zero => exact absurd HA.out (by simp [Zbv.l0])
  |succ k1=>
   have H:=HA.out;clear HA;simp only[Zbv.l0]at H;by_cases c4:ax<(aA.length:Int)
   case neg=>
    rw[if_neg c4]at H;have dn:decide (ax<(aA.length:Int))=false:=decide_eq_false c4;clear c4;obtain rfl:=sj H;obtain⟨Eo,Ep,M3,R9,RA,RB,RD,Ea,Eb,LQ,Ra,Rb,Rc,Re⟩:=cz7 qI.out;go_wp2;go_ret;exact⟨eR,bM HB.out⟩
   rw[if_pos c4]at H;have dn:decide (ax<(aA.length:Int))=true:=decide_eq_true c4;clear c4;obtain⟨bY,H⟩:=ifT H;obtain⟨iQ,H⟩:=ifT H;obtain⟨l9,H⟩:=ifT H;obtain⟨O6,A8,H⟩:=bnd H;try dsimp only at H
   by_cases c9:O6=true
   case neg=>
    replace c9:=Bool.eq_false_iff.mpr c9;subst c9;replace H:=ifF H;obtain rfl:=sj H;obtain⟨za,zb,ze,Ej,El,Em,En,yP,yQ,yR,DV,DW,DX,DY⟩:=cz7 qI.out;have nW:0≤(ax:Int):=odt;have nY:ax<(aA.length:Int):=odt;obtain⟨KO,rfl,kg⟩:=Kd.Zbz fU.out ax nW nY;replace kg:=hB HB.out kg;replace nW:=eq_true nW;replace nY:=eq_true nY;have Oe:(0≤((rd aA ax):Int))=True:=teq;have Ox:((rd aA ax)<(l0.length:Int))=True:=teq;obtain⟨KP,rz,r9,rfl,ko,jY,jX⟩:=Zft HR0.out (rd aA ax) odt odt;replace ko:=hB HB.out ko;have pR:=Za.mk jX;have pG:=Za.mk jY;clear jX jY
    go_wp2_with (first|((with_reducible refine Zak (f:=105) rfl ?_);refine gl 21 Tryz.func105 #[.slice rz (Zda l0 (rd aA ax)).length r9] ?_;(with_reducible refine(Zbg.calls k1 _ _ (Zda l0 (rd aA ax)) false _ (cM (Kd.Zae pR.out HB.out)) pG.out A8.out).mono ?_);rintro e w' ⟨rfl,⟨nd,rfl⟩⟩;refine⟨_,rfl,?_⟩))
    go_ret;exact⟨eR,bM HB.out⟩
   subst c9;rw[if_pos rfl]at H;obtain⟨lU,H⟩:=ifT H;by_cases c11:(rd aI ax)=1
   case pos=>
    rw[if_pos c11]at H;have kR:((rd aI ax)==1)=true:=beq_iff_eq.mpr c11;have Xq:((rd aI ax) !=1)=false:=bne_eq_false_iff_eq.mpr c11;clear c11;have H':=Za.mk H;clear H;obtain⟨nN,nO,nP,nQ,nR,tJ,tK,nD,nE,nG,nH,nI,tu,tC⟩:=cz7 qI.out;have nW:0≤(ax:Int):=odt;have nY:ax<(aA.length:Int):=odt;obtain⟨KO,rfl,kg⟩:=Kd.Zbz fU.out ax nW nY;replace kg:=hB HB.out kg;replace nW:=eq_true nW;replace nY:=eq_true nY;have Oe:(0≤((rd aA ax):Int))=True:=teq;have Ox:((rd aA ax)<(l0.length:Int))=True:=teq;obtain⟨KP,rz,r9,rfl,ko,jY,jX⟩:=Zft HR0.out (rd aA ax) odt odt;replace ko:=hB HB.out ko;have pR:=Za.mk jX;have pG:=Za.mk jY;clear jX jY
    go_wp2_with (first|((with_reducible refine Zak (f:=105) rfl ?_);refine gl 21 Tryz.func105 #[.slice rz (Zda l0 (rd aA ax)).length r9] ?_;(with_reducible refine(Zbg.calls k1 _ _ (Zda l0 (rd aA ax)) true _ (cM (Kd.Zae pR.out HB.out)) pG.out A8.out).mono ?_);rintro e w' ⟨rfl,⟨nd,rfl⟩⟩;refine⟨_,rfl,?_⟩;have rG:0≤(ax:Int):=odt;have rT:ax<(aI.length:Int):=odt;obtain⟨F7,e274,o8⟩:=Kd.Zbz fI.out ax rG rT;cases e274;replace o8:=hB HB.out o8;replace rG:=eq_true rG;replace rT:=eq_true rT))
    go_roundg k1
    case measure=>have:=HK1.out;omega
    case rel=>exact⟨(wrap64 (ax+1)),eS,H',⟨by have:=HK1.out;omega⟩,⟨kM qI.out⟩,⟨bM HB.out⟩⟩
   rw[if_neg c11]at H;have kR:((rd aI ax)==1)=false:=beq_eq_false_iff_ne.mpr c11;have Xq:((rd aI ax) !=1)=true:=bne_iff_ne.mpr c11;by_cases c13:(rd aI ax)=(-1)
   case neg=>
    rw[if_neg c13]at H;have ny:((rd aI ax)==(-1))=false:=beq_eq_false_iff_ne.mpr c13;have Lc:((rd aI ax) !=(-1))=true:=bne_iff_ne.mpr c13;obtain rfl:=sj H;obtain⟨xe,xg,xh,yX,yY,Eh,Ei,wF,wG,wH,yN,yO,DT,DU⟩:=cz7 qI.out;have nW:0≤(ax:Int):=odt;have nY:ax<(aA.length:Int):=odt;obtain⟨KO,rfl,kg⟩:=Kd.Zbz fU.out ax nW nY;replace kg:=hB HB.out kg;replace nW:=eq_true nW;replace nY:=eq_true nY;have Oe:(0≤((rd aA ax):Int))=True:=teq;have Ox:((rd aA ax)<(l0.length:Int))=True:=teq;obtain⟨KP,rz,r9,rfl,ko,jY,jX⟩:=Zft HR0.out (rd aA ax) odt odt;replace ko:=hB HB.out ko;have pR:=Za.mk jX;have pG:=Za.mk jY;clear jX jY
    go_wp2_with (first|((with_reducible refine Zak (f:=105) rfl ?_);refine gl 21 Tryz.func105 #[.slice rz (Zda l0 (rd aA ax)).length r9] ?_;(with_reducible refine(Zbg.calls k1 _ _ (Zda l0 (rd aA ax)) true _ (cM (Kd.Zae pR.out HB.out)) pG.out A8.out).mono ?_);rintro e w' ⟨rfl,⟨nd,rfl⟩⟩;refine⟨_,rfl,?_⟩;have rG:0≤(ax:Int):=odt;have rT:ax<(aI.length:Int):=odt;obtain⟨F7,e274,o8⟩:=Kd.Zbz fI.out ax rG rT;cases e274;replace o8:=hB HB.out o8;replace rG:=eq_true rG;replace rT:=eq_true rT;have zu:0≤(ax:Int):=odt;have zM:ax<(aI.length:Int):=odt;obtain⟨KQ,e275,uN⟩:=Kd.Zbz fI.out ax zu zM;obtain rfl:F7=KQ:=(by injection e275);replace uN:=hB HB.out uN;replace zu:=eq_true zu;replace zM:=eq_true zM))
    go_ret;exact⟨eR,bM HB.out⟩
   rw[if_pos c13]at H;have ny:((rd aI ax)==(-1))=true:=beq_iff_eq.mpr c13;have Lc:((rd aI ax) !=(-1))=false:=bne_eq_false_iff_eq.mpr c13;clear c13;have H':=Za.mk H;clear H;obtain⟨wY,xc,Eg,Gb,Gc,Mx,M0,wD,wE,DR,FL,FM,LM,LP⟩:=cz7 qI.out;have nW:0≤(ax:Int):=odt;have nY:ax<(aA.length:Int):=odt;obtain⟨KO,rfl,kg⟩:=Kd.Zbz fU.out ax nW nY;replace kg:=hB HB.out kg;replace nW:=eq_true nW;replace nY:=eq_true nY;have Oe:(0≤((rd aA ax):Int))=True:=teq;have Ox:((rd aA ax)<(l0.length:Int))=True:=teq;obtain⟨KP,rz,r9,rfl,ko,jY,jX⟩:=Zft HR0.out (rd aA ax) odt odt;replace ko:=hB HB.out ko;have pR:=Za.mk jX;have pG:=Za.mk jY;clear jX jY
   go_wp2_with (first|((with_reducible refine Zak (f:=105) rfl ?_);refine gl 21 Tryz.func105 #[.slice rz (Zda l0 (rd aA ax)).length r9] ?_;(with_reducible refine(Zbg.calls k1 _ _ (Zda l0 (rd aA ax)) true _ (cM (Kd.Zae pR.out HB.out)) pG.out A8.out).mono ?_);rintro e w' ⟨rfl,⟨nd,rfl⟩⟩;refine⟨_,rfl,?_⟩;have rG:0≤(ax:Int):=odt;have rT:ax<(aI.length:Int):=odt;obtain⟨F7,e274,o8⟩:=Kd.Zbz fI.out ax rG rT;cases e274;replace o8:=hB HB.out o8;replace rG:=eq_true rG;replace rT:=eq_true rT;have zu:0≤(ax:Int):=odt;have zM:ax<(aI.length:Int):=odt;obtain⟨KQ,e275,uN⟩:=Kd.Zbz fI.out ax zu zM;obtain rfl:F7=KQ:=(by injection e275);replace uN:=hB HB.out uN;replace zu:=eq_true zu;replace zM:=eq_true zM))
   go_roundg k1
   case measure=>have:=HK1.out;omega
   case rel=>exact⟨(wrap64 (ax+1)),eS,H',⟨by have:=HK1.out;omega⟩,⟨kM qI.out⟩,⟨bM HB.out⟩⟩
mutual
def Zap.j0 : Nat → List (List (S82)) → Bool → Int → List Int → List Int → Int → Int → List (List Int) → Int → Option (Bool)
 | 0, _, _, _, _, _, _, _, _, _ => none
 |k+1,x0,x5,fO,fP,iT,iL,jb,fQ,gB=>if x5=true then(Zap.j1 k x0 x5 ((iT.length:Int)==0) fO fP iT iL jb fQ gB)else(Zap.j1 k x0 x5 false fO fP iT iL jb fQ gB)
def Zap.j1 : Nat → List (List (S82)) → Bool → Bool → Int → List Int → List Int → Int → Int → List (List Int) → Int → Option (Bool)
 | 0, _, _, _, _, _, _, _, _, _, _ => none
 |k+1,x0,x5,x6,fO,fP,iT,iL,jb,fQ,gB=>if iL≥0 then(Zap.j2 k x0 x5 x6 (decide (iL≤2)) fO fP iT iL jb fQ gB)else(Zap.j2 k x0 x5 x6 false fO fP iT iL jb fQ gB)
def Zap.j2 : Nat → List (List (S82)) → Bool → Bool → Bool → Int → List Int → List Int → Int → Int → List (List Int) → Int → Option (Bool)
 | 0, _, _, _, _, _, _, _, _, _, _, _ => none
 |k+1,x0,x5,x6,x7,fO,fP,iT,iL,jb,fQ,gB=>if(fP.length:Int)>0 then((Za0.f k fP).bind fun LF=>(Zap.j3 k x0 x5 x6 x7 LF fO fP iT iL jb fQ gB))else(Zap.j3 k x0 x5 x6 x7 false fO fP iT iL jb fQ gB)
def Zap.j3 : Nat → List (List (S82)) → Bool → Bool → Bool → Bool → Int → List Int → List Int → Int → Int → List (List Int) → Int → Option (Bool)
 | 0, _, _, _, _, _, _, _, _, _, _, _, _ => none
 |k+1,x0,x5,x6,x7,x8,fO,fP,iT,iL,jb,fQ,gB=>if fO=0 then(if(fQ.length:Int)=0 then((Zb2.f k fO fP iT iL jb fQ gB).bind fun O7=>(if O7=true then(if x7=true then(some (gB==0))else(some false))else(some false)))else(some false))else(if fO=1 then(if(fQ.length:Int)=0 then(if x6=true then(some x8)else(some false))else(some false))else(if fO=2 then(if x6=true then(if x8=true then((Zbf.f k fO fP iT iL jb fQ gB).bind fun O8=>(some O8))else(some false))else(some false))else(if fO=3 then(if(fQ.length:Int)=0 then(if x6=true then(if x8=true then(some (decide ((fP.length:Int)≥3)))else(some false))else(some false))else(some false))else(if fO=4 then(if(fQ.length:Int)=0 then((Zb2.f k fO fP iT iL jb fQ gB).bind fun O9=>(if O9=true then(if x7=true then(if 0≤gB then(if gB<(x0.length:Int)then((Zbg.f k (Zda x0 gB)).bind fun OA=>(if OA=true then((Zbj.f k fP gB).bind fun OB=>(some (!OB)))else(some false)))else(none))else(none))else(some false))else(some false)))else(some false))else(if fO=5 then(if(fQ.length:Int)=0 then(if x5=true then((Zb2.f k fO fP iT iL jb fQ gB).bind fun OC=>(if OC=true then((Zbv.f k x0 fO fP iT iL jb fQ gB).bind fun OD=>(some OD))else(some false)))else(some false))else(some false))else(if(fQ.length:Int)=0 then(if x6=true then(if(fP.length:Int)≥2 then(some (((fP.length:Int)%2)==0))else(some false))else(some false))else(some false)))))))
end
def Zap.f (k:Nat) (l0:List (List (S82))) (aC:Int) (aA:List Int) (aI:List Int) (bT:Int) (bU:Int) (bn:List (List Int)) (bP:Int):Option (Bool):=if bT=0 then(if bU=0 then(Zap.j0 k l0 (bP==0) aC aA aI bT bU bn bP)else(Zap.j0 k l0 false aC aA aI bT bU bn bP))else(Zap.j0 k l0 false aC aA aI bT bU bn bP)
set_option maxRecDepth 100000 in
theorem Zap.calls (k : Nat) (A0 : Option Addr) (c0 : Nat) (l0 : List (List (S82))) (aC : Int) (fB : Option Addr) (fC : Nat) (aA : List Int) (eY : Option Addr) (fe : Nat) (aI : List Int) (bT : Int) (bU : Int) (jm : Option Addr) (jo : Nat) (bn : List (List Int)) (bP : Int) (r : Bool) (w : World) (hr0 : Kd.C (Kd.slice 82 k82) w A0 l0.length l0) (hc0 : l0.length ≤ c0) (mg : Kd.C (Kd.int .i64) w fB aA.length aA) (lY : aA.length ≤ fC) (mh : Kd.C (Kd.int .i64) w eY aI.length aI) (ma : aI.length ≤ fe) (tq : Kd.C (Kd.slice 3 (Kd.int .i64)) w jm bn.length bn) (sW : bn.length ≤ jo) (h : Zap.f k l0 aC aA aI bT bU bn bP = some r) :
  Calls Tryz.prog 75 #[.slice A0 l0.length c0,.agg #[.int .i64 aC,.slice fB aA.length fC,.slice eY aI.length fe,.int .i64 bT,.int .i64 bU,.slice jm bn.length jo,.int .i64 bP]] w fun e w'=>e= .returned (.bool r)∧Below w.heap.size w w':=by
 have hu36:=Tryz.underlying36;have HR0:=Za.mk hr0;have HC0:=Za.mk hc0;clear hr0 hc0;have fU:=Za.mk mg;have iD:=Za.mk lY;clear mg lY;have fI:=Za.mk mh;have iE:=Za.mk ma;clear mh ma;have jD:=Za.mk tq;have jA:=Za.mk sW;clear tq sW;have HB:=Za.mk (Below.refl w.heap.size w);have H:(if bT=0 then(if bU=0 then(Zap.j0 k l0 (bP==0) aC aA aI bT bU bn bP)else(Zap.j0 k l0 false aC aA aI bT bU bn bP))else(Zap.j0 k l0 false aC aA aI bT bU bn bP))=some r:=h;clear h;have HC3:=Za.mk H;clear H;go_enter Tryz.func75,Tryz.ntmps75
 go_upto_region 1 with (first|((with_reducible refine Zao (N:=3) rfl ?_);(try(refine Zb0 (by rfl) ?_;dsimp only));refine bx 3 #[.int .i64 aC,.slice fB aA.length fC,.slice eY aI.length fe,.int .i64 bT,.int .i64 bU,.slice jm bn.length jo,.int .i64 bP] 36 ?_;intro BO hg w4 hbox hb;have bE:=Za.mk (hbox);have dYa:=Za.mk ((gE hg HB.out:w.heap.size≤BO));replace HB:=Za.mk (bS HB.out hb);clear hb hbox hg))
 (try simp only[Act.put,List.setIfInBounds_toArray,List.set_cons_zero,List.set_cons_succ])
 go_cut [5] (fun v5 wc=>∃(kq:Nat) (cO:Bool),v5= .bool cO∧Za (Zap.j0 kq l0 cO aC aA aI bT bU bn bP=some r)∧Za (kq≤k)∧Za (wc.heap[BO]? =some (.cells #[.int .i64 aC,(.slice fB aA.length fC),(.slice eY aI.length fe),.int .i64 bT,.int .i64 bU,(.slice jm bn.length jo),.int .i64 bP] 36 (0,0)))∧Za (Below w.heap.size w wc))
 case first=>
  have H:=HC3.out;clear HC3;by_cases c5:bT=0
  case neg=>
   rw[if_neg c5]at H;have bY:(bT==0)=false:=beq_eq_false_iff_ne.mpr c5;have kT:(bT !=0)=true:=bne_iff_ne.mpr c5
   (first|rw[bY]|(simp only[Zd0,Zd8];rw[bY])|skip)
   have H':=Za.mk H;clear H;obtain⟨AO,AP,AQ,IG,II,IJ,IK,Ay,Az,AA,I7,I8,I9,IA⟩:=cz7 bE.out;go_wp2
   go_meet
   case rel=>exact⟨_,(false),eS,H',⟨by first|omega|exact Nat.le_refl _⟩,⟨kM bE.out⟩,⟨bM HB.out⟩⟩
  rw[if_pos c5]at H;have bY:(bT==0)=true:=beq_iff_eq.mpr c5;have kT:(bT !=0)=false:=bne_eq_false_iff_eq.mpr c5;clear c5
  (first|rw[bY]|(simp only[Zd0,Zd8];rw[bY])|skip)
  by_cases c6:bU=0
  case neg=>
   rw[if_neg c6]at H;have iQ:(bU==0)=false:=beq_eq_false_iff_ne.mpr c6;have xE:(bU !=0)=true:=bne_iff_ne.mpr c6;have H':=Za.mk H;clear H;obtain⟨xx,xy,xz,xA,xB,yf,yg,wS,wT,wU,wV,wW,xY,yc⟩:=cz7 bE.out;go_wp2
   go_meet
   case rel=>exact⟨_,(false),eS,H',⟨by first|omega|exact Nat.le_refl _⟩,⟨kM bE.out⟩,⟨bM HB.out⟩⟩
  rw[if_pos c6]at H;have iQ:(bU==0)=true:=beq_iff_eq.mpr c6;have xE:(bU !=0)=false:=bne_eq_false_iff_eq.mpr c6;clear c6;have H':=Za.mk H;clear H;obtain⟨qE,qF,xw,AB,AC,AJ,AL,qC,qD,wQ,Ar,Au,Av,Aw⟩:=cz7 bE.out;go_wp2
  go_meet
  case rel=>exact⟨_,((bP==0)),eS,H',⟨by first|omega|exact Nat.le_refl _⟩,⟨kM bE.out⟩,⟨bM HB.out⟩⟩
 case rest=>
  clear HC3;try clear c1
  try clear p2
  try clear c5
  try clear bY
  try clear kT
  try clear c6
  try clear iQ
  try clear xE
  try clear c7
  try clear qE qF xw AB AC AJ AL qC qD wQ Ar Au Av Aw
  try clear xx xy xz xA xB yf yg wS wT wU wV wW xY yc
  try clear AO AP AQ IG II IJ IK Ay Az AA I7 I8 I9 IA
  obtain⟨kq,cO,rfl,HA,HJ2,bE,HB⟩:=hcut
  cases kq with
  | zero => exact absurd HA.out (by simp [Zap.j0])
  |succ kj2=>
   have H:=HA.out;clear HA;simp only[Zap.j0]at H;have Nv:=Za.mk H;clear H
   go_upto_region 2 with (fail)
   go_cut [6] (fun v6 wc=>∃(kq:Nat) (wB:Bool),v6= .bool wB∧Za (Zap.j1 kq l0 cO wB aC aA aI bT bU bn bP=some r)∧Za (kq≤kj2)∧Za (wc.heap[BO]? =some (.cells #[.int .i64 aC,(.slice fB aA.length fC),(.slice eY aI.length fe),.int .i64 bT,.int .i64 bU,(.slice jm bn.length jo),.int .i64 bP] 36 (0,0)))∧Za (Below w.heap.size w wc))
   case first=>
    have H:=Nv.out;clear Nv;by_cases c11:cO=true
    case pos=>
     subst c11;rw[if_pos rfl]at H;have H':=Za.mk H;clear H;obtain⟨nN,nO,nP,nQ,nR,tJ,tK,nD,nE,nG,nH,nI,tu,tC⟩:=cz7 bE.out;go_wp2
     go_meet
     case rel=>exact⟨_,(((aI.length:Int)==0)),eS,H',⟨by have:=HJ2.out;first|omega|exact Nat.le_refl _⟩,⟨kM bE.out⟩,⟨bM HB.out⟩⟩
    replace c11:=Bool.eq_false_iff.mpr c11;subst c11;replace H:=ifF H;have H':=Za.mk H;clear H;go_wp2
    go_meet
    case rel=>exact⟨_,(false),eS,H',⟨by have:=HJ2.out;first|omega|exact Nat.le_refl _⟩,⟨kM bE.out⟩,⟨bM HB.out⟩⟩
   case rest=>
    clear Nv;try clear c1
    try clear p2
    try clear c5
    try clear bY
    try clear kT
    try clear c6
    try clear iQ
    try clear xE
    try clear c7
    try clear c11
    try clear nN nO nP nQ nR tJ tK nD nE nG nH nI tu tC
    try clear qE qF xw AB AC AJ AL qC qD wQ Ar Au Av Aw
    try clear xx xy xz xA xB yf yg wS wT wU wV wW xY yc
    try clear AO AP AQ IG II IJ IK Ay Az AA I7 I8 I9 IA
    try clear p2
    obtain⟨kq,wB,rfl,HA,HJ9,bE,HB⟩:=hcut
    cases kq with
    | zero => exact absurd HA.out (by simp [Zap.j1])
    |succ kj9=>
     have H:=HA.out;clear HA;simp only[Zap.j1]at H;have Ny:=Za.mk H;clear H
     go_upto_region 3 with (fail)
     go_cut [7] (fun v7 wc=>∃(kq:Nat) (yK:Bool),v7= .bool yK∧Za (Zap.j2 kq l0 cO wB yK aC aA aI bT bU bn bP=some r)∧Za (kq≤kj9)∧Za (wc.heap[BO]? =some (.cells #[.int .i64 aC,(.slice fB aA.length fC),(.slice eY aI.length fe),.int .i64 bT,.int .i64 bU,(.slice jm bn.length jo),.int .i64 bP] 36 (0,0)))∧Za (Below w.heap.size w wc))
     case first=>
      have H:=Ny.out;clear Ny;by_cases c14:bT≥0
      case neg=>
       rw[if_neg c14]at H;have kS:decide (0≤bT)=false:=decide_eq_false c14;clear c14
       (first|rw[kS]|(simp only[Zd0,Zd8];rw[kS])|skip)
       have H':=Za.mk H;clear H;obtain⟨za,zb,ze,Ej,El,Em,En,yP,yQ,yR,DV,DW,DX,DY⟩:=cz7 bE.out;go_wp2
       go_meet
       case rel=>exact⟨_,(false),eS,H',⟨by have:=HJ2.out;have:=HJ9.out;first|omega|exact Nat.le_refl _⟩,⟨kM bE.out⟩,⟨bM HB.out⟩⟩
      rw[if_pos c14]at H;have kS:decide (0≤bT)=true:=decide_eq_true c14;clear c14
      (first|rw[kS]|(simp only[Zd0,Zd8];rw[kS])|skip)
      have H':=Za.mk H;clear H;obtain⟨xe,xg,xh,yX,yY,Eh,Ei,wF,wG,wH,yN,yO,DT,DU⟩:=cz7 bE.out;go_wp2
      go_meet
      case rel=>exact⟨_,(decide (bT≤2)),eS,H',⟨by have:=HJ2.out;have:=HJ9.out;first|omega|exact Nat.le_refl _⟩,⟨kM bE.out⟩,⟨bM HB.out⟩⟩
     case rest=>
      clear Ny;try clear c1
      try clear p2
      try clear c5
      try clear bY
      try clear kT
      try clear c6
      try clear iQ
      try clear xE
      try clear c7
      try clear c11
      try clear c14
      try clear kS
      try clear nN nO nP nQ nR tJ tK nD nE nG nH nI tu tC
      try clear xe xg xh yX yY Eh Ei wF wG wH yN yO DT DU
      try clear za zb ze Ej El Em En yP yQ yR DV DW DX DY
      try clear qE qF xw AB AC AJ AL qC qD wQ Ar Au Av Aw
      try clear xx xy xz xA xB yf yg wS wT wU wV wW xY yc
      try clear AO AP AQ IG II IJ IK Ay Az AA I7 I8 I9 IA
      try clear p2
      obtain⟨kq,yK,rfl,HA,HJ12,bE,HB⟩:=hcut
      cases kq with
      | zero => exact absurd HA.out (by simp [Zap.j2])
      |succ kj12=>
       have H:=HA.out;clear HA;simp only[Zap.j2]at H;have Nz:=Za.mk H;clear H
       go_upto_region 4 with (fail)
       go_cut [8] (fun v8 wc=>∃(kq:Nat) (DK:Bool),v8= .bool DK∧Za (Zap.j3 kq l0 cO wB yK DK aC aA aI bT bU bn bP=some r)∧Za (kq≤kj12)∧Za (wc.heap[BO]? =some (.cells #[.int .i64 aC,(.slice fB aA.length fC),(.slice eY aI.length fe),.int .i64 bT,.int .i64 bU,(.slice jm bn.length jo),.int .i64 bP] 36 (0,0)))∧Za (Below w.heap.size w wc))
       case first=>
        have H:=Nz.out;clear Nz;by_cases c18:(aA.length:Int)>0
        case neg=>
         rw[if_neg c18]at H;have jT:decide (0<(aA.length:Int))=false:=decide_eq_false c18;have qp:decide (0<aA.length)=false:=decide_eq_false (by omega);clear c18
         (first|rw[jT]|(simp only[Zd0,Zd8];rw[jT])|skip)
         have H':=Za.mk H;clear H;obtain⟨Er,Es,MF,MG,MH,RF,RG,Ec,Ed,Mf,Mg,Mh,Rf,Rh⟩:=cz7 bE.out;go_wp2
         go_meet
         case rel=>exact⟨_,(false),eS,H',⟨by have:=HJ2.out;have:=HJ9.out;have:=HJ12.out;first|omega|exact Nat.le_refl _⟩,⟨kM bE.out⟩,⟨bM HB.out⟩⟩
        rw[if_pos c18]at H;have jT:decide (0<(aA.length:Int))=true:=decide_eq_true c18;have qp:decide (0<aA.length)=true:=decide_eq_true (by omega);clear c18
        (first|rw[jT]|(simp only[Zd0,Zd8];rw[jT])|skip)
        obtain⟨LF,A19,H⟩:=bnd H;try dsimp only at H
        have H':=Za.mk H;clear H;obtain⟨zf,zg,Gf,MC,ME,aga,aha,yS,yT,FN,Md,Me,Ye,Yf⟩:=cz7 bE.out
        go_wp2_with (first|(go_at_call 102;(with_reducible refine(Za0.calls kj12 _ _ aA LF _ (cM (Kd.Zae fU.out HB.out)) iD.out A19.out).mono ?_);rintro e w' ⟨rfl,⟨nd,rfl⟩⟩))
        go_meet
        case rel=>exact⟨_,(LF),eS,H',⟨by have:=HJ2.out;have:=HJ9.out;have:=HJ12.out;first|omega|exact Nat.le_refl _⟩,⟨kM bE.out⟩,⟨bM HB.out⟩⟩
       case rest=>
        clear Nz;try clear c1
        try clear p2
        try clear c5
        try clear bY
        try clear kT
        try clear c6
        try clear iQ
        try clear xE
        try clear c7
        try clear c11
        try clear c14
        try clear kS
        try clear c18
        try clear jT
        try clear qp
        try clear nN nO nP nQ nR tJ tK nD nE nG nH nI tu tC
        try clear xe xg xh yX yY Eh Ei wF wG wH yN yO DT DU
        try clear za zb ze Ej El Em En yP yQ yR DV DW DX DY
        try clear zf zg Gf MC ME aga aha yS yT FN Md Me Ye Yf
        try clear Er Es MF MG MH RF RG Ec Ed Mf Mg Mh Rf Rh
        try clear qE qF xw AB AC AJ AL qC qD wQ Ar Au Av Aw
        try clear xx xy xz xA xB yf yg wS wT wU wV wW xY yc
        try clear AO AP AQ IG II IJ IK Ay Az AA I7 I8 I9 IA
        try clear p2
        obtain⟨kq,DK,rfl,HA,HJ16,bE,HB⟩:=hcut
        cases kq with
        | zero => exact absurd HA.out (by simp [Zap.j3])
        |succ kj16=>
         have H:=HA.out;clear HA;simp only[Zap.j3]at H;by_cases c22:aC=0
         case pos=>
          rw[if_pos c22]at H;have vS:(aC==0)=true:=beq_iff_eq.mpr c22;have Lh:(aC !=0)=false:=bne_eq_false_iff_eq.mpr c22;clear c22;by_cases c23:(bn.length:Int)=0
          case neg=>
           rw[if_neg c23]at H;have vT:((bn.length:Int)==0)=false:=beq_eq_false_iff_ne.mpr c23;have F9:((bn.length:Int) !=0)=true:=bne_iff_ne.mpr c23;have QN:¬(bn= []):=fun h_=>c23 (by rw[h_];rfl)
           obtain rfl:=sj H;obtain⟨ava,axa,aya,aza,a0a,a1a,a2a,Yu,Yv,Yw,Yx,Yy,Yz,Y0⟩:=cz7 bE.out;go_wp2;go_ret;exact⟨eR,bM HB.out⟩
          rw[if_pos c23]at H;have vT:((bn.length:Int)==0)=true:=beq_iff_eq.mpr c23;have F9:((bn.length:Int) !=0)=false:=bne_eq_false_iff_eq.mpr c23;clear c23;obtain⟨O7,A24,H⟩:=bnd H;try dsimp only at H
          by_cases c25:O7=true
          case neg=>
           replace c25:=Bool.eq_false_iff.mpr c25;subst c25;replace H:=ifF H;obtain rfl:=sj H;obtain⟨MN,MO,RY,Sa,Sb,jRa,jSa,Mo,Mq,Ru,Rv,Rw,gaa,gba⟩:=cz7 bE.out
           go_wp2_with (first|(go_at_call 103;(with_reducible refine(Zb2.calls kj16 aC _ _ aA _ _ aI bT bU _ _ bn bP false _ (cM (Kd.Zae fU.out HB.out)) iD.out (cM (Kd.Zae fI.out HB.out)) iE.out (cM (Kd.Zae jD.out HB.out)) jA.out A24.out).mono ?_);rintro e w33 ⟨rfl,hb⟩;replace HB:=Za.mk (bS HB.out hb);clear bE;(try clear hb);(try clear hb2);(try clear hk);(try clear hi)))
           go_ret;exact⟨eR,bM HB.out⟩
          subst c25;rw[if_pos rfl]at H;by_cases c26:yK=true
          case pos=>
           subst c26;rw[if_pos rfl]at H;obtain rfl:=sj H;obtain⟨MI,MJ,RN,RO,RP,jIa,jJa,Mi,Mj,Rl,Rm,Rn,fQa,fRa⟩:=cz7 bE.out
           go_wp2_with (first|(go_at_call 103;(with_reducible refine(Zb2.calls kj16 aC _ _ aA _ _ aI bT bU _ _ bn bP true _ (cM (Kd.Zae fU.out HB.out)) iD.out (cM (Kd.Zae fI.out HB.out)) iE.out (cM (Kd.Zae jD.out HB.out)) jA.out A24.out).mono ?_);rintro e w28 ⟨rfl,hb⟩;replace bE:=Za.mk (kB bE.out hb);replace HB:=Za.mk (bS HB.out hb);(try clear hb);(try clear hb2);(try clear hk);(try clear hi);obtain⟨tL,tN,MK,ML,MM,aoa,apa,tF,tH,Mk,Ml,Mm,Ym,Yn⟩:=cz7 bE.out))
           go_ret;exact⟨eR,bM HB.out⟩
          replace c26:=Bool.eq_false_iff.mpr c26;subst c26;replace H:=ifF H;obtain rfl:=sj H;obtain⟨aqa,ara,jKa,jLa,jMa,jNa,jOa,Yo,Yp,fSa,fTa,fUa,fVa,fWa⟩:=cz7 bE.out
          go_wp2_with (first|(go_at_call 103;(with_reducible refine(Zb2.calls kj16 aC _ _ aA _ _ aI bT bU _ _ bn bP true _ (cM (Kd.Zae fU.out HB.out)) iD.out (cM (Kd.Zae fI.out HB.out)) iE.out (cM (Kd.Zae jD.out HB.out)) jA.out A24.out).mono ?_);rintro e w31 ⟨rfl,hb⟩;replace HB:=Za.mk (bS HB.out hb);clear bE;(try clear hb);(try clear hb2);(try clear hk);(try clear hi)))
          go_ret;exact⟨eR,bM HB.out⟩
         rw[if_neg c22]at H;have vS:(aC==0)=false:=beq_eq_false_iff_ne.mpr c22;have Lh:(aC !=0)=true:=bne_iff_ne.mpr c22;by_cases c35:aC=1
         case pos=>
          rw[if_pos c35]at H;have Li:(aC==1)=true:=beq_iff_eq.mpr c35;have Xw:(aC !=1)=false:=bne_eq_false_iff_eq.mpr c35;clear c35;by_cases c36:(bn.length:Int)=0
          case neg=>
           rw[if_neg c36]at H;have QP:((bn.length:Int)==0)=false:=beq_eq_false_iff_ne.mpr c36;have Xx:((bn.length:Int) !=0)=true:=bne_iff_ne.mpr c36;have exa:¬(bn= []):=fun h_=>c36 (by rw[h_];rfl)
           obtain rfl:=sj H;obtain⟨jXa,jYa,kaa,kba,kca,kda,kea,gga,gha,gia,gja,gka,gla,gma⟩:=cz7 bE.out;go_wp2;go_ret;exact⟨eR,bM HB.out⟩
          rw[if_pos c36]at H;have QP:((bn.length:Int)==0)=true:=beq_iff_eq.mpr c36;have Xx:((bn.length:Int) !=0)=false:=bne_eq_false_iff_eq.mpr c36;clear c36;by_cases c37:wB=true
          case pos=>
           subst c37;rw[if_pos rfl]at H;obtain rfl:=sj H;obtain⟨Sg,Si,a8a,a9a,aAa,aBa,aCa,Rz,R3,Y6,Y7,Y8,Y9,YA⟩:=cz7 bE.out;go_wp2;go_ret;exact⟨eR,bM HB.out⟩
          replace c37:=Bool.eq_false_iff.mpr c37;subst c37;replace H:=ifF H;obtain rfl:=sj H;obtain⟨aDa,aEa,aFa,aGa,aHa,jVa,jWa,YB,YC,YD,YE,YF,gea,gfa⟩:=cz7 bE.out;go_wp2;go_ret;exact⟨eR,bM HB.out⟩
         rw[if_neg c35]at H;have Li:(aC==1)=false:=beq_eq_false_iff_ne.mpr c35;have Xw:(aC !=1)=true:=bne_iff_ne.mpr c35;by_cases c41:aC=2
         case pos=>
          rw[if_pos c41]at H;have X0:(aC==2)=true:=beq_iff_eq.mpr c41;have X3:(aC !=2)=false:=bne_eq_false_iff_eq.mpr c41;clear c41;by_cases c42:wB=true
          case neg=>
           replace c42:=Bool.eq_false_iff.mpr c42;subst c42;replace H:=ifF H;obtain rfl:=sj H;obtain⟨kta,kua,kva,kwa,kxa,kya,kza,g2a,g3a,g4a,g5a,g6a,g7a,g8a⟩:=cz7 bE.out;go_wp2;go_ret;exact⟨eR,bM HB.out⟩
          subst c42;rw[if_pos rfl]at H;by_cases c43:DK=true
          case neg=>
           replace c43:=Bool.eq_false_iff.mpr c43;subst c43;replace H:=ifF H;obtain rfl:=sj H;obtain⟨kma,kna,koa,kpa,kqa,kra,ksa,gva,gwa,gxa,gya,gza,g0a,g1a⟩:=cz7 bE.out;go_wp2;go_ret;exact⟨eR,bM HB.out⟩
          subst c43;rw[if_pos rfl]at H;obtain⟨O8,A44,H⟩:=bnd H;try dsimp only at H
          obtain rfl:=sj H;obtain⟨Gm,Gn,Gp,Gq,Gr,kfa,kga,FU,FV,FW,FX,FY,gna,goa⟩:=cz7 bE.out
          go_wp2_with (first|(go_at_call 104;(with_reducible refine(Zbf.calls kj16 aC _ _ aA _ _ aI bT bU _ _ bn bP O8 _ (cM (Kd.Zae fU.out HB.out)) iD.out (cM (Kd.Zae fI.out HB.out)) iE.out (cM (Kd.Zae jD.out HB.out)) jA.out A44.out).mono ?_);rintro e w46 ⟨rfl,hb⟩;replace HB:=Za.mk (bS HB.out hb);clear bE;(try clear hb);(try clear hb2);(try clear hk);(try clear hi)))
          go_ret;exact⟨eR,bM HB.out⟩
         rw[if_neg c41]at H;have X0:(aC==2)=false:=beq_eq_false_iff_ne.mpr c41;have X3:(aC !=2)=true:=bne_iff_ne.mpr c41;by_cases c49:aC=3
         case pos=>
          rw[if_pos c49]at H;have X4:(aC==3)=true:=beq_iff_eq.mpr c49;have X5:(aC !=3)=false:=bne_eq_false_iff_eq.mpr c49;clear c49;by_cases c50:(bn.length:Int)=0
          case neg=>
           rw[if_neg c50]at H;have X6:((bn.length:Int)==0)=false:=beq_eq_false_iff_ne.mpr c50;have X7:((bn.length:Int) !=0)=true:=bne_iff_ne.mpr c50;have eya:¬(bn= []):=fun h_=>c50 (by rw[h_];rfl)
           obtain rfl:=sj H;obtain⟨kGa,kHa,kIa,kJa,kKa,kLa,kMa,gPa,gQa,gRa,gSa,gTa,gUa,gVa⟩:=cz7 bE.out;go_wp2;go_ret;exact⟨eR,bM HB.out⟩
          rw[if_pos c50]at H;have X6:((bn.length:Int)==0)=true:=beq_iff_eq.mpr c50;have X7:((bn.length:Int) !=0)=false:=bne_eq_false_iff_eq.mpr c50;clear c50;by_cases c51:wB=true
          case neg=>
           replace c51:=Bool.eq_false_iff.mpr c51;subst c51;replace H:=ifF H;obtain rfl:=sj H;obtain⟨k9a,kAa,kBa,kCa,kDa,kEa,kFa,gIa,gJa,gKa,gLa,gMa,gNa,gOa⟩:=cz7 bE.out;go_wp2;go_ret;exact⟨eR,bM HB.out⟩
          subst c51;rw[if_pos rfl]at H;by_cases c52:DK=true
          case pos=>
           subst c52;rw[if_pos rfl]at H;obtain rfl:=sj H;obtain⟨Sj,Sk,Sl,Sm,Sn,k0a,k1a,R4,R5,R6,R7,R8,g9a,gAa⟩:=cz7 bE.out;go_wp2;go_ret;exact⟨eR,bM HB.out⟩
          replace c52:=Bool.eq_false_iff.mpr c52;subst c52;replace H:=ifF H;obtain rfl:=sj H;obtain⟨k2a,k3a,k4a,k5a,k6a,k7a,k8a,gBa,gCa,gDa,gEa,gFa,gGa,gHa⟩:=cz7 bE.out;go_wp2;go_ret;exact⟨eR,bM HB.out⟩
         rw[if_neg c49]at H;have X4:(aC==3)=false:=beq_eq_false_iff_ne.mpr c49;have X5:(aC !=3)=true:=bne_iff_ne.mpr c49;by_cases c57:aC=4
         case pos=>
          rw[if_pos c57]at H;have X8:(aC==4)=true:=beq_iff_eq.mpr c57;have X9:(aC !=4)=false:=bne_eq_false_iff_eq.mpr c57;clear c57;by_cases c58:(bn.length:Int)=0
          case neg=>
           rw[if_neg c58]at H;have QQ:((bn.length:Int)==0)=false:=beq_eq_false_iff_ne.mpr c58;have QR:((bn.length:Int) !=0)=true:=bne_iff_ne.mpr c58;have e1a:¬(bn= []):=fun h_=>c58 (by rw[h_];rfl)
           obtain rfl:=sj H;obtain⟨lGa,lHa,lIa,lJa,lKa,lLa,lMa,ika,ila,ima,ina,ioa,ipa,iqa⟩:=cz7 bE.out;go_wp2;go_ret;exact⟨eR,bM HB.out⟩
          rw[if_pos c58]at H;have QQ:((bn.length:Int)==0)=true:=beq_iff_eq.mpr c58;have QR:((bn.length:Int) !=0)=false:=bne_eq_false_iff_eq.mpr c58;clear c58;obtain⟨O9,A59,H⟩:=bnd H;try dsimp only at H
          by_cases c60:O9=true
          case neg=>
           replace c60:=Bool.eq_false_iff.mpr c60;subst c60;replace H:=ifF H;obtain rfl:=sj H;obtain⟨l9a,lAa,lBa,lCa,lDa,lEa,lFa,ica,ida,iea,ifa,iga,iia,ija⟩:=cz7 bE.out
           go_wp2_with (first|(go_at_call 103;(with_reducible refine(Zb2.calls kj16 aC _ _ aA _ _ aI bT bU _ _ bn bP false _ (cM (Kd.Zae fU.out HB.out)) iD.out (cM (Kd.Zae fI.out HB.out)) iE.out (cM (Kd.Zae jD.out HB.out)) jA.out A59.out).mono ?_);rintro e w76 ⟨rfl,hb⟩;replace HB:=Za.mk (bS HB.out hb);clear bE;(try clear hb);(try clear hb2);(try clear hk);(try clear hi)))
           go_ret;exact⟨eR,bM HB.out⟩
          subst c60;rw[if_pos rfl]at H;by_cases c61:yK=true
          case neg=>
           replace c61:=Bool.eq_false_iff.mpr c61;subst c61;replace H:=ifF H;obtain rfl:=sj H;obtain⟨aNa,aOa,aPa,aQa,aRa,aSa,aTa,YL,YM,YN,YO,YP,YQ,YR⟩:=cz7 bE.out
           go_wp2_with (first|(go_at_call 103;(with_reducible refine(Zb2.calls kj16 aC _ _ aA _ _ aI bT bU _ _ bn bP true _ (cM (Kd.Zae fU.out HB.out)) iD.out (cM (Kd.Zae fI.out HB.out)) iE.out (cM (Kd.Zae jD.out HB.out)) jA.out A59.out).mono ?_);rintro e w74 ⟨rfl,hb⟩;replace HB:=Za.mk (bS HB.out hb);clear bE;(try clear hb);(try clear hb2);(try clear hk);(try clear hi)))
           go_ret;exact⟨eR,bM HB.out⟩
          subst c61;rw[if_pos rfl]at H;obtain⟨XA,H⟩:=ifT H;obtain⟨e7a,H⟩:=ifT H;obtain⟨OA,A64,H⟩:=bnd H;try dsimp only at H
          by_cases c65:OA=true
          case neg=>
           replace c65:=Bool.eq_false_iff.mpr c65;subst c65;replace H:=ifF H;obtain rfl:=sj H;obtain⟨lva,lwa,lxa,lya,lza,l0a,l1a,hMa,hNa,hOa,hPa,hQa,hRa,hSa⟩:=cz7 bE.out
           go_wp2_with (first|(go_at_call 103;(with_reducible refine(Zb2.calls kj16 aC _ _ aA _ _ aI bT bU _ _ bn bP true _ (cM (Kd.Zae fU.out HB.out)) iD.out (cM (Kd.Zae fI.out HB.out)) iE.out (cM (Kd.Zae jD.out HB.out)) jA.out A59.out).mono ?_);rintro e w71 ⟨rfl,hb⟩;replace bE:=Za.mk (kB bE.out hb);replace HB:=Za.mk (bS HB.out hb);(try clear hb);(try clear hb2);(try clear hk);(try clear hi);obtain⟨l2a,l3a,l4a,l5a,l6a,l7a,l8a,hTa,hUa,hVa,hXa,hYa,iaa,iba⟩:=cz7 bE.out;have zw:0≤(bP:Int):=odt;have zN:bP<(l0.length:Int):=odt;obtain⟨Xd,TB,TW,NI,uO,uz,ug⟩:=Zft HR0.out bP zw zN;cases NI;replace uO:=hB HB.out uO;have Ey:=Za.mk ug;have Eu:=Za.mk uz;clear ug uz;replace zw:=eq_true zw;replace zN:=eq_true zN)|(go_at_call 105;(with_reducible refine(Zbg.calls kj16 _ _ (Zda l0 bP) false _ (cM (Kd.Zae Ey.out HB.out)) Eu.out A64.out).mono ?_);rintro e w' ⟨rfl,⟨nd,rfl⟩⟩))
           go_ret;exact⟨eR,bM HB.out⟩
          subst c65;rw[if_pos rfl]at H;obtain⟨OB,A66,H⟩:=bnd H;try dsimp only at H
          obtain rfl:=sj H;obtain⟨lca,lda,lea,lfa,lga,lha,lia,hwa,h0a,h2a,h3a,h4a,h5a,h6a⟩:=cz7 bE.out
          go_wp2_with (first|(go_at_call 103;(with_reducible refine(Zb2.calls kj16 aC _ _ aA _ _ aI bT bU _ _ bn bP true _ (cM (Kd.Zae fU.out HB.out)) iD.out (cM (Kd.Zae fI.out HB.out)) iE.out (cM (Kd.Zae jD.out HB.out)) jA.out A59.out).mono ?_);rintro e w68 ⟨rfl,hb⟩;replace bE:=Za.mk (kB bE.out hb);replace HB:=Za.mk (bS HB.out hb);(try clear hb);(try clear hb2);(try clear hk);(try clear hi);obtain⟨loa,lpa,lqa,lra,lsa,lta,lua,hDa,hFa,hGa,hHa,hIa,hJa,hLa⟩:=cz7 bE.out;have zw:0≤(bP:Int):=odt;have zN:bP<(l0.length:Int):=odt;obtain⟨Xd,TB,TW,NI,uO,uz,ug⟩:=Zft HR0.out bP zw zN;cases NI;replace uO:=hB HB.out uO;have Ey:=Za.mk ug;have Eu:=Za.mk uz;clear ug uz;replace zw:=eq_true zw;replace zN:=eq_true zN)|(go_at_call 105;(with_reducible refine(Zbg.calls kj16 _ _ (Zda l0 bP) true _ (cM (Kd.Zae Ey.out HB.out)) Eu.out A64.out).mono ?_);rintro e w' ⟨rfl,⟨nd,rfl⟩⟩)|(go_at_call 49;(with_reducible refine(Zbj.calls kj16 _ _ aA bP OB _ (cM (Kd.Zae fU.out (bM HB.out))) iD.out A66.out).mono ?_);rintro e w' ⟨rfl,⟨nd,rfl⟩⟩))
          go_ret;exact⟨eR,bM HB.out⟩
         rw[if_neg c57]at H;have X8:(aC==4)=false:=beq_eq_false_iff_ne.mpr c57;have X9:(aC !=4)=true:=bne_iff_ne.mpr c57;by_cases c78:aC=5
         case neg=>
          rw[if_neg c78]at H;have XB:(aC==5)=false:=beq_eq_false_iff_ne.mpr c78;have XC:(aC !=5)=true:=bne_iff_ne.mpr c78;by_cases c92:(bn.length:Int)=0
          case neg=>
           rw[if_neg c92]at H;have XF:((bn.length:Int)==0)=false:=beq_eq_false_iff_ne.mpr c92;have XG:((bn.length:Int) !=0)=true:=bne_iff_ne.mpr c92;have eDa:¬(bn= []):=fun h_=>c92 (by rw[h_];rfl)
           obtain rfl:=sj H;obtain⟨mPa,mQa,mRa,mSa,mTa,mUa,mVa,jta,jua,jva,jwa,jxa,jya,jza⟩:=cz7 bE.out;go_wp2;go_ret;exact⟨eR,bM HB.out⟩
          rw[if_pos c92]at H;have XF:((bn.length:Int)==0)=true:=beq_iff_eq.mpr c92;have XG:((bn.length:Int) !=0)=false:=bne_eq_false_iff_eq.mpr c92;clear c92;by_cases c93:wB=true
          case neg=>
           replace c93:=Bool.eq_false_iff.mpr c93;subst c93;replace H:=ifF H;obtain rfl:=sj H;obtain⟨mIa,mJa,mKa,mLa,mMa,mNa,mOa,jma,jna,joa,jpa,jqa,jra,jsa⟩:=cz7 bE.out;go_wp2;go_ret;exact⟨eR,bM HB.out⟩
          subst c93;rw[if_pos rfl]at H;by_cases c94:(aA.length:Int)≥2
          case neg=>
           rw[if_neg c94]at H;have QS:decide (2≤(aA.length:Int))=false:=decide_eq_false c94;have QT:decide (2≤aA.length)=false:=decide_eq_false (by omega);clear c94;obtain rfl:=sj H;obtain⟨mBa,mCa,mDa,mEa,mFa,mGa,mHa,jfa,jga,jha,jia,jja,jka,jla⟩:=cz7 bE.out;go_wp2;go_ret;exact⟨eR,bM HB.out⟩
          rw[if_pos c94]at H;have QS:decide (2≤(aA.length:Int))=true:=decide_eq_true c94;have QT:decide (2≤aA.length)=true:=decide_eq_true (by omega);clear c94;obtain rfl:=sj H;obtain⟨m4a,m5a,m6a,m7a,m8a,m9a,mAa,iXa,iYa,jaa,jba,jca,jda,jea⟩:=cz7 bE.out;go_wp2;go_ret;exact⟨eR,bM HB.out⟩
         rw[if_pos c78]at H;have XB:(aC==5)=true:=beq_iff_eq.mpr c78;have XC:(aC !=5)=false:=bne_eq_false_iff_eq.mpr c78;clear c78;by_cases c79:(bn.length:Int)=0
         case neg=>
          rw[if_neg c79]at H;have XD:((bn.length:Int)==0)=false:=beq_eq_false_iff_ne.mpr c79;have XE:((bn.length:Int) !=0)=true:=bne_iff_ne.mpr c79;have e8a:¬(bn= []):=fun h_=>c79 (by rw[h_];rfl)
          obtain rfl:=sj H;obtain⟨mxa,mya,mza,m0a,m1a,m2a,m3a,iQa,iRa,iSa,iTa,iUa,iVa,iWa⟩:=cz7 bE.out;go_wp2;go_ret;exact⟨eR,bM HB.out⟩
         rw[if_pos c79]at H;have XD:((bn.length:Int)==0)=true:=beq_iff_eq.mpr c79;have XE:((bn.length:Int) !=0)=false:=bne_eq_false_iff_eq.mpr c79;clear c79;by_cases c80:cO=true
         case neg=>
          replace c80:=Bool.eq_false_iff.mpr c80;subst c80;replace H:=ifF H;obtain rfl:=sj H;obtain⟨mqa,mra,msa,mta,mua,mva,mwa,iJa,iKa,iLa,iMa,iNa,iOa,iPa⟩:=cz7 bE.out;go_wp2;go_ret;exact⟨eR,bM HB.out⟩
         subst c80;rw[if_pos rfl]at H;obtain⟨OC,A81,H⟩:=bnd H;try dsimp only at H
         by_cases c82:OC=true
         case neg=>
          replace c82:=Bool.eq_false_iff.mpr c82;subst c82;replace H:=ifF H;obtain rfl:=sj H;obtain⟨mja,mka,mla,mma,mna,moa,mpa,iCa,iDa,iEa,iFa,iGa,iHa,iIa⟩:=cz7 bE.out
          go_wp2_with (first|(go_at_call 103;(with_reducible refine(Zb2.calls kj16 aC _ _ aA _ _ aI bT bU _ _ bn bP false _ (cM (Kd.Zae fU.out HB.out)) iD.out (cM (Kd.Zae fI.out HB.out)) iE.out (cM (Kd.Zae jD.out HB.out)) jA.out A81.out).mono ?_);rintro e w89 ⟨rfl,hb⟩;replace HB:=Za.mk (bS HB.out hb);clear bE;(try clear hb);(try clear hb2);(try clear hk);(try clear hi)))
          go_ret;exact⟨eR,bM HB.out⟩
         subst c82;rw[if_pos rfl]at H;obtain⟨OD,A83,H⟩:=bnd H;try dsimp only at H
         obtain rfl:=sj H;obtain⟨lUa,lVa,lWa,lXa,lYa,maa,mba,iya,iza,i0a,i1a,i2a,i3a,i4a⟩:=cz7 bE.out
         go_wp2_with (first|(go_at_call 103;(with_reducible refine(Zb2.calls kj16 aC _ _ aA _ _ aI bT bU _ _ bn bP true _ (cM (Kd.Zae fU.out HB.out)) iD.out (cM (Kd.Zae fI.out HB.out)) iE.out (cM (Kd.Zae jD.out HB.out)) jA.out A81.out).mono ?_);rintro e w85 ⟨rfl,hb⟩;replace bE:=Za.mk (kB bE.out hb);replace HB:=Za.mk (bS HB.out hb);(try clear hb);(try clear hb2);(try clear hk);(try clear hi);obtain⟨mca,mda,mea,mfa,mga,mha,mia,i5a,i6a,i7a,i8a,i9a,iAa,iBa⟩:=cz7 bE.out)|(go_at_call 106;(with_reducible refine(Zbv.calls kj16 _ _ l0 aC _ _ aA _ _ aI bT bU _ _ bn bP OD _ (cM (Kd.Zae HR0.out HB.out)) HC0.out (cM (Kd.Zae fU.out HB.out)) iD.out (cM (Kd.Zae fI.out HB.out)) iE.out (cM (Kd.Zae jD.out HB.out)) jA.out A83.out).mono ?_);rintro e w87 ⟨rfl,hb⟩;replace HB:=Za.mk (bS HB.out hb);clear bE;(try clear hb);(try clear hb2);(try clear hk);(try clear hi)))
         go_ret;exact⟨eR,bM HB.out⟩
mutual
def Zaz.j0 : Nat → List Int → Int → Int → Bool → Option (Bool)
 | 0, _, _, _, _ => none
 |k+1,x0,x1,x5,x15=>if x15=true then(some true)else(Zaz.l0 k x0 (wrap64 (x5 - (mx x1 (wrap64 (-x1))))) 0)
def Zaz.l0 : Nat → List Int → Int → Int → Option (Bool)
 | 0, _, _, _ => none
 |k+1,x0,x5,x6=>if x6<(x0.length:Int)then(if 0≤x6 then(if(rd x0 x6)>4398046511104 then(Zaz.j2 k x0 x5 x6 true)else(Zaz.j2 k x0 x5 x6 (decide ((rd x0 x6)<(-4398046511104)))))else(none))else(some false)
def Zaz.j2 : Nat → List Int → Int → Int → Bool → Option (Bool)
 | 0, _, _, _, _ => none
 |k+1,x0,x5,x6,x39=>if x39=true then(some true)else(if 0≤x6 then(if x6<(x0.length:Int)then(if(wrap64 (x5 - (wrap64 ((mx (rd x0 x6) (wrap64 (-(rd x0 x6))))*1048576))))<0 then(some true)else(Zaz.l0 k x0 (wrap64 (x5 - (wrap64 ((mx (rd x0 x6) (wrap64 (-(rd x0 x6))))*1048576)))) (wrap64 (x6+1))))else(none))else(none))
end
def Zaz.f (k:Nat) (l0:List Int) (a1:Int):Option (Bool):=if a1>4611686018427387904 then(Zaz.j0 k l0 a1 4611686018427387904 true)else(Zaz.j0 k l0 a1 4611686018427387904 (decide (a1<(-4611686018427387904))))
set_option maxRecDepth 100000 in
theorem Zaz.calls (k : Nat) (A0 : Option Addr) (c0 : Nat) (l0 : List Int) (a1 : Int) (r : Bool) (w : World) (hr0 : Kd.C (Kd.int .i64) w A0 l0.length l0) (hc0 : l0.length ≤ c0) (h : Zaz.f k l0 a1 = some r) :
  Calls Tryz.prog 76 #[.slice A0 l0.length c0,.int .i64 a1] w fun e w'=>e= .returned (.bool r)∧Below w.heap.size w w':=by
 have HR0:=Za.mk hr0;have HC0:=Za.mk hc0;clear hr0 hc0;have HB:=Za.mk (Below.refl w.heap.size w);have H:(if a1>4611686018427387904 then(Zaz.j0 k l0 a1 4611686018427387904 true)else(Zaz.j0 k l0 a1 4611686018427387904 (decide (a1<(-4611686018427387904)))))=some r:=h;clear h;have HC3:=Za.mk H;clear H;go_enter Tryz.func76,Tryz.ntmps76
 go_upto_region 2 with (fail)
 repeat(go_quiet (fail);go_upto_region 2 with (fail))
 go_cut [15] (fun v15 wc=>∃(kq:Nat) (FD:Bool),v15= .bool FD∧Za (Zaz.j0 kq l0 a1 4611686018427387904 FD=some r)∧Za (kq≤k)∧Za (Below w.heap.size w wc))
 case first=>
  have H:=HC3.out;clear HC3;by_cases c4:a1>4611686018427387904
  case neg=>
   rw[if_neg c4]at H;have dn:decide (4611686018427387904<a1)=false:=decide_eq_false c4;clear c4
   (first|rw[dn]|(simp only[Zd0,Zd8];rw[dn])|skip)
   have H':=Za.mk H;clear H;go_wp2
   repeat(go_quiet (fail);try go_wp2)
   go_meet
   case rel=>exact⟨_,(decide (a1<(-4611686018427387904))),eS,H',⟨by first|omega|exact Nat.le_refl _⟩,⟨bM HB.out⟩⟩
  rw[if_pos c4]at H;have dn:decide (4611686018427387904<a1)=true:=decide_eq_true c4;clear c4
  (first|rw[dn]|(simp only[Zd0,Zd8];rw[dn])|skip)
  have H':=Za.mk H;clear H;go_wp2
  repeat(go_quiet (fail);try go_wp2)
  go_meet
  case rel=>exact⟨_,(true),eS,H',⟨by first|omega|exact Nat.le_refl _⟩,⟨bM HB.out⟩⟩
 case rest=>
  clear HC3;try clear p2
  try clear c4
  try clear dn
  obtain⟨kq,FD,rfl,HA,HJ2,HB⟩:=hcut
  cases kq with
  | zero => exact absurd HA.out (by simp [Zaz.j0])
  |succ kj2=>
   have H:=HA.out;clear HA;simp only[Zaz.j0]at H;by_cases c5:FD=true
   case pos=>
    subst c5;rw[if_pos rfl]at H;obtain rfl:=sj H;go_wp2
    repeat(go_quiet (fail);try go_wp2)
    go_ret;exact⟨eR,bM HB.out⟩
   replace c5:=Bool.eq_false_iff.mpr c5;subst c5;replace H:=ifF H;obtain⟨ji6,hji6⟩:∃j_:Int,(mx a1 (wrap64 (-a1)))=j_:=⟨_,rfl⟩;replace H:(Zaz.l0 kj2 l0 (wrap64 (4611686018427387904 - (ji6))) 0)=some r:=by first|(rw[hji6]at H;exact H)|(simp only[hji6]at H ⊢;exact H)
   have hji6_:(if a1<(wrap64 (-a1))then(wrap64 (-a1))else a1)=ji6:=hji6;have H':=Za.mk H;clear H;go_wp2
   repeat(go_quiet (fail);try go_wp2)
   go_loopg [5,6] kj2 (fun kq v5 v6 w'=>∃(cO:Int) (ae:Int),v5= .int .i64 cO∧v6= .int .i64 ae∧Za (Zaz.l0 kq l0 cO ae=some r)∧Za (kq≤kj2)∧Za (Below w.heap.size w w'))
   case atStart=>exact⟨(wrap64 (4611686018427387904 - (ji6))),(0),(by first|rfl|(simp;done)|(simp only[←hji6]<;>(first|rfl|simp))|(simp[*];done)),eS,H',⟨Nat.le_refl _⟩,⟨bM HB.out⟩⟩
   case round=>
    clear H';try clear p2
    try clear c4
    try clear dn
    try clear c5
    try clear p6
    try clear p2
    obtain⟨cO,ae,rfl,rfl,HA,HK2,HB⟩:=hrel
    cases gk with
    | zero => exact absurd HA.out (by simp [Zaz.l0])
    |succ k2=>
     have H:=HA.out;clear HA;simp only[Zaz.l0]at H;by_cases c7:ae<(l0.length:Int)
     case neg=>
      rw[if_neg c7]at H;have l9:decide (ae<(l0.length:Int))=false:=decide_eq_false c7;clear c7;obtain rfl:=sj H;go_wp2
      repeat(go_quiet (fail);try go_wp2)
      go_ret;exact⟨by first|rfl|(simp[Zdh,Zdi]<;>rfl)|(simp only[←hji6];first|rfl|(simp[Zdh,Zdi]<;>rfl))|(simp[*,Zdh,Zdi]<;>rfl),bM HB.out⟩
     rw[if_pos c7]at H;have l9:decide (ae<(l0.length:Int))=true:=decide_eq_true c7;clear c7;have HC8:=Za.mk H;clear H
     go_upto_region 8 with (fail)
     repeat(go_quiet (fail);go_upto_region 8 with (fail))
     go_cut [39] (fun v39 wc=>∃(kq:Nat) (FI:Bool),v39= .bool FI∧Za (Zaz.j2 kq l0 cO ae FI=some r)∧Za (kq≤k2)∧Za (Below w.heap.size w wc))
     case first=>
      have H:=HC8.out;clear HC8;obtain⟨oN,H⟩:=ifT H
      (first|rw[oN]|(simp only[Zd0,Zd8];rw[oN])|skip)
      by_cases c10:(rd l0 ae)>4398046511104
      case pos=>
       rw[if_pos c10]at H;have lU:decide (4398046511104<(rd l0 ae))=true:=decide_eq_true c10;clear c10;have H':=Za.mk H;clear H;have xL:0≤(ae:Int):=odt;have xM:ae<(l0.length:Int):=odt;obtain⟨QB,rfl,qM⟩:=Kd.Zbz HR0.out ae xL xM;replace qM:=hB HB.out qM;replace xL:=eq_true xL;replace xM:=eq_true xM;go_wp2
       repeat(go_quiet (fail);try go_wp2)
       go_meet
       case rel=>exact⟨_,(true),eS,H',⟨by have:=HJ2.out;have:=HK2.out;first|omega|exact Nat.le_refl _⟩,⟨bM HB.out⟩⟩
      rw[if_neg c10]at H;have lU:decide (4398046511104<(rd l0 ae))=false:=decide_eq_false c10;clear c10;have H':=Za.mk H;clear H;have xL:0≤(ae:Int):=odt;have xM:ae<(l0.length:Int):=odt;obtain⟨QB,rfl,qM⟩:=Kd.Zbz HR0.out ae xL xM;replace qM:=hB HB.out qM;replace xL:=eq_true xL;replace xM:=eq_true xM;have L9:0≤(ae:Int):=odt;have LC:ae<(l0.length:Int):=odt;obtain⟨Xe,e287,EF⟩:=Kd.Zbz HR0.out ae L9 LC;obtain rfl:QB=Xe:=(by injection e287);replace EF:=hB HB.out EF;replace L9:=eq_true L9;replace LC:=eq_true LC;go_wp2
      repeat(go_quiet (fail);try go_wp2)
      go_meet
      case rel=>exact⟨_,(decide ((rd l0 ae)<(-4398046511104))),eS,H',⟨by have:=HJ2.out;have:=HK2.out;first|omega|exact Nat.le_refl _⟩,⟨bM HB.out⟩⟩
     case rest=>
      clear HC8;try clear c1
      try clear p2
      try clear q2
      try clear hx2
      try clear c4
      try clear dn
      try clear c5
      try clear p6
      try clear c7
      try clear l9
      try clear c9
      try clear oN
      try clear c10
      try clear lU
      try clear qM
      try clear EF
      try clear p2
      try clear xL
      try clear L9
      try clear p6
      try clear xM
      try clear LC
      obtain⟨kq,FI,rfl,HA,HJ7,HB⟩:=hcut
      cases kq with
      | zero => exact absurd HA.out (by simp [Zaz.j2])
      |succ kj7=>
       have H:=HA.out;clear HA;simp only[Zaz.j2]at H;by_cases c11:FI=true
       case pos=>
        subst c11;rw[if_pos rfl]at H;obtain rfl:=sj H;go_wp2
        repeat(go_quiet (fail);try go_wp2)
        go_ret;exact⟨by first|rfl|(simp[Zdh,Zdi]<;>rfl)|(simp only[←hji6];first|rfl|(simp[Zdh,Zdi]<;>rfl))|(simp[*,Zdh,Zdi]<;>rfl),bM HB.out⟩
       replace c11:=Bool.eq_false_iff.mpr c11;subst c11;replace H:=ifF H;obtain⟨gL,H⟩:=ifT H;obtain⟨ny,H⟩:=ifT H;obtain⟨jr,hji14⟩:∃j_:Int,(mx (rd l0 ae) (wrap64 (-(rd l0 ae))))=j_:=⟨_,rfl⟩;replace H:(if(wrap64 (cO - (wrap64 ((jr)*1048576))))<0 then(some true)else(Zaz.l0 kj7 l0 (wrap64 (cO - (wrap64 ((jr)*1048576)))) (wrap64 (ae+1))))=some r:=by first|(rw[hji14]at H;exact H)|(simp only[hji14]at H ⊢;exact H)
       have hji14_:(if(rd l0 ae)<(wrap64 (-(rd l0 ae)))then(wrap64 (-(rd l0 ae)))else(rd l0 ae))=jr:=hji14;by_cases c15:(wrap64 (cO - (wrap64 ((jr)*1048576))))<0
       case pos=>
        rw[if_pos c15]at H;have jf:decide ((wrap64 (cO - (wrap64 ((jr)*1048576))))<0)=true:=decide_eq_true c15;clear c15;obtain rfl:=sj H;have zx:0≤(ae:Int):=odt;have zO:ae<(l0.length:Int):=odt;obtain⟨KR,rfl,uP⟩:=Kd.Zbz HR0.out ae zx zO;replace uP:=hB HB.out uP;replace zx:=eq_true zx;replace zO:=eq_true zO;have zy:0≤(ae:Int):=odt;have zP:ae<(l0.length:Int):=odt;obtain⟨KS,e289,uQ⟩:=Kd.Zbz HR0.out ae zy zP;obtain rfl:KR=KS:=(by injection e289);replace uQ:=hB HB.out uQ;replace zy:=eq_true zy;replace zP:=eq_true zP;go_wp2
        repeat(go_quiet (fail);try go_wp2)
        go_ret;exact⟨by first|rfl|(simp[Zdh,Zdi]<;>rfl)|(simp only[←hji6,←hji14];first|rfl|(simp[Zdh,Zdi]<;>rfl))|(simp[*,Zdh,Zdi]<;>rfl),bM HB.out⟩
       rw[if_neg c15]at H;have jf:decide ((wrap64 (cO - (wrap64 ((jr)*1048576))))<0)=false:=decide_eq_false c15;clear c15;have H':=Za.mk H;clear H;have zx:0≤(ae:Int):=odt;have zO:ae<(l0.length:Int):=odt;obtain⟨KR,rfl,uP⟩:=Kd.Zbz HR0.out ae zx zO;replace uP:=hB HB.out uP;replace zx:=eq_true zx;replace zO:=eq_true zO;have zy:0≤(ae:Int):=odt;have zP:ae<(l0.length:Int):=odt;obtain⟨KS,e289,uQ⟩:=Kd.Zbz HR0.out ae zy zP;obtain rfl:KR=KS:=(by injection e289);replace uQ:=hB HB.out uQ;replace zy:=eq_true zy;replace zP:=eq_true zP;go_wp2
       repeat(go_quiet (fail);try go_wp2)
       go_roundg kj7
       case measure=>have:=HJ2.out;have:=HK2.out;have:=HJ7.out;omega
       case rel=>exact⟨(wrap64 (cO - (wrap64 ((jr)*1048576)))),(wrap64 (ae+1)),(by first|rfl|(simp;done)|(simp only[←hji14]<;>(first|rfl|simp))|(simp[*];done)),eS,H',⟨by have:=HJ2.out;have:=HK2.out;have:=HJ7.out;omega⟩,⟨bM HB.out⟩⟩
end Go.Proofs.YtdpieallpbllkaaGreat.P
