/- Proved: what each function of the program that the statements of this seat reach comes to, for whatever memory and arguments it is called with (on condition that its plain text tells a result). -/
import Derived.Test.YtdpieallpbllkaaGreatZ1
import Derived.Test.YtdpieallpbllkaaGreatZ3
import Derived.Test.YtdpieallpbllkaaGreatZ2
set_option linter.unusedSimpArgs false
set_option linter.unusedVariables false
set_option maxHeartbeats 8000000
namespace Go.Proofs.YtdpieallpbllkaaGreat.P
open Go.RowKit Go.Proofs.YtdpieallpbllkaaGreatW.PrintWords Go.Proofs.YtdpieallpbllkaaGreatW.PrintLast Go.Proofs.YtdpieallpbllkaaGreatW.PrintMore
attribute [local go_sem] Zcw Zcy Zdg Zdh Zco Zcp Zcx Zcz
def cutR (l:List (List Int)):List (List Int):=(l.take 20).map fun r=>r.take 14
def bRows.f (l:List (List Int)):Option (List (List Int)):=some (cutR l)
mutual
def Zaa.j1 : Nat → List (S55) → List (S36) → Int → List Int → List Int → List (S55) → Int → List Int → List Int → Option ((List (S55)) × (List (S36)) × Int × List Int × List Int)
 | 0, _, _, _, _, _, _, _, _, _ => none
 |k+1,gu,fo,lJ,iL,iM,jH,kR,lK,lL=>Zaa.l1 k 0 gu fo lJ iL iM jH ([]:List (S36)) kR lK lL
def Zaa.l1 : Nat → Int → List (S55) → List (S36) → Int → List Int → List Int → List (S55) → List (S36) → Int → List Int → List Int → Option ((List (S55)) × (List (S36)) × Int × List Int × List Int)
 | 0, _, _, _, _, _, _, _, _, _, _, _ => none
 |k+1,x6,gu,fo,lJ,iL,iM,jH,rV,kR,lK,lL=>if x6<(fo.length:Int)then(Zaa.j3 k x6 (decide (x6<16)) gu fo lJ iL iM jH rV kR lK lL)else(Zaa.j3 k x6 false gu fo lJ iL iM jH rV kR lK lL)
def Zaa.j3 : Nat → Int → Bool → List (S55) → List (S36) → Int → List Int → List Int → List (S55) → List (S36) → Int → List Int → List Int → Option ((List (S55)) × (List (S36)) × Int × List Int × List Int)
 | 0, _, _, _, _, _, _, _, _, _, _, _, _ => none
 |k+1,x6,x59,gu,fo,lJ,iL,iM,jH,rV,kR,lK,lL=>if x59=true then(if 0≤x6 then(if x6<(fo.length:Int)then(if 0≤(mn (((Zad fo x6).f1).length:Int) 14)then(if(mn (((Zad fo x6).f1).length:Int) 14)≤(((Zad fo x6).f1).length:Int)then(if 0≤(mn (((Zad fo x6).f2).length:Int) 14)then(if(mn (((Zad fo x6).f2).length:Int) 14)≤(((Zad fo x6).f2).length:Int)then((bRows.f ((Zad fo x6).f5)).bind fun t167=>((Zcr.f k ((Zad fo x6).f0) (((Zad fo x6).f1).take ((mn (((Zad fo x6).f1).length:Int) 14):Int).toNat) (((Zad fo x6).f2).take ((mn (((Zad fo x6).f2).length:Int) 14):Int).toNat) ((Zad fo x6).f3) ((Zad fo x6).f4) t167 ((Zad fo x6).f6)).bind fun eY=>(if rV.length<1353245080339 then(Zaa.l1 k (wrap64 (x6+1)) gu fo lJ iL iM jH (rV++ [(⟨eY.1,eY.2.1,eY.2.2.1,eY.2.2.2.1,eY.2.2.2.2.1,eY.2.2.2.2.2.1,eY.2.2.2.2.2.2⟩:S36)]) kR lK lL)else(none))))else(none))else(none))else(none))else(none))else(none))else(none))else((some (([]:List Int):List Int)).bind fun xy=>(if 0≤(mn (iL.length:Int) 14)then(if(mn (iL.length:Int) 14)≤(iL.length:Int)then(if xy.length+(iL.take ((mn (iL.length:Int) 14):Int).toNat).length<17592186044416 then((some (([]:List Int):List Int)).bind fun lX=>(if 0≤(mn (iM.length:Int) 14)then(if(mn (iM.length:Int) 14)≤(iM.length:Int)then(if lX.length+(iM.take ((mn (iM.length:Int) 14):Int).toNat).length<17592186044416 then(some (jH,rV,kR,(xy++(iL.take ((mn (iL.length:Int) 14):Int).toNat)),(lX++(iM.take ((mn (iM.length:Int) 14):Int).toNat))))else(none))else(none))else(none)))else(none))else(none))else(none)))
def Zaa.l0 : Nat → Int → List (S55) → List (S36) → Int → List Int → List Int → List (S55) → Int → List Int → List Int → Option ((List (S55)) × (List (S36)) × Int × List Int × List Int)
 | 0, _, _, _, _, _, _, _, _, _, _ => none
 |k+1,x4,gu,fo,lJ,iL,iM,jH,kR,lK,lL=>if x4<(gu.length:Int)then(if x4<10 then(if 0≤x4 then(if 0≤(mn (((Za9 gu x4).f0).size:Int) 20)then(if(mn (((Za9 gu x4).f0).size:Int) 20)≤(((Za9 gu x4).f0).size:Int)then((some (([]:List (S82)):List (S82))).bind fun qd=>(if 0≤(mn (((Za9 gu x4).f1).length:Int) 12)then(if(mn (((Za9 gu x4).f1).length:Int) 12)≤(((Za9 gu x4).f1).length:Int)then((some (((Za9 gu x4).f1).take ((mn (((Za9 gu x4).f1).length:Int) 12):Int).toNat:List (S82))).bind fun lW=>(if qd.length+lW.length<8796093022208 then(if jH.length<3518437208883 then(Zaa.l0 k (wrap64 (x4+1)) gu fo lJ iL iM (jH++ [(⟨((Za9 gu x4).f0).extract 0 ((mn (((Za9 gu x4).f0).size:Int) 20):Int).toNat,(qd++lW)⟩:S55)]) kR lK lL)else(none))else(none)))else(none))else(none)))else(none))else(none))else(none))else(Zaa.j1 k gu fo lJ iL iM jH kR lK lL))else(Zaa.j1 k gu fo lJ iL iM jH kR lK lL)
end
def Zaa.f (k:Nat) (ag:List (S55)) (aa:List (S36)) (ay:Int) (ak:List Int) (ai:List Int):Option ((List (S55)) × (List (S36)) × Int × List Int × List Int):=Zaa.l0 k 0 ag aa ay ak ai ([]:List (S55)) ay ak ai
def Zaa.T6:Bool × List (List Nat × List Nat):=(true,[([],[]),([0],[0]),([],[]),([2],[2]),([],[]),([4],[4]),([5],[5]),([6],[6]),([3,7],[3,7]),([],[]),([],[]),([10],[10]),([],[]),([12],[12]),([13],[13]),([14],[14]),([11,15],[11,15]),([9,16],[9,16]),([8,17],[8,17]),([18],[18]),([1,19,17],[1,19]),([0,1,2,3,4,5,6,7,8,9,10,11,12,13,14,15,16,17,18,19,20],[]),([21,20,20,0,1,2,3,4,5,6,7,8,9,10,11,12,13,14,15,16,17,18,19,20],[20,21])])
def Zaa.B6:List Nat:= [0,1,0,4,0,16,48,112,252,0,0,1024,0,4096,12288,28672,64512,130560,262140,524284,1048575,2097151,4194303]
theorem Zaa.tab6:rtab .any (opsOf Tryz.f19 6)=Zaa.T6:=by kernel_rfl
theorem Zaa.bits6:waitsOk Zaa.T6.2 Zaa.B6=true:=by kernel_rfl
def Zaa.T17:Bool × List (List Nat × List Nat):=(true,[([],[]),([],[]),([1],[1]),([],[]),([2,3],[2,3]),([4],[4]),([],[]),([6],[6]),([],[]),([7,8],[7,8]),([9],[9]),([10],[10]),([11],[11]),([5,12],[5,12]),([13],[13]),([0,14],[0,14]),([15,15,0,1,2,3,4,5,6,7,8,9,10,11,12,13,14,15],[0,15])])
def Zaa.B17:List Nat:= [0,0,2,0,14,30,0,64,0,448,960,1984,4032,8190,16382,32767,65535]
theorem Zaa.tab17:rtab .any (opsOf Tryz.f19 17)=Zaa.T17:=by kernel_rfl
theorem Zaa.Zh2:waitsOk Zaa.T17.2 Zaa.B17=true:=by kernel_rfl
def Zaa.T19:Bool × List (List Nat × List Nat):=(true,[([],[]),([0],[0]),([],[]),([2],[2]),([3],[3]),([1,4,3],[1,4]),([0,1,2,3,4,5],[]),([6,5,5,0,1,2,3,4,5],[5,6])])
def Zaa.B19:List Nat:= [0,1,0,4,12,31,63,127]
theorem Zaa.tab19:rtab .any (opsOf Tryz.f19 19)=Zaa.T19:=by kernel_rfl
theorem Zaa.bits19:waitsOk Zaa.T19.2 Zaa.B19=true:=by kernel_rfl
set_option maxRecDepth 100000 in
theorem Zaa.calls (k : Nat) (eQ : Option Addr) (eF : Nat) (ag : List (S55)) (aV : Option Addr) (aQ : Nat) (aa : List (S36)) (ay : Int) (bR : Option Addr) (bT : Nat) (ak : List Int) (bK : Option Addr) (bL : Nat) (ai : List Int) (r1 : List (S55)) (r2 : List (S36)) (r3 : Int) (r4 : List Int) (r5 : List Int) (w : World) (mJ : Kd.C k55 w eQ ag.length ag) (mG : ag.length ≤ eF) (eu : Kd.C k36 w aV aa.length aa) (ek : aa.length ≤ aQ) (jW : Kd.C (Kd.int .i64) w bR ak.length ak) (jU : ak.length ≤ bT) (jX : Kd.C (Kd.int .i64) w bK ai.length ai) (jV : ai.length ≤ bL) (h : Zaa.f k ag aa ay ak ai = some (r1, r2, r3, r4, r5)) :
  Calls Tryz.prog 19 #[.agg #[.slice eQ ag.length eF,.slice aV aa.length aQ,.int .i64 ay,.slice bR ak.length bT,.slice bK ai.length bL]] w fun e w'=>∃v0_ v1_ v3_ v4_:Value,e= .returned (.agg #[v0_,v1_,.int .i64 r3,v3_,v4_])∧Kd.S k55 55 w' w.heap.size (fun _=>True) v0_ r1∧Kd.R k36 36 w' w.heap.size (fun k_=>some k_≠(v3_:Value).ownBlock∧some k_≠(v4_:Value).ownBlock) v1_ r2∧Kd.R (Kd.int .i64) 3 w' w.heap.size (fun k_=>some k_≠(v4_:Value).ownBlock) v3_ r4∧Kd.R (Kd.int .i64) 3 w' w.heap.size (fun k_=>some k_≠(v3_:Value).ownBlock) v4_ r5∧Below w.heap.size w w':=by
 have hu28:=Tryz.underlying28;have hu26:=Tryz.underlying26;have hu55:=Tryz.underlying55;have hu36:=Tryz.underlying36;have iP:=Za.mk mJ;have pI:=Za.mk mG;clear mJ mG;have eO:=Za.mk eu;have fC:=Za.mk ek;clear eu ek;have kv:=Za.mk jW;have kr:=Za.mk jU;clear jW jU;have kw:=Za.mk jX;have ku:=Za.mk jV;clear jX jV;have HB:=Za.mk (Below.refl w.heap.size w);have H:(Zaa.l0 k 0 ag aa ay ak ai ([]:List (S55)) ay ak ai)=some (r1,r2,r3,r4,r5):=h;clear h;have HC2:=Za.mk H;clear H;go_enter Tryz.func19,Tryz.ntmps19
 go_upto_block 0 with (first|((with_reducible refine Zar (N:=1) rfl ?_);refine bx 1 #[.slice eQ ag.length eF,.slice aV aa.length aQ,.int .i64 ay,.slice bR ak.length bT,.slice bK ai.length bL] 28 ?_;intro jb hg w3 hbox hb;have bE:=Za.mk (hbox);have GW131:=Za.mk ((gE hg HB.out:w.heap.size≤jb));have Wv:=Za.mk ((gE hg HB.out:w.heap.size≤jb));replace HB:=Za.mk (bS HB.out hb);clear hb hbox hg)|((with_reducible refine Zar (N:=2) rfl ?_);refine bx 2 #[.slice none 0 0,.slice none 0 0,.int .i64 0,.slice none 0 0,.slice none 0 0] 28 ?_;intro eD hg w4 hbox hb;have bH:=Za.mk (hbox);have GW132:=Za.mk ((gE hg HB.out:w.heap.size≤eD));have Ww:=Za.mk ((gE hg HB.out:w.heap.size≤eD));replace HB:=Za.mk (bS HB.out hb);have lg:=Za.mk ((by rw[hg];exact Nat.ne_of_lt (Zc7 (kM bE.out)):jb≠eD));have lh:=Za.mk ((by rw[hg];exact Nat.ne_of_gt (Zc7 (kM bE.out)):eD≠jb));replace bE:=Za.mk (kB bE.out hb);clear hb hbox hg;have oua:=lg.out;have owa:=lh.out;obtain⟨kY,lc,lG,oo,oq,kW,kX,lF,ol,om⟩:=cz5 bE.out)|((with_reducible refine Zar (N:=3) rfl ?_);refine bx 3 #[.slice none 0 0,.slice none 0 0,.int .i64 0,.slice none 0 0,.slice none 0 0] 28 ?_;intro dY hg w7 hbox hb;have aD:=Za.mk (hbox);have GW133:=Za.mk ((gE hg HB.out:w.heap.size≤dY));have Wx:=Za.mk ((gE hg HB.out:w.heap.size≤dY));replace HB:=Za.mk (bS HB.out hb);have gY:=Za.mk ((by rw[hg];exact Nat.ne_of_lt (Zc7 (kM bE.out)):jb≠dY));have jr:=Za.mk ((by rw[hg];exact Nat.ne_of_gt (Zc7 (kM bE.out)):dY≠jb));replace bE:=Za.mk (kB bE.out hb);have jQ:=Za.mk ((by rw[hg];exact Nat.ne_of_lt (Zc7 (kM bH.out)):eD≠dY));have uj:=Za.mk ((by rw[hg];exact Nat.ne_of_gt (Zc7 (kM bH.out)):dY≠eD));replace bH:=Za.mk (kB bH.out hb);clear hb hbox hg;have ova:=jr.out;have oxa:=gY.out;have dsa:=uj.out;have dta:=jQ.out;obtain⟨o9,oC,oD,qf,qg,o6,o7,o8,pY,qc⟩:=cz5 aD.out))
 (try simp only[Act.put,List.setIfInBounds_toArray,List.set_cons_zero,List.set_cons_succ])
 go_cut [] (fun wc=>∃(kq:Nat) (bg:List (S55)) (dX:Value),Za (Zaa.j1 kq ag aa ay ak ai bg ay ak ai=some (r1,r2,r3,r4,r5))∧Za (kq≤k)∧Za (Kd.S k55 55 wc w.heap.size (fun _=>True) dX bg)∧Za (wc.heap[jb]? =some (.cells #[(.slice eQ ag.length eF),(.slice aV aa.length aQ),.int .i64 ay,(.slice bR ak.length bT),(.slice bK ai.length bL)] 28 (0,0)))∧Za (wc.heap[eD]? =some (.cells #[(.slice none 0 0),(.slice none 0 0),.int .i64 0,(.slice none 0 0),(.slice none 0 0)] 28 (0,0)))∧Za (wc.heap[dY]? =some (.cells #[dX,(.slice none 0 0),.int .i64 ay,(.slice bR ak.length bT),(.slice bK ai.length bL)] 28 (0,0)))∧Za (Below w.heap.size w wc))
 case first=>
  have H:=HC2.out;clear HC2;have H':=Za.mk H;clear H;go_wp2
  go_loopg [4] k (fun kq v4 w'=>∃(ah:Int) (bg:List (S55)) (dX:Value),v4= .int .i64 ah∧Za (Zaa.l0 kq ah ag aa ay ak ai bg ay ak ai=some (r1,r2,r3,r4,r5))∧Za (kq≤k)∧Za (Kd.S k55 55 w' w.heap.size (fun _=>True) dX bg)∧Za (w'.heap[jb]? =some (.cells #[(.slice eQ ag.length eF),(.slice aV aa.length aQ),.int .i64 ay,(.slice bR ak.length bT),(.slice bK ai.length bL)] 28 (0,0)))∧Za (w'.heap[eD]? =some (.cells #[(.slice none 0 0),(.slice none 0 0),.int .i64 0,(.slice none 0 0),(.slice none 0 0)] 28 (0,0)))∧Za (w'.heap[dY]? =some (.cells #[dX,(.slice none 0 0),.int .i64 ay,(.slice bR ak.length bT),(.slice bK ai.length bL)] 28 (0,0)))∧Za (Below w.heap.size w w'))
  case atStart=>exact⟨(0),(([]:List (S55))),(.slice none 0 0),eS,H',⟨Nat.le_refl _⟩,⟨by first|exact Kd.S_nil _ _ _ _ _|exact Kd.N_nil _ _ _ _ _|exact Kd.V_nil _ _ _ _ _|exact Kd.Q_nil _ _ _ _ _|exact Kd.R_nil _ _ _ _ _⟩,⟨by(with_reducible repeat(first|exact bE.out|refine Zcv ?_ gY.out _|refine Zab ?_ _|refine Zai ?_|refine Zah ?_ _))⟩,⟨by(with_reducible repeat(first|exact bH.out|refine Zcv ?_ jQ.out _|refine Zab ?_ _|refine Zai ?_|refine Zah ?_ _))⟩,⟨by(with_reducible repeat(first|refine Zah ?_ _|refine Zai ?_|refine Zab ?_ _));refine Zaz (cs:=#[.slice none 0 0,.slice none 0 0,.int .i64 ay,.slice bR ak.length bT,.slice none 0 0]) ?_ 4 _ rfl;(with_reducible repeat(first|refine Zah ?_ _|refine Zai ?_|refine Zab ?_ _));refine Zaz (cs:=#[.slice none 0 0,.slice none 0 0,.int .i64 ay,.slice none 0 0,.slice none 0 0]) ?_ 3 _ rfl;(with_reducible repeat(first|refine Zah ?_ _|refine Zai ?_|refine Zab ?_ _));refine Zaz (cs:=#[.slice none 0 0,.slice none 0 0,.int .i64 0,.slice none 0 0,.slice none 0 0]) ?_ 2 _ rfl;(with_reducible repeat(first|refine Zah ?_ _|refine Zai ?_|refine Zab ?_ _));refine Zaz (cs:=#[.slice none 0 0,.slice none 0 0,.int .i64 0,.slice none 0 0,.slice none 0 0]) ?_ 1 _ rfl;(with_reducible repeat(first|refine Zah ?_ _|refine Zai ?_|refine Zab ?_ _));refine Zaz (cs:=#[.slice none 0 0,.slice none 0 0,.int .i64 0,.slice none 0 0,.slice none 0 0]) ?_ 0 _ rfl;(with_reducible repeat(first|refine Zah ?_ _|refine Zai ?_|refine Zab ?_ _));exact aD.out⟩,⟨bM HB.out⟩⟩
  case round=>
   clear H';try clear c1
   try clear p2
   try clear c5
   try clear c8
   try clear c9
   try clear o9 oC oD qf qg o6 o7 o8 pY qc
   try clear kY lc lG oo oq kW kX lF ol om
   obtain⟨ah,bg,dX,rfl,HA,HK1,aT,bE,bH,aD,HB⟩:=hrel
   cases gk with
   | zero => exact absurd HA.out (by simp [Zaa.l0])
   |succ k1=>
    have H:=HA.out;clear HA;simp only[Zaa.l0]at H;by_cases c11:ah<(ag.length:Int)
    case neg=>
     rw[if_neg c11]at H;have oz:decide (ah<(ag.length:Int))=false:=decide_eq_false c11;clear c11
     (first|rw[oz]|(simp only[Zd5,Zeo];rw[oz])|skip)
     have H':=Za.mk H;clear H;have gwa:=lg.out;have gKa:=lh.out;have gxa:=gY.out;have gLa:=jr.out;obtain⟨GJ,GK,GL,GM,GN,Gs,Gt,Gu,Gv,Gw⟩:=cz5 bE.out;go_wp2
     go_meet
     case rel=>exact⟨_,(bg),(dX),H',⟨by have:=HK1.out;first|omega|exact Nat.le_refl _⟩,⟨sM aT.out⟩,⟨by(with_reducible repeat(first|refine Zah ?_ _|refine Zai ?_|refine Zab ?_ _));exact bE.out⟩,⟨by(with_reducible repeat(first|refine Zah ?_ _|refine Zai ?_|refine Zab ?_ _));exact bH.out⟩,⟨by(with_reducible repeat(first|refine Zah ?_ _|refine Zai ?_|refine Zab ?_ _));exact aD.out⟩,⟨bM HB.out⟩⟩
    rw[if_pos c11]at H;have oz:decide (ah<(ag.length:Int))=true:=decide_eq_true c11;clear c11
    (first|rw[oz]|(simp only[Zd5,Zeo];rw[oz])|skip)
    by_cases c12:ah<10
    case neg=>
     rw[if_neg c12]at H;have iV:decide (ah<10)=false:=decide_eq_false c12;clear c12;have H':=Za.mk H;clear H;have gua:=lg.out;have gIa:=lh.out;have gva:=gY.out;have gJa:=jr.out;obtain⟨G9,GA,GD,GH,GI,Gm,Gn,Gp,Gq,Gr⟩:=cz5 bE.out;go_wp2
     go_meet
     case rel=>exact⟨_,(bg),(dX),H',⟨by have:=HK1.out;first|omega|exact Nat.le_refl _⟩,⟨sM aT.out⟩,⟨by(with_reducible repeat(first|refine Zah ?_ _|refine Zai ?_|refine Zab ?_ _));exact bE.out⟩,⟨by(with_reducible repeat(first|refine Zah ?_ _|refine Zai ?_|refine Zab ?_ _));exact bH.out⟩,⟨by(with_reducible repeat(first|refine Zah ?_ _|refine Zai ?_|refine Zab ?_ _));exact aD.out⟩,⟨bM HB.out⟩⟩
    rw[if_pos c12]at H;have iV:decide (ah<10)=true:=decide_eq_true c12;clear c12;obtain⟨o5,H⟩:=ifT H;obtain⟨jD,hji14⟩:∃j_:Int,(mn (((Za9 ag ah).f0).size:Int) 20)=j_:=⟨_,rfl⟩;replace H:(if 0≤(jD)then(if(jD)≤(((Za9 ag ah).f0).size:Int)then((some (([]:List (S82)):List (S82))).bind fun qd=>(if 0≤(mn (((Za9 ag ah).f1).length:Int) 12)then(if(mn (((Za9 ag ah).f1).length:Int) 12)≤(((Za9 ag ah).f1).length:Int)then((some (((Za9 ag ah).f1).take ((mn (((Za9 ag ah).f1).length:Int) 12):Int).toNat:List (S82))).bind fun lW=>(if qd.length+lW.length<8796093022208 then(if bg.length<3518437208883 then(Zaa.l0 k1 (wrap64 (ah+1)) ag aa ay ak ai (bg++ [(⟨((Za9 ag ah).f0).extract 0 ((jD):Int).toNat,(qd++lW)⟩:S55)]) ay ak ai)else(none))else(none)))else(none))else(none)))else(none))else(none))=some (r1,r2,r3,r4,r5):=by first|(rw[hji14]at H;exact H)|(simp only[hji14]at H ⊢;exact H)
    have hji14_:(if 20<(((Za9 ag ah).f0).size:Int)then 20 else(((Za9 ag ah).f0).size:Int))=jD:=hji14;obtain⟨c15,H⟩:=ifP H;have jo:=eq_true c15;have wT:decide (0≤(jD))=true:=decide_eq_true c15;clear c15;obtain⟨c16,H⟩:=ifP H;have um:=eq_true c16;have LB:decide ((jD)≤(((Za9 ag ah).f0).size:Int))=true:=decide_eq_true c16;clear c16;obtain⟨qd,C8⟩:∃y_:List (S82),y_=(([]:List (S82))):=⟨_,rfl⟩;replace H:(if 0≤(mn (((Za9 ag ah).f1).length:Int) 12)then(if(mn (((Za9 ag ah).f1).length:Int) 12)≤(((Za9 ag ah).f1).length:Int)then((some (((Za9 ag ah).f1).take ((mn (((Za9 ag ah).f1).length:Int) 12):Int).toNat:List (S82))).bind fun lW=>(if qd.length+lW.length<8796093022208 then(if bg.length<3518437208883 then(Zaa.l0 k1 (wrap64 (ah+1)) ag aa ay ak ai (bg++ [(⟨((Za9 ag ah).f0).extract 0 ((jD):Int).toNat,(qd++lW)⟩:S55)]) ay ak ai)else(none))else(none)))else(none))else(none))=some (r1,r2,r3,r4,r5):=by first|(rw[C8];with_reducible exact H)|(have H2_:=(Option.bind_some _ _).symm.trans H;rw[C8];with_reducible exact H2_)|(have H2_:=(Option.bind_some _ _).symm.trans H;with_reducible exact H2_)|with_reducible exact H|(rw[C8];exact H)|exact H
    have Q9:=Za.mk C8;clear C8;obtain⟨sK,hji17⟩:∃j_:Int,(mn (((Za9 ag ah).f1).length:Int) 12)=j_:=⟨_,rfl⟩;replace H:(if 0≤(sK)then(if(sK)≤(((Za9 ag ah).f1).length:Int)then((some (((Za9 ag ah).f1).take ((sK):Int).toNat:List (S82))).bind fun lW=>(if qd.length+lW.length<8796093022208 then(if bg.length<3518437208883 then(Zaa.l0 k1 (wrap64 (ah+1)) ag aa ay ak ai (bg++ [(⟨((Za9 ag ah).f0).extract 0 ((jD):Int).toNat,(qd++lW)⟩:S55)]) ay ak ai)else(none))else(none)))else(none))else(none))=some (r1,r2,r3,r4,r5):=by first|(rw[hji17]at H;exact H)|(simp only[hji17]at H ⊢;exact H)
    have hji17_:(if 12<(((Za9 ag ah).f1).length:Int)then 12 else(((Za9 ag ah).f1).length:Int))=sK:=hji17;obtain⟨c18,H⟩:=ifP H;have kz:=eq_true c18;have qM:decide (0≤(sK))=true:=decide_eq_true c18;clear c18;obtain⟨c19,H⟩:=ifP H;have Cm:=eq_true c19;have LD:decide ((sK)≤(((Za9 ag ah).f1).length:Int))=true:=decide_eq_true c19;clear c19;obtain⟨lW,C9⟩:∃y_:List (S82),y_=(((Za9 ag ah).f1).take ((sK):Int).toNat):=⟨_,rfl⟩;replace H:(if qd.length+lW.length<8796093022208 then(if bg.length<3518437208883 then(Zaa.l0 k1 (wrap64 (ah+1)) ag aa ay ak ai (bg++ [(⟨((Za9 ag ah).f0).extract 0 ((jD):Int).toNat,(qd++lW)⟩:S55)]) ay ak ai)else(none))else(none))=some (r1,r2,r3,r4,r5):=by first|(rw[C9];with_reducible exact H)|(have H2_:=(Option.bind_some _ _).symm.trans H;rw[C9];with_reducible exact H2_)|(have H2_:=(Option.bind_some _ _).symm.trans H;with_reducible exact H2_)|with_reducible exact H|(rw[C9];exact H)|exact H
    have QA:=Za.mk C9;clear C9;obtain⟨c20,H⟩:=ifP H;have Ca:=Za.mk c20;clear c20;obtain⟨Fs,CE⟩:∃y_:List (S82),y_=(qd++lW):=⟨_,rfl⟩;replace H:(if bg.length<3518437208883 then(Zaa.l0 k1 (wrap64 (ah+1)) ag aa ay ak ai (bg++ [(⟨((Za9 ag ah).f0).extract 0 ((jD):Int).toNat,Fs⟩:S55)]) ay ak ai)else(none))=some (r1,r2,r3,r4,r5):=by first|(rw[CE];with_reducible exact H)|(have H2_:=(Option.bind_some _ _).symm.trans H;rw[CE];with_reducible exact H2_)|(have H2_:=(Option.bind_some _ _).symm.trans H;with_reducible exact H2_)|with_reducible exact H|(rw[CE];exact H)|exact H
    have Xp:=Za.mk CE;clear CE;obtain⟨c21,H⟩:=ifP H;have Xe:=Za.mk c21;clear c21;obtain⟨Mw,CF⟩:∃y_:List (S55),y_=(bg++ [(⟨((Za9 ag ah).f0).extract 0 ((jD):Int).toNat,Fs⟩:S55)]):=⟨_,rfl⟩;replace H:(Zaa.l0 k1 (wrap64 (ah+1)) ag aa ay ak ai Mw ay ak ai)=some (r1,r2,r3,r4,r5):=by first|(rw[CF];with_reducible exact H)|(have H2_:=(Option.bind_some _ _).symm.trans H;rw[CF];with_reducible exact H2_)|(have H2_:=(Option.bind_some _ _).symm.trans H;with_reducible exact H2_)|with_reducible exact H|(rw[CF];exact H)|exact H
    have Xq:=Za.mk CF;clear CF;have H':=Za.mk H;clear H;have gna:=lg.out;have gCa:=lh.out;have goa:=gY.out;have gDa:=jr.out;obtain⟨xQ,xR,xS,xU,xV,xC,xD,xE,xG,xH⟩:=cz5 bE.out;have OE:(0≤(ah:Int))=True:=teq;have OV:(ah<(ag.length:Int))=True:=teq;obtain⟨X7,lH,kD,rfl,vJ,vK,Jy,Jn⟩:=Zev iP.out ah odt odt;replace vJ:=hB HB.out vJ;replace vK:=hB HB.out vK;have TG:=Za.mk Jn;have Tv:=Za.mk Jy;clear Jn Jy;try go_wp2_with (first|((with_reducible refine Zar (N:=5) rfl ?_);refine bx 5 #[.string (⟨#[]⟩:ByteArray),.slice none 0 0] 55 ?_;intro fF hg w25 hbox hb;replace aT:=Za.mk (Kd.Ze2 (Kd.S_elderB (sM aT.out) fF (Nat.le_of_eq hg.symm)) hb);have gN:=Za.mk (hbox);have fya:=Za.mk ((gE hg HB.out:w.heap.size≤fF));replace HB:=Za.mk (bS HB.out hb);have F3:=Za.mk ((by rw[hg];exact Nat.ne_of_lt (Zc7 (kM bE.out)):jb≠fF));have NF:=Za.mk ((by rw[hg];exact Nat.ne_of_gt (Zc7 (kM bE.out)):fF≠jb));replace bE:=Za.mk (kB bE.out hb);have F4:=Za.mk ((by rw[hg];exact Nat.ne_of_lt (Zc7 (kM bH.out)):eD≠fF));have NG:=Za.mk ((by rw[hg];exact Nat.ne_of_gt (Zc7 (kM bH.out)):fF≠eD));replace bH:=Za.mk (kB bH.out hb);have yj:=Za.mk ((by rw[hg];exact Nat.ne_of_lt (Zc7 (kM aD.out)):dY≠fF));have F5:=Za.mk ((by rw[hg];exact Nat.ne_of_gt (Zc7 (kM aD.out)):fF≠dY));replace aD:=Za.mk (kB aD.out hb);clear hb hbox hg;have gqa:=NF.out;have gFa:=F3.out;have gra:=NG.out;have gGa:=F4.out;have gta:=F5.out;have gHa:=yj.out;obtain⟨uE,uF,u6,u7⟩:=cz2 gN.out))
    have n0_:Za (Kd.S k55 55 ((w25.setCell ⟨fF,0,none⟩ (.string ((Za9 ag ah).f0))).setCell ⟨fF,1,none⟩ (.slice lH ((Za9 ag ah).f1).length kD)) w.heap.size (fun k_=>k_≠fF) dX bg):=⟨sM (Kd.Zd9 (Kd.Zdw (p:=⟨fF,1,none⟩) (Kd.Zdw (p:=⟨fF,0,none⟩) (Kd.Zd9 aT.out (fun k_ hk=>(⟨hk,hk.2⟩:_∧k_≠fF))) (fun _ hk=>hk.2) (.string ((Za9 ag ah).f0))) (fun _ hk=>hk.2) (.slice lH ((Za9 ag ah).f1).length kD)) (fun _ hk=>hk.1.2))⟩;have n1_:Za (((w25.setCell ⟨fF,0,none⟩ (.string ((Za9 ag ah).f0))).setCell ⟨fF,1,none⟩ (.slice lH ((Za9 ag ah).f1).length kD)).heap[jb]? =some (.cells #[.slice (some X7) ag.length eF,.slice aV aa.length aQ,.int .i64 ay,.slice bR ak.length bT,.slice bK ai.length bL] 28 (0,0))):=⟨by(with_reducible repeat(first|exact bE.out|refine Zcv ?_ F3.out _|refine Zab ?_ _|refine Zai ?_|refine Zah ?_ _))⟩;have n2_:Za (((w25.setCell ⟨fF,0,none⟩ (.string ((Za9 ag ah).f0))).setCell ⟨fF,1,none⟩ (.slice lH ((Za9 ag ah).f1).length kD)).heap[eD]? =some (.cells #[.slice none 0 0,.slice none 0 0,.int .i64 0,.slice none 0 0,.slice none 0 0] 28 (0,0))):=⟨by(with_reducible repeat(first|exact bH.out|refine Zcv ?_ F4.out _|refine Zab ?_ _|refine Zai ?_|refine Zah ?_ _))⟩;have n3_:Za (((w25.setCell ⟨fF,0,none⟩ (.string ((Za9 ag ah).f0))).setCell ⟨fF,1,none⟩ (.slice lH ((Za9 ag ah).f1).length kD)).heap[dY]? =some (.cells #[dX,.slice none 0 0,.int .i64 ay,.slice bR ak.length bT,.slice bK ai.length bL] 28 (0,0))):=⟨by(with_reducible repeat(first|exact aD.out|refine Zcv ?_ yj.out _|refine Zab ?_ _|refine Zai ?_|refine Zah ?_ _))⟩;have n4_:Za (((w25.setCell ⟨fF,0,none⟩ (.string ((Za9 ag ah).f0))).setCell ⟨fF,1,none⟩ (.slice lH ((Za9 ag ah).f1).length kD)).heap[fF]? =some (.cells #[.string ((Za9 ag ah).f0),.slice lH ((Za9 ag ah).f1).length kD] 55 (0,0))):=⟨by(with_reducible repeat(first|refine Zah ?_ _|refine Zai ?_|refine Zab ?_ _));refine Zaz (cs:=#[.string ((Za9 ag ah).f0),.slice none 0 0]) ?_ 1 _ rfl;(with_reducible repeat(first|refine Zah ?_ _|refine Zai ?_|refine Zab ?_ _));refine Zaz (cs:=#[.string (⟨#[]⟩:ByteArray),.slice none 0 0]) ?_ 0 _ rfl;(with_reducible repeat(first|refine Zah ?_ _|refine Zai ?_|refine Zab ?_ _));exact gN.out⟩;have n5_:Za (Below w.heap.size w ((w25.setCell ⟨fF,0,none⟩ (.string ((Za9 ag ah).f0))).setCell ⟨fF,1,none⟩ (.slice lH ((Za9 ag ah).f1).length kD))):=⟨bM HB.out⟩
    (try clear aT)
    (try clear bE)
    (try clear bH)
    (try clear aD)
    (try clear gN)
    (try clear HB)
    generalize ((w25.setCell ⟨fF,0,none⟩ (.string ((Za9 ag ah).f0))).setCell ⟨fF,1,none⟩ (.slice lH ((Za9 ag ah).f1).length kD))=w30 at n0_ n1_ n2_ n3_ n4_ n5_ ⊢
    have aT:=n0_;have bE:=n1_;have bH:=n2_;have aD:=n3_;have gN:=n4_;have HB:=n5_;clear n0_ n1_ n2_ n3_ n4_ n5_;replace aT:=Za.mk (Kd.S_drew aT.out);replace bE:=Za.mk (Zai bE.out);replace bH:=Za.mk (Zai bH.out);replace aD:=Za.mk (Zai aD.out);replace gN:=Za.mk (Zai gN.out);replace HB:=Za.mk (Zcs HB.out);have q32:((sK):Int)≤((((Za9 ag ah).f1).length:Int):Int):=odt;obtain⟨i032,R5,_,hsz32,_⟩:=info_parts Zh7;have hroom32:((Za9 ag ah).f1).length≤kD:=Tv.out;have hC32:Kd.C k82 _ lH ((Za9 ag ah).f1).length ((Za9 ag ah).f1):=TG.out;have hcut32:=cut_to (P:=Tryz.prog) 53 82 .i64 Tryz.underlying53 R5 lH ((Za9 ag ah).f1).length kD (sK) (of_decide_eq_true (by first|(with_reducible assumption)|assumption)) q32 hroom32;have OC:=Kd.C_take (m:=((sK):Int).toNat) hC32 (by omega);have hy32:lW.length=((sK):Int).toNat:=(by rw[QA.out,List.length_take];omega);rw[←QA.out]at OC;rw[←hy32]at hcut32;have Qx:=Za.mk OC;have fDa:=Za.mk (show lW.length≤kD from by omega);clear OC hC32 hroom32 R5 hsz32;have KY32:=Za.mk hy32;clear hy32;replace q32:=eq_true q32;refine Ze7 (n:=23) (S:=fun w'=>w'.cell? ⟨dY,0,none⟩=some (dX)∧w'.cell? ⟨dY,1,none⟩=some (.slice none 0 0)∧w'.cell? ⟨dY,2,none⟩=some (.int .i64 ay)∧w'.cell? ⟨dY,3,none⟩=some (.slice bR ak.length bT)∧w'.cell? ⟨dY,4,none⟩=some (.slice bK ai.length bL)∧w'.cell? ⟨fF,0,none⟩=some (.string ((Za9 ag ah).f0))∧w'.cell? ⟨fF,1,none⟩=some (.slice lH ((Za9 ag ah).f1).length kD)) (ds:= [22]) #[false,false,false,false,false,false,false,false,false,false,false,false,false,false,false,false,false,false,false,false,false,false,false] (by kernel_rfl) rfl rfl ⟨bc aD.out 0,bc aD.out 1,bc aD.out 2,bc aD.out 3,bc aD.out 4,bc gN.out 0,bc gN.out 1⟩ (fun hHeld=> ?_);refine Zdy Zaa.tab6 Zaa.bits6 (fun HT_ HW_=> ?_)
    generalize w30.drew=w31 at aT bE bH aD gN HB Qx hHeld ⊢
    refine pu HT_ 0 29 ?_;refine pu HT_ 2 31 ?_;refine pu HT_ 4 33 ?_;refine pu HT_ 10 39 ?_;refine pu HT_ 12 41 ?_;refine tk HT_ HW_ hHeld 1 30 ?_;refine tk HT_ HW_ hHeld 3 32 ?_;refine tk HT_ HW_ hHeld 5 34 ?_;refine pu HT_ 6 35 ?_;refine pu HT_ 7 36 ?_;refine pu HT_ 8 37 ?_;refine tk HT_ HW_ hHeld 11 40 ?_;refine tk HT_ HW_ hHeld 13 42 ?_;refine pu HT_ 14 43 ?_;refine pu HT_ 15 44 ?_;refine pu HT_ 16 45 ?_;refine on1 HT_ 9 38 (fun K hK=> ?_);refine Kd.R_lit_step k82 _ 82 ?hg (N:=38) ?hd (xs:=([]:List (S82))) (inner:= []) (ok:=fun _=>True) (okp:=fun _=>True) ?hr ?hp (fun _ hk=>hk) trivial (Below.refl _ _) (Nat.le_refl _) (by simp) ?_;(case hd=>rfl);(case hg=>rfl);(case hr=>first|(go_simp;done)|(go_simp;rfl));(case hp=>exact(Reps.none _ _));intro dUa w33 ET hb hg_ hnew_;clear hg_ hnew_
    (first|rw[←Q9.out]at ET|(simp only[Int.reduceToNat]at ET;rw[←Q9.out]at ET))
    replace aT:=Za.mk (Kd.Zgt (sM aT.out) (Kd.Zc6 ET) hb);have yN:=Za.mk (Kd.Zbm ET (Zaf (bM HB.out)));replace bE:=Za.mk (kB bE.out hb);replace bH:=Za.mk (kB bH.out hb);replace aD:=Za.mk (kB aD.out hb);replace gN:=Za.mk (kB gN.out hb);replace HB:=Za.mk (bS HB.out hb);clear hb ET;refine hK.out _ _ ⟨bc aD.out 0,bc aD.out 1,bc aD.out 2,bc aD.out 3,bc aD.out 4,bc gN.out 0,bc gN.out 1⟩ (fun hHeld=> ?_);clear hK K;refine nmp 38 ?_;refine on1 HT_ 17 46 (fun K hK=> ?_);refine Kd.Zfs k82 (w0:=w) w.heap.size (by rfl) (.tmp 38) (.tmp 45) 53 82 (.agg #[(.int .i64 0),(.int .i64 0)]) 16 rfl Tryz.underlying53 Zh7 rfl (by decide) (by omega) dUa qd lW _ _ _ (fun _=>True) (fun _=>False) rfl rfl ?aO ?aR (fun _ _ h=>h) (fun _ h=>h.elim) ?aF ?aB ?aS ?aL ?_
    (case aR=>repeat(first|exact(Kd.Zac Qx.out HB.out)|(with_reducible refine Kd.C_alloc ?_ _)|(with_reducible refine Kd.Zbt ?_ _)|(with_reducible refine Kd.Zb4 ?_)))
    (case aB=>exact(bM HB.out))
    (case aF=>exact(fun _ _=>trivial))
    (case aO=>exact(rM yN.out))
    (case aS=>exact(Zaf (bM HB.out)))
    (case aL=>have:=Ca.out;omega)
    intro oAa w35 ho hb hg hat;rw[←Xp.out]at ho;replace aT:=Za.mk (Kd.S_after (ok:=(fun k_=>k_≠fF)) (sM aT.out) hg hat);replace bE:=Za.mk (kG bE.out hg (Kd.R_ne yN.out bE.out (by decide)));replace bH:=Za.mk (kG bH.out hg (Kd.R_ne yN.out bH.out (by decide)));replace aD:=Za.mk (kG aD.out hg (Kd.R_ne yN.out aD.out (by decide)));replace gN:=Za.mk (kG gN.out hg (Kd.R_ne yN.out gN.out (by decide)));replace HB:=Za.mk (hb);have FC:=Za.mk (ho);clear yN ho hb hg hat;obtain⟨fT,fU,EO⟩:=Kd.Zbe FC.out
    (first|subst EO|(injection EO with f1_ f2_ f3_;have f4_:=f1_.symm;have f5_:=f3_.symm;clear f1_ f2_ f3_;subst f4_;subst f5_))
    refine hK.out _ _ ⟨bc aD.out 0,bc aD.out 1,bc aD.out 2,bc aD.out 3,bc aD.out 4,bc gN.out 0,bc gN.out 1⟩ (fun hHeld=> ?_);clear hK K;refine nmp 46 ?_;refine pu HT_ 18 47 ?_;refine on1 HT_ 19 48 (fun K hK=> ?_);refine value_ (w1:=?_) (v:=?_) (by rfl) rfl ?_ ?_;rotate_left 2
    ·go_simp
     constructor
     ·rfl
     rfl
    refine hK.out _ _ ⟨(Zap (Zab aD.out _) 0).trans rfl,(Zap (Zab aD.out _) 1).trans rfl,(Zap (Zab aD.out _) 2).trans rfl,(Zap (Zab aD.out _) 3).trans rfl,(Zap (Zab aD.out _) 4).trans rfl,(Zap (Zab gN.out _) 0).trans rfl,(Zap (Zab gN.out _) 1).trans rfl⟩ (fun hHeld=> ?_);clear hK K;refine nmp 48 ?_;refine on1 HT_ 20 49 (fun K hK=> ?_);refine Kd.S_append_step k55 (w0:=w) w.heap.size (by rfl) (.tmp 30) (.tmp 48) 22 55 (.agg #[(.string ⟨#[]⟩),(.slice none 0 0)]) 40 rfl Tryz.underlying22 info55 rfl (by decide) (by omega) dX bg (⟨((Za9 ag ah).f0).extract 0 ((jD):Int).toNat,Fs⟩:S55) [.string (((Za9 ag ah).f0).extract 0 ((jD):Int).toNat),.slice fT Fs.length fU] (fun k_=>k_≠fF) (fun k_=>some k_=(.slice fT Fs.length fU:Value).ownBlock) rfl rfl ?aP (fun k_ hk_=>((Kd.Za6 (ok':=fun k_=>((fun k_=>k_≠fF)) k_∧some k_≠(dX:Value).ownBlock) (Kd.Zcc (Kd.Zdq (FC.out) (Kd.Zeb aT.out) (by decide)) gN.out (by decide)) (fun k_ hk=>⟨hk.2,hk.1.2⟩))).1 k_ hk_.symm) ?aF ?aO ?aB ?aS ?aL ?_
    (case aP=>exact k55_mkM _ _ _ (⟨((Za9 ag ah).f0).extract 0 ((jD):Int).toNat,Fs⟩:S55) (Kd.Za6 (Kd.Zgd rfl (Kd.Za6 (ok':=fun k_=>((fun k_=>k_≠fF)) k_∧some k_≠(dX:Value).ownBlock) (Kd.Zcc (Kd.Zdq (FC.out) (Kd.Zeb aT.out) (by decide)) gN.out (by decide)) (fun k_ hk=>⟨hk.2,hk.1.2⟩))) (fun _ h_=>h_)))
    (case aB=>exact(bM HB.out))
    (case aF=>exact(fun k_ hk=>Kd.freshB (kM gN.out) k_ hk))
    (case aO=>exact(sM (Kd.Zd9 aT.out (fun k_ hk=>⟨hk.1,fun e_=>hk.2 e_⟩))))
    (case aS=>exact(Zaf (bM HB.out)))
    (case aL=>have:=Xe.out;omega)
    intro oBa w37 ho hb hg hat;rw[←Xq.out]at ho;replace bE:=Za.mk (kG bE.out hg (Kd.S_ne aT.out bE.out (by decide)));replace bH:=Za.mk (kG bH.out hg (Kd.S_ne aT.out bH.out (by decide)));replace aD:=Za.mk (kG aD.out hg (Kd.S_ne aT.out aD.out (by decide)));replace gN:=Za.mk (kG gN.out hg (Kd.S_away aT.out (fun _ hk=>hk.1)));replace HB:=Za.mk (hb);have Qr:=Za.mk (ho);clear aT FC ho hb hg hat;obtain⟨iT,iW,EP⟩:=Kd.S_slice Qr.out
    (first|subst EP|(injection EP with f1_ f2_ f3_;have f4_:=f1_.symm;have f5_:=f3_.symm;clear f1_ f2_ f3_;subst f4_;subst f5_))
    refine hK.out _ _ ⟨bc aD.out 0,bc aD.out 1,bc aD.out 2,bc aD.out 3,bc aD.out 4,bc gN.out 0,bc gN.out 1⟩ (fun hHeld=> ?_);clear hK K;refine nmp 49 ?_;refine pu HT_ 21 50 ?_;refine last_ (i:=22) (N:=none) #[true,true,true,true,true,true,true,true,true,true,true,true,true,true,true,true,true,true,true,true,true,true,true] rfl rfl (Zia HT_.out (by kernel_rfl)) (by decide) (fun K hK=> ?_);have hs39:w37.cell? ⟨dY,0,none⟩=some (dX):=(Zap aD.out 0).trans rfl;have hfs39:=Za0 aD.out 0;have hns39_0:=gY.out;have hns39_1:=jQ.out;have hns39_3:=F5.out;have hms39_0:=jr.out;have hms39_1:=uj.out;have hms39_3:=yj.out;refine skip_ (w1:=?_) (by rfl) rfl ?_ ?_;rotate_left
    ·go_simp
     rfl
    refine hK.out _ _ ?_;clear hK K;refine Zgg (Zen HT_.out (by kernel_rfl)) ?_;try go_wp2
    go_roundg k1
    case measure=>have:=HK1.out;omega
    case rel=>exact⟨(wrap64 (ah+1)),(Mw),(.slice iT Mw.length iW),eS,H',⟨by have:=HK1.out;omega⟩,⟨sM (Kd.Zd9 (Kd.Zdw (p:=⟨dY,0,none⟩) (Kd.Zet Qr.out aD.out (by decide)) (fun _ hk=>hk.2) (.slice iT Mw.length iW)) (fun _ hk=>trivial))⟩,⟨by(with_reducible repeat(first|exact bE.out|refine Zcv ?_ gY.out _|refine Zab ?_ _|refine Zai ?_|refine Zah ?_ _))⟩,⟨by(with_reducible repeat(first|exact bH.out|refine Zcv ?_ jQ.out _|refine Zab ?_ _|refine Zai ?_|refine Zah ?_ _))⟩,⟨by(with_reducible repeat(first|refine Zah ?_ _|refine Zai ?_|refine Zab ?_ _));refine Zaz (cs:=#[dX,.slice none 0 0,.int .i64 ay,.slice bR ak.length bT,.slice bK ai.length bL]) ?_ 0 _ rfl;(with_reducible repeat(first|refine Zah ?_ _|refine Zai ?_|refine Zab ?_ _));exact aD.out⟩,⟨bM HB.out⟩⟩
 case rest=>
  clear HC2;try clear c1
  try clear p1
  try clear q1
  try clear hx1
  try clear c2
  try clear p2
  try clear q3
  try clear c4
  try clear c5
  try clear p6
  try clear c8
  try clear c9
  try clear c11
  try clear oz
  try clear c12
  try clear iV
  try clear c13
  try clear o5
  try clear p13
  try clear q13
  try clear Mf
  try clear c15
  try clear jo
  try clear wT
  try clear c16
  try clear um
  try clear LB
  try clear c18
  try clear kz
  try clear qM
  try clear c19
  try clear Cm
  try clear LD
  try clear c20
  try clear c21
  try clear c22
  try clear c23
  try clear c26
  try clear c27
  try clear c28
  try clear q32
  try clear c40
  try clear c41
  try clear c43
  try clear c44
  try clear o9 oC oD qf qg o6 o7 o8 pY qc
  try clear xQ xR xS xU xV xC xD xE xG xH
  try clear uE uF u6 u7
  try clear G9 GA GD GH GI Gm Gn Gp Gq Gr
  try clear GJ GK GL GM GN Gs Gt Gu Gv Gw
  try clear kY lc lG oo oq kW kX lF ol om
  try clear vJ
  try clear vK
  try clear OE
  try clear p2
  try clear OV
  try clear q32
  obtain⟨kq,bg,dX,HA,HJ1,aT,bE,bH,aD,HB⟩:=hcut
  cases kq with
  | zero => exact absurd HA.out (by simp [Zaa.j1])
  |succ kj1=>
   have H:=HA.out;clear HA;simp only[Zaa.j1]at H;have H':=Za.mk H;clear H;go_wp2
   go_loopg [6] kj1 (fun kq v6 w'=>∃(ae:Int) (cu:List (S36)) (ik:Value),v6= .int .i64 ae∧Za (Zaa.l1 kq ae ag aa ay ak ai bg cu ay ak ai=some (r1,r2,r3,r4,r5))∧Za (kq≤kj1)∧Za (Kd.S k55 55 w' w.heap.size (fun _=>True) dX bg)∧Za (Kd.R k36 36 w' w.heap.size (fun _=>True) ik cu)∧Za (w'.heap[jb]? =some (.cells #[(.slice eQ ag.length eF),(.slice aV aa.length aQ),.int .i64 ay,(.slice bR ak.length bT),(.slice bK ai.length bL)] 28 (0,0)))∧Za (w'.heap[eD]? =some (.cells #[(.slice none 0 0),(.slice none 0 0),.int .i64 0,(.slice none 0 0),(.slice none 0 0)] 28 (0,0)))∧Za (w'.heap[dY]? =some (.cells #[dX,ik,.int .i64 ay,(.slice bR ak.length bT),(.slice bK ai.length bL)] 28 (0,0)))∧Za (Below w.heap.size w w'))
   case atStart=>exact⟨(0),(([]:List (S36))),(.slice none 0 0),eS,H',⟨Nat.le_refl _⟩,⟨sM aT.out⟩,⟨by first|exact Kd.R_nil _ _ _ _ _|exact Kd.N_nil _ _ _ _ _|exact Kd.V_nil _ _ _ _ _|exact Kd.Q_nil _ _ _ _ _|exact Kd.S_nil _ _ _ _ _⟩,⟨by(with_reducible repeat(first|refine Zah ?_ _|refine Zai ?_|refine Zab ?_ _));exact bE.out⟩,⟨by(with_reducible repeat(first|refine Zah ?_ _|refine Zai ?_|refine Zab ?_ _));exact bH.out⟩,⟨by(with_reducible repeat(first|refine Zah ?_ _|refine Zai ?_|refine Zab ?_ _));exact aD.out⟩,⟨bM HB.out⟩⟩
   case round=>
    clear H';try clear c1
    try clear p1
    try clear q1
    try clear hx1
    try clear c2
    try clear p2
    try clear q3
    try clear c4
    try clear c5
    try clear p6
    try clear c8
    try clear c9
    try clear c11
    try clear oz
    try clear c12
    try clear iV
    try clear c13
    try clear o5
    try clear p13
    try clear q13
    try clear Mf
    try clear c15
    try clear jo
    try clear wT
    try clear c16
    try clear um
    try clear LB
    try clear c18
    try clear kz
    try clear qM
    try clear c19
    try clear Cm
    try clear LD
    try clear c20
    try clear c21
    try clear c22
    try clear c23
    try clear c26
    try clear c27
    try clear c28
    try clear q32
    try clear c40
    try clear c41
    try clear c43
    try clear c44
    try clear o9 oC oD qf qg o6 o7 o8 pY qc
    try clear xQ xR xS xU xV xC xD xE xG xH
    try clear uE uF u6 u7
    try clear G9 GA GD GH GI Gm Gn Gp Gq Gr
    try clear GJ GK GL GM GN Gs Gt Gu Gv Gw
    try clear kY lc lG oo oq kW kX lF ol om
    try clear vJ
    try clear vK
    try clear p1
    try clear p13
    try clear OE
    try clear p2
    try clear p6
    try clear q1
    try clear q13
    try clear OV
    try clear q3
    try clear q32
    obtain⟨ae,cu,ik,rfl,HA,HK2,aT,bI,bE,bH,aD,HB⟩:=hrel
    cases gk with
    | zero => exact absurd HA.out (by simp [Zaa.l1])
    |succ k2=>
     have H:=HA.out;clear HA;simp only[Zaa.l1]at H;have Od:=Za.mk H;clear H
     go_upto_region 8 with (fail)
     go_cut [59] (fun v59 wc=>∃(kq:Nat) (Ef:Bool),v59= .bool Ef∧Za (Zaa.j3 kq ae Ef ag aa ay ak ai bg cu ay ak ai=some (r1,r2,r3,r4,r5))∧Za (kq≤k2)∧Za (Kd.S k55 55 wc w.heap.size (fun _=>True) dX bg)∧Za (Kd.R k36 36 wc w.heap.size (fun _=>True) ik cu)∧Za (wc.heap[jb]? =some (.cells #[(.slice eQ ag.length eF),(.slice aV aa.length aQ),.int .i64 ay,(.slice bR ak.length bT),(.slice bK ai.length bL)] 28 (0,0)))∧Za (wc.heap[eD]? =some (.cells #[(.slice none 0 0),(.slice none 0 0),.int .i64 0,(.slice none 0 0),(.slice none 0 0)] 28 (0,0)))∧Za (wc.heap[dY]? =some (.cells #[dX,ik,.int .i64 ay,(.slice bR ak.length bT),(.slice bK ai.length bL)] 28 (0,0)))∧Za (Below w.heap.size w wc))
     case first=>
      have H:=Od.out;clear Od;by_cases c47:ae<(aa.length:Int)
      case neg=>
       rw[if_neg c47]at H;have za:decide (ae<(aa.length:Int))=false:=decide_eq_false c47;clear c47
       (first|rw[za]|(simp only[Zd5,Zeo];rw[za])|skip)
       have H':=Za.mk H;clear H;have g0a:=lg.out;have gOa:=lh.out;have g1a:=gY.out;have gPa:=jr.out;obtain⟨Tn,Tp,Tq,Tt,Tu,Sn,Sq,Sr,Su,Sv⟩:=cz5 bE.out;go_wp2
       go_meet
       case rel=>exact⟨_,(false),eS,H',⟨by have:=HJ1.out;have:=HK2.out;first|omega|exact Nat.le_refl _⟩,⟨sM aT.out⟩,⟨rM bI.out⟩,⟨by(with_reducible repeat(first|refine Zah ?_ _|refine Zai ?_|refine Zab ?_ _));exact bE.out⟩,⟨by(with_reducible repeat(first|refine Zah ?_ _|refine Zai ?_|refine Zab ?_ _));exact bH.out⟩,⟨by(with_reducible repeat(first|refine Zah ?_ _|refine Zai ?_|refine Zab ?_ _));exact aD.out⟩,⟨bM HB.out⟩⟩
      rw[if_pos c47]at H;have za:decide (ae<(aa.length:Int))=true:=decide_eq_true c47;clear c47
      (first|rw[za]|(simp only[Zd5,Zeo];rw[za])|skip)
      have H':=Za.mk H;clear H;have gya:=lg.out;have gMa:=lh.out;have gza:=gY.out;have gNa:=jr.out;obtain⟨bDa,bEa,bFa,bGa,bHa,axa,aya,aza,a0a,a1a⟩:=cz5 bE.out;go_wp2
      go_meet
      case rel=>exact⟨_,(decide (ae<16)),eS,H',⟨by have:=HJ1.out;have:=HK2.out;first|omega|exact Nat.le_refl _⟩,⟨sM aT.out⟩,⟨rM bI.out⟩,⟨by(with_reducible repeat(first|refine Zah ?_ _|refine Zai ?_|refine Zab ?_ _));exact bE.out⟩,⟨by(with_reducible repeat(first|refine Zah ?_ _|refine Zai ?_|refine Zab ?_ _));exact bH.out⟩,⟨by(with_reducible repeat(first|refine Zah ?_ _|refine Zai ?_|refine Zab ?_ _));exact aD.out⟩,⟨bM HB.out⟩⟩
     case rest=>
      clear Od;try clear c1
      try clear p1
      try clear q1
      try clear hx1
      try clear c2
      try clear p2
      try clear q3
      try clear c4
      try clear c5
      try clear p6
      try clear c8
      try clear c9
      try clear c11
      try clear oz
      try clear c12
      try clear iV
      try clear c13
      try clear o5
      try clear p13
      try clear q13
      try clear Mf
      try clear c15
      try clear jo
      try clear wT
      try clear c16
      try clear um
      try clear LB
      try clear c18
      try clear kz
      try clear qM
      try clear c19
      try clear Cm
      try clear LD
      try clear c20
      try clear c21
      try clear c22
      try clear c23
      try clear c26
      try clear c27
      try clear c28
      try clear q32
      try clear c40
      try clear c41
      try clear c43
      try clear c44
      try clear c47
      try clear za
      try clear c48
      try clear c49
      try clear c51
      try clear c52
      try clear o9 oC oD qf qg o6 o7 o8 pY qc
      try clear xQ xR xS xU xV xC xD xE xG xH
      try clear uE uF u6 u7
      try clear G9 GA GD GH GI Gm Gn Gp Gq Gr
      try clear GJ GK GL GM GN Gs Gt Gu Gv Gw
      try clear bDa bEa bFa bGa bHa axa aya aza a0a a1a
      try clear Tn Tp Tq Tt Tu Sn Sq Sr Su Sv
      try clear kY lc lG oo oq kW kX lF ol om
      try clear vJ
      try clear vK
      try clear p1
      try clear p13
      try clear OE
      try clear p2
      try clear p6
      try clear q1
      try clear q13
      try clear OV
      try clear q3
      try clear q32
      obtain⟨kq,Ef,rfl,HA,HJ45,aT,bI,bE,bH,aD,HB⟩:=hcut
      cases kq with
      | zero => exact absurd HA.out (by simp [Zaa.j3])
      |succ kj45=>
       have H:=HA.out;clear HA;simp only[Zaa.j3]at H;by_cases c54:Ef=true
       case neg=>
        replace c54:=Bool.eq_false_iff.mpr c54;subst c54;replace H:=ifF H;obtain⟨xy,CJ⟩:∃y_:List Int,y_=(([]:List Int)):=⟨_,rfl⟩;replace H:(if 0≤(mn (ak.length:Int) 14)then(if(mn (ak.length:Int) 14)≤(ak.length:Int)then(if xy.length+(ak.take ((mn (ak.length:Int) 14):Int).toNat).length<17592186044416 then((some (([]:List Int):List Int)).bind fun lX=>(if 0≤(mn (ai.length:Int) 14)then(if(mn (ai.length:Int) 14)≤(ai.length:Int)then(if lX.length+(ai.take ((mn (ai.length:Int) 14):Int).toNat).length<17592186044416 then(some (bg,cu,ay,(xy++(ak.take ((mn (ak.length:Int) 14):Int).toNat)),(lX++(ai.take ((mn (ai.length:Int) 14):Int).toNat))))else(none))else(none))else(none)))else(none))else(none))else(none))=some (r1,r2,r3,r4,r5):=by first|(rw[CJ];with_reducible exact H)|(have H2_:=(Option.bind_some _ _).symm.trans H;rw[CJ];with_reducible exact H2_)|(have H2_:=(Option.bind_some _ _).symm.trans H;with_reducible exact H2_)|with_reducible exact H|(rw[CJ];exact H)|exact H
        have QB:=Za.mk CJ;clear CJ;obtain⟨kQ,hji88⟩:∃j_:Int,(mn (ak.length:Int) 14)=j_:=⟨_,rfl⟩;replace H:(if 0≤(kQ)then(if(kQ)≤(ak.length:Int)then(if xy.length+(ak.take ((kQ):Int).toNat).length<17592186044416 then((some (([]:List Int):List Int)).bind fun lX=>(if 0≤(mn (ai.length:Int) 14)then(if(mn (ai.length:Int) 14)≤(ai.length:Int)then(if lX.length+(ai.take ((mn (ai.length:Int) 14):Int).toNat).length<17592186044416 then(some (bg,cu,ay,(xy++(ak.take ((kQ):Int).toNat)),(lX++(ai.take ((mn (ai.length:Int) 14):Int).toNat))))else(none))else(none))else(none)))else(none))else(none))else(none))=some (r1,r2,r3,r4,r5):=by first|(rw[hji88]at H;exact H)|(simp only[hji88]at H ⊢;exact H)
        have hji88_:(if 14<(ak.length:Int)then 14 else(ak.length:Int))=kQ:=hji88;by_cases c89:0≤(kQ)
        case neg=>
         rw[if_neg c89]at H;exact absurd H (by simp)
        rw[if_pos c89]at H;have gda:=eq_true c89;have gea:decide (0≤(kQ))=true:=decide_eq_true c89;clear c89;obtain⟨c90,H⟩:=ifP H;have gfa:=eq_true c90;have gga:decide ((kQ)≤(ak.length:Int))=true:=decide_eq_true c90;clear c90;obtain⟨c91,H⟩:=ifP H;have Xj:=Za.mk c91;clear c91;obtain⟨y153,hy153⟩:∃y_:List Int,y_=(xy++(ak.take ((kQ):Int).toNat)):=⟨_,rfl⟩;replace H:((some (([]:List Int):List Int)).bind fun lX=>(if 0≤(mn (ai.length:Int) 14)then(if(mn (ai.length:Int) 14)≤(ai.length:Int)then(if lX.length+(ai.take ((mn (ai.length:Int) 14):Int).toNat).length<17592186044416 then(some (bg,cu,ay,y153,(lX++(ai.take ((mn (ai.length:Int) 14):Int).toNat))))else(none))else(none))else(none)))=some (r1,r2,r3,r4,r5):=by first|(rw[hy153];with_reducible exact H)|(have H2_:=(Option.bind_some _ _).symm.trans H;rw[hy153];with_reducible exact H2_)|(have H2_:=(Option.bind_some _ _).symm.trans H;with_reducible exact H2_)|with_reducible exact H|(rw[hy153];exact H)|exact H
        have Xr:=Za.mk hy153;clear hy153;obtain⟨lX,CK⟩:∃y_:List Int,y_=(([]:List Int)):=⟨_,rfl⟩;replace H:(if 0≤(mn (ai.length:Int) 14)then(if(mn (ai.length:Int) 14)≤(ai.length:Int)then(if lX.length+(ai.take ((mn (ai.length:Int) 14):Int).toNat).length<17592186044416 then(some (bg,cu,ay,y153,(lX++(ai.take ((mn (ai.length:Int) 14):Int).toNat))))else(none))else(none))else(none))=some (r1,r2,r3,r4,r5):=by first|(rw[CK];with_reducible exact H)|(have H2_:=(Option.bind_some _ _).symm.trans H;rw[CK];with_reducible exact H2_)|(have H2_:=(Option.bind_some _ _).symm.trans H;with_reducible exact H2_)|with_reducible exact H|(rw[CK];exact H)|exact H
        have QC:=Za.mk CK;clear CK;obtain⟨lw,hji92⟩:∃j_:Int,(mn (ai.length:Int) 14)=j_:=⟨_,rfl⟩;replace H:(if 0≤(lw)then(if(lw)≤(ai.length:Int)then(if lX.length+(ai.take ((lw):Int).toNat).length<17592186044416 then(some (bg,cu,ay,y153,(lX++(ai.take ((lw):Int).toNat))))else(none))else(none))else(none))=some (r1,r2,r3,r4,r5):=by first|(rw[hji92]at H;exact H)|(simp only[hji92]at H ⊢;exact H)
        have hji92_:(if 14<(ai.length:Int)then 14 else(ai.length:Int))=lw:=hji92;obtain⟨c93,H⟩:=ifP H;have gia:=eq_true c93;have gja:decide (0≤(lw))=true:=decide_eq_true c93;clear c93;obtain⟨c94,H⟩:=ifP H;have Rx:=eq_true c94;have Ry:decide ((lw)≤(ai.length:Int))=true:=decide_eq_true c94;clear c94;obtain⟨c95,H⟩:=ifP H;have Xk:=Za.mk c95;clear c95;obtain⟨y160,hy160⟩:∃y_:List Int,y_=(lX++(ai.take ((lw):Int).toNat)):=⟨_,rfl⟩;replace H:(some (bg,cu,ay,y153,y160))=some (r1,r2,r3,r4,r5):=by first|(rw[hy160];with_reducible exact H)|(have H2_:=(Option.bind_some _ _).symm.trans H;rw[hy160];with_reducible exact H2_)|(have H2_:=(Option.bind_some _ _).symm.trans H;with_reducible exact H2_)|with_reducible exact H|(rw[hy160];exact H)|exact H
        have Xt:=Za.mk hy160;clear hy160;simp only[Option.some.injEq,Prod.mk.injEq]at H;obtain⟨rfl,rfl,rfl,rfl,rfl⟩:=H
        go_wp2_with (first|((with_reducible refine Zar (N:=120) rfl ?_);refine Kd.Zdj (Kd.int .i64) _ 3 ?hg (N:=120) ?hd (xs:=([]:List Int)) (inner:= []) (ok:=fun _=>True) (okp:=fun _=>True) ?hr ?hp (fun _ hk=>hk) trivial (Below.refl _ _) (Nat.le_refl _) (by simp) ?_;(case hd=>rfl);(case hg=>rfl);(case hr=>first|(go_simp;done)|(go_simp;rfl));(case hp=>exact(Reps.none _ _));intro dVa w96 EU hb hg_ hnew_;clear hg_ hnew_;(first|rw[←QB.out]at EU|(simp only[Int.reduceToNat]at EU;rw[←QB.out]at EU));replace aT:=Za.mk (Kd.Ze2 (sM aT.out) hb);replace bI:=Za.mk (Kd.Ze (rM bI.out) (Kd.Zc6 EU) hb);have yO:=Za.mk (Kd.Zbm EU (Zaf (bM HB.out)));replace bE:=Za.mk (kB bE.out hb);replace bH:=Za.mk (kB bH.out hb);replace aD:=Za.mk (kB aD.out hb);replace HB:=Za.mk (bS HB.out hb);clear hb EU;have g7a:=lg.out;have gVa:=lh.out;have g8a:=gY.out;have gWa:=jr.out;obtain⟨eVa,eWa,eXa,eYa,faa,e6a,e7a,e8a,e9a,eAa⟩:=cz5 bE.out;obtain⟨i0101,NN,_,hsz101,_⟩:=info_parts info3;obtain⟨hcut101,hA101,hC101⟩:=Zd8 (P:=Tryz.prog) (Value.int .i64) 0 24 3 .i64 Tryz.underlying24 NN hsz101 bR bT ak (kQ) (of_decide_eq_true (by first|(with_reducible assumption)|assumption)) (of_decide_eq_true (by first|(with_reducible assumption)|assumption)) kr.out;have KO:=Za.mk (Kd.Zec (h1:=fun _=>rfl) (hA101 _ (Kd.Zed kv.out)));have fEa:=Za.mk hC101;clear hA101 hC101 NN hsz101)|((with_reducible refine Zbo (b:= .append) (xs:=#[.tmp 120,.tmp 129]) rfl ?_);at_builtin;refine Kd.Zdc (Kd.int .i64) (w0:=w) w.heap.size rfl (.tmp 120) (.tmp 129) 24 3 (.int .i64 0) 8 rfl Tryz.underlying24 info3 rfl (by decide) (by omega) dVa xy (ak.take ((kQ):Int).toNat) _ _ _ (fun _=>True) (fun _=>False) rfl rfl ?aO ?aR (fun _ _ h=>h) (fun _ h=>h.elim) ?aF ?aB ?aS ?aL ?_;(case aR=>first|(have q_:=(Kd.Zac KO.out HB.out);rw[show(ak.take ((kQ):Int).toNat).length=(kQ).toNat from(by rw[List.length_take];have h_:((kQ):Int)≤(ak.length:Int):=(by first|exact odt|(have h2_:=hji88_;split at h2_<;>omega));omega)]at q_;exact q_)|(rw[←show(ak.take ((kQ):Int).toNat).length=(kQ).toNat from(by rw[List.length_take];have h_:((kQ):Int)≤(ak.length:Int):=(by first|exact odt|(have h2_:=hji88_;split at h2_<;>omega));omega)];repeat(first|exact(Kd.Zac KO.out HB.out)|(with_reducible refine Kd.C_alloc ?_ _)|(with_reducible refine Kd.Zbt ?_ _)|(with_reducible refine Kd.Zb4 ?_)))|(repeat(first|exact(Kd.Zac KO.out HB.out)|(with_reducible refine Kd.C_alloc ?_ _)|(with_reducible refine Kd.Zbt ?_ _)|(with_reducible refine Kd.Zb4 ?_))));(case aB=>exact(bM HB.out));(case aF=>exact(fun _ _=>trivial));(case aO=>exact(rM yO.out));(case aS=>exact(Zaf (bM HB.out)));(case aL=>have:=Xj.out;have hlx_:=(show(ak.take ((kQ):Int).toNat).length=(kQ).toNat from(by rw[List.length_take];have h_:((kQ):Int)≤(ak.length:Int):=(by first|exact odt|(have h2_:=hji88_;split at h2_<;>omega));omega));omega);intro v154 pDa ho hb hg hat;rw[←Xr.out]at ho;replace aT:=Za.mk (Kd.S_over' (sM aT.out) (Kd.Zeg (rM yO.out)) (by decide) hg);replace bI:=Za.mk (Kd.Zdu (ok:=(fun _=>True)) (rM bI.out) hg hat);replace bE:=Za.mk (kG bE.out hg (Kd.R_ne yO.out bE.out (by decide)));replace bH:=Za.mk (kG bH.out hg (Kd.R_ne yO.out bH.out (by decide)));replace aD:=Za.mk (kG aD.out hg (Kd.R_ne yO.out aD.out (by decide)));replace HB:=Za.mk (hb);have tV:=Za.mk (ho);clear yO;clear ho hb hg hat;obtain⟨nC,nJ,Yx⟩:=Kd.Zbe tV.out;subst Yx;have e4a:=uj.out;have e5a:=jQ.out;obtain⟨fba,fca,fda,fea,ffa,eBa,eCa,eDa,eEa,eFa⟩:=cz5 aD.out)|((with_reducible refine Zar (N:=133) rfl ?_);refine Kd.Zdj (Kd.int .i64) _ 3 ?hg (N:=133) ?hd (xs:=([]:List Int)) (inner:= []) (ok:=fun _=>True) (okp:=fun _=>True) ?hr ?hp (fun _ hk=>hk) trivial (Below.refl _ _) (Nat.le_refl _) (by simp) ?_;(case hd=>rfl);(case hg=>rfl);(case hr=>first|(go_simp;done)|(go_simp;rfl));(case hp=>exact(Reps.none _ _));intro v157 pEa xe hb hg_ hnew_;clear hg_ hnew_;(first|rw[←QC.out]at xe|(simp only[Int.reduceToNat]at xe;rw[←QC.out]at xe));replace aT:=Za.mk (Kd.Ze2 (sM (Kd.Zd9 (Kd.Zdw (p:=⟨dY,3,none⟩) (Kd.Zet aT.out aD.out (by decide)) (fun _ hk=>hk.2) (.slice nC y153.length nJ)) (fun _ h_=>h_.1))) hb);replace bI:=Za.mk (Kd.Ze (rM (Kd.Za6 (Kd.Zbv (p:=⟨dY,3,none⟩) (Kd.Zcc bI.out aD.out (by decide)) (fun _ hk=>hk.2) (.slice nC y153.length nJ)) (fun _ h_=>h_.1))) (Kd.Zc6 xe) hb);have Bw:=Za.mk (Kd.Zbm (Kd.Ze3 xe (Kd.R_lt (rM (Kd.Za6 (Kd.Zbv (p:=⟨dY,3,none⟩) (Kd.Zcc tV.out aD.out (by decide)) (fun _ hk=>hk.2) (.slice nC y153.length nJ)) (fun _ h_=>h_.1))))) (Zaf (bM HB.out)));replace tV:=Za.mk (Kd.Ze (rM (Kd.Za6 (Kd.Zbv (p:=⟨dY,3,none⟩) (Kd.Zcc tV.out aD.out (by decide)) (fun _ hk=>hk.2) (.slice nC y153.length nJ)) (fun _ h_=>h_.1))) (Kd.Zc6 xe) hb);replace bE:=Za.mk (Zci (g:=jb) (o:= .cells #[.slice eQ ag.length eF,.slice aV aa.length aQ,.int .i64 ay,.slice bR ak.length bT,.slice bK ai.length bL] 28 (0,0)) (by(with_reducible repeat(first|exact bE.out|refine Zcv ?_ gY.out _|refine Zab ?_ _|refine Zai ?_|refine Zah ?_ _))) hb);replace bH:=Za.mk (Zci (g:=eD) (o:= .cells #[.slice none 0 0,.slice none 0 0,.int .i64 0,.slice none 0 0,.slice none 0 0] 28 (0,0)) (by(with_reducible repeat(first|exact bH.out|refine Zcv ?_ jQ.out _|refine Zab ?_ _|refine Zai ?_|refine Zah ?_ _))) hb);replace aD:=Za.mk (Zci (g:=dY) (o:= .cells #[dX,ik,.int .i64 ay,.slice nC y153.length nJ,.slice bK ai.length bL] 28 (0,0)) (by(with_reducible repeat(first|refine Zah ?_ _|refine Zai ?_|refine Zab ?_ _));refine Zaz (cs:=#[dX,ik,.int .i64 ay,.slice bR ak.length bT,.slice bK ai.length bL]) ?_ 3 _ rfl;(with_reducible repeat(first|refine Zah ?_ _|refine Zai ?_|refine Zab ?_ _));exact aD.out) hb);replace HB:=Za.mk (bS HB.out hb);clear hb xe;obtain⟨fga,fha,fia,fja,fka,eGa,eHa,eIa,eJa,eKa⟩:=cz5 bE.out;obtain⟨i0109,NP,_,hsz109,_⟩:=info_parts info3;obtain⟨hcut109,hA109,hC109⟩:=Zd8 (P:=Tryz.prog) (Value.int .i64) 0 24 3 .i64 Tryz.underlying24 NP hsz109 bK bL ai (lw) (of_decide_eq_true (by first|(with_reducible assumption)|assumption)) (of_decide_eq_true (by first|(with_reducible assumption)|assumption)) ku.out;have KP:=Za.mk (Kd.Zec (h1:=fun _=>rfl) (hA109 _ (Kd.Zed kw.out)));have fFa:=Za.mk hC109;clear hA109 hC109 NP hsz109)|((with_reducible refine Zbo (b:= .append) (xs:=#[.tmp 133,.tmp 142]) rfl ?_);at_builtin;refine Kd.Zdc (Kd.int .i64) (w0:=w) w.heap.size rfl (.tmp 133) (.tmp 142) 24 3 (.int .i64 0) 8 rfl Tryz.underlying24 info3 rfl (by decide) (by omega) v157 lX (ai.take ((lw):Int).toNat) _ _ _ (fun k_=>some k_≠(.slice nC y153.length nJ:Value).ownBlock) (fun _=>False) rfl rfl ?aO ?aR (fun _ _ h=>h) (fun _ h=>h.elim) ?aF ?aB ?aS ?aL ?_;(case aR=>first|(have q_:=(Kd.Zac KP.out HB.out);rw[show(ai.take ((lw):Int).toNat).length=(lw).toNat from(by rw[List.length_take];have h_:((lw):Int)≤(ai.length:Int):=(by first|exact odt|(have h2_:=hji92_;split at h2_<;>omega));omega)]at q_;exact q_)|(rw[←show(ai.take ((lw):Int).toNat).length=(lw).toNat from(by rw[List.length_take];have h_:((lw):Int)≤(ai.length:Int):=(by first|exact odt|(have h2_:=hji92_;split at h2_<;>omega));omega)];repeat(first|exact(Kd.Zac KP.out HB.out)|(with_reducible refine Kd.C_alloc ?_ _)|(with_reducible refine Kd.Zbt ?_ _)|(with_reducible refine Kd.Zb4 ?_)))|(repeat(first|exact(Kd.Zac KP.out HB.out)|(with_reducible refine Kd.C_alloc ?_ _)|(with_reducible refine Kd.Zbt ?_ _)|(with_reducible refine Kd.Zb4 ?_))));(case aB=>exact(bM HB.out));(case aF=>exact(fun k_ hk=>Kd.fresh' (Kd.R_lt (rM tV.out)) k_ hk));(case aO=>exact(rM (Kd.Za6 Bw.out (fun _ hk=>hk.2))));(case aS=>exact(Zaf (bM HB.out)));(case aL=>have:=Xk.out;have hlx_:=(show(ai.take ((lw):Int).toNat).length=(lw).toNat from(by rw[List.length_take];have h_:((lw):Int)≤(ai.length:Int):=(by first|exact odt|(have h2_:=hji92_;split at h2_<;>omega));omega));omega);intro oCa pFa ho hb hg hat;rw[←Xt.out]at ho;replace aT:=Za.mk (Kd.S_over' (sM aT.out) (Kd.Zeg (rM Bw.out)) (by decide) hg);replace bI:=Za.mk (Kd.Zdu (ok:=(fun k_=>some k_≠(.slice nC y153.length nJ:Value).ownBlock)) (rM (Kd.Za6 bI.out (fun _ hk=>⟨hk.1.2,hk.2⟩))) hg hat);replace bH:=Za.mk (kG bH.out hg (Kd.R_ne Bw.out bH.out (by decide)));replace aD:=Za.mk (kG aD.out hg (Kd.R_ne Bw.out aD.out (by decide)));replace tV:=Za.mk (Kd.Zdu (ok:=(fun _=>True)) (rM tV.out) hg hat);replace HB:=Za.mk (hb);have Qs:=Za.mk (ho);clear bE Bw;clear ho hb hg hat;obtain⟨rq,rz,Yy⟩:=Kd.Zbe Qs.out;subst Yy;obtain⟨fla,fna,foa,fpa,fqa,eLa,eMa,eNa,eOa,ePa⟩:=cz5 aD.out;obtain⟨ru,r9,Yz⟩:=Kd.S_slice aT.out;subst Yz;obtain⟨fra,fsa,fta,fua,fva,eQa,eRa,eSa,eTa,eUa⟩:=cz5 bH.out;obtain⟨tT,uo,Y0⟩:=Kd.Zbe bI.out;subst Y0))
        refine bodyPost_ret (results_cell_row rfl _ _ eD 28 #[.slice ru bg.length r9,.slice tT cu.length uo,.int .i64 ay,.slice nC y153.length nJ,.slice rq y160.length rz] (0,0) _ rfl (by(with_reducible repeat(first|refine Zah ?_ _|refine Zai ?_|refine Zab ?_ _));refine Zaz (cs:=#[.slice ru bg.length r9,.slice tT cu.length uo,.int .i64 ay,.slice nC y153.length nJ,.slice none 0 0]) ?_ 4 _ rfl;(with_reducible repeat(first|refine Zah ?_ _|refine Zai ?_|refine Zab ?_ _));refine Zaz (cs:=#[.slice ru bg.length r9,.slice tT cu.length uo,.int .i64 ay,.slice none 0 0,.slice none 0 0]) ?_ 3 _ rfl;(with_reducible repeat(first|refine Zah ?_ _|refine Zai ?_|refine Zab ?_ _));refine Zaz (cs:=#[.slice ru bg.length r9,.slice tT cu.length uo,.int .i64 0,.slice none 0 0,.slice none 0 0]) ?_ 2 _ rfl;(with_reducible repeat(first|refine Zah ?_ _|refine Zai ?_|refine Zab ?_ _));refine Zaz (cs:=#[.slice ru bg.length r9,.slice none 0 0,.int .i64 0,.slice none 0 0,.slice none 0 0]) ?_ 1 _ rfl;(with_reducible repeat(first|refine Zah ?_ _|refine Zai ?_|refine Zab ?_ _));refine Zaz (cs:=#[.slice none 0 0,.slice none 0 0,.int .i64 0,.slice none 0 0,.slice none 0 0]) ?_ 0 _ rfl;(with_reducible repeat(first|refine Zah ?_ _|refine Zai ?_|refine Zab ?_ _));refine Zcv ?_ jQ.out _;(with_reducible repeat(first|refine Zah ?_ _|refine Zai ?_|refine Zab ?_ _));exact bH.out) Tryz.underlying28 rfl (by kernel_rfl)) rfl ?_;exact⟨_,_,_,_,by first|rfl|(simp[Zde,Zdf]<;>rfl)|(simp only[←hji88,←hji92];first|rfl|(simp[Zde,Zdf]<;>rfl))|(simp[*,Zde,Zdf]<;>rfl),sM (Kd.Zd9 (Kd.Zdw (p:=⟨eD,4,none⟩) (Kd.Zdw (p:=⟨eD,3,none⟩) (Kd.Zdw (p:=⟨eD,2,none⟩) (Kd.Zdw (p:=⟨eD,1,none⟩) (Kd.Zdw (p:=⟨eD,0,none⟩) (Kd.Zdw (p:=⟨dY,4,none⟩) (Kd.Zet (Kd.Zet aT.out aD.out (by decide)) bH.out (by decide)) (fun _ hk=>hk.1.2) (.slice rq y160.length rz)) (fun _ hk=>hk.2) (.slice ru bg.length r9)) (fun _ hk=>hk.2) (.slice tT cu.length uo)) (fun _ hk=>hk.2) (.int .i64 ay)) (fun _ hk=>hk.2) (.slice nC y153.length nJ)) (fun _ hk=>hk.2) (.slice rq y160.length rz)) (fun _ hk=>trivial)),rM (Kd.Za6 (Kd.Zbv (p:=⟨eD,4,none⟩) (Kd.Zbv (p:=⟨eD,3,none⟩) (Kd.Zbv (p:=⟨eD,2,none⟩) (Kd.Zbv (p:=⟨eD,1,none⟩) (Kd.Zbv (p:=⟨eD,0,none⟩) (Kd.Zbv (p:=⟨dY,4,none⟩) (Kd.Zcc (Kd.Zcc bI.out aD.out (by decide)) bH.out (by decide)) (fun _ hk=>hk.1.2) (.slice rq y160.length rz)) (fun _ hk=>hk.2) (.slice ru bg.length r9)) (fun _ hk=>hk.2) (.slice tT cu.length uo)) (fun _ hk=>hk.2) (.int .i64 ay)) (fun _ hk=>hk.2) (.slice nC y153.length nJ)) (fun _ hk=>hk.2) (.slice rq y160.length rz)) (fun _ hk=>⟨hk.1.1.1,hk.1.1.2⟩)),rM (Kd.Za6 (Kd.Zbv (p:=⟨eD,4,none⟩) (Kd.Zbv (p:=⟨eD,3,none⟩) (Kd.Zbv (p:=⟨eD,2,none⟩) (Kd.Zbv (p:=⟨eD,1,none⟩) (Kd.Zbv (p:=⟨eD,0,none⟩) (Kd.Zbv (p:=⟨dY,4,none⟩) (Kd.Zcc (Kd.Zcc tV.out aD.out (by decide)) bH.out (by decide)) (fun _ hk=>hk.1.2) (.slice rq y160.length rz)) (fun _ hk=>hk.2) (.slice ru bg.length r9)) (fun _ hk=>hk.2) (.slice tT cu.length uo)) (fun _ hk=>hk.2) (.int .i64 ay)) (fun _ hk=>hk.2) (.slice nC y153.length nJ)) (fun _ hk=>hk.2) (.slice rq y160.length rz)) (fun _ hk=>hk.1.1.2)),rM (Kd.Za6 (Kd.Zbv (p:=⟨eD,4,none⟩) (Kd.Zbv (p:=⟨eD,3,none⟩) (Kd.Zbv (p:=⟨eD,2,none⟩) (Kd.Zbv (p:=⟨eD,1,none⟩) (Kd.Zbv (p:=⟨eD,0,none⟩) (Kd.Zbv (p:=⟨dY,4,none⟩) (Kd.Zcc (Kd.Zcc Qs.out aD.out (by decide)) bH.out (by decide)) (fun _ hk=>hk.1.2) (.slice rq y160.length rz)) (fun _ hk=>hk.2) (.slice ru bg.length r9)) (fun _ hk=>hk.2) (.slice tT cu.length uo)) (fun _ hk=>hk.2) (.int .i64 ay)) (fun _ hk=>hk.2) (.slice nC y153.length nJ)) (fun _ hk=>hk.2) (.slice rq y160.length rz)) (fun _ hk=>hk.1.1)),bM HB.out⟩
       subst c54;have H1:(if 0≤ae then(if ae<(aa.length:Int)then(if 0≤(mn (((Zad aa ae).f1).length:Int) 14)then(if(mn (((Zad aa ae).f1).length:Int) 14)≤(((Zad aa ae).f1).length:Int)then(if 0≤(mn (((Zad aa ae).f2).length:Int) 14)then(if(mn (((Zad aa ae).f2).length:Int) 14)≤(((Zad aa ae).f2).length:Int)then((bRows.f ((Zad aa ae).f5)).bind fun t167=>((Zcr.f kj45 ((Zad aa ae).f0) (((Zad aa ae).f1).take ((mn (((Zad aa ae).f1).length:Int) 14):Int).toNat) (((Zad aa ae).f2).take ((mn (((Zad aa ae).f2).length:Int) 14):Int).toNat) ((Zad aa ae).f3) ((Zad aa ae).f4) t167 ((Zad aa ae).f6)).bind fun eY=>(if cu.length<1353245080339 then(Zaa.l1 kj45 (wrap64 (ae+1)) ag aa ay ak ai bg (cu++ [(⟨eY.1,eY.2.1,eY.2.2.1,eY.2.2.2.1,eY.2.2.2.2.1,eY.2.2.2.2.2.1,eY.2.2.2.2.2.2⟩:S36)]) ay ak ai)else(none))))else(none))else(none))else(none))else(none))else(none))else(none))=some (r1,r2,r3,r4,r5):=by rw[if_pos rfl]at H;exact H
       clear H;have H:=H1;clear H1;obtain⟨fTa,H⟩:=ifT H;obtain⟨fUa,H⟩:=ifT H;obtain⟨gF,hji57⟩:∃j_:Int,(mn (((Zad aa ae).f1).length:Int) 14)=j_:=⟨_,rfl⟩;replace H:(if 0≤(gF)then(if(gF)≤(((Zad aa ae).f1).length:Int)then(if 0≤(mn (((Zad aa ae).f2).length:Int) 14)then(if(mn (((Zad aa ae).f2).length:Int) 14)≤(((Zad aa ae).f2).length:Int)then((bRows.f ((Zad aa ae).f5)).bind fun t167=>((Zcr.f kj45 ((Zad aa ae).f0) (((Zad aa ae).f1).take ((gF):Int).toNat) (((Zad aa ae).f2).take ((mn (((Zad aa ae).f2).length:Int) 14):Int).toNat) ((Zad aa ae).f3) ((Zad aa ae).f4) t167 ((Zad aa ae).f6)).bind fun eY=>(if cu.length<1353245080339 then(Zaa.l1 kj45 (wrap64 (ae+1)) ag aa ay ak ai bg (cu++ [(⟨eY.1,eY.2.1,eY.2.2.1,eY.2.2.2.1,eY.2.2.2.2.1,eY.2.2.2.2.2.1,eY.2.2.2.2.2.2⟩:S36)]) ay ak ai)else(none))))else(none))else(none))else(none))else(none))=some (r1,r2,r3,r4,r5):=by first|(rw[hji57]at H;exact H)|(simp only[hji57]at H ⊢;exact H)
       have hji57_:(if 14<(((Zad aa ae).f1).length:Int)then 14 else(((Zad aa ae).f1).length:Int))=gF:=hji57;obtain⟨c58,H⟩:=ifP H;have LJ:=eq_true c58;have LK:decide (0≤(gF))=true:=decide_eq_true c58;clear c58;obtain⟨c59,H⟩:=ifP H;have fVa:=eq_true c59;have fWa:decide ((gF)≤(((Zad aa ae).f1).length:Int))=true:=decide_eq_true c59;clear c59;obtain⟨iA,hji60⟩:∃j_:Int,(mn (((Zad aa ae).f2).length:Int) 14)=j_:=⟨_,rfl⟩;replace H:(if 0≤(iA)then(if(iA)≤(((Zad aa ae).f2).length:Int)then((bRows.f ((Zad aa ae).f5)).bind fun t167=>((Zcr.f kj45 ((Zad aa ae).f0) (((Zad aa ae).f1).take ((gF):Int).toNat) (((Zad aa ae).f2).take ((iA):Int).toNat) ((Zad aa ae).f3) ((Zad aa ae).f4) t167 ((Zad aa ae).f6)).bind fun eY=>(if cu.length<1353245080339 then(Zaa.l1 kj45 (wrap64 (ae+1)) ag aa ay ak ai bg (cu++ [(⟨eY.1,eY.2.1,eY.2.2.1,eY.2.2.2.1,eY.2.2.2.2.1,eY.2.2.2.2.2.1,eY.2.2.2.2.2.2⟩:S36)]) ay ak ai)else(none))))else(none))else(none))=some (r1,r2,r3,r4,r5):=by first|(rw[hji60]at H;exact H)|(simp only[hji60]at H ⊢;exact H)
       have hji60_:(if 14<(((Zad aa ae).f2).length:Int)then 14 else(((Zad aa ae).f2).length:Int))=iA:=hji60;obtain⟨c61,H⟩:=ifP H;have fXa:=eq_true c61;have fYa:decide (0≤(iA))=true:=decide_eq_true c61;clear c61;obtain⟨c62,H⟩:=ifP H;have Yo:=eq_true c62;have gaa:decide ((iA)≤(((Zad aa ae).f2).length:Int))=true:=decide_eq_true c62;clear c62;obtain⟨t167,A63,H⟩:=bnd H;replace H:((Zcr.f kj45 ((Zad aa ae).f0) (((Zad aa ae).f1).take ((gF):Int).toNat) (((Zad aa ae).f2).take ((iA):Int).toNat) ((Zad aa ae).f3) ((Zad aa ae).f4) t167 ((Zad aa ae).f6)).bind fun eY=>(if cu.length<1353245080339 then(Zaa.l1 kj45 (wrap64 (ae+1)) ag aa ay ak ai bg (cu++ [(⟨eY.1,eY.2.1,eY.2.2.1,eY.2.2.2.1,eY.2.2.2.2.1,eY.2.2.2.2.2.1,eY.2.2.2.2.2.2⟩:S36)]) ay ak ai)else(none)))=some (r1,r2,r3,r4,r5):=H;obtain⟨⟨Ff,t171,AA,Fg,Fh,AB,t182⟩,A64,H⟩:=bnd H;replace H:(if cu.length<1353245080339 then(Zaa.l1 kj45 (wrap64 (ae+1)) ag aa ay ak ai bg (cu++ [(⟨Ff,t171,AA,Fg,Fh,AB,t182⟩:S36)]) ay ak ai)else(none))=some (r1,r2,r3,r4,r5):=H;obtain⟨c65,H⟩:=ifP H;have Xi:=Za.mk c65;clear c65;obtain⟨II,CL⟩:∃y_:List (S36),y_=(cu++ [(⟨Ff,t171,AA,Fg,Fh,AB,t182⟩:S36)]):=⟨_,rfl⟩;replace H:(Zaa.l1 kj45 (wrap64 (ae+1)) ag aa ay ak ai bg II ay ak ai)=some (r1,r2,r3,r4,r5):=by first|(rw[CL];with_reducible exact H)|(have H2_:=(Option.bind_some _ _).symm.trans H;rw[CL];with_reducible exact H2_)|(have H2_:=(Option.bind_some _ _).symm.trans H;with_reducible exact H2_)|with_reducible exact H|(rw[CL];exact H)|exact H
       have Xu:=Za.mk CL;clear CL;have H':=Za.mk H;clear H;have g2a:=lg.out;have gQa:=lh.out;have g3a:=gY.out;have gRa:=jr.out;obtain⟨mca,mda,mea,mfa,mga,iNa,iOa,iPa,iQa,iRa⟩:=cz5 bE.out;have oza:(0≤(ae:Int))=True:=teq;have o2a:(ae<(aa.length:Int))=True:=teq;obtain⟨Lb,dL,dM,dS,dU,iJ,iw,rfl,JA,JB,JC,JD,JE,JF,JG,Jz,Jo,J2,Jp,J3,Jq⟩:=at_T36 eO.out ae odt odt;replace JA:=hB HB.out JA;replace JB:=hB HB.out JB;replace JC:=hB HB.out JC;replace JD:=hB HB.out JD;replace JE:=hB HB.out JE;replace JF:=hB HB.out JF;replace JG:=hB HB.out JG;have TH:=Za.mk Jo;have Tw:=Za.mk Jz;clear Jo Jz;have TI:=Za.mk Jp;have Tx:=Za.mk J2;clear Jp J2;have TJ:=Za.mk Jq;have eoa:=Za.mk J3;clear Jq J3;have WB164:=Za.mk (Below.refl w.heap.size w)
       go_upto_region 13 with (first|((with_reducible refine Zar (N:=7) rfl ?_);refine bx 7 #[.int .i64 0,.slice none 0 0,.slice none 0 0,.int .i64 0,.int .i64 0,.slice none 0 0,.int .i64 0] 36 ?_;intro aW hg w69 hbox hb;replace aT:=Za.mk (Kd.Ze2 (sM aT.out) hb);replace bI:=Za.mk (Kd.Zb6 (Kd.R_elderB (rM bI.out) aW (Nat.le_of_eq hg.symm)) hb);have dI:=Za.mk (hbox);have GW164:=Za.mk ((gE hg HB.out:w.heap.size≤aW));have Wy:=Za.mk ((gE hg HB.out:w.heap.size≤aW));replace HB:=Za.mk (bS HB.out hb);have uh:=Za.mk ((by rw[hg];exact Nat.ne_of_lt (Zc7 (kM bE.out)):jb≠aW));have NH:=Za.mk ((by rw[hg];exact Nat.ne_of_gt (Zc7 (kM bE.out)):aW≠jb));replace bE:=Za.mk (kB bE.out hb);have ui:=Za.mk ((by rw[hg];exact Nat.ne_of_lt (Zc7 (kM bH.out)):eD≠aW));have NI:=Za.mk ((by rw[hg];exact Nat.ne_of_gt (Zc7 (kM bH.out)):aW≠eD));replace bH:=Za.mk (kB bH.out hb);have qN:=Za.mk ((by rw[hg];exact Nat.ne_of_lt (Zc7 (kM aD.out)):dY≠aW));have F6:=Za.mk ((by rw[hg];exact Nat.ne_of_gt (Zc7 (kM aD.out)):aW≠dY));replace aD:=Za.mk (kB aD.out hb);clear hb hbox hg;have g4a:=NH.out;have gSa:=uh.out;have g5a:=NI.out;have gTa:=ui.out;have g6a:=F6.out;have gUa:=qN.out;obtain⟨bXa,bYa,caa,cba,cca,cda,cea,aHa,aIa,aJa,aKa,aLa,aMa,aNa⟩:=cz7 dI.out;obtain⟨i074,R6,_,hsz74,_⟩:=info_parts info3;obtain⟨hcut74,hA74,hC74⟩:=Zd8 (P:=Tryz.prog) (Value.int .i64) 0 24 3 .i64 Tryz.underlying24 R6 hsz74 dL dM ((Zad aa ae).f1) (gF) (of_decide_eq_true (by first|(with_reducible assumption)|assumption)) (of_decide_eq_true (by first|(with_reducible assumption)|assumption)) Tw.out;have Xc:=Za.mk (Kd.Zec (h1:=fun _=>rfl) (hA74 _ (Kd.Zed TH.out)));have WE:=Za.mk hC74;clear hA74 hC74 R6 hsz74;obtain⟨i075,R7,_,hsz75,_⟩:=info_parts info3;obtain⟨hcut75,hA75,hC75⟩:=Zd8 (P:=Tryz.prog) (Value.int .i64) 0 24 3 .i64 Tryz.underlying24 R7 hsz75 dS dU ((Zad aa ae).f2) (iA) (of_decide_eq_true (by first|(with_reducible assumption)|assumption)) (of_decide_eq_true (by first|(with_reducible assumption)|assumption)) Tx.out;have Xd:=Za.mk (Kd.Zec (h1:=fun _=>rfl) (hA75 _ (Kd.Zed TI.out)));have WF:=Za.mk hC75;clear hA75 hC75 R7 hsz75))
       obtain⟨wX,hX⟩:∃x_:World,x_=(((((((((w69.setCell ⟨aW,0,none⟩ (.int .i64 ((Zad aa ae).f0))).setCell ⟨aW,1,none⟩ (.slice dL ((Zad aa ae).f1).length dM)).setCell ⟨aW,2,none⟩ (.slice dS ((Zad aa ae).f2).length dU)).setCell ⟨aW,3,none⟩ (.int .i64 ((Zad aa ae).f3))).setCell ⟨aW,4,none⟩ (.int .i64 ((Zad aa ae).f4))).setCell ⟨aW,5,none⟩ (.slice iJ ((Zad aa ae).f5).length iw)).setCell ⟨aW,6,none⟩ (.int .i64 ((Zad aa ae).f6))).setCell ⟨aW,1,none⟩ (.slice dL (((Zad aa ae).f1).take ((gF):Int).toNat).length dM)).setCell ⟨aW,2,none⟩ (.slice dS (((Zad aa ae).f2).take ((iA):Int).toNat).length dU)):=⟨_,rfl⟩;have BX:Za (wX.heap[aW]? =some (.cells #[.int .i64 ((Zad aa ae).f0),.slice dL (((Zad aa ae).f1).take ((gF):Int).toNat).length dM,.slice dS (((Zad aa ae).f2).take ((iA):Int).toNat).length dU,.int .i64 ((Zad aa ae).f3),.int .i64 ((Zad aa ae).f4),.slice iJ ((Zad aa ae).f5).length iw,.int .i64 ((Zad aa ae).f6)] 36 (0,0))):=⟨by rw[hX];(with_reducible repeat(first|refine Zah ?_ _|refine Zai ?_|refine Zab ?_ _));refine Zaz (cs:=#[.int .i64 ((Zad aa ae).f0),.slice dL (((Zad aa ae).f1).take ((gF):Int).toNat).length dM,.slice dS ((Zad aa ae).f2).length dU,.int .i64 ((Zad aa ae).f3),.int .i64 ((Zad aa ae).f4),.slice iJ ((Zad aa ae).f5).length iw,.int .i64 ((Zad aa ae).f6)]) ?_ 2 _ rfl;(with_reducible repeat(first|refine Zah ?_ _|refine Zai ?_|refine Zab ?_ _));refine Zaz (cs:=#[.int .i64 ((Zad aa ae).f0),.slice dL ((Zad aa ae).f1).length dM,.slice dS ((Zad aa ae).f2).length dU,.int .i64 ((Zad aa ae).f3),.int .i64 ((Zad aa ae).f4),.slice iJ ((Zad aa ae).f5).length iw,.int .i64 ((Zad aa ae).f6)]) ?_ 1 _ rfl;(with_reducible repeat(first|refine Zah ?_ _|refine Zai ?_|refine Zab ?_ _));refine Zaz (cs:=#[.int .i64 ((Zad aa ae).f0),.slice dL ((Zad aa ae).f1).length dM,.slice dS ((Zad aa ae).f2).length dU,.int .i64 ((Zad aa ae).f3),.int .i64 ((Zad aa ae).f4),.slice iJ ((Zad aa ae).f5).length iw,.int .i64 0]) ?_ 6 _ rfl;(with_reducible repeat(first|refine Zah ?_ _|refine Zai ?_|refine Zab ?_ _));refine Zaz (cs:=#[.int .i64 ((Zad aa ae).f0),.slice dL ((Zad aa ae).f1).length dM,.slice dS ((Zad aa ae).f2).length dU,.int .i64 ((Zad aa ae).f3),.int .i64 ((Zad aa ae).f4),.slice none 0 0,.int .i64 0]) ?_ 5 _ rfl;(with_reducible repeat(first|refine Zah ?_ _|refine Zai ?_|refine Zab ?_ _));refine Zaz (cs:=#[.int .i64 ((Zad aa ae).f0),.slice dL ((Zad aa ae).f1).length dM,.slice dS ((Zad aa ae).f2).length dU,.int .i64 ((Zad aa ae).f3),.int .i64 0,.slice none 0 0,.int .i64 0]) ?_ 4 _ rfl;(with_reducible repeat(first|refine Zah ?_ _|refine Zai ?_|refine Zab ?_ _));refine Zaz (cs:=#[.int .i64 ((Zad aa ae).f0),.slice dL ((Zad aa ae).f1).length dM,.slice dS ((Zad aa ae).f2).length dU,.int .i64 0,.int .i64 0,.slice none 0 0,.int .i64 0]) ?_ 3 _ rfl;(with_reducible repeat(first|refine Zah ?_ _|refine Zai ?_|refine Zab ?_ _));refine Zaz (cs:=#[.int .i64 ((Zad aa ae).f0),.slice dL ((Zad aa ae).f1).length dM,.slice none 0 0,.int .i64 0,.int .i64 0,.slice none 0 0,.int .i64 0]) ?_ 2 _ rfl;(with_reducible repeat(first|refine Zah ?_ _|refine Zai ?_|refine Zab ?_ _));refine Zaz (cs:=#[.int .i64 ((Zad aa ae).f0),.slice none 0 0,.slice none 0 0,.int .i64 0,.int .i64 0,.slice none 0 0,.int .i64 0]) ?_ 1 _ rfl;(with_reducible repeat(first|refine Zah ?_ _|refine Zai ?_|refine Zab ?_ _));refine Zaz (cs:=#[.int .i64 0,.slice none 0 0,.slice none 0 0,.int .i64 0,.int .i64 0,.slice none 0 0,.int .i64 0]) ?_ 0 _ rfl;(with_reducible repeat(first|refine Zah ?_ _|refine Zai ?_|refine Zab ?_ _));exact dI.out⟩;have HBW:Za (Below w.heap.size w wX):=⟨by rw[hX];repeat(first|(with_reducible first|exact HB.out|apply Zbi|apply Zcb|apply Zcs|refine Zba ?_ Wv.out|refine Zba ?_ Ww.out|refine Zba ?_ Wx.out|refine Zba ?_ Wy.out)|exact HB.out)⟩;have eL1:(((Zad aa ae).f1).take (gF:Int).toNat).length=(gF:Int).toNat:=by(have h_:(gF:Int)≤(((Zad aa ae).f1).length:Int):=of_decide_eq_true (by first|(with_reducible assumption)|assumption));rw[List.length_take];omega
       have eL2:(((Zad aa ae).f2).take (iA:Int).toNat).length=(iA:Int).toNat:=by(have h_:(iA:Int)≤(((Zad aa ae).f2).length:Int):=of_decide_eq_true (by first|(with_reducible assumption)|assumption));rw[List.length_take];omega
       have eT:(((((((((w69.setCell ⟨aW,0,none⟩ (.int .i64 ((Zad aa ae).f0))).setCell ⟨aW,1,none⟩ (.slice dL ((Zad aa ae).f1).length dM)).setCell ⟨aW,2,none⟩ (.slice dS ((Zad aa ae).f2).length dU)).setCell ⟨aW,3,none⟩ (.int .i64 ((Zad aa ae).f3))).setCell ⟨aW,4,none⟩ (.int .i64 ((Zad aa ae).f4))).setCell ⟨aW,5,none⟩ (.slice iJ ((Zad aa ae).f5).length iw)).setCell ⟨aW,6,none⟩ (.int .i64 ((Zad aa ae).f6))).setCell ⟨aW,1,none⟩ (.slice dL (gF:Int).toNat dM)).setCell ⟨aW,2,none⟩ (.slice dS (iA:Int).toNat dU))=wX:=by rw[hX,eL1,eL2]
       rw[eT];clear eT eL1 eL2;have HX:=Za.mk hX;clear hX
       go_upto_block 4 with (first|((with_reducible refine Zar (N:=83) rfl ?_);refine Kd.S_lit (Kd.slice 3 (Kd.int .i64)) _ 24 ?hg (N:=83) ?hd (xs:=([]:List (List Int))) (inner:= []) (ok:=fun _=>True) (okp:=fun _=>True) ?hr ?hp (fun _ hk=>hk) trivial (Below.refl _ _) (Nat.le_refl _) (by simp) ?_;(case hd=>rfl);(case hg=>rfl);(case hr=>first|(go_simp;done)|(go_simp;rfl));(case hp=>exact(Reps.none _ _));intro vL wL hoL hb hg_ hnew_;clear hg_ hnew_;have HL:=Za.mk (Kd.Zc (ok':=fun k_=>k_<w.heap.size∨wX.heap.size≤k_) (Kd.S_N (Kd.Zf hoL)) (fun k_ hk_=> .inr hk_.2.1));have HBL:=Za.mk hb;clear hb hoL))
       (try simp only[Act.put,List.setIfInBounds_toArray,List.set_cons_zero,List.set_cons_succ])
       go_cut [8] (fun v8 wc=>∃vr:Value,vr=v8∧Za (Kd.N (Kd.slice 3 (Kd.int .i64)) 24 wc wX.heap.size (fun k_=>k_<w.heap.size∨wX.heap.size≤k_) vr t167)∧Za (Below wX.heap.size wX wc))
       case first=>
        obtain rfl:cutR (Zad aa ae).f5=t167:=Option.some.inj A63.out;clear A63;go_wp2
        go_loopg [8,9] 21 (fun kq v8 v9 w'=>∃(n:Nat) (x:Int),v9= .int .i64 x∧Za (x=(n:Int))∧Za (n+kq=21)∧Za (n≤((Zad aa ae).f5).length∧n≤20)∧Za (Kd.N (Kd.slice 3 (Kd.int .i64)) 24 w' wX.heap.size (fun k_=>k_<w.heap.size∨wX.heap.size≤k_) v8 ((((Zad aa ae).f5).take n).map fun r=>r.take 14))∧Za (Below wX.heap.size wX w'))
        case atStart=>exact⟨0,0,rfl,⟨rfl⟩,⟨rfl⟩,⟨Nat.zero_le _,Nat.zero_le _⟩,⟨nM HL.out⟩,⟨bM HBL.out⟩⟩
        case round=>
         clear HL HBL;obtain⟨n,x,rfl,HE,HK,HN,HO8,HBL⟩:=hrel
         cases gk with
         | zero => exact absurd HK.out (by have := HN.out.2; omega)
         |succ kI=>
          have BXr:=Za.mk (Zci (g:=aW) (o:= .cells #[.int .i64 ((Zad aa ae).f0),.slice dL (((Zad aa ae).f1).take ((gF):Int).toNat).length dM,.slice dS (((Zad aa ae).f2).take ((iA):Int).toNat).length dU,.int .i64 ((Zad aa ae).f3),.int .i64 ((Zad aa ae).f4),.slice iJ ((Zad aa ae).f5).length iw,.int .i64 ((Zad aa ae).f6)] 36 (0,0)) BX.out HBL.out);obtain⟨hczI_0,hczI_1,hczI_2,hczI_3,hczI_4,hczI_5,hczI_6,hfzI_0,hfzI_1,hfzI_2,hfzI_3,hfzI_4,hfzI_5,hfzI_6⟩:=cz7 BXr.out;by_cases c1:n<((Zad aa ae).f5).length
          case neg=>
           have d1:decide (x<(((Zad aa ae).f5).length:Int))=false:=decide_eq_false (by have:=HE.out;omega);have d1p:¬(x<(((Zad aa ae).f5).length:Int)):=by have:=HE.out;omega
           have HOF:Za (Kd.N (Kd.slice 3 (Kd.int .i64)) 24 wr wX.heap.size (fun k_=>k_<w.heap.size∨wX.heap.size≤k_) u8 (cutR (Zad aa ae).f5)):=⟨by have e_:cutR (Zad aa ae).f5=(((Zad aa ae).f5).take n).map fun r=>r.take 14:=(by have h1_:=HN.out;unfold cutR;rw[List.take_of_length_le (by omega:((Zad aa ae).f5).length≤n),List.take_of_length_le (by omega:((Zad aa ae).f5).length≤20)]);rw[e_];exact HO8.out⟩;clear c1;go_wp2
           go_meet
           case rel=>exact⟨_,rfl,⟨nM HOF.out⟩,⟨bM HBL.out⟩⟩
          have d1:decide (x<(((Zad aa ae).f5).length:Int))=true:=decide_eq_true (by have:=HE.out;omega);by_cases c2:n<20
          case neg=>
           have d2:decide (x<20)=false:=decide_eq_false (by have:=HE.out;omega);have d2p:¬(x<20):=by have:=HE.out;omega
           have HOF:Za (Kd.N (Kd.slice 3 (Kd.int .i64)) 24 wr wX.heap.size (fun k_=>k_<w.heap.size∨wX.heap.size≤k_) u8 (cutR (Zad aa ae).f5)):=⟨by have e_:cutR (Zad aa ae).f5=(((Zad aa ae).f5).take n).map fun r=>r.take 14:=(by have h1_:=HN.out;unfold cutR;rw[show n=20 by omega]);rw[e_];exact HO8.out⟩;clear c1 c2;go_wp2
           go_meet
           case rel=>exact⟨_,rfl,⟨nM HOF.out⟩,⟨bM HBL.out⟩⟩
          have d2:decide (x<20)=true:=decide_eq_true (by have:=HE.out;omega);obtain⟨HK1,HN1,LMI,HEW,JI,JJ⟩:Za (n+1+kI=21)∧Za (n+1≤((Zad aa ae).f5).length∧n+1≤20)∧Za (((((Zad aa ae).f5).take n).map fun r=>r.take 14).length<5864062014805)∧Za (wrap64 (x+1)=((n+1:Nat):Int))∧Za ((0:Int)≤x)∧Za (x<(((Zad aa ae).f5).length:Int)):=⟨⟨by have:=HK.out;omega⟩,⟨by omega,by omega⟩,⟨by rw[List.length_map,List.length_take];omega⟩,⟨by rw[HE.out];unfold wrap64;omega⟩,⟨by have:=HE.out;omega⟩,⟨by have:=HE.out;omega⟩⟩;have RE:Za (((((Zad aa ae).f5).take n).map fun r=>r.take 14)++ [(Zb3 ((Zad aa ae).f5) x).take 14]=(((Zad aa ae).f5).take (n+1)).map fun r=>r.take 14):=⟨by rw[List.take_succ_eq_append_getElem c1,List.map_append,HE.out];simp[Zb3,List.getD_eq_getElem?_getD,List.getElem?_eq_getElem c1]⟩;clear c1 c2;obtain⟨adI,AI,cI,eI,hxI,hlI,hiI⟩:=Zew TJ.out x JI.out JJ.out;cases eI;have HBwr:=Za.mk (Zae HBW.out HBL.out);replace hxI:=Za.mk hxI;obtain⟨jI,hjI⟩:∃j_:Int,(mn ((Zb3 ((Zad aa ae).f5) x).length:Int) 14)=j_:=⟨_,rfl⟩;have hjI_:(if 14<((Zb3 ((Zad aa ae).f5) x).length:Int)then 14 else((Zb3 ((Zad aa ae).f5) x).length:Int))=jI:=hjI;have hj0:0≤jI:=by rw[←hjI_];split<;>omega
          have hj1:jI≤((Zb3 ((Zad aa ae).f5) x).length:Int):=by rw[←hjI_];split<;>omega
          have RJ:Za ((Zb3 ((Zad aa ae).f5) x).take jI.toNat=(Zb3 ((Zad aa ae).f5) x).take 14):=⟨by rw[←hjI_];split<;>(first|rfl|(rw[List.take_of_length_le (by omega),List.take_of_length_le (by omega)]))⟩;have eLI:=Za.mk (show((Zb3 ((Zad aa ae).f5) x).take jI.toNat).length=jI.toNat by rw[List.length_take];omega);obtain⟨i0I,hi0I,_,hszI,_⟩:=info_parts info3;obtain⟨hcutI,hAI,hCI⟩:=Zd8 (P:=Tryz.prog) (Value.int .i64) 0 24 3 .i64 Tryz.underlying24 hi0I hszI AI cI (Zb3 ((Zad aa ae).f5) x) jI hj0 hj1 hlI;have HIT:=Za.mk (Kd.Zec (h1:=fun _=>rfl) (hAI _ (Kd.Zed hiI)));have HCI:=Za.mk hCI;clear hAI hCI hi0I hszI hiI;have j0b:decide (0≤jI)=true:=decide_eq_true hj0;have j1b:decide (jI≤((Zb3 ((Zad aa ae).f5) x).length:Int))=true:=decide_eq_true hj1;replace hj0:=eq_true hj0;replace hj1:=eq_true hj1;have x0:decide (0≤x)=true:=decide_eq_true JI.out;have p0:=eq_true JI.out;have q0:=eq_true JJ.out;have FKI:∀W:World,Below w.heap.size w W→Kd.FK (Kd.slice 3 (Kd.int .i64)) W (fun k_=>(k_<w.heap.size∨wX.heap.size≤k_)∧some k_≠(u8:Value).ownBlock) ((Zb3 ((Zad aa ae).f5) x).take jI.toNat) [.slice AI ((Zb3 ((Zad aa ae).f5) x).take jI.toNat).length cI]:=fun W hW=>Kd.Ze8 HCI.out (Kd.Zhz (Kd.Zgb (Kd.C_F (Kd.heap_int .i64) HIT.out) hW) (fun k_ hk_=>⟨.inl hk_,fun e_=>by have h1_:=Kd.Zgx HO8.out k_ e_.symm;have h2_:=Zaf HBW.out;omega⟩))
          have FKA:=Za.mk FKI;clear FKI;try go_wp2_with (fail)
          clear hczI_0 hfzI_0 hczI_1 hfzI_1 hczI_2 hfzI_2 hczI_3 hfzI_3 hczI_4 hfzI_4 hczI_5 hfzI_5 hczI_6 hfzI_6;have HO8d:=Za.mk (Kd.Zef HO8.out);replace BXr:=Za.mk (Zai BXr.out);replace HBL:=Za.mk (Zcs HBL.out);replace HBwr:=Za.mk (Zcs HBwr.out);refine Ze7 (n:=17) (S:=fun w'=>w'.cell? ⟨aW,5,none⟩=some (.slice (some adI) ((Zad aa ae).f5).length iw)∧w'.cell? (adI.add (x:Int).toNat)=some (.slice AI (Zb3 ((Zad aa ae).f5) x).length cI)) (ds:= [15]) #[false,false,false,false,false,false,false,false,false,false,false,false,false,false,false,false,false] (by kernel_rfl) rfl rfl ⟨bc BXr.out 5,(HBwr.out.cell (World.block_lt_of_cell? w _ hxI.out)).trans hxI.out⟩ (fun hHeld=> ?_);refine Zdy Zaa.tab17 Zaa.Zh2 (fun HT_ HW_=> ?_)
          generalize wr.drew=wd at HO8d BXr HBL HBwr hHeld ⊢
          refine pu HT_ 0 95 ?_;refine pu HT_ 1 96 ?_;refine tk HT_ HW_ hHeld 2 97 ?_;refine pu HT_ 3 98 ?_;refine pu HT_ 4 99 ?_;refine tk HT_ HW_ hHeld 5 100 ?_;refine pu HT_ 6 101 ?_;refine tk HT_ HW_ hHeld 7 102 ?_;refine pu HT_ 8 103 ?_;refine pu HT_ 9 104 ?_;refine tk HT_ HW_ hHeld 10 105 ?_;refine pu HT_ 11 106 ?_;refine pu HT_ 12 107 ?_;refine pu HT_ 13 108 ?_;refine on1 HT_ 14 109 (fun K hK=> ?_);refine value_ (w1:=?_) (v:=?_) (by rfl) rfl ?_ ?_;rotate_left 2
          ·go_simp
           constructor
           ·rfl
           rfl
          refine hK.out _ _ ⟨(Zap (Zab BXr.out _) 5).trans rfl,((Zae HBwr.out (Zbi (Below.refl _ _) _)).cell (World.block_lt_of_cell? w _ hxI.out)).trans hxI.out⟩ (fun hHeld=> ?_);clear hK K;refine nmp 109 ?_;refine last_ (i:=15) (N:=some 110) #[true,true,true,true,true,true,true,true,true,true,true,true,true,true,true,true,false] rfl rfl (Zia HT_.out (by kernel_rfl)) (by decide) (fun K hK=> ?_);refine Kd.N_append_step (Kd.slice 3 (Kd.int .i64)) (w0:=wX) wX.heap.size (by rfl) (.tmp 95) (.tmp 109) 34 24 (.slice none 0 0) 24 rfl Tryz.underlying34 Zh6 rfl (by decide) (by omega) u8 ((((Zad aa ae).f5).take n).map fun r=>r.take 14) ((Zb3 ((Zad aa ae).f5) x).take jI.toNat) [.slice AI (jI:Int).toNat cI] (fun k_=>k_<w.heap.size∨wX.heap.size≤k_) (fun k_=>(k_<w.heap.size∨wX.heap.size≤k_)∧some k_≠(u8:Value).ownBlock) rfl rfl ?aP (fun _ hk=>hk) (fun k_ hk=> .inr (Nat.le_trans (Zaf HBL.out) hk)) HO8d.out HBL.out (Zaf HBL.out) (by have:=LMI.out;omega) ?_
          (case aP=>have hq_:=FKA.out _ HBwr.out;rw[eLI.out]at hq_;exact hq_)
          intro vN wN ho hb hg hat;have HON:=Za.mk ho;have HBN:=Za.mk hb;clear ho hb hg hat;refine hK.out _ _ ?_;clear hK K;refine nmp 110 ?_;refine pu HT_ 16 8 ?_;refine Zgg (Zen HT_.out (by kernel_rfl)) ?_;try go_wp2
          go_roundg kI
          case measure=>omega
          case rel=>exact⟨n+1,_,rfl,HEW,HK1,HN1,⟨by rw[←RE.out,←RJ.out];(with_reducible repeat(first|apply Kd.N_alloc|apply Kd.N_drewN|apply Kd.Zef));exact HON.out⟩,⟨bM HBN.out⟩⟩
       case rest=>
        obtain⟨v168,rfl,HN,HBL⟩:=hcut;obtain⟨w76,rfl⟩:∃w_:World,w_=wc:=⟨_,rfl⟩;have hX:=HX.out;clear HX BX HBW;subst hX;have hb:=HBL.out;have nG:Za (Kd.V (Kd.slice 3 (Kd.int .i64)) 24 w76 w.heap.size (fun k_=>some k_≠(dX:Value).ownBlock∧some k_≠(ik:Value).ownBlock∧k_≠jb∧k_≠eD∧k_≠dY∧k_≠aW) v168 t167):=⟨Kd.Zfb (Kd.N_V HN.out) (fun k_ hk_=>hk_.elim (fun hk_=>⟨fun e_=>Nat.not_le.2 hk_ (Kd.Zgl aT.out k_ e_.symm),fun e_=>Nat.not_le.2 hk_ (Kd.Zc6 bI.out k_ e_.symm),fun e_=>Nat.not_le.2 hk_ (by rw[e_];exact GW131.out),fun e_=>Nat.not_le.2 hk_ (by rw[e_];exact GW132.out),fun e_=>Nat.not_le.2 hk_ (by rw[e_];exact GW133.out),fun e_=>Nat.not_le.2 hk_ (by rw[e_];exact GW164.out)⟩) (fun hk_=>⟨(Kd.fresh' (Kd.S_lt (sM (Kd.Zd9 (Kd.Zdw (p:=⟨aW,2,none⟩) (Kd.Zdw (p:=⟨aW,1,none⟩) (Kd.Zdw (p:=⟨aW,6,none⟩) (Kd.Zdw (p:=⟨aW,5,none⟩) (Kd.Zdw (p:=⟨aW,4,none⟩) (Kd.Zdw (p:=⟨aW,3,none⟩) (Kd.Zdw (p:=⟨aW,2,none⟩) (Kd.Zdw (p:=⟨aW,1,none⟩) (Kd.Zdw (p:=⟨aW,0,none⟩) (Kd.Zet aT.out dI.out (by decide)) (fun _ hk=>hk.2) (.int .i64 ((Zad aa ae).f0))) (fun _ hk=>hk.2) (.slice dL ((Zad aa ae).f1).length dM)) (fun _ hk=>hk.2) (.slice dS ((Zad aa ae).f2).length dU)) (fun _ hk=>hk.2) (.int .i64 ((Zad aa ae).f3))) (fun _ hk=>hk.2) (.int .i64 ((Zad aa ae).f4))) (fun _ hk=>hk.2) (.slice iJ ((Zad aa ae).f5).length iw)) (fun _ hk=>hk.2) (.int .i64 ((Zad aa ae).f6))) (fun _ hk=>hk.2) (.slice dL (((Zad aa ae).f1).take ((gF):Int).toNat).length dM)) (fun _ hk=>hk.2) (.slice dS (((Zad aa ae).f2).take ((iA):Int).toNat).length dU)) (fun _ h_=>h_.1)))) k_ hk_),(Kd.fresh' (Kd.R_lt (rM (Kd.Za6 (Kd.Zbv (p:=⟨aW,2,none⟩) (Kd.Zbv (p:=⟨aW,1,none⟩) (Kd.Zbv (p:=⟨aW,6,none⟩) (Kd.Zbv (p:=⟨aW,5,none⟩) (Kd.Zbv (p:=⟨aW,4,none⟩) (Kd.Zbv (p:=⟨aW,3,none⟩) (Kd.Zbv (p:=⟨aW,2,none⟩) (Kd.Zbv (p:=⟨aW,1,none⟩) (Kd.Zbv (p:=⟨aW,0,none⟩) (Kd.Za6 bI.out (fun k_ hk=>(⟨hk,hk.2⟩:_∧k_≠aW))) (fun _ hk=>hk.2) (.int .i64 ((Zad aa ae).f0))) (fun _ hk=>hk.2) (.slice dL ((Zad aa ae).f1).length dM)) (fun _ hk=>hk.2) (.slice dS ((Zad aa ae).f2).length dU)) (fun _ hk=>hk.2) (.int .i64 ((Zad aa ae).f3))) (fun _ hk=>hk.2) (.int .i64 ((Zad aa ae).f4))) (fun _ hk=>hk.2) (.slice iJ ((Zad aa ae).f5).length iw)) (fun _ hk=>hk.2) (.int .i64 ((Zad aa ae).f6))) (fun _ hk=>hk.2) (.slice dL (((Zad aa ae).f1).take ((gF):Int).toNat).length dM)) (fun _ hk=>hk.2) (.slice dS (((Zad aa ae).f2).take ((iA):Int).toNat).length dU)) (fun _ h_=>h_.1)))) k_ hk_),(Kd.freshB (g:=jb) (o:= .cells #[.slice eQ ag.length eF,.slice (some Lb) aa.length aQ,.int .i64 ay,.slice bR ak.length bT,.slice bK ai.length bL] 28 (0,0)) (by(with_reducible repeat(first|exact bE.out|refine Zcv ?_ uh.out _|refine Zab ?_ _|refine Zai ?_|refine Zah ?_ _))) k_ hk_),(Kd.freshB (g:=eD) (o:= .cells #[.slice none 0 0,.slice none 0 0,.int .i64 0,.slice none 0 0,.slice none 0 0] 28 (0,0)) (by(with_reducible repeat(first|exact bH.out|refine Zcv ?_ ui.out _|refine Zab ?_ _|refine Zai ?_|refine Zah ?_ _))) k_ hk_),(Kd.freshB (g:=dY) (o:= .cells #[dX,ik,.int .i64 ay,.slice bR ak.length bT,.slice bK ai.length bL] 28 (0,0)) (by(with_reducible repeat(first|exact aD.out|refine Zcv ?_ qN.out _|refine Zab ?_ _|refine Zai ?_|refine Zah ?_ _))) k_ hk_),(Kd.freshB (g:=aW) (o:= .cells #[.int .i64 ((Zad aa ae).f0),.slice dL (((Zad aa ae).f1).take ((gF):Int).toNat).length dM,.slice dS (((Zad aa ae).f2).take ((iA):Int).toNat).length dU,.int .i64 ((Zad aa ae).f3),.int .i64 ((Zad aa ae).f4),.slice iJ ((Zad aa ae).f5).length iw,.int .i64 ((Zad aa ae).f6)] 36 (0,0)) (by(with_reducible repeat(first|refine Zah ?_ _|refine Zai ?_|refine Zab ?_ _));refine Zaz (cs:=#[.int .i64 ((Zad aa ae).f0),.slice dL (((Zad aa ae).f1).take ((gF):Int).toNat).length dM,.slice dS ((Zad aa ae).f2).length dU,.int .i64 ((Zad aa ae).f3),.int .i64 ((Zad aa ae).f4),.slice iJ ((Zad aa ae).f5).length iw,.int .i64 ((Zad aa ae).f6)]) ?_ 2 _ rfl;(with_reducible repeat(first|refine Zah ?_ _|refine Zai ?_|refine Zab ?_ _));refine Zaz (cs:=#[.int .i64 ((Zad aa ae).f0),.slice dL ((Zad aa ae).f1).length dM,.slice dS ((Zad aa ae).f2).length dU,.int .i64 ((Zad aa ae).f3),.int .i64 ((Zad aa ae).f4),.slice iJ ((Zad aa ae).f5).length iw,.int .i64 ((Zad aa ae).f6)]) ?_ 1 _ rfl;(with_reducible repeat(first|refine Zah ?_ _|refine Zai ?_|refine Zab ?_ _));refine Zaz (cs:=#[.int .i64 ((Zad aa ae).f0),.slice dL ((Zad aa ae).f1).length dM,.slice dS ((Zad aa ae).f2).length dU,.int .i64 ((Zad aa ae).f3),.int .i64 ((Zad aa ae).f4),.slice iJ ((Zad aa ae).f5).length iw,.int .i64 0]) ?_ 6 _ rfl;(with_reducible repeat(first|refine Zah ?_ _|refine Zai ?_|refine Zab ?_ _));refine Zaz (cs:=#[.int .i64 ((Zad aa ae).f0),.slice dL ((Zad aa ae).f1).length dM,.slice dS ((Zad aa ae).f2).length dU,.int .i64 ((Zad aa ae).f3),.int .i64 ((Zad aa ae).f4),.slice none 0 0,.int .i64 0]) ?_ 5 _ rfl;(with_reducible repeat(first|refine Zah ?_ _|refine Zai ?_|refine Zab ?_ _));refine Zaz (cs:=#[.int .i64 ((Zad aa ae).f0),.slice dL ((Zad aa ae).f1).length dM,.slice dS ((Zad aa ae).f2).length dU,.int .i64 ((Zad aa ae).f3),.int .i64 0,.slice none 0 0,.int .i64 0]) ?_ 4 _ rfl;(with_reducible repeat(first|refine Zah ?_ _|refine Zai ?_|refine Zab ?_ _));refine Zaz (cs:=#[.int .i64 ((Zad aa ae).f0),.slice dL ((Zad aa ae).f1).length dM,.slice dS ((Zad aa ae).f2).length dU,.int .i64 0,.int .i64 0,.slice none 0 0,.int .i64 0]) ?_ 3 _ rfl;(with_reducible repeat(first|refine Zah ?_ _|refine Zai ?_|refine Zab ?_ _));refine Zaz (cs:=#[.int .i64 ((Zad aa ae).f0),.slice dL ((Zad aa ae).f1).length dM,.slice none 0 0,.int .i64 0,.int .i64 0,.slice none 0 0,.int .i64 0]) ?_ 2 _ rfl;(with_reducible repeat(first|refine Zah ?_ _|refine Zai ?_|refine Zab ?_ _));refine Zaz (cs:=#[.int .i64 ((Zad aa ae).f0),.slice none 0 0,.slice none 0 0,.int .i64 0,.int .i64 0,.slice none 0 0,.int .i64 0]) ?_ 1 _ rfl;(with_reducible repeat(first|refine Zah ?_ _|refine Zai ?_|refine Zab ?_ _));refine Zaz (cs:=#[.int .i64 0,.slice none 0 0,.slice none 0 0,.int .i64 0,.int .i64 0,.slice none 0 0,.int .i64 0]) ?_ 0 _ rfl;(with_reducible repeat(first|refine Zah ?_ _|refine Zai ?_|refine Zab ?_ _));exact dI.out) k_ hk_)⟩))⟩;replace aT:=Za.mk (Kd.Ze2 (sM (Kd.Zd9 (Kd.Zdw (p:=⟨aW,2,none⟩) (Kd.Zdw (p:=⟨aW,1,none⟩) (Kd.Zdw (p:=⟨aW,6,none⟩) (Kd.Zdw (p:=⟨aW,5,none⟩) (Kd.Zdw (p:=⟨aW,4,none⟩) (Kd.Zdw (p:=⟨aW,3,none⟩) (Kd.Zdw (p:=⟨aW,2,none⟩) (Kd.Zdw (p:=⟨aW,1,none⟩) (Kd.Zdw (p:=⟨aW,0,none⟩) (Kd.Zet aT.out dI.out (by decide)) (fun _ hk=>hk.2) (.int .i64 ((Zad aa ae).f0))) (fun _ hk=>hk.2) (.slice dL ((Zad aa ae).f1).length dM)) (fun _ hk=>hk.2) (.slice dS ((Zad aa ae).f2).length dU)) (fun _ hk=>hk.2) (.int .i64 ((Zad aa ae).f3))) (fun _ hk=>hk.2) (.int .i64 ((Zad aa ae).f4))) (fun _ hk=>hk.2) (.slice iJ ((Zad aa ae).f5).length iw)) (fun _ hk=>hk.2) (.int .i64 ((Zad aa ae).f6))) (fun _ hk=>hk.2) (.slice dL (((Zad aa ae).f1).take ((gF):Int).toNat).length dM)) (fun _ hk=>hk.2) (.slice dS (((Zad aa ae).f2).take ((iA):Int).toNat).length dU)) (fun _ h_=>h_.1))) hb);replace bI:=Za.mk (Kd.Zb6 (rM (Kd.Za6 (Kd.Zbv (p:=⟨aW,2,none⟩) (Kd.Zbv (p:=⟨aW,1,none⟩) (Kd.Zbv (p:=⟨aW,6,none⟩) (Kd.Zbv (p:=⟨aW,5,none⟩) (Kd.Zbv (p:=⟨aW,4,none⟩) (Kd.Zbv (p:=⟨aW,3,none⟩) (Kd.Zbv (p:=⟨aW,2,none⟩) (Kd.Zbv (p:=⟨aW,1,none⟩) (Kd.Zbv (p:=⟨aW,0,none⟩) (Kd.Za6 bI.out (fun k_ hk=>(⟨hk,hk.2⟩:_∧k_≠aW))) (fun _ hk=>hk.2) (.int .i64 ((Zad aa ae).f0))) (fun _ hk=>hk.2) (.slice dL ((Zad aa ae).f1).length dM)) (fun _ hk=>hk.2) (.slice dS ((Zad aa ae).f2).length dU)) (fun _ hk=>hk.2) (.int .i64 ((Zad aa ae).f3))) (fun _ hk=>hk.2) (.int .i64 ((Zad aa ae).f4))) (fun _ hk=>hk.2) (.slice iJ ((Zad aa ae).f5).length iw)) (fun _ hk=>hk.2) (.int .i64 ((Zad aa ae).f6))) (fun _ hk=>hk.2) (.slice dL (((Zad aa ae).f1).take ((gF):Int).toNat).length dM)) (fun _ hk=>hk.2) (.slice dS (((Zad aa ae).f2).take ((iA):Int).toNat).length dU)) (fun _ h_=>h_.1))) hb);replace bE:=Za.mk (Zci (g:=jb) (o:= .cells #[.slice eQ ag.length eF,.slice (some Lb) aa.length aQ,.int .i64 ay,.slice bR ak.length bT,.slice bK ai.length bL] 28 (0,0)) (by(with_reducible repeat(first|exact bE.out|refine Zcv ?_ uh.out _|refine Zab ?_ _|refine Zai ?_|refine Zah ?_ _))) hb);replace bH:=Za.mk (Zci (g:=eD) (o:= .cells #[.slice none 0 0,.slice none 0 0,.int .i64 0,.slice none 0 0,.slice none 0 0] 28 (0,0)) (by(with_reducible repeat(first|exact bH.out|refine Zcv ?_ ui.out _|refine Zab ?_ _|refine Zai ?_|refine Zah ?_ _))) hb);replace aD:=Za.mk (Zci (g:=dY) (o:= .cells #[dX,ik,.int .i64 ay,.slice bR ak.length bT,.slice bK ai.length bL] 28 (0,0)) (by(with_reducible repeat(first|exact aD.out|refine Zcv ?_ qN.out _|refine Zab ?_ _|refine Zai ?_|refine Zah ?_ _))) hb);replace dI:=Za.mk (Zci (g:=aW) (o:= .cells #[.int .i64 ((Zad aa ae).f0),.slice dL (((Zad aa ae).f1).take ((gF):Int).toNat).length dM,.slice dS (((Zad aa ae).f2).take ((iA):Int).toNat).length dU,.int .i64 ((Zad aa ae).f3),.int .i64 ((Zad aa ae).f4),.slice iJ ((Zad aa ae).f5).length iw,.int .i64 ((Zad aa ae).f6)] 36 (0,0)) (by(with_reducible repeat(first|refine Zah ?_ _|refine Zai ?_|refine Zab ?_ _));refine Zaz (cs:=#[.int .i64 ((Zad aa ae).f0),.slice dL (((Zad aa ae).f1).take ((gF):Int).toNat).length dM,.slice dS ((Zad aa ae).f2).length dU,.int .i64 ((Zad aa ae).f3),.int .i64 ((Zad aa ae).f4),.slice iJ ((Zad aa ae).f5).length iw,.int .i64 ((Zad aa ae).f6)]) ?_ 2 _ rfl;(with_reducible repeat(first|refine Zah ?_ _|refine Zai ?_|refine Zab ?_ _));refine Zaz (cs:=#[.int .i64 ((Zad aa ae).f0),.slice dL ((Zad aa ae).f1).length dM,.slice dS ((Zad aa ae).f2).length dU,.int .i64 ((Zad aa ae).f3),.int .i64 ((Zad aa ae).f4),.slice iJ ((Zad aa ae).f5).length iw,.int .i64 ((Zad aa ae).f6)]) ?_ 1 _ rfl;(with_reducible repeat(first|refine Zah ?_ _|refine Zai ?_|refine Zab ?_ _));refine Zaz (cs:=#[.int .i64 ((Zad aa ae).f0),.slice dL ((Zad aa ae).f1).length dM,.slice dS ((Zad aa ae).f2).length dU,.int .i64 ((Zad aa ae).f3),.int .i64 ((Zad aa ae).f4),.slice iJ ((Zad aa ae).f5).length iw,.int .i64 0]) ?_ 6 _ rfl;(with_reducible repeat(first|refine Zah ?_ _|refine Zai ?_|refine Zab ?_ _));refine Zaz (cs:=#[.int .i64 ((Zad aa ae).f0),.slice dL ((Zad aa ae).f1).length dM,.slice dS ((Zad aa ae).f2).length dU,.int .i64 ((Zad aa ae).f3),.int .i64 ((Zad aa ae).f4),.slice none 0 0,.int .i64 0]) ?_ 5 _ rfl;(with_reducible repeat(first|refine Zah ?_ _|refine Zai ?_|refine Zab ?_ _));refine Zaz (cs:=#[.int .i64 ((Zad aa ae).f0),.slice dL ((Zad aa ae).f1).length dM,.slice dS ((Zad aa ae).f2).length dU,.int .i64 ((Zad aa ae).f3),.int .i64 0,.slice none 0 0,.int .i64 0]) ?_ 4 _ rfl;(with_reducible repeat(first|refine Zah ?_ _|refine Zai ?_|refine Zab ?_ _));refine Zaz (cs:=#[.int .i64 ((Zad aa ae).f0),.slice dL ((Zad aa ae).f1).length dM,.slice dS ((Zad aa ae).f2).length dU,.int .i64 0,.int .i64 0,.slice none 0 0,.int .i64 0]) ?_ 3 _ rfl;(with_reducible repeat(first|refine Zah ?_ _|refine Zai ?_|refine Zab ?_ _));refine Zaz (cs:=#[.int .i64 ((Zad aa ae).f0),.slice dL ((Zad aa ae).f1).length dM,.slice none 0 0,.int .i64 0,.int .i64 0,.slice none 0 0,.int .i64 0]) ?_ 2 _ rfl;(with_reducible repeat(first|refine Zah ?_ _|refine Zai ?_|refine Zab ?_ _));refine Zaz (cs:=#[.int .i64 ((Zad aa ae).f0),.slice none 0 0,.slice none 0 0,.int .i64 0,.int .i64 0,.slice none 0 0,.int .i64 0]) ?_ 1 _ rfl;(with_reducible repeat(first|refine Zah ?_ _|refine Zai ?_|refine Zab ?_ _));refine Zaz (cs:=#[.int .i64 0,.slice none 0 0,.slice none 0 0,.int .i64 0,.int .i64 0,.slice none 0 0,.int .i64 0]) ?_ 0 _ rfl;(with_reducible repeat(first|refine Zah ?_ _|refine Zai ?_|refine Zab ?_ _));exact dI.out) hb);replace HB:=Za.mk (bS HB.out hb)
        (try clear hb)
        (try clear hb2)
        (try clear hk)
        (try clear hi)
        (try clear ho0)
        obtain⟨nV,nW,dba⟩:=Kd.V_slice nG.out;subst dba;obtain⟨mBa,mCa,mDa,mEa,mFa,mGa,mHa,jxa,jya,jza,j0a,j1a,j2a,j3a⟩:=cz7 dI.out;try go_wp2_with (fail)
        have n0_:Za (Kd.S k55 55 (w76.setCell ⟨aW,5,none⟩ (.slice nV t167.length nW)) w.heap.size (fun _=>True) dX bg):=⟨sM (Kd.Zd9 (Kd.Zdw (p:=⟨aW,5,none⟩) (Kd.Zet aT.out dI.out (by decide)) (fun _ hk=>hk.2) (.slice nV t167.length nW)) (fun _ hk=>trivial))⟩;have n1_:Za (Kd.R k36 36 (w76.setCell ⟨aW,5,none⟩ (.slice nV t167.length nW)) w.heap.size (fun k_=>k_≠aW) ik cu):=⟨rM (Kd.Za6 (Kd.Zbv (p:=⟨aW,5,none⟩) (Kd.Za6 bI.out (fun k_ hk=>(⟨hk,hk.2⟩:_∧k_≠aW))) (fun _ hk=>hk.2) (.slice nV t167.length nW)) (fun _ hk=>hk.1.2))⟩;have n2_:Za (Kd.V (Kd.slice 3 (Kd.int .i64)) 24 (w76.setCell ⟨aW,5,none⟩ (.slice nV t167.length nW)) w.heap.size (fun k_=>some k_≠(dX:Value).ownBlock∧some k_≠(ik:Value).ownBlock∧k_≠jb∧k_≠eD∧k_≠dY∧k_≠aW) (.slice nV t167.length nW) t167):=⟨vM (Kd.Zfb (Kd.V_far (p:=⟨aW,5,none⟩) (Kd.Zfb nG.out (fun k_ hk=>(⟨hk,hk.2.2.2.2.2⟩:_∧k_≠aW))) (fun _ hk=>hk.2) (.slice nV t167.length nW)) (fun _ hk=>⟨hk.1.1,⟨hk.1.2.1,⟨hk.1.2.2.1,⟨hk.1.2.2.2.1,⟨hk.1.2.2.2.2.1,hk.1.2.2.2.2.2⟩⟩⟩⟩⟩))⟩;have n3_:Za ((w76.setCell ⟨aW,5,none⟩ (.slice nV t167.length nW)).heap[jb]? =some (.cells #[.slice eQ ag.length eF,.slice (some Lb) aa.length aQ,.int .i64 ay,.slice bR ak.length bT,.slice bK ai.length bL] 28 (0,0))):=⟨by(with_reducible repeat(first|exact bE.out|refine Zcv ?_ uh.out _|refine Zab ?_ _|refine Zai ?_|refine Zah ?_ _))⟩;have n4_:Za ((w76.setCell ⟨aW,5,none⟩ (.slice nV t167.length nW)).heap[eD]? =some (.cells #[.slice none 0 0,.slice none 0 0,.int .i64 0,.slice none 0 0,.slice none 0 0] 28 (0,0))):=⟨by(with_reducible repeat(first|exact bH.out|refine Zcv ?_ ui.out _|refine Zab ?_ _|refine Zai ?_|refine Zah ?_ _))⟩;have n5_:Za ((w76.setCell ⟨aW,5,none⟩ (.slice nV t167.length nW)).heap[dY]? =some (.cells #[dX,ik,.int .i64 ay,.slice bR ak.length bT,.slice bK ai.length bL] 28 (0,0))):=⟨by(with_reducible repeat(first|exact aD.out|refine Zcv ?_ qN.out _|refine Zab ?_ _|refine Zai ?_|refine Zah ?_ _))⟩;have n6_:Za ((w76.setCell ⟨aW,5,none⟩ (.slice nV t167.length nW)).heap[aW]? =some (.cells #[.int .i64 ((Zad aa ae).f0),.slice dL (((Zad aa ae).f1).take ((gF):Int).toNat).length dM,.slice dS (((Zad aa ae).f2).take ((iA):Int).toNat).length dU,.int .i64 ((Zad aa ae).f3),.int .i64 ((Zad aa ae).f4),.slice nV t167.length nW,.int .i64 ((Zad aa ae).f6)] 36 (0,0))):=⟨by(with_reducible repeat(first|refine Zah ?_ _|refine Zai ?_|refine Zab ?_ _));refine Zaz (cs:=#[.int .i64 ((Zad aa ae).f0),.slice dL (((Zad aa ae).f1).take ((gF):Int).toNat).length dM,.slice dS (((Zad aa ae).f2).take ((iA):Int).toNat).length dU,.int .i64 ((Zad aa ae).f3),.int .i64 ((Zad aa ae).f4),.slice iJ ((Zad aa ae).f5).length iw,.int .i64 ((Zad aa ae).f6)]) ?_ 5 _ rfl;(with_reducible repeat(first|refine Zah ?_ _|refine Zai ?_|refine Zab ?_ _));exact dI.out⟩;have n7_:Za (Below w.heap.size w (w76.setCell ⟨aW,5,none⟩ (.slice nV t167.length nW))):=⟨bM HB.out⟩
        (try clear aT)
        (try clear bI)
        (try clear nG)
        (try clear bE)
        (try clear bH)
        (try clear aD)
        (try clear dI)
        (try clear HB)
        generalize (w76.setCell ⟨aW,5,none⟩ (.slice nV t167.length nW))=w79 at n0_ n1_ n2_ n3_ n4_ n5_ n6_ n7_ ⊢
        have aT:=n0_;have bI:=n1_;have nG:=n2_;have bE:=n3_;have bH:=n4_;have aD:=n5_;have dI:=n6_;have HB:=n7_;clear n0_ n1_ n2_ n3_ n4_ n5_ n6_ n7_;replace aT:=Za.mk (Kd.S_drew aT.out);replace bI:=Za.mk (Kd.Zel bI.out);replace nG:=Za.mk (Kd.V_drew nG.out);replace bE:=Za.mk (Zai bE.out);replace bH:=Za.mk (Zai bH.out);replace aD:=Za.mk (Zai aD.out);replace dI:=Za.mk (Zai dI.out);replace HB:=Za.mk (Zcs HB.out);refine Ze7 (n:=8) (S:=fun w'=>w'.cell? ⟨dY,0,none⟩=some (dX)∧w'.cell? ⟨dY,1,none⟩=some (ik)∧w'.cell? ⟨dY,2,none⟩=some (.int .i64 ay)∧w'.cell? ⟨dY,3,none⟩=some (.slice bR ak.length bT)∧w'.cell? ⟨dY,4,none⟩=some (.slice bK ai.length bL)∧w'.cell? ⟨aW,0,none⟩=some (.int .i64 ((Zad aa ae).f0))∧w'.cell? ⟨aW,1,none⟩=some (.slice dL (((Zad aa ae).f1).take ((gF):Int).toNat).length dM)∧w'.cell? ⟨aW,2,none⟩=some (.slice dS (((Zad aa ae).f2).take ((iA):Int).toNat).length dU)∧w'.cell? ⟨aW,3,none⟩=some (.int .i64 ((Zad aa ae).f3))∧w'.cell? ⟨aW,4,none⟩=some (.int .i64 ((Zad aa ae).f4))∧w'.cell? ⟨aW,5,none⟩=some (.slice nV t167.length nW)∧w'.cell? ⟨aW,6,none⟩=some (.int .i64 ((Zad aa ae).f6))) (ds:= [7]) #[false,false,false,false,false,false,false,false] (by kernel_rfl) rfl rfl ⟨bc aD.out 0,bc aD.out 1,bc aD.out 2,bc aD.out 3,bc aD.out 4,bc dI.out 0,bc dI.out 1,bc dI.out 2,bc dI.out 3,bc dI.out 4,bc dI.out 5,bc dI.out 6⟩ (fun hHeld=> ?_);refine Zdy Zaa.tab19 Zaa.bits19 (fun HT_ HW_=> ?_)
        generalize w79.drew=w80 at aT bI nG bE bH aD dI HB hHeld ⊢
        refine pu HT_ 0 113 ?_;refine tk HT_ HW_ hHeld 1 114 ?_;refine tk HT_ HW_ hHeld 2 115 ?_;refine on1 HT_ 3 116 (fun K hK=> ?_);refine goes_ Tryz.func52 (by kernel_rfl) rfl #[.agg #[.int .i64 ((Zad aa ae).f0),.slice dL (((Zad aa ae).f1).take ((gF):Int).toNat).length dM,.slice dS (((Zad aa ae).f2).take ((iA):Int).toNat).length dU,.int .i64 ((Zad aa ae).f3),.int .i64 ((Zad aa ae).f4),.slice nV t167.length nW,.int .i64 ((Zad aa ae).f6)]] (by rfl) rfl rfl (by(try simp only[List.map_toArray,List.map_cons,List.map_nil]);first|done|(rw[show(((Zad aa ae).f1).take ((gF):Int).toNat).length=(gF).toNat from(by rw[List.length_take];have h_:((gF):Int)≤(((Zad aa ae).f1).length:Int):=odt;omega),show(((Zad aa ae).f2).take ((iA):Int).toNat).length=(iA).toNat from(by rw[List.length_take];have h_:((iA):Int)≤(((Zad aa ae).f2).length:Int):=odt;omega)]<;>rfl)|(rw[show(((Zad aa ae).f1).take ((gF):Int).toNat).length=(gF).toNat from(by rw[List.length_take];have h_:((gF):Int)≤(((Zad aa ae).f1).length:Int):=odt;omega)]<;>rfl)|(rw[show(((Zad aa ae).f2).take ((iA):Int).toNat).length=(iA).toNat from(by rw[List.length_take];have h_:((iA):Int)≤(((Zad aa ae).f2).length:Int):=odt;omega)]<;>rfl)|(simp only[hji57,hji60];rfl)|rfl|(simp only[List.length_drop,List.length_take];rfl)) ?_
        with_reducible refine(Zcr.calls kj45 ((Zad aa ae).f0) _ _ (((Zad aa ae).f1).take ((gF):Int).toNat) _ _ (((Zad aa ae).f2).take ((iA):Int).toNat) ((Zad aa ae).f3) ((Zad aa ae).f4) _ _ t167 ((Zad aa ae).f6) Ff t171 AA Fg Fh AB t182 _ ?side1 ?side2 ?side3 ?side4 ?side5 ?side6 A64.out).mono ?_
        (case side1=>repeat(first|exact(Kd.Zac Xc.out HB.out)|(with_reducible refine Kd.C_alloc ?_ _)|(with_reducible refine Kd.Zbt ?_ _)|(with_reducible refine Kd.Zb4 ?_)))
        (case side2=>exact WE.out)
        (case side3=>repeat(first|exact(Kd.Zac Xd.out HB.out)|(with_reducible refine Kd.C_alloc ?_ _)|(with_reducible refine Kd.Zbt ?_ _)|(with_reducible refine Kd.Zb4 ?_)))
        (case side4=>exact WF.out)
        (case side5=>repeat(first|exact(Kd.Zfu nG.out).2.2|(with_reducible refine Kd.C_alloc ?_ _)|(with_reducible refine Kd.Zbt ?_ _)|(with_reducible refine Kd.Zb4 ?_)))
        (case side6=>exact(Kd.Zfu nG.out).2.1)
        rintro e w81 ⟨oDa,v175,oEa,rfl,ho0,ho1,ho2,hb⟩;refine⟨_,rfl,?_⟩;replace aT:=Za.mk (Kd.Ze2 (sM aT.out) hb);replace bI:=Za.mk (Kd.Za6 (Kd.R_told (Kd.R_told (Kd.R_told (Kd.R_old (rM bI.out) hb) (Kd.Zc6 ho0)) (Kd.Zc6 ho1)) (Kd.Zgl ho2)) (fun _ h_=>h_.1));replace nG:=Za.mk (Kd.Zfb (Kd.V_told (Kd.V_told (Kd.V_told (Kd.V_old (vM nG.out) hb) (Kd.Zc6 ho0)) (Kd.Zc6 ho1)) (Kd.Zgl ho2)) (fun _ h_=>h_.1));have Ku:=Za.mk (Kd.Zbm ho0 (Zaf (bM HB.out)));have Kv:=Za.mk (Kd.Zbm ho1 (Zaf (bM HB.out)));have Kw:=Za.mk (Kd.Zgz ho2 (Zaf (bM HB.out)));replace bE:=Za.mk (kB bE.out hb);replace bH:=Za.mk (kB bH.out hb);replace aD:=Za.mk (kB aD.out hb);replace dI:=Za.mk (kB dI.out hb);replace HB:=Za.mk (bS HB.out hb)
        (try clear hb)
        (try clear hb2)
        (try clear hk)
        (try clear hi)
        (try clear ho0)
        (try clear ho1)
        (try clear ho2)
        obtain⟨NT,Oo,LW⟩:=Kd.Zbe Ku.out
        (first|subst LW|(injection LW with f1_ f2_ f3_;have f4_:=f1_.symm;have f5_:=f3_.symm;clear f1_ f2_ f3_;subst f4_;subst f5_))
        obtain⟨NU,Oq,LX⟩:=Kd.Zbe Kv.out
        (first|subst LX|(injection LX with f1_ f2_ f3_;have f4_:=f1_.symm;have f5_:=f3_.symm;clear f1_ f2_ f3_;subst f4_;subst f5_))
        obtain⟨NV,Ot,LY⟩:=Kd.S_slice Kw.out
        (first|subst LY|(injection LY with f1_ f2_ f3_;have f4_:=f1_.symm;have f5_:=f3_.symm;clear f1_ f2_ f3_;subst f4_;subst f5_))
        refine hK.out _ _ ⟨bc aD.out 0,bc aD.out 1,bc aD.out 2,bc aD.out 3,bc aD.out 4,bc dI.out 0,bc dI.out 1,bc dI.out 2,bc dI.out 3,bc dI.out 4,bc dI.out 5,bc dI.out 6⟩ (fun hHeld=> ?_);clear hK K;refine nmp 116 ?_;refine on1 HT_ 4 117 (fun K hK=> ?_);refine value_ (w1:=?_) (v:=?_) (by rfl) rfl ?_ ?_;rotate_left 2
        ·go_simp
         constructor
         ·rfl
         rfl
        refine hK.out _ _ ⟨(Zap (Zab aD.out _) 0).trans rfl,(Zap (Zab aD.out _) 1).trans rfl,(Zap (Zab aD.out _) 2).trans rfl,(Zap (Zab aD.out _) 3).trans rfl,(Zap (Zab aD.out _) 4).trans rfl,(Zap (Zab dI.out _) 0).trans rfl,(Zap (Zab dI.out _) 1).trans rfl,(Zap (Zab dI.out _) 2).trans rfl,(Zap (Zab dI.out _) 3).trans rfl,(Zap (Zab dI.out _) 4).trans rfl,(Zap (Zab dI.out _) 5).trans rfl,(Zap (Zab dI.out _) 6).trans rfl⟩ (fun hHeld=> ?_);clear hK K;refine nmp 117 ?_;refine on1 HT_ 5 118 (fun K hK=> ?_);refine Kd.Ze9 k36 (w0:=w) w.heap.size (by rfl) (.tmp 114) (.tmp 117) 23 36 (.agg #[(.int .i64 0),(.slice none 0 0),(.slice none 0 0),(.int .i64 0),(.int .i64 0),(.slice none 0 0),(.int .i64 0)]) 104 rfl Tryz.underlying23 info36 rfl (by decide) (by omega) ik cu (⟨Ff,t171,AA,Fg,Fh,AB,t182⟩:S36) [.int .i64 Ff,.slice NT t171.length Oo,.slice NU AA.length Oq,.int .i64 Fg,.int .i64 Fh,.slice NV AB.length Ot,.int .i64 t182] (fun k_=>k_≠aW) (fun k_=>((fun k_=>k_≠aW)) k_∧some k_≠(ik:Value).ownBlock) rfl rfl ?aP (fun _ hk=>hk) ?aF ?aO ?aB ?aS ?aL ?_
        (case aP=>exact k36_mkM _ _ _ (⟨Ff,t171,AA,Fg,Fh,AB,t182⟩:S36) (Kd.Za6 (Kd.Zcc (Kd.Zdq (Ku.out) (Kd.Zeg bI.out) (by decide)) dI.out (by decide)) (fun k_ hk=>⟨hk.2,hk.1.2⟩)) (Kd.Za6 (Kd.Zcc (Kd.Zdq (Kv.out) (Kd.Zeg bI.out) (by decide)) dI.out (by decide)) (fun k_ hk=>⟨hk.2,hk.1.2⟩)) (Kd.Za6 (Kd.Zcc (Kd.Zdq ((Kd.S_R Kw.out)) (Kd.Zeg bI.out) (by decide)) dI.out (by decide)) (fun k_ hk=>⟨hk.2,hk.1.2⟩)))
        (case aB=>exact(bM HB.out))
        (case aF=>exact(fun k_ hk=>Kd.freshB (kM dI.out) k_ hk))
        (case aO=>exact(rM (Kd.Za6 bI.out (fun _ hk=>hk.1.1.1))))
        (case aS=>exact(Zaf (bM HB.out)))
        (case aL=>have:=Xi.out;omega)
        intro oFa w82 ho hb hg hat;rw[←Xu.out]at ho;replace aT:=Za.mk (Kd.S_over' (sM aT.out) (Kd.Zeg (rM bI.out)) (by decide) hg);replace bE:=Za.mk (kG bE.out hg (Kd.R_ne bI.out bE.out (by decide)));replace bH:=Za.mk (kG bH.out hg (Kd.R_ne bI.out bH.out (by decide)));replace aD:=Za.mk (kG aD.out hg (Kd.R_ne bI.out aD.out (by decide)));replace dI:=Za.mk (kG dI.out hg (Kd.R_away bI.out (fun _ hk=>hk.1.1.1)));replace nG:=Za.mk (Kd.V_afterv (ok:=(fun k_=>some k_≠(dX:Value).ownBlock∧some k_≠(.slice NT t171.length Oo:Value).ownBlock∧some k_≠(.slice NU AA.length Oq:Value).ownBlock∧some k_≠(.slice NV AB.length Ot:Value).ownBlock∧k_≠jb∧k_≠eD∧k_≠dY∧k_≠aW)) (vM (Kd.Zfb nG.out (fun _ hk=>⟨⟨hk.1.1.1.1,⟨hk.1.1.2,⟨hk.1.2,⟨hk.2,⟨hk.1.1.1.2.2.1,⟨hk.1.1.1.2.2.2.1,⟨hk.1.1.1.2.2.2.2.1,hk.1.1.1.2.2.2.2.2⟩⟩⟩⟩⟩⟩⟩,hk.1.1.1.2.1⟩))) hg hat);replace HB:=Za.mk (hb);have Qt:=Za.mk (ho);clear bI Ku Kv Kw ho hb hg hat;obtain⟨NW,Ou,UO⟩:=Kd.Zbe Qt.out
        (first|subst UO|(injection UO with f1_ f2_ f3_;have f4_:=f1_.symm;have f5_:=f3_.symm;clear f1_ f2_ f3_;subst f4_;subst f5_))
        refine hK.out _ _ ⟨bc aD.out 0,bc aD.out 1,bc aD.out 2,bc aD.out 3,bc aD.out 4,bc dI.out 0,bc dI.out 1,bc dI.out 2,bc dI.out 3,bc dI.out 4,bc dI.out 5,bc dI.out 6⟩ (fun hHeld=> ?_);clear hK K;refine nmp 118 ?_;refine pu HT_ 6 119 ?_;refine last_ (i:=7) (N:=none) #[true,true,true,true,true,true,true,true] rfl rfl (Zia HT_.out (by kernel_rfl)) (by decide) (fun K hK=> ?_);have hs87:w82.cell? ⟨dY,1,none⟩=some (ik):=(Zap aD.out 1).trans rfl;have hfs87:=Za0 aD.out 1;have hns87_0:=gY.out;have hns87_1:=jQ.out;have hns87_3:=F6.out;have hms87_0:=jr.out;have hms87_1:=uj.out;have hms87_3:=qN.out;refine skip_ (w1:=?_) (by rfl) rfl ?_ ?_;rotate_left
        ·go_simp
         rfl
        refine hK.out _ _ ?_;clear hK K;refine Zgg (Zen HT_.out (by kernel_rfl)) ?_;try go_wp2
        go_roundg kj45
        case measure=>have:=HJ1.out;have:=HK2.out;have:=HJ45.out;omega
        case rel=>exact⟨(wrap64 (ae+1)),(II),(.slice NW II.length Ou),eS,H',⟨by have:=HJ1.out;have:=HK2.out;have:=HJ45.out;omega⟩,⟨sM (Kd.Zd9 (Kd.Zdw (p:=⟨dY,1,none⟩) (Kd.Zet aT.out aD.out (by decide)) (fun _ hk=>hk.2) (.slice NW II.length Ou)) (fun _ hk=>trivial))⟩,⟨rM (Kd.Za6 (Kd.Zbv (p:=⟨dY,1,none⟩) (Kd.Zcc Qt.out aD.out (by decide)) (fun _ hk=>hk.2) (.slice NW II.length Ou)) (fun _ hk=>trivial))⟩,⟨by(with_reducible repeat(first|exact bE.out|refine Zcv ?_ gY.out _|refine Zab ?_ _|refine Zai ?_|refine Zah ?_ _))⟩,⟨by(with_reducible repeat(first|exact bH.out|refine Zcv ?_ jQ.out _|refine Zab ?_ _|refine Zai ?_|refine Zah ?_ _))⟩,⟨by(with_reducible repeat(first|refine Zah ?_ _|refine Zai ?_|refine Zab ?_ _));refine Zaz (cs:=#[dX,ik,.int .i64 ay,.slice bR ak.length bT,.slice bK ai.length bL]) ?_ 1 _ rfl;(with_reducible repeat(first|refine Zah ?_ _|refine Zai ?_|refine Zab ?_ _));exact aD.out⟩,⟨bM HB.out⟩⟩
end Go.Proofs.YtdpieallpbllkaaGreat.P
/- A model no larger than a statement can hold, in plain words. -/
namespace Go.Proofs.YtdpieallpbllkaaGreat.P
open Go.RowKit Go.Proofs.YtdpieallpbllkaaGreatW.PrintWords Go.Proofs.YtdpieallpbllkaaGreatW.PrintLast Go.Proofs.YtdpieallpbllkaaGreatW.PrintMore
theorem Zhb (a:Nat) (b:Int) (c:Nat) (h:b=c):mn (a:Int) b=((min a c:Nat):Int):=by
  subst h;unfold mn
  split<;>omega
theorem Zhc {α:Type} (l:List α) (b:Int) (c:Nat) (h:b=c):l.take (mn (l.length:Int) b).toNat=l.take c:=by
  rw[Zhb _ _ _ h,Int.toNat_natCast];by_cases q:l.length≤c;rotate_left
  · rw[Nat.min_eq_right (by omega)]
  rw[Nat.min_eq_left q,List.take_length,List.take_of_length_le q]
theorem Zfo (l : List (List Int)) (hl : l.length ≤ 1000000) (hr : ∀ r ∈ l, r.length ≤ 1000000) : ∀ (d n : Nat) (acc : List (List Int)), n + d = l.length → acc.length ≤ n → Ev (fun k => Zbh.l0 k l acc (n : Int)) (acc ++ l.drop n)
  |0,n,acc,h,ha=>by
    obtain rfl:n=l.length:=by omega
    rw[List.drop_length,List.append_nil];exact Ev.step (G:=fun _=>some acc) (fun k=>by rw[Zbh.l0,if_neg (by omega)]) (Ev.const rfl)
  |d+1,n,acc,h,ha=>by
    have hn:n<l.length:=by omega
    have hw:wrap64 ((n:Int)+1)=((n+1:Nat):Int):=w1 (by omega);have hrd:Zb3 l (n:Int)=l[n]:=by simp[Zb3,List.getD_eq_getElem?_getD,List.getElem?_eq_getElem hn]
    have hq:=hr _ (List.getElem_mem hn);have ih:=Zfo l hl hr d (n+1) (acc++ [l[n]]) (by omega) (by simp;omega);rw[List.append_assoc,List.singleton_append,←List.drop_eq_getElem_cons hn]at ih;refine Ev.step (fun k=>by rw[Zbh.l0,if_pos (by omega),hrd]) (Ev.bind (a:=([]:List Int)) (Ev.const rfl) ?_);rw[hw,List.nil_append];refine Ev.Zak (Int.natCast_nonneg n) ?_;refine Ev.Zak ?_ ?_
    · show 0 + l[n].length < _
      omega
    refine Ev.Zak ?_ ih
    omega
theorem ref_nums4 (l:List (List Int)) (hl:l.length≤1000000) (hr:∀r ∈ l,r.length≤1000000):Ev (fun k=>Zbh.f k l) l:=Zfo l hl hr l.length 0 [] (by omega) (by simp)
theorem ref_own4 (a0:Int) (l1 l2:List Int) (a3 a4:Int) (l5:List (List Int)) (a6:Int) (h1:l1.length≤1000000) (h2:l2.length≤1000000) (hl:l5.length≤1000000) (hr:∀r ∈ l5,r.length≤1000000):Ev (fun k=>Zcr.f k a0 l1 l2 a3 a4 l5 a6) (a0,l1,l2,a3,a4,l5,a6):=by
  unfold Zcr.f;refine Ev.bind (a:=([]:List Int)) (Ev.const rfl) (Ev.Zak (by simp;omega) (Ev.bind (a:=([]:List Int)) (Ev.const rfl) (Ev.Zak (by simp;omega) (Ev.bind (ref_nums4 l5 hl hr) (Ev.const ?_)))))
  simp
def bV1 (v:S55):S55:=⟨v.f0.extract 0 (min v.f0.size 20),v.f1.take 12⟩
def bC1 (c:S36):S36:=⟨c.f0,c.f1.take 14,c.f2.take 14,c.f3,c.f4,cutR c.f5,c.f6⟩
def bV (l:List S55):List S55:=(l.take 10).map bV1
def bC (l:List S36):List S36:=(l.take 16).map bC1
theorem cutR_len (l:List (List Int)):(cutR l).length≤20:=by
  unfold cutR;rw[List.length_map,List.length_take]
  omega
theorem cutR_row (l:List (List Int)):∀r ∈ cutR l,r.length≤14:=by
  intro r hr;unfold cutR at hr;obtain⟨x,_,rfl⟩:=List.mem_map.1 hr;rw[List.length_take]
  omega
section
variable (vars:List S55) (cons:List S36) (gk:Int) (gv gc:List Int) (V:List S55)
theorem bound_end (x:Int) (acc:List S36):Ev (fun k=>Zaa.j3 k x false vars cons gk gv gc V acc gk gv gc) (V,acc,gk,gv.take 14,gc.take 14):=by
  have e1:=Zhc gv 14 14 rfl;have e2:=Zhc gc 14 14 rfl;have m1:=Zhb gv.length 14 14 rfl;have m2:=Zhb gc.length 14 14 rfl;refine Ev.step (fun k=>by rw[Zaa.j3,if_neg (by simp)]) ?_;rw[e1,e2];refine Ev.bind (a:=([]:List Int)) (Ev.const rfl) (Ev.Zak (by omega) (Ev.Zak (by omega) (Ev.Zak (by simp[List.length_take];omega) ?_)));refine Ev.bind (a:=([]:List Int)) (Ev.const rfl) (Ev.Zak (by omega) (Ev.Zak (by omega) (Ev.Zak (by simp[List.length_take];omega) (Ev.const rfl))))
theorem bound_l1 : ∀ (d n : Nat) (acc : List S36), n + d = min 16 cons.length → acc.length ≤ n → Ev (fun k => Zaa.l1 k (n : Int) vars cons gk gv gc V acc gk gv gc) (V, acc ++ ((cons.take 16).drop n).map bC1, gk, gv.take 14, gc.take 14)
  |0,n,acc,h,ha=>by
    have e:(cons.take 16).drop n= []:=List.drop_eq_nil_of_le (by rw[List.length_take];omega);rw[e,List.map_nil,List.append_nil];by_cases q:n<cons.length;rotate_left
    · exact Ev.step (fun k=>by rw[Zaa.l1,if_neg (by omega)]) (bound_end vars cons gk gv gc V _ _)
    have d1:decide ((n:Int)<16)=false:=decide_eq_false (by omega);exact Ev.step (fun k=>by rw[Zaa.l1,if_pos (by omega),d1]) (bound_end vars cons gk gv gc V _ _)
  |d+1,n,acc,h,ha=>by
    have hn:n<cons.length:=by omega
    have h16:n<16:=by omega
    have d1:decide ((n:Int)<16)=true:=decide_eq_true (by omega);have hw:wrap64 ((n:Int)+1)=((n+1:Nat):Int):=w1 (by omega);have hrd:Zad cons (n:Int)=cons[n]:=by simp[Zad,List.getD_eq_getElem?_getD,List.getElem?_eq_getElem hn]
    have ih:=bound_l1 d (n+1) (acc++ [bC1 cons[n]]) (by omega) (by simp;omega)
    have hd:(cons.take 16).drop n=cons[n]::(cons.take 16).drop (n+1):=by
      rw[List.drop_eq_getElem_cons (by rw[List.length_take];omega),List.getElem_take]
    rw[hd,List.map_cons];rw[List.append_assoc,List.singleton_append]at ih;have m1:=Zhb cons[n].f1.length 14 14 rfl;have m2:=Zhb cons[n].f2.length 14 14 rfl;refine Ev.step (fun k=>by rw[Zaa.l1,if_pos (by omega),d1]) (Ev.step (fun k=>by rw[Zaa.j3,if_pos rfl,hrd]) ?_);rw[Zhc cons[n].f1 14 14 rfl,Zhc cons[n].f2 14 14 rfl];refine Ev.Zak (by omega) (Ev.Zak (by omega) (Ev.Zak (by omega) (Ev.Zak (by omega) (Ev.Zak (by omega) (Ev.Zak (by omega) ?_)))));refine Ev.bind (a:=cutR cons[n].f5) (Ev.const rfl) (Ev.bind (ref_own4 _ _ _ _ _ _ _ (by rw[List.length_take];omega) (by rw[List.length_take];omega) (by have:=cutR_len cons[n].f5;omega) (fun r hr=>by have:=cutR_row _ r hr;omega)) (Ev.Zak (by omega) ?_));rw[hw];exact ih
theorem bound_j1:Ev (fun k=>Zaa.j1 k vars cons gk gv gc V gk gv gc) (V,bC cons,gk,gv.take 14,gc.take 14):=
  Ev.step (fun k=>by rw[Zaa.j1];rfl) (bound_l1 vars cons gk gv gc V (min 16 cons.length) 0 [] (by omega) (by simp))
end
theorem bound_l0 (vars : List S55) (cons : List S36) (gk : Int) (gv gc : List Int) : ∀ (d n : Nat) (acc : List S55), n + d = min 10 vars.length → acc.length ≤ n → Ev (fun k => Zaa.l0 k (n : Int) vars cons gk gv gc acc gk gv gc) (acc ++ ((vars.take 10).drop n).map bV1, bC cons, gk, gv.take 14, gc.take 14)
  |0,n,acc,h,ha=>by
    have e:(vars.take 10).drop n= []:=List.drop_eq_nil_of_le (by rw[List.length_take];omega);rw[e,List.map_nil,List.append_nil];by_cases q:n<vars.length;rotate_left
    · exact Ev.step (fun k=>by rw[Zaa.l0,if_neg (by omega)]) (bound_j1 vars cons gk gv gc _)
    exact Ev.step (fun k=>by rw[Zaa.l0,if_pos (by omega),if_neg (by omega)]) (bound_j1 vars cons gk gv gc _)
  |d+1,n,acc,h,ha=>by
    have hn:n<vars.length:=by omega
    have hw:wrap64 ((n:Int)+1)=((n+1:Nat):Int):=w1 (by omega);have hrd:Za9 vars (n:Int)=vars[n]:=by simp[Za9,List.getD_eq_getElem?_getD,List.getElem?_eq_getElem hn]
    have ih:=bound_l0 vars cons gk gv gc d (n+1) (acc++ [bV1 vars[n]]) (by omega) (by simp;omega)
    have hd:(vars.take 10).drop n=vars[n]::(vars.take 10).drop (n+1):=by
      rw[List.drop_eq_getElem_cons (by rw[List.length_take];omega),List.getElem_take]
    rw[hd,List.map_cons];rw[List.append_assoc,List.singleton_append]at ih;have m1:=Zhb vars[n].f0.size 20 20 rfl;have m2:=Zhb vars[n].f1.length 12 12 rfl;refine Ev.step (fun k=>by rw[Zaa.l0,if_pos (by omega),if_pos (by omega),hrd]) ?_;rw[Zhc vars[n].f1 12 12 rfl];refine Ev.Zak (by omega) (Ev.Zak (by omega) (Ev.Zak (by omega) ?_));refine Ev.bind (a:=([]:List S82)) (Ev.const rfl) (Ev.Zak (by omega) (Ev.Zak (by omega) (Ev.bind (a:=vars[n].f1.take 12) (Ev.const rfl) (Ev.Zak (by simp[List.length_take];omega) (Ev.Zak (by omega) ?_)))));rw[hw,m1,Int.toNat_natCast,List.nil_append];exact ih
theorem bound_ev (vars:List S55) (cons:List S36) (gk:Int) (gv gc:List Int):Ev (fun k=>Zaa.f k vars cons gk gv gc) (bV vars,bC cons,gk,gv.take 14,gc.take 14):=bound_l0 vars cons gk gv gc (min 10 vars.length) 0 [] (by omega) (by simp)
end Go.Proofs.YtdpieallpbllkaaGreat.P
/- What comes in, within its bounds: what Bound makes of it is small. -/
namespace Go.Proofs.YtdpieallpbllkaaGreat.P
open Go.RowKit Go.Proofs.YtdpieallpbllkaaGreatW.PrintWords Go.Proofs.YtdpieallpbllkaaGreatW.PrintLast Go.Proofs.YtdpieallpbllkaaGreatW.PrintMore
def VarOk (v:S55):Prop:=ByteArray.size v.f0≤maxLen∧(List.length v.f1*16≤140737488351232∧∀y2_ ∈ v.f1,((Lit.int .i64 (y2_).f0).wf=true∧(Lit.int .i64 (y2_).f1).wf=true))
def ConOk (c:S36):Prop:=(Lit.int .i64 c.f0).wf=true∧(List.length c.f1*8≤140737488351232∧∀y2_ ∈ c.f1,(Lit.int .i64 y2_).wf=true)∧(List.length c.f2*8≤140737488351232∧∀y2_ ∈ c.f2,(Lit.int .i64 y2_).wf=true)∧(Lit.int .i64 c.f3).wf=true∧(Lit.int .i64 c.f4).wf=true∧(List.length c.f5*24≤140737488351232∧∀y2_ ∈ c.f5,(List.length y2_*8≤140737488351232∧∀y3_ ∈ y2_,(Lit.int .i64 y3_).wf=true))∧(Lit.int .i64 c.f6).wf=true
theorem bV_mem {vars:List S55} {v:S55} (h:v ∈ bV vars):∃x ∈ vars,v=bV1 x:=by
  obtain⟨x,hx,e⟩:=List.mem_map.1 h;exact⟨x,List.mem_of_mem_take hx,e.symm⟩
theorem bC_mem {cons:List S36} {c:S36} (h:c ∈ bC cons):∃x ∈ cons,c=bC1 x:=by
  obtain⟨x,hx,e⟩:=List.mem_map.1 h;exact⟨x,List.mem_of_mem_take hx,e.symm⟩
theorem bV_length (vars:List S55):(bV vars).length≤10:=by
  unfold bV;rw[List.length_map,List.length_take]
  omega
theorem bC_length (cons:List S36):(bC cons).length≤16:=by
  unfold bC;rw[List.length_map,List.length_take]
  omega
theorem bV_dom {vars:List S55} :∀v ∈ bV vars,v.f1.length≤12:=by
  intro v h;obtain⟨x,_,rfl⟩:=bV_mem h
  show(x.f1.take 12).length≤12
  rw[List.length_take]
  omega
theorem bC_small {cons:List S36} :∀c ∈ bC cons,c.f1.length≤14∧c.f2.length≤14∧c.f5.length≤20∧∀r ∈ c.f5,r.length≤14:=by
  intro c h;obtain⟨x,_,rfl⟩:=bC_mem h;exact⟨by show(x.f1.take 14).length≤14;rw[List.length_take];omega,by show(x.f2.take 14).length≤14;rw[List.length_take];omega,cutR_len x.f5,cutR_row x.f5⟩
theorem okC_bC {cons:List S36} (h:∀c ∈ cons,ConOk c):∀c ∈ bC cons,okC c:=by
  intro c hc;obtain⟨s1,s2,_,_⟩:=bC_small c hc;obtain⟨x,hx,rfl⟩:=bC_mem hc;obtain⟨_,_,⟨_,h2⟩,_,h4,_,_⟩:=h x hx;exact⟨by omega,by omega,fun y hy=>(wf64 (h2 y (List.mem_of_mem_take hy))).1,(wf64 h4).1⟩
theorem bV_dom6 {vars:List S55} :∀v ∈ bV vars,v.f1.length≤1000000:=fun v h=>by have:=bV_dom v h;omega
theorem take14 (l:List Int):(l.take 14).length≤1000000:=by rw[List.length_take];omega
theorem take14w {l:List Int} (h:∀y ∈ l,(Lit.int .i64 y).wf=true):∀c ∈ l.take 14,-9223372036854775808≤c:=fun y hy=>(wf64 (h y (List.mem_of_mem_take hy))).1
end Go.Proofs.YtdpieallpbllkaaGreat.P
namespace Go.Proofs.YtdpieallpbllkaaGreat.P
open Go.RowKit Go.Proofs.YtdpieallpbllkaaGreatW.PrintWords Go.Proofs.YtdpieallpbllkaaGreatW.PrintLast Go.Proofs.YtdpieallpbllkaaGreatW.PrintMore
attribute [local go_sem] Zcw Zcy Zdg Zdh Zco Zcp Zcx Zcz
def Zdl.f (k:Nat) (aU:Int) (aa:List Int) (au:List Int) (aX:Int) (bn:Int) (aI:List (List Int)) (bv:Int):Option (List Int):=(some (([]:List Int):List Int)).bind fun qV=>(if qV.length+aa.length<17592186044416 then((some (qV++aa:List Int)).bind fun lD=>(if aU=4 then(if lD.length<17592186044416 then((Zaj.f k (lD++ [bv])).bind fun tN=>(some tN))else(none))else((Zaj.f k lD).bind fun xn=>(some xn))))else(none))
set_option maxRecDepth 100000 in
theorem Zdl.calls (k : Nat) (aU : Int) (aV : Option Addr) (aQ : Nat) (aa : List Int) (dx : Option Addr) (dz : Nat) (au : List Int) (aX : Int) (bn : Int) (dR : Option Addr) (dP : Nat) (aI : List (List Int)) (bv : Int) (r : List Int) (w : World) (eu : Kd.C (Kd.int .i64) w aV aa.length aa) (ek : aa.length ≤ aQ) (ig : Kd.C (Kd.int .i64) w dx au.length au) (ic : au.length ≤ dz) (iY : Kd.C (Kd.slice 3 (Kd.int .i64)) w dR aI.length aI) (iX : aI.length ≤ dP) (h : Zdl.f k aU aa au aX bn aI bv = some r) :
  Calls Tryz.prog 74 #[.agg #[.int .i64 aU,.slice aV aa.length aQ,.slice dx au.length dz,.int .i64 aX,.int .i64 bn,.slice dR aI.length dP,.int .i64 bv]] w fun e w'=>∃v0_:Value,e= .returned (v0_)∧Kd.R (Kd.int .i64) 3 w' w.heap.size (fun _=>True) v0_ r∧Below w.heap.size w w':=by
 have hu36:=Tryz.underlying36;have eO:=Za.mk eu;have fC:=Za.mk ek;clear eu ek;have j4:=Za.mk ig;have jL:=Za.mk ic;clear ig ic;have j5:=Za.mk iY;have pJ:=Za.mk iX;clear iY iX;have HB:=Za.mk (Below.refl w.heap.size w);have H:((some (([]:List Int):List Int)).bind fun qV=>(if qV.length+aa.length<17592186044416 then((some (qV++aa:List Int)).bind fun lD=>(if aU=4 then(if lD.length<17592186044416 then((Zaj.f k (lD++ [bv])).bind fun tN=>(some tN))else(none))else((Zaj.f k lD).bind fun xn=>(some xn))))else(none)))=some r:=h;clear h;obtain⟨qV,Dj⟩:∃y_:List Int,y_=(([]:List Int)):=⟨_,rfl⟩;replace H:(if qV.length+aa.length<17592186044416 then((some (qV++aa:List Int)).bind fun lD=>(if aU=4 then(if lD.length<17592186044416 then((Zaj.f k (lD++ [bv])).bind fun tN=>(some tN))else(none))else((Zaj.f k lD).bind fun xn=>(some xn))))else(none))=some r:=by first|(rw[Dj];with_reducible exact H)|(have H2_:=(Option.bind_some _ _).symm.trans H;rw[Dj];with_reducible exact H2_)|(have H2_:=(Option.bind_some _ _).symm.trans H;with_reducible exact H2_)|with_reducible exact H|(rw[Dj];exact H)|exact H
 have FM:=Za.mk Dj;clear Dj;by_cases c2:qV.length+aa.length<17592186044416
 case neg=>
  rw[if_neg c2]at H;exact absurd H (by simp)
 rw[if_pos c2]at H;have KS:=Za.mk c2;clear c2;obtain⟨lD,Dk⟩:∃y_:List Int,y_=(qV++aa):=⟨_,rfl⟩;replace H:(if aU=4 then(if lD.length<17592186044416 then((Zaj.f k (lD++ [bv])).bind fun tN=>(some tN))else(none))else((Zaj.f k lD).bind fun xn=>(some xn)))=some r:=by first|(rw[Dk];with_reducible exact H)|(have H2_:=(Option.bind_some _ _).symm.trans H;rw[Dk];with_reducible exact H2_)|(have H2_:=(Option.bind_some _ _).symm.trans H;with_reducible exact H2_)|with_reducible exact H|(rw[Dk];exact H)|exact H
 have QG:=Za.mk Dk;clear Dk;by_cases c3:aU=4
 case neg=>
  rw[if_neg c3]at H;have fB:(aU==4)=false:=beq_eq_false_iff_ne.mpr c3;have jY:(aU !=4)=true:=bne_iff_ne.mpr c3;obtain⟨xn,A15,H⟩:=bnd H;try dsimp only at H
  obtain rfl:=sj H;go_enter Tryz.func74,Tryz.ntmps74
  go_wp2_with (first|((with_reducible refine Zar (N:=1) rfl ?_);refine bx 1 #[.int .i64 aU,.slice aV aa.length aQ,.slice dx au.length dz,.int .i64 aX,.int .i64 bn,.slice dR aI.length dP,.int .i64 bv] 36 ?_;intro Ma hg w16 hbox hb;have jK:=Za.mk (hbox);have Wz:=Za.mk ((gE hg HB.out:w.heap.size≤Ma));replace HB:=Za.mk (bS HB.out hb);clear hb hbox hg)|((with_reducible refine Zar (N:=4) rfl ?_);refine Kd.Zdj (Kd.int .i64) _ 3 ?hg (N:=4) ?hd (xs:=([]:List Int)) (inner:= []) (ok:=fun _=>True) (okp:=fun _=>True) ?hr ?hp (fun _ hk=>hk) trivial (Below.refl _ _) (Nat.le_refl _) (by simp) ?_;(case hd=>rfl);(case hg=>rfl);(case hr=>first|(go_simp;done)|(go_simp;rfl));(case hp=>exact(Reps.none _ _));intro PY w17 pU hb hg_ hnew_;clear hg_ hnew_;(first|rw[←FM.out]at pU|(simp only[Int.reduceToNat]at pU;rw[←FM.out]at pU));have wK:=Za.mk (Kd.Zbm pU (Zaf (bM HB.out)));replace jK:=Za.mk (kB jK.out hb);replace HB:=Za.mk (bS HB.out hb);clear hb pU;obtain⟨Nf,Ng,Nh,Ni,Nj,aYa,baa,M6,M7,M8,M9,MB,YG,YH⟩:=cz7 jK.out)|((with_reducible refine Zbo (b:= .append) (xs:=#[.tmp 4,.tmp 6]) rfl ?_);at_builtin;refine Kd.Zdc (Kd.int .i64) (w0:=w) w.heap.size rfl (.tmp 4) (.tmp 6) 24 3 (.int .i64 0) 8 rfl Tryz.underlying24 info3 rfl (by decide) (by omega) PY qV aa _ _ _ (fun _=>True) (fun _=>False) rfl rfl ?aO ?aR (fun _ _ h=>h) (fun _ h=>h.elim) ?aF ?aB ?aS ?aL ?_;(case aR=>repeat(first|exact(Kd.Zac eO.out HB.out)|(with_reducible refine Kd.C_alloc ?_ _)|(with_reducible refine Kd.Zbt ?_ _)|(with_reducible refine Kd.Zb4 ?_)));(case aB=>exact(bM HB.out));(case aF=>exact(fun _ _=>trivial));(case aO=>exact(rM wK.out));(case aS=>exact(Zaf (bM HB.out)));(case aL=>have:=KS.out;omega);intro VJ w20 ho hb hg hat;rw[←QG.out]at ho;replace jK:=Za.mk (kG jK.out hg (Kd.R_ne wK.out jK.out (by decide)));replace HB:=Za.mk (hb);have tY:=Za.mk (ho);clear wK;clear ho hb hg hat;obtain⟨G7,G8,SA,SB,SC,SE,SF,Gj,Gl,RD,RF,RG,RH,RI⟩:=cz7 jK.out;obtain⟨oF,oG,wU⟩:=Kd.Zbe tY.out;subst wU)|((with_reducible refine Zal (f:=43) rfl ?_);refine gl 17 Tryz.func43 #[.slice oF lD.length oG] ?_;(with_reducible refine(Zaj.calls k _ _ lD xn _ (cM ((Kd.Zan tY.out).2.2)) ((Kd.Zan tY.out).2.1) A15.out).mono ?_);rintro e w23 ⟨oLa,rfl,ho0,hb⟩;refine⟨_,rfl,?_⟩;have WO:=Za.mk (Kd.Zbm (Kd.Ze3 ho0 (Kd.R_lt (rM tY.out))) (Zaf (bM HB.out)));replace HB:=Za.mk (bS HB.out hb);clear tY jK;(try clear hb);(try clear hb2);(try clear hk);(try clear hi);(try clear ho0)))
  go_ret;exact⟨_,eR,rM (Kd.Za6 WO.out (fun _ hk=>trivial)),bM HB.out⟩
 rw[if_pos c3]at H;have fB:(aU==4)=true:=beq_iff_eq.mpr c3;have jY:(aU !=4)=false:=bne_eq_false_iff_eq.mpr c3;clear c3;obtain⟨c4,H⟩:=ifP H;have csa:=Za.mk c4;clear c4;obtain⟨Qf,Dl⟩:∃y_:List Int,y_=(lD++ [bv]):=⟨_,rfl⟩;replace H:((Zaj.f k Qf).bind fun tN=>(some tN))=some r:=by first|(rw[Dl];with_reducible exact H)|(have H2_:=(Option.bind_some _ _).symm.trans H;rw[Dl];with_reducible exact H2_)|(have H2_:=(Option.bind_some _ _).symm.trans H;with_reducible exact H2_)|with_reducible exact H|(rw[Dl];exact H)|exact H
 have Xy:=Za.mk Dl;clear Dl;obtain⟨tN,A5,H⟩:=bnd H;try dsimp only at H
 obtain rfl:=sj H;go_enter Tryz.func74,Tryz.ntmps74
 go_wp2_with (first|((with_reducible refine Zar (N:=1) rfl ?_);refine bx 1 #[.int .i64 aU,.slice aV aa.length aQ,.slice dx au.length dz,.int .i64 aX,.int .i64 bn,.slice dR aI.length dP,.int .i64 bv] 36 ?_;intro Ma hg w6 hbox hb;have jK:=Za.mk (hbox);have Wz:=Za.mk ((gE hg HB.out:w.heap.size≤Ma));replace HB:=Za.mk (bS HB.out hb);clear hb hbox hg)|((with_reducible refine Zar (N:=4) rfl ?_);refine Kd.Zdj (Kd.int .i64) _ 3 ?hg (N:=4) ?hd (xs:=([]:List Int)) (inner:= []) (ok:=fun _=>True) (okp:=fun _=>True) ?hr ?hp (fun _ hk=>hk) trivial (Below.refl _ _) (Nat.le_refl _) (by simp) ?_;(case hd=>rfl);(case hg=>rfl);(case hr=>first|(go_simp;done)|(go_simp;rfl));(case hp=>exact(Reps.none _ _));intro PY w7 ho8 hb hg_ hnew_;clear hg_ hnew_;(first|rw[←FM.out]at ho8|(simp only[Int.reduceToNat]at ho8;rw[←FM.out]at ho8));have wK:=Za.mk (Kd.Zbm ho8 (Zaf (bM HB.out)));replace jK:=Za.mk (kB jK.out hb);replace HB:=Za.mk (bS HB.out hb);clear hb ho8;obtain⟨Bo,Bp,Br,Jc,Jd,Je,Jf,Bf,Bg,Bh,IU,IV,IW,IX⟩:=cz7 jK.out)|((with_reducible refine Zbo (b:= .append) (xs:=#[.tmp 4,.tmp 6]) rfl ?_);at_builtin;refine Kd.Zdc (Kd.int .i64) (w0:=w) w.heap.size rfl (.tmp 4) (.tmp 6) 24 3 (.int .i64 0) 8 rfl Tryz.underlying24 info3 rfl (by decide) (by omega) PY qV aa _ _ _ (fun _=>True) (fun _=>False) rfl rfl ?aO ?aR (fun _ _ h=>h) (fun _ h=>h.elim) ?aF ?aB ?aS ?aL ?_;(case aR=>repeat(first|exact(Kd.Zac eO.out HB.out)|(with_reducible refine Kd.C_alloc ?_ _)|(with_reducible refine Kd.Zbt ?_ _)|(with_reducible refine Kd.Zb4 ?_)));(case aB=>exact(bM HB.out));(case aF=>exact(fun _ _=>trivial));(case aO=>exact(rM wK.out));(case aS=>exact(Zaf (bM HB.out)));(case aL=>have:=KS.out;omega);intro VJ w10 ho hb hg hat;rw[←QG.out]at ho;replace jK:=Za.mk (kG jK.out hg (Kd.R_ne wK.out jK.out (by decide)));replace HB:=Za.mk (hb);have tY:=Za.mk (ho);clear wK;clear ho hb hg hat;obtain⟨Eu,Ew,Gx,MU,MV,aOa,aPa,Eh,Ei,Gf,Ms,Mt,Y6,Y7⟩:=cz7 jK.out)|((with_reducible refine Zbo (b:= .append) (xs:=#[.tmp 11,.tmp 14]) rfl ?_);at_builtin;refine Kd.Zc4 (Kd.int .i64) (w0:=w) w.heap.size rfl (.tmp 11) (.tmp 14) 24 3 (.int .i64 0) 8 rfl Tryz.underlying24 info3 rfl (by decide) (by omega) VJ lD bv [.int .i64 bv] (fun _=>True) (fun _=>False) rfl rfl ?aP (fun _ hk=>hk.elim) ?aF ?aO ?aB ?aS ?aL ?_;(case aP=>exact rfl);(case aB=>exact(bM HB.out));(case aF=>exact(fun _ _=>trivial));(case aO=>exact(rM tY.out));(case aS=>exact(Zaf (bM HB.out)));(case aL=>have:=csa.out;omega);intro oJa w12 ho hb hg hat;rw[←Xy.out]at ho;replace HB:=Za.mk (hb);have Bz:=Za.mk (ho);clear jK tY;clear ho hb hg hat;obtain⟨gV,gW,O0⟩:=Kd.Zbe Bz.out;subst O0)|((with_reducible refine Zal (f:=43) rfl ?_);refine gl 17 Tryz.func43 #[.slice gV Qf.length gW] ?_;(with_reducible refine(Zaj.calls k _ _ Qf tN _ (cM ((Kd.Zan Bz.out).2.2)) ((Kd.Zan Bz.out).2.1) A5.out).mono ?_);rintro e w14 ⟨oKa,rfl,ho0,hb⟩;refine⟨_,rfl,?_⟩;have WN:=Za.mk (Kd.Zbm (Kd.Ze3 ho0 (Kd.R_lt (rM Bz.out))) (Zaf (bM HB.out)));replace HB:=Za.mk (bS HB.out hb);clear Bz;(try clear hb);(try clear hb2);(try clear hk);(try clear hi);(try clear ho0)))
 go_ret;exact⟨_,eR,rM (Kd.Za6 WN.out (fun _ hk=>trivial)),bM HB.out⟩
mutual
def Zay.l0 : Nat → List Int → Int → Option (Bool)
 | 0, _, _ => none
 |k+1,x0,x3=>if x3<(x0.length:Int)then(Zay.l1 k x0 x3 0)else(some true)
def Zay.l1 : Nat → List Int → Int → Int → Option (Bool)
 | 0, _, _, _ => none
 |k+1,x0,x3,x4=>if x4<x3 then(if 0≤x3 then(if x3<(x0.length:Int)then(if 0≤x4 then(if x4<(x0.length:Int)then(if(rd x0 x3)=(rd x0 x4)then(some false)else(Zay.l1 k x0 x3 (wrap64 (x4+1))))else(none))else(none))else(none))else(none))else(Zay.l0 k x0 (wrap64 (x3+1)))
end
def Zay.f (k:Nat) (l0:List Int):Option (Bool):=Zay.l0 k l0 0
set_option maxRecDepth 100000 in
theorem Zay.calls (k : Nat) (A0 : Option Addr) (c0 : Nat) (l0 : List Int) (r : Bool) (w : World) (hr0 : Kd.C (Kd.int .i64) w A0 l0.length l0) (hc0 : l0.length ≤ c0) (h : Zay.f k l0 = some r) :
  Calls Tryz.prog 102 #[.slice A0 l0.length c0] w fun e w'=>e= .returned (.bool r)∧Zav w w':=by
 have HR0:=Za.mk hr0;have HC0:=Za.mk hc0;clear hr0 hc0;have H:(Zay.l0 k l0 0)=some r:=h;clear h;have H':=Za.mk H;clear H;go_enter Tryz.func102,Tryz.ntmps102;go_wp2
 repeat(go_quiet (fail);try go_wp2)
 go_loopg [3] k (fun kq v3 w'=>∃(af:Int),v3= .int .i64 af∧Za (Zay.l0 kq l0 af=some r)∧Za (kq≤k)∧Zav w w')
 case atStart=>exact⟨(0),eS,H',⟨Nat.le_refl _⟩,by repeat(first|exact Zav.refl _|apply Zav.step)⟩
 case round=>
  clear H';try clear c1
  obtain⟨af,rfl,HA,HK1,⟨m1,rfl⟩⟩:=hrel
  cases gk with
  | zero => exact absurd HA.out (by simp [Zay.l0])
  |succ k1=>
   have H:=HA.out;clear HA;simp only[Zay.l0]at H;by_cases c2:af<(l0.length:Int)
   case neg=>
    rw[if_neg c2]at H;have jC:decide (af<(l0.length:Int))=false:=decide_eq_false c2;clear c2;obtain rfl:=sj H;go_wp2
    repeat(go_quiet (fail);try go_wp2)
    go_ret;exact⟨eS,by repeat(first|exact Zav.refl _|apply Zav.step)⟩
   rw[if_pos c2]at H;have jC:decide (af<(l0.length:Int))=true:=decide_eq_true c2;clear c2;have H':=Za.mk H;clear H;go_wp2
   repeat(go_quiet (fail);try go_wp2)
   go_loopg [4] k1 (fun kq v4 w'=>∃(fV:Int),v4= .int .i64 fV∧Za (Zay.l1 kq l0 af fV=some r)∧Za (kq≤k1)∧Zav w w')
   case atStart=>exact⟨(0),eS,H',⟨Nat.le_refl _⟩,by repeat(first|exact Zav.refl _|apply Zav.step)⟩
   case round=>
    clear H';try clear c1
    try clear c2
    try clear jC
    try clear p2
    obtain⟨fV,rfl,HA,HK2,⟨m2,rfl⟩⟩:=hrel
    cases gk with
    | zero => exact absurd HA.out (by simp [Zay.l1])
    |succ k2=>
     have H:=HA.out;clear HA;simp only[Zay.l1]at H;by_cases c3:fV<af
     case neg=>
      rw[if_neg c3]at H;have fB:decide (fV<af)=false:=decide_eq_false c3;clear c3;have H':=Za.mk H;clear H;go_wp2
      repeat(go_quiet (fail);try go_wp2)
      go_roundg k2
      case measure=>have:=HK1.out;have:=HK2.out;omega
      case rel=>exact⟨(wrap64 (af+1)),eS,H',⟨by have:=HK1.out;have:=HK2.out;omega⟩,by repeat(first|exact Zav.refl _|apply Zav.step)⟩
     rw[if_pos c3]at H;have fB:decide (fV<af)=true:=decide_eq_true c3;clear c3;obtain⟨dC,H⟩:=ifT H;obtain⟨dw,H⟩:=ifT H;obtain⟨iF,H⟩:=ifT H;obtain⟨nu,H⟩:=ifT H;by_cases c8:(rd l0 af)=(rd l0 fV)
     case pos=>
      rw[if_pos c8]at H;have ny:((rd l0 af)==(rd l0 fV))=true:=beq_iff_eq.mpr c8;have GV:((rd l0 af) !=(rd l0 fV))=false:=bne_eq_false_iff_eq.mpr c8;clear c8;obtain rfl:=sj H;have zN:0≤(af:Int):=odt;have Ah:af<(l0.length:Int):=odt;obtain⟨Le,rfl,TU⟩:=Kd.Zb1 HR0.out af zN Ah;replace zN:=eq_true zN;replace Ah:=eq_true Ah;have zO:0≤(fV:Int):=odt;have Ai:fV<(l0.length:Int):=odt;obtain⟨Lf,e258,TV⟩:=Kd.Zb1 HR0.out fV zO Ai;obtain rfl:Le=Lf:=(by injection e258);replace zO:=eq_true zO;replace Ai:=eq_true Ai;go_wp2
      repeat(go_quiet (fail);try go_wp2)
      go_ret;exact⟨eS,by repeat(first|exact Zav.refl _|apply Zav.step)⟩
     rw[if_neg c8]at H;have ny:((rd l0 af)==(rd l0 fV))=false:=beq_eq_false_iff_ne.mpr c8;have GV:((rd l0 af) !=(rd l0 fV))=true:=bne_iff_ne.mpr c8;have H':=Za.mk H;clear H;have zN:0≤(af:Int):=odt;have Ah:af<(l0.length:Int):=odt;obtain⟨Le,rfl,TU⟩:=Kd.Zb1 HR0.out af zN Ah;replace zN:=eq_true zN;replace Ah:=eq_true Ah;have zO:0≤(fV:Int):=odt;have Ai:fV<(l0.length:Int):=odt;obtain⟨Lf,e258,TV⟩:=Kd.Zb1 HR0.out fV zO Ai;obtain rfl:Le=Lf:=(by injection e258);replace zO:=eq_true zO;replace Ai:=eq_true Ai;go_wp2
     repeat(go_quiet (fail);try go_wp2)
     go_roundg k2
     case measure=>have:=HK1.out;have:=HK2.out;omega
     case rel=>exact⟨(wrap64 (fV+1)),eS,H',⟨by have:=HK1.out;have:=HK2.out;omega⟩,by repeat(first|exact Zav.refl _|apply Zav.step)⟩
def Zb5.f (k:Nat) (aU:Int) (aa:List Int) (au:List Int) (aX:Int) (bn:Int) (aI:List (List Int)) (bv:Int):Option (Bool):=(Zay.f k aa).bind fun Ip=>(if Ip=true then(if(aa.length:Int)>0 then(if(aa.length:Int)=(au.length:Int)then((Zbl.f k au 0).bind fun Iq=>(some (!Iq)))else(some false))else(some false))else(some false))
set_option maxRecDepth 100000 in
theorem Zb5.calls (k : Nat) (aU : Int) (aV : Option Addr) (aQ : Nat) (aa : List Int) (dx : Option Addr) (dz : Nat) (au : List Int) (aX : Int) (bn : Int) (dR : Option Addr) (dP : Nat) (aI : List (List Int)) (bv : Int) (r : Bool) (w : World) (eu : Kd.C (Kd.int .i64) w aV aa.length aa) (ek : aa.length ≤ aQ) (ig : Kd.C (Kd.int .i64) w dx au.length au) (ic : au.length ≤ dz) (iY : Kd.C (Kd.slice 3 (Kd.int .i64)) w dR aI.length aI) (iX : aI.length ≤ dP) (h : Zb5.f k aU aa au aX bn aI bv = some r) :
  Calls Tryz.prog 103 #[.agg #[.int .i64 aU,.slice aV aa.length aQ,.slice dx au.length dz,.int .i64 aX,.int .i64 bn,.slice dR aI.length dP,.int .i64 bv]] w fun e w'=>e= .returned (.bool r)∧Below w.heap.size w w':=by
 have hu36:=Tryz.underlying36;have eO:=Za.mk eu;have fC:=Za.mk ek;clear eu ek;have j4:=Za.mk ig;have jL:=Za.mk ic;clear ig ic;have j5:=Za.mk iY;have pJ:=Za.mk iX;clear iY iX;have HB:=Za.mk (Below.refl w.heap.size w);have H:((Zay.f k aa).bind fun Ip=>(if Ip=true then(if(aa.length:Int)>0 then(if(aa.length:Int)=(au.length:Int)then((Zbl.f k au 0).bind fun Iq=>(some (!Iq)))else(some false))else(some false))else(some false)))=some r:=h;clear h;obtain⟨Ip,A2,H⟩:=bnd H;try dsimp only at H
 by_cases c3:Ip=true
 case neg=>
  replace c3:=Bool.eq_false_iff.mpr c3;subst c3;replace H:=ifF H;obtain rfl:=sj H;go_enter Tryz.func103,Tryz.ntmps103
  go_wp2_with (first|((with_reducible refine Zar (N:=1) rfl ?_);(try(refine Zb2 (by rfl) ?_;dsimp only));refine bx 1 #[.int .i64 aU,.slice aV aa.length aQ,.slice dx au.length dz,.int .i64 aX,.int .i64 bn,.slice dR aI.length dP,.int .i64 bv] 36 ?_;intro wV hg w13 hbox hb;have wI:=Za.mk (hbox);have Kq:=Za.mk ((gE hg HB.out:w.heap.size≤wV));replace HB:=Za.mk (bS HB.out hb);clear hb hbox hg;obtain⟨xO,xP,Ex,Gy,Gz,MW,MX,xz,xA,Ej,Gg,Gh,Mx,M0⟩:=cz7 wI.out)|((with_reducible refine Zal (f:=102) rfl ?_);refine gl 5 Tryz.func102 #[.slice aV aa.length aQ] ?_;(with_reducible refine(Zay.calls k _ _ aa false _ (cM (Kd.Zac eO.out HB.out)) fC.out A2.out).mono ?_);rintro e w' ⟨rfl,⟨nd,rfl⟩⟩;refine⟨_,rfl,?_⟩))
  go_ret;exact⟨eR,bM HB.out⟩
 subst c3;rw[if_pos rfl]at H;by_cases c4:(aa.length:Int)>0
 case neg=>
  rw[if_neg c4]at H;have dC:decide (0<(aa.length:Int))=false:=decide_eq_false c4;have sI:decide (0<aa.length)=false:=decide_eq_false (by omega);clear c4;obtain rfl:=sj H;go_enter Tryz.func103,Tryz.ntmps103
  go_wp2_with (first|((with_reducible refine Zar (N:=1) rfl ?_);(try(refine Zb2 (by rfl) ?_;dsimp only));refine bx 1 #[.int .i64 aU,.slice aV aa.length aQ,.slice dx au.length dz,.int .i64 aX,.int .i64 bn,.slice dR aI.length dP,.int .i64 bv] 36 ?_;intro wV hg w11 hbox hb;have wI:=Za.mk (hbox);have Kq:=Za.mk ((gE hg HB.out:w.heap.size≤wV));replace HB:=Za.mk (bS HB.out hb);clear hb hbox hg;obtain⟨mV,mW,mX,mY,ng,uA,uB,mO,mP,mQ,mR,mU,uu,uw⟩:=cz7 wI.out)|((with_reducible refine Zal (f:=102) rfl ?_);refine gl 5 Tryz.func102 #[.slice aV aa.length aQ] ?_;(with_reducible refine(Zay.calls k _ _ aa true _ (cM (Kd.Zac eO.out HB.out)) fC.out A2.out).mono ?_);rintro e w' ⟨rfl,⟨nd,rfl⟩⟩;refine⟨_,rfl,?_⟩))
  go_ret;exact⟨eR,bM HB.out⟩
 rw[if_pos c4]at H;have dC:decide (0<(aa.length:Int))=true:=decide_eq_true c4;have sI:decide (0<aa.length)=true:=decide_eq_true (by omega);clear c4;by_cases c5:(aa.length:Int)=(au.length:Int)
 case neg=>
  rw[if_neg c5]at H;have dw:((aa.length:Int)==(au.length:Int))=false:=beq_eq_false_iff_ne.mpr c5;have lq:((aa.length:Int) !=(au.length:Int))=true:=bne_iff_ne.mpr c5;have LM:(aa.length==au.length)=false:=by first|simpa using c5|(simp at c5 ⊢;omega)
  obtain rfl:=sj H;go_enter Tryz.func103,Tryz.ntmps103
  go_wp2_with (first|((with_reducible refine Zar (N:=1) rfl ?_);(try(refine Zb2 (by rfl) ?_;dsimp only));refine bx 1 #[.int .i64 aU,.slice aV aa.length aQ,.slice dx au.length dz,.int .i64 aX,.int .i64 bn,.slice dR aI.length dP,.int .i64 bv] 36 ?_;intro wV hg w9 hbox hb;have wI:=Za.mk (hbox);have Kq:=Za.mk ((gE hg HB.out:w.heap.size≤wV));replace HB:=Za.mk (bS HB.out hb);clear hb hbox hg;obtain⟨o9,oC,oD,qf,qg,zz,z8,o6,o7,o8,pY,qc,zo,zq⟩:=cz7 wI.out)|((with_reducible refine Zal (f:=102) rfl ?_);refine gl 5 Tryz.func102 #[.slice aV aa.length aQ] ?_;(with_reducible refine(Zay.calls k _ _ aa true _ (cM (Kd.Zac eO.out HB.out)) fC.out A2.out).mono ?_);rintro e w' ⟨rfl,⟨nd,rfl⟩⟩;refine⟨_,rfl,?_⟩))
  go_ret;exact⟨eR,bM HB.out⟩
 rw[if_pos c5]at H;have dw:((aa.length:Int)==(au.length:Int))=true:=beq_iff_eq.mpr c5;have lq:((aa.length:Int) !=(au.length:Int))=false:=bne_eq_false_iff_eq.mpr c5;have LM:(aa.length==au.length)=true:=by first|simpa using c5|(simp at c5 ⊢;omega)
 clear c5;obtain⟨Iq,A6,H⟩:=bnd H;try dsimp only at H
 obtain rfl:=sj H;go_enter Tryz.func103,Tryz.ntmps103
 go_wp2_with (first|((with_reducible refine Zar (N:=1) rfl ?_);(try(refine Zb2 (by rfl) ?_;dsimp only));refine bx 1 #[.int .i64 aU,.slice aV aa.length aQ,.slice dx au.length dz,.int .i64 aX,.int .i64 bn,.slice dR aI.length dP,.int .i64 bv] 36 ?_;intro wV hg w7 hbox hb;have wI:=Za.mk (hbox);have Kq:=Za.mk ((gE hg HB.out:w.heap.size≤wV));replace HB:=Za.mk (bS HB.out hb);clear hb hbox hg;obtain⟨xX,xY,yc,yf,yg,yL,yM,xJ,xK,xL,xM,xN,yJ,yK⟩:=cz7 wI.out)|((with_reducible refine Zal (f:=102) rfl ?_);refine gl 5 Tryz.func102 #[.slice aV aa.length aQ] ?_;(with_reducible refine(Zay.calls k _ _ aa true _ (cM (Kd.Zac eO.out HB.out)) fC.out A2.out).mono ?_);rintro e w' ⟨rfl,⟨nd,rfl⟩⟩;refine⟨_,rfl,?_⟩)|(go_at_call 49;(with_reducible refine(Zbl.calls k _ _ au 0 Iq _ (cM (Kd.Zac j4.out (bM HB.out))) jL.out A6.out).mono ?_);rintro e w' ⟨rfl,⟨nd,rfl⟩⟩))
 go_ret;exact⟨eR,bM HB.out⟩
mutual
def Zbd.l0 : Nat → Int → Int → List Int → List Int → Int → Int → List (List Int) → Int → Option (Bool)
 | 0, _, _, _, _, _, _, _, _ => none
 |k+1,x3,zg,wB,zh,zi,zk,lM,zm=>if x3<(lM.length:Int)then(if 0≤x3 then(if((Zb3 lM x3).length:Int)=(wB.length:Int)then(Zbd.l1 k x3 0 zg wB zh zi zk lM zm)else(some false))else(none))else(some (decide ((lM.length:Int)≤1024)))
def Zbd.l1 : Nat → Int → Int → Int → List Int → List Int → Int → Int → List (List Int) → Int → Option (Bool)
 | 0, _, _, _, _, _, _, _, _, _ => none
 |k+1,x3,x4,zg,wB,zh,zi,zk,lM,zm=>if 0≤x3 then(if x3<(lM.length:Int)then(if x4<((Zb3 lM x3).length:Int)then(if 0≤x4 then((Zbc.f (rd (Zb3 lM x3) x4)).bind fun Pk=>(if Pk=true then(Zbd.l1 k x3 (wrap64 (x4+1)) zg wB zh zi zk lM zm)else(some false)))else(none))else(Zbd.l0 k (wrap64 (x3+1)) zg wB zh zi zk lM zm))else(none))else(none)
end
def Zbd.f (k:Nat) (aU:Int) (aa:List Int) (au:List Int) (aX:Int) (bn:Int) (aI:List (List Int)) (bv:Int):Option (Bool):=Zbd.l0 k 0 aU aa au aX bn aI bv
set_option maxRecDepth 100000 in
theorem Zbd.calls (k : Nat) (aU : Int) (aV : Option Addr) (aQ : Nat) (aa : List Int) (dx : Option Addr) (dz : Nat) (au : List Int) (aX : Int) (bn : Int) (dR : Option Addr) (dP : Nat) (aI : List (List Int)) (bv : Int) (r : Bool) (w : World) (eu : Kd.C (Kd.int .i64) w aV aa.length aa) (ek : aa.length ≤ aQ) (ig : Kd.C (Kd.int .i64) w dx au.length au) (ic : au.length ≤ dz) (iY : Kd.C (Kd.slice 3 (Kd.int .i64)) w dR aI.length aI) (iX : aI.length ≤ dP) (h : Zbd.f k aU aa au aX bn aI bv = some r) :
  Calls Tryz.prog 104 #[.agg #[.int .i64 aU,.slice aV aa.length aQ,.slice dx au.length dz,.int .i64 aX,.int .i64 bn,.slice dR aI.length dP,.int .i64 bv]] w fun e w'=>e= .returned (.bool r)∧Below w.heap.size w w':=by
 have hu36:=Tryz.underlying36;have eO:=Za.mk eu;have fC:=Za.mk ek;clear eu ek;have j4:=Za.mk ig;have jL:=Za.mk ic;clear ig ic;have j5:=Za.mk iY;have pJ:=Za.mk iX;clear iY iX;have HB:=Za.mk (Below.refl w.heap.size w);have H:(Zbd.l0 k 0 aU aa au aX bn aI bv)=some r:=h;clear h;have H':=Za.mk H;clear H;go_enter Tryz.func104,Tryz.ntmps104
 go_wp2_with (first|((with_reducible refine Zar (N:=1) rfl ?_);refine bx 1 #[.int .i64 aU,.slice aV aa.length aQ,.slice dx au.length dz,.int .i64 aX,.int .i64 bn,.slice dR aI.length dP,.int .i64 bv] 36 ?_;intro wW hg w2 hbox hb;have ma:=Za.mk (hbox);have Ql:=Za.mk ((gE hg HB.out:w.heap.size≤wW));replace HB:=Za.mk (bS HB.out hb);clear hb hbox hg))
 repeat(go_quiet (first|((with_reducible refine Zar (N:=1) rfl ?_);refine bx 1 #[.int .i64 aU,.slice aV aa.length aQ,.slice dx au.length dz,.int .i64 aX,.int .i64 bn,.slice dR aI.length dP,.int .i64 bv] 36 ?_;intro wW hg w2 hbox hb;have ma:=Za.mk (hbox);have Ql:=Za.mk ((gE hg HB.out:w.heap.size≤wW));replace HB:=Za.mk (bS HB.out hb);clear hb hbox hg));try go_wp2_with (first|((with_reducible refine Zar (N:=1) rfl ?_);refine bx 1 #[.int .i64 aU,.slice aV aa.length aQ,.slice dx au.length dz,.int .i64 aX,.int .i64 bn,.slice dR aI.length dP,.int .i64 bv] 36 ?_;intro wW hg w2 hbox hb;have ma:=Za.mk (hbox);have Ql:=Za.mk ((gE hg HB.out:w.heap.size≤wW));replace HB:=Za.mk (bS HB.out hb);clear hb hbox hg)))
 go_loopg [3] k (fun kq v3 w'=>∃(af:Int),v3= .int .i64 af∧Za (Zbd.l0 kq af aU aa au aX bn aI bv=some r)∧Za (kq≤k)∧Za (w'.heap[wW]? =some (.cells #[.int .i64 aU,(.slice aV aa.length aQ),(.slice dx au.length dz),.int .i64 aX,.int .i64 bn,(.slice dR aI.length dP),.int .i64 bv] 36 (0,0)))∧Za (Below w.heap.size w w'))
 case atStart=>exact⟨(0),eS,H',⟨Nat.le_refl _⟩,⟨kM ma.out⟩,⟨bM HB.out⟩⟩
 case round=>
  clear H';try clear c1
  try clear p2
  obtain⟨af,rfl,HA,HK1,ma,HB⟩:=hrel
  cases gk with
  | zero => exact absurd HA.out (by simp [Zbd.l0])
  |succ k1=>
   have H:=HA.out;clear HA;simp only[Zbd.l0]at H;by_cases c3:af<(aI.length:Int)
   case neg=>
    rw[if_neg c3]at H;have fB:decide (af<(aI.length:Int))=false:=decide_eq_false c3;clear c3;obtain rfl:=sj H;obtain⟨EB,EC,Na,Sw,Sy,Sz,S9,Es,Et,M3,R8,R9,RA,RB⟩:=cz7 ma.out;go_wp2
    repeat(go_quiet (fail);try go_wp2)
    go_ret;exact⟨eR,bM HB.out⟩
   rw[if_pos c3]at H;have fB:decide (af<(aI.length:Int))=true:=decide_eq_true c3;clear c3;obtain⟨dC,H⟩:=ifT H;by_cases c5:((Zb3 aI af).length:Int)=(aa.length:Int)
   case neg=>
    rw[if_neg c5]at H;have dw:(((Zb3 aI af).length:Int)==(aa.length:Int))=false:=beq_eq_false_iff_ne.mpr c5;have lq:(((Zb3 aI af).length:Int) !=(aa.length:Int))=true:=bne_iff_ne.mpr c5;have LM:((Zb3 aI af).length==aa.length)=false:=by first|simpa using c5|(simp at c5 ⊢;omega)
    obtain rfl:=sj H;obtain⟨zA,zB,zC,E5,E8,E9,EA,zt,zu,zw,En,Eo,Ep,Er⟩:=cz7 ma.out;have Vb:(0≤(af:Int))=True:=teq;have Vj:(af<(aI.length:Int))=True:=teq;obtain⟨wQ,Uq,U8,rfl,rJ,uX,uI⟩:=Zew j5.out af odt odt;replace rJ:=hB HB.out rJ;have TL:=Za.mk uI;have Ty:=Za.mk uX;clear uI uX;go_wp2
    repeat(go_quiet (fail);try go_wp2)
    go_ret;exact⟨eR,bM HB.out⟩
   rw[if_pos c5]at H;have dw:(((Zb3 aI af).length:Int)==(aa.length:Int))=true:=beq_iff_eq.mpr c5;have lq:(((Zb3 aI af).length:Int) !=(aa.length:Int))=false:=bne_eq_false_iff_eq.mpr c5;have LM:((Zb3 aI af).length==aa.length)=true:=by first|simpa using c5|(simp at c5 ⊢;omega)
   clear c5;have H':=Za.mk H;clear H;obtain⟨kY,lc,lG,oo,oq,Fy,Fz,kW,kX,lF,ol,om,Fw,Fx⟩:=cz7 ma.out;have Vb:(0≤(af:Int))=True:=teq;have Vj:(af<(aI.length:Int))=True:=teq;obtain⟨wQ,Uq,U8,rfl,rJ,uX,uI⟩:=Zew j5.out af odt odt;replace rJ:=hB HB.out rJ;have TL:=Za.mk uI;have Ty:=Za.mk uX;clear uI uX;go_wp2
   repeat(go_quiet (fail);try go_wp2)
   go_loopg [4] k1 (fun kq v4 w'=>∃(fV:Int),v4= .int .i64 fV∧Za (Zbd.l1 kq af fV aU aa au aX bn aI bv=some r)∧Za (kq≤k1)∧Za (w'.heap[wW]? =some (.cells #[.int .i64 aU,(.slice aV aa.length aQ),(.slice dx au.length dz),.int .i64 aX,.int .i64 bn,(.slice (some wQ) aI.length dP),.int .i64 bv] 36 (0,0)))∧Za (Below w.heap.size w w'))
   case atStart=>exact⟨(0),eS,H',⟨Nat.le_refl _⟩,⟨kM ma.out⟩,⟨bM HB.out⟩⟩
   case round=>
    clear H';try clear c1
    try clear c2
    try clear p2
    try clear q2
    try clear hx2
    try clear c3
    try clear fB
    try clear c4
    try clear dC
    try clear c5
    try clear dw
    try clear lq
    try clear LM
    try clear kY lc lG oo oq Fy Fz kW kX lF ol om Fw Fx
    try clear rJ
    try clear p2
    try clear Vb
    try clear Vj
    obtain⟨fV,rfl,HA,HK2,ma,HB⟩:=hrel
    cases gk with
    | zero => exact absurd HA.out (by simp [Zbd.l1])
    |succ k2=>
     have H:=HA.out;clear HA;simp only[Zbd.l1]at H;obtain⟨nu,H⟩:=ifT H;obtain⟨ny,H⟩:=ifT H;by_cases c9:fV<((Zb3 aI af).length:Int)
     case neg=>
      rw[if_neg c9]at H;have nz:decide (fV<((Zb3 aI af).length:Int))=false:=decide_eq_false c9;clear c9;have H':=Za.mk H;clear H;obtain⟨rF,rG,rH,uC,uD,Ey,Ez,rC,rD,rE,uy,uz,El,Em⟩:=cz7 ma.out;have Vd:(0≤(af:Int))=True:=teq;have Vk:(af<(aI.length:Int))=True:=teq;obtain⟨Cc,NB,NK,e264,lI,oV,oQ⟩:=Zew j5.out af odt odt;obtain rfl:wQ=Cc:=(by injection e264);replace lI:=hB HB.out lI;have Ji:=Za.mk oQ;have Jg:=Za.mk oV;clear oQ oV;go_wp2
      repeat(go_quiet (fail);try go_wp2)
      go_roundg k2
      case measure=>have:=HK1.out;have:=HK2.out;omega
      case rel=>exact⟨(wrap64 (af+1)),eS,H',⟨by have:=HK1.out;have:=HK2.out;omega⟩,⟨kM ma.out⟩,⟨bM HB.out⟩⟩
     rw[if_pos c9]at H;have nz:decide (fV<((Zb3 aI af).length:Int))=true:=decide_eq_true c9;clear c9;obtain⟨jS,H⟩:=ifT H;obtain⟨Pk,A11,H⟩:=bnd H;try dsimp only at H
     by_cases c12:Pk=true
     case pos=>
      subst c12;rw[if_pos rfl]at H;have H':=Za.mk H;clear H;obtain⟨aQa,aRa,aSa,aTa,aUa,aVa,aWa,Y8,Y9,YA,YB,YC,YD,YE⟩:=cz7 ma.out;have Vd:(0≤(af:Int))=True:=teq;have Vk:(af<(aI.length:Int))=True:=teq;obtain⟨Cc,NB,NK,e264,lI,oV,oQ⟩:=Zew j5.out af odt odt;obtain rfl:wQ=Cc:=(by injection e264);replace lI:=hB HB.out lI;have Ji:=Za.mk oQ;have Jg:=Za.mk oV;clear oQ oV;have dva:(0≤(af:Int))=True:=teq;have d4a:(af<(aI.length:Int))=True:=teq;obtain⟨Lg,Ur,U9,Ov,qG,uY,uJ⟩:=Zew j5.out af odt odt;obtain rfl:wQ=Lg:=(by injection Ov);replace qG:=hB HB.out qG;have EI:=Za.mk uJ;have Tz:=Za.mk uY;clear uJ uY;have ea_:=Option.some.inj (lI.symm.trans qG)
      injection ea_ with ea_ en_ ec_
      subst ea_;subst ec_;clear en_;have zP:0≤(fV:Int):=odt;have Aj:fV<((Zb3 aI af).length:Int):=odt;obtain⟨XC,rfl,vP⟩:=Kd.Zb1 EI.out fV zP Aj;replace vP:=hB HB.out vP;replace zP:=eq_true zP;replace Aj:=eq_true Aj
      go_wp2_with (first|(go_at_call 73;(with_reducible refine(Zbc.calls (rd (Zb3 aI af) fV) true _ A11.out).mono ?_);rintro e w' ⟨rfl,⟨nd,rfl⟩⟩;(try first|exact⟨rfl,_,World.drewN_drewN _ _ _⟩|exact⟨rfl,_,Eq.trans (World.drewN_drewN _ _ _) (congrArg (World.drewN _) (Nat.add_assoc _ _ _))⟩)))
      repeat(go_quiet (first|(go_at_call 73;(with_reducible refine(Zbc.calls (rd (Zb3 aI af) fV) true _ A11.out).mono ?_);rintro e w' ⟨rfl,⟨nd,rfl⟩⟩;(try first|exact⟨rfl,_,World.drewN_drewN _ _ _⟩|exact⟨rfl,_,Eq.trans (World.drewN_drewN _ _ _) (congrArg (World.drewN _) (Nat.add_assoc _ _ _))⟩)));try go_wp2_with (first|(go_at_call 73;(with_reducible refine(Zbc.calls (rd (Zb3 aI af) fV) true _ A11.out).mono ?_);rintro e w' ⟨rfl,⟨nd,rfl⟩⟩;(try first|exact⟨rfl,_,World.drewN_drewN _ _ _⟩|exact⟨rfl,_,Eq.trans (World.drewN_drewN _ _ _) (congrArg (World.drewN _) (Nat.add_assoc _ _ _))⟩))))
      go_roundg k2
      case measure=>have:=HK1.out;have:=HK2.out;omega
      case rel=>exact⟨(wrap64 (fV+1)),eS,H',⟨by have:=HK1.out;have:=HK2.out;omega⟩,⟨kM ma.out⟩,⟨bM HB.out⟩⟩
     replace c12:=Bool.eq_false_iff.mpr c12;subst c12;replace H:=ifF H;obtain rfl:=sj H;obtain⟨xO,xP,Ex,Gy,Gz,MW,MX,xz,xA,Ej,Gg,Gh,Mx,M0⟩:=cz7 ma.out;have Vd:(0≤(af:Int))=True:=teq;have Vk:(af<(aI.length:Int))=True:=teq;obtain⟨Cc,NB,NK,e264,lI,oV,oQ⟩:=Zew j5.out af odt odt;obtain rfl:wQ=Cc:=(by injection e264);replace lI:=hB HB.out lI;have Ji:=Za.mk oQ;have Jg:=Za.mk oV;clear oQ oV;have dva:(0≤(af:Int))=True:=teq;have d4a:(af<(aI.length:Int))=True:=teq;obtain⟨Lg,Ur,U9,Ov,qG,uY,uJ⟩:=Zew j5.out af odt odt;obtain rfl:wQ=Lg:=(by injection Ov);replace qG:=hB HB.out qG;have EI:=Za.mk uJ;have Tz:=Za.mk uY;clear uJ uY;have ea_:=Option.some.inj (lI.symm.trans qG)
     injection ea_ with ea_ en_ ec_
     subst ea_;subst ec_;clear en_;have zP:0≤(fV:Int):=odt;have Aj:fV<((Zb3 aI af).length:Int):=odt;obtain⟨XC,rfl,vP⟩:=Kd.Zb1 EI.out fV zP Aj;replace vP:=hB HB.out vP;replace zP:=eq_true zP;replace Aj:=eq_true Aj
     go_wp2_with (first|(go_at_call 73;(with_reducible refine(Zbc.calls (rd (Zb3 aI af) fV) false _ A11.out).mono ?_);rintro e w' ⟨rfl,⟨nd,rfl⟩⟩;(try first|exact⟨rfl,_,World.drewN_drewN _ _ _⟩|exact⟨rfl,_,Eq.trans (World.drewN_drewN _ _ _) (congrArg (World.drewN _) (Nat.add_assoc _ _ _))⟩)))
     repeat(go_quiet (first|(go_at_call 73;(with_reducible refine(Zbc.calls (rd (Zb3 aI af) fV) false _ A11.out).mono ?_);rintro e w' ⟨rfl,⟨nd,rfl⟩⟩;(try first|exact⟨rfl,_,World.drewN_drewN _ _ _⟩|exact⟨rfl,_,Eq.trans (World.drewN_drewN _ _ _) (congrArg (World.drewN _) (Nat.add_assoc _ _ _))⟩)));try go_wp2_with (first|(go_at_call 73;(with_reducible refine(Zbc.calls (rd (Zb3 aI af) fV) false _ A11.out).mono ?_);rintro e w' ⟨rfl,⟨nd,rfl⟩⟩;(try first|exact⟨rfl,_,World.drewN_drewN _ _ _⟩|exact⟨rfl,_,Eq.trans (World.drewN_drewN _ _ _) (congrArg (World.drewN _) (Nat.add_assoc _ _ _))⟩))))
     go_ret;exact⟨eR,bM HB.out⟩
def Zbf.l0 : Nat → List (S82) → Int → Option (Bool)
 | 0, _, _ => none
 |k+1,x0,x3=>if x3<(x0.length:Int)then(if 0≤x3 then(if((Zbk x0 x3).f0)<0 then(some false)else(if((Zbk x0 x3).f1)>1 then(some false)else(Zbf.l0 k x0 (wrap64 (x3+1)))))else(none))else(some true)
def Zbf.f (k:Nat) (l0:List (S82)):Option (Bool):=Zbf.l0 k l0 0
set_option maxRecDepth 100000 in
theorem Zbf.calls (k : Nat) (A0 : Option Addr) (c0 : Nat) (l0 : List (S82)) (r : Bool) (w : World) (hr0 : Kd.C k82 w A0 l0.length l0) (hc0 : l0.length ≤ c0) (h : Zbf.f k l0 = some r) :
  Calls Tryz.prog 105 #[.slice A0 l0.length c0] w fun e w'=>e= .returned (.bool r)∧Zav w w':=by
 have HR0:=Za.mk hr0;have HC0:=Za.mk hc0;clear hr0 hc0;have H:(Zbf.l0 k l0 0)=some r:=h;clear h;have H':=Za.mk H;clear H;go_enter Tryz.func105,Tryz.ntmps105;go_wp2
 go_loopg [3] k (fun kq v3 w'=>∃(af:Int),v3= .int .i64 af∧Za (Zbf.l0 kq l0 af=some r)∧Za (kq≤k)∧Zav w w')
 case atStart=>exact⟨(0),eS,H',⟨Nat.le_refl _⟩,by repeat(first|exact Zav.refl _|apply Zav.step)⟩
 case round=>
  clear H';try clear c1
  obtain⟨af,rfl,HA,HK1,⟨m1,rfl⟩⟩:=hrel
  cases gk with
  | zero => exact absurd HA.out (by simp [Zbf.l0])
  |succ k1=>
   have H:=HA.out;clear HA;simp only[Zbf.l0]at H;by_cases c2:af<(l0.length:Int)
   case neg=>
    rw[if_neg c2]at H;have jC:decide (af<(l0.length:Int))=false:=decide_eq_false c2;clear c2;obtain rfl:=sj H;go_wp2;go_ret;exact⟨eS,by repeat(first|exact Zav.refl _|apply Zav.step)⟩
   rw[if_pos c2]at H;have jC:decide (af<(l0.length:Int))=true:=decide_eq_true c2;clear c2;obtain⟨fB,H⟩:=ifT H;by_cases c4:((Zbk l0 af).f0)<0
   case pos=>
    rw[if_pos c4]at H;have dC:decide (((Zbk l0 af).f0)<0)=true:=decide_eq_true c4;clear c4;obtain rfl:=sj H;have Ve:(0≤(af:Int))=True:=teq;have Vl:(af<(l0.length:Int))=True:=teq;obtain⟨FQ,rfl,JN,JO⟩:=Zem HR0.out af odt odt;go_wp2;go_ret;exact⟨eS,by repeat(first|exact Zav.refl _|apply Zav.step)⟩
   rw[if_neg c4]at H;have dC:decide (((Zbk l0 af).f0)<0)=false:=decide_eq_false c4;clear c4;by_cases c5:((Zbk l0 af).f1)>1
   case pos=>
    rw[if_pos c5]at H;have dw:decide (1<((Zbk l0 af).f1))=true:=decide_eq_true c5;clear c5;obtain rfl:=sj H;have Ve:(0≤(af:Int))=True:=teq;have Vl:(af<(l0.length:Int))=True:=teq;obtain⟨FQ,rfl,JN,JO⟩:=Zem HR0.out af odt odt;have dwa:(0≤(af:Int))=True:=teq;have d5a:(af<(l0.length:Int))=True:=teq;obtain⟨Lh,e269,TW,TY⟩:=Zem HR0.out af odt odt;obtain rfl:FQ=Lh:=(by injection e269);go_wp2;go_ret;exact⟨eS,by repeat(first|exact Zav.refl _|apply Zav.step)⟩
   rw[if_neg c5]at H;have dw:decide (1<((Zbk l0 af).f1))=false:=decide_eq_false c5;clear c5;have H':=Za.mk H;clear H;have Ve:(0≤(af:Int))=True:=teq;have Vl:(af<(l0.length:Int))=True:=teq;obtain⟨FQ,rfl,JN,JO⟩:=Zem HR0.out af odt odt;have dwa:(0≤(af:Int))=True:=teq;have d5a:(af<(l0.length:Int))=True:=teq;obtain⟨Lh,e269,TW,TY⟩:=Zem HR0.out af odt odt;obtain rfl:FQ=Lh:=(by injection e269);go_wp2
   go_roundg k1
   case measure=>have:=HK1.out;omega
   case rel=>exact⟨(wrap64 (af+1)),eS,H',⟨by have:=HK1.out;omega⟩,by repeat(first|exact Zav.refl _|apply Zav.step)⟩
def Zbx.l0 : Nat → List (List (S82)) → Int → Int → List Int → List Int → Int → Int → List (List Int) → Int → Option (Bool)
 | 0, _, _, _, _, _, _, _, _, _ => none
 |k+1,x0,x5,Kb,rW,wC,Ke,Kg,Kh,Ki=>if x5<(rW.length:Int)then(if 0≤x5 then(if 0≤(rd rW x5)then(if(rd rW x5)<(x0.length:Int)then((Zbf.f k (Zdo x0 (rd rW x5))).bind fun Pm=>(if Pm=true then(if x5<(wC.length:Int)then(if(rd wC x5)=1 then(Zbx.l0 k x0 (wrap64 (x5+1)) Kb rW wC Ke Kg Kh Ki)else(if(rd wC x5)=(-1)then(Zbx.l0 k x0 (wrap64 (x5+1)) Kb rW wC Ke Kg Kh Ki)else(some false)))else(none))else(some false)))else(none))else(none))else(none))else(some true)
def Zbx.f (k:Nat) (l0:List (List (S82))) (aC:Int) (aA:List Int) (aJ:List Int) (di:Int) (dn:Int) (bu:List (List Int)) (cz:Int):Option (Bool):=Zbx.l0 k l0 0 aC aA aJ di dn bu cz
set_option maxRecDepth 100000 in
theorem Zbx.calls (k : Nat) (A0 : Option Addr) (c0 : Nat) (l0 : List (List (S82))) (aC : Int) (fO : Option Addr) (fQ : Nat) (aA : List Int) (fH : Option Addr) (fI : Nat) (aJ : List Int) (di : Int) (dn : Int) (j6 : Option Addr) (jB : Nat) (bu : List (List Int)) (cz : Int) (r : Bool) (w : World) (hr0 : Kd.C (Kd.slice 82 k82) w A0 l0.length l0) (hc0 : l0.length ≤ c0) (mK : Kd.C (Kd.int .i64) w fO aA.length aA) (mH : aA.length ≤ fQ) (mM : Kd.C (Kd.int .i64) w fH aJ.length aJ) (mI : aJ.length ≤ fI) (ut : Kd.C (Kd.slice 3 (Kd.int .i64)) w j6 bu.length bu) (uq : bu.length ≤ jB) (h : Zbx.f k l0 aC aA aJ di dn bu cz = some r) :
  Calls Tryz.prog 106 #[.slice A0 l0.length c0,.agg #[.int .i64 aC,.slice fO aA.length fQ,.slice fH aJ.length fI,.int .i64 di,.int .i64 dn,.slice j6 bu.length jB,.int .i64 cz]] w fun e w'=>e= .returned (.bool r)∧Below w.heap.size w w':=by
 have hu36:=Tryz.underlying36;have HR0:=Za.mk hr0;have HC0:=Za.mk hc0;clear hr0 hc0;have gL:=Za.mk mK;have iN:=Za.mk mH;clear mK mH;have gz:=Za.mk mM;have iO:=Za.mk mI;clear mM mI;have jP:=Za.mk ut;have jM:=Za.mk uq;clear ut uq;have HB:=Za.mk (Below.refl w.heap.size w);have H:(Zbx.l0 k l0 0 aC aA aJ di dn bu cz)=some r:=h;clear h;have H':=Za.mk H;clear H;go_enter Tryz.func106,Tryz.ntmps106
 go_wp2_with (first|((with_reducible refine Zar (N:=3) rfl ?_);refine bx 3 #[.int .i64 aC,.slice fO aA.length fQ,.slice fH aJ.length fI,.int .i64 di,.int .i64 dn,.slice j6 bu.length jB,.int .i64 cz] 36 ?_;intro Rz hg w3 hbox hb;have ry:=Za.mk (hbox);have f2a:=Za.mk ((gE hg HB.out:w.heap.size≤Rz));replace HB:=Za.mk (bS HB.out hb);clear hb hbox hg))
 go_loopg [5] k (fun kq v5 w'=>∃(ax:Int),v5= .int .i64 ax∧Za (Zbx.l0 kq l0 ax aC aA aJ di dn bu cz=some r)∧Za (kq≤k)∧Za (w'.heap[Rz]? =some (.cells #[.int .i64 aC,(.slice fO aA.length fQ),(.slice fH aJ.length fI),.int .i64 di,.int .i64 dn,(.slice j6 bu.length jB),.int .i64 cz] 36 (0,0)))∧Za (Below w.heap.size w w'))
 case atStart=>exact⟨(0),eS,H',⟨Nat.le_refl _⟩,⟨kM ry.out⟩,⟨bM HB.out⟩⟩
 case round=>
  clear H';try clear c1
  try clear p2
  obtain⟨ax,rfl,HA,HK1,ry,HB⟩:=hrel
  cases gk with
  | zero => exact absurd HA.out (by simp [Zbx.l0])
  |succ k1=>
   have H:=HA.out;clear HA;simp only[Zbx.l0]at H;by_cases c4:ax<(aA.length:Int)
   case neg=>
    rw[if_neg c4]at H;have dC:decide (ax<(aA.length:Int))=false:=decide_eq_false c4;clear c4;obtain rfl:=sj H;obtain⟨EB,EC,Na,Sw,Sy,Sz,S9,Es,Et,M3,R8,R9,RA,RB⟩:=cz7 ry.out;go_wp2;go_ret;exact⟨eR,bM HB.out⟩
   rw[if_pos c4]at H;have dC:decide (ax<(aA.length:Int))=true:=decide_eq_true c4;clear c4;obtain⟨dw,H⟩:=ifT H;obtain⟨iF,H⟩:=ifT H;obtain⟨nu,H⟩:=ifT H;obtain⟨Pm,A8,H⟩:=bnd H;try dsimp only at H
   by_cases c9:Pm=true
   case neg=>
    replace c9:=Bool.eq_false_iff.mpr c9;subst c9;replace H:=ifF H;obtain rfl:=sj H;obtain⟨zA,zB,zC,E5,E8,E9,EA,zt,zu,zw,En,Eo,Ep,Er⟩:=cz7 ry.out;have oH:0≤(ax:Int):=odt;have oJ:ax<(aA.length:Int):=odt;obtain⟨Li,rfl,kK⟩:=Kd.Zb1 gL.out ax oH oJ;replace kK:=hB HB.out kK;replace oH:=eq_true oH;replace oJ:=eq_true oJ;have OM:(0≤((rd aA ax):Int))=True:=teq;have Pe:((rd aA ax)<(l0.length:Int))=True:=teq;obtain⟨Lj,sG,sH,rfl,kL,kH,kE⟩:=Zfv HR0.out (rd aA ax) odt odt;replace kL:=hB HB.out kL;have qx:=Za.mk kE;have qh:=Za.mk kH;clear kE kH
    go_wp2_with (first|((with_reducible refine Zal (f:=105) rfl ?_);refine gl 21 Tryz.func105 #[.slice sG (Zdo l0 (rd aA ax)).length sH] ?_;(with_reducible refine(Zbf.calls k1 _ _ (Zdo l0 (rd aA ax)) false _ (cM (Kd.Zac qx.out HB.out)) qh.out A8.out).mono ?_);rintro e w' ⟨rfl,⟨nd,rfl⟩⟩;refine⟨_,rfl,?_⟩))
    go_ret;exact⟨eR,bM HB.out⟩
   subst c9;rw[if_pos rfl]at H;obtain⟨jS,H⟩:=ifT H;by_cases c11:(rd aJ ax)=1
   case pos=>
    rw[if_pos c11]at H;have oz:((rd aJ ax)==1)=true:=beq_iff_eq.mpr c11;have XT:((rd aJ ax) !=1)=false:=bne_eq_false_iff_eq.mpr c11;clear c11;have H':=Za.mk H;clear H;obtain⟨mV,mW,mX,mY,ng,uA,uB,mO,mP,mQ,mR,mU,uu,uw⟩:=cz7 ry.out;have oH:0≤(ax:Int):=odt;have oJ:ax<(aA.length:Int):=odt;obtain⟨Li,rfl,kK⟩:=Kd.Zb1 gL.out ax oH oJ;replace kK:=hB HB.out kK;replace oH:=eq_true oH;replace oJ:=eq_true oJ;have OM:(0≤((rd aA ax):Int))=True:=teq;have Pe:((rd aA ax)<(l0.length:Int))=True:=teq;obtain⟨Lj,sG,sH,rfl,kL,kH,kE⟩:=Zfv HR0.out (rd aA ax) odt odt;replace kL:=hB HB.out kL;have qx:=Za.mk kE;have qh:=Za.mk kH;clear kE kH
    go_wp2_with (first|((with_reducible refine Zal (f:=105) rfl ?_);refine gl 21 Tryz.func105 #[.slice sG (Zdo l0 (rd aA ax)).length sH] ?_;(with_reducible refine(Zbf.calls k1 _ _ (Zdo l0 (rd aA ax)) true _ (cM (Kd.Zac qx.out HB.out)) qh.out A8.out).mono ?_);rintro e w' ⟨rfl,⟨nd,rfl⟩⟩;refine⟨_,rfl,?_⟩;have sQ:0≤(ax:Int):=odt;have tC:ax<(aJ.length:Int):=odt;obtain⟨FR,e274,pg⟩:=Kd.Zb1 gz.out ax sQ tC;cases e274;replace pg:=hB HB.out pg;replace sQ:=eq_true sQ;replace tC:=eq_true tC))
    go_roundg k1
    case measure=>have:=HK1.out;omega
    case rel=>exact⟨(wrap64 (ax+1)),eS,H',⟨by have:=HK1.out;omega⟩,⟨kM ry.out⟩,⟨bM HB.out⟩⟩
   rw[if_neg c11]at H;have oz:((rd aJ ax)==1)=false:=beq_eq_false_iff_ne.mpr c11;have XT:((rd aJ ax) !=1)=true:=bne_iff_ne.mpr c11;by_cases c13:(rd aJ ax)=(-1)
   case neg=>
    rw[if_neg c13]at H;have o5:((rd aJ ax)==(-1))=false:=beq_eq_false_iff_ne.mpr c13;have LA:((rd aJ ax) !=(-1))=true:=bne_iff_ne.mpr c13;obtain rfl:=sj H;obtain⟨rF,rG,rH,uC,uD,Ey,Ez,rC,rD,rE,uy,uz,El,Em⟩:=cz7 ry.out;have oH:0≤(ax:Int):=odt;have oJ:ax<(aA.length:Int):=odt;obtain⟨Li,rfl,kK⟩:=Kd.Zb1 gL.out ax oH oJ;replace kK:=hB HB.out kK;replace oH:=eq_true oH;replace oJ:=eq_true oJ;have OM:(0≤((rd aA ax):Int))=True:=teq;have Pe:((rd aA ax)<(l0.length:Int))=True:=teq;obtain⟨Lj,sG,sH,rfl,kL,kH,kE⟩:=Zfv HR0.out (rd aA ax) odt odt;replace kL:=hB HB.out kL;have qx:=Za.mk kE;have qh:=Za.mk kH;clear kE kH
    go_wp2_with (first|((with_reducible refine Zal (f:=105) rfl ?_);refine gl 21 Tryz.func105 #[.slice sG (Zdo l0 (rd aA ax)).length sH] ?_;(with_reducible refine(Zbf.calls k1 _ _ (Zdo l0 (rd aA ax)) true _ (cM (Kd.Zac qx.out HB.out)) qh.out A8.out).mono ?_);rintro e w' ⟨rfl,⟨nd,rfl⟩⟩;refine⟨_,rfl,?_⟩;have sQ:0≤(ax:Int):=odt;have tC:ax<(aJ.length:Int):=odt;obtain⟨FR,e274,pg⟩:=Kd.Zb1 gz.out ax sQ tC;cases e274;replace pg:=hB HB.out pg;replace sQ:=eq_true sQ;replace tC:=eq_true tC;have zQ:0≤(ax:Int):=odt;have Ak:ax<(aJ.length:Int):=odt;obtain⟨Ll,e275,vQ⟩:=Kd.Zb1 gz.out ax zQ Ak;obtain rfl:FR=Ll:=(by injection e275);replace vQ:=hB HB.out vQ;replace zQ:=eq_true zQ;replace Ak:=eq_true Ak))
    go_ret;exact⟨eR,bM HB.out⟩
   rw[if_pos c13]at H;have o5:((rd aJ ax)==(-1))=true:=beq_iff_eq.mpr c13;have LA:((rd aJ ax) !=(-1))=false:=bne_eq_false_iff_eq.mpr c13;clear c13;have H':=Za.mk H;clear H;obtain⟨xO,xP,Ex,Gy,Gz,MW,MX,xz,xA,Ej,Gg,Gh,Mx,M0⟩:=cz7 ry.out;have oH:0≤(ax:Int):=odt;have oJ:ax<(aA.length:Int):=odt;obtain⟨Li,rfl,kK⟩:=Kd.Zb1 gL.out ax oH oJ;replace kK:=hB HB.out kK;replace oH:=eq_true oH;replace oJ:=eq_true oJ;have OM:(0≤((rd aA ax):Int))=True:=teq;have Pe:((rd aA ax)<(l0.length:Int))=True:=teq;obtain⟨Lj,sG,sH,rfl,kL,kH,kE⟩:=Zfv HR0.out (rd aA ax) odt odt;replace kL:=hB HB.out kL;have qx:=Za.mk kE;have qh:=Za.mk kH;clear kE kH
   go_wp2_with (first|((with_reducible refine Zal (f:=105) rfl ?_);refine gl 21 Tryz.func105 #[.slice sG (Zdo l0 (rd aA ax)).length sH] ?_;(with_reducible refine(Zbf.calls k1 _ _ (Zdo l0 (rd aA ax)) true _ (cM (Kd.Zac qx.out HB.out)) qh.out A8.out).mono ?_);rintro e w' ⟨rfl,⟨nd,rfl⟩⟩;refine⟨_,rfl,?_⟩;have sQ:0≤(ax:Int):=odt;have tC:ax<(aJ.length:Int):=odt;obtain⟨FR,e274,pg⟩:=Kd.Zb1 gz.out ax sQ tC;cases e274;replace pg:=hB HB.out pg;replace sQ:=eq_true sQ;replace tC:=eq_true tC;have zQ:0≤(ax:Int):=odt;have Ak:ax<(aJ.length:Int):=odt;obtain⟨Ll,e275,vQ⟩:=Kd.Zb1 gz.out ax zQ Ak;obtain rfl:FR=Ll:=(by injection e275);replace vQ:=hB HB.out vQ;replace zQ:=eq_true zQ;replace Ak:=eq_true Ak))
   go_roundg k1
   case measure=>have:=HK1.out;omega
   case rel=>exact⟨(wrap64 (ax+1)),eS,H',⟨by have:=HK1.out;omega⟩,⟨kM ry.out⟩,⟨bM HB.out⟩⟩
mutual
def Zaq.j0 : Nat → List (List (S82)) → Bool → Int → List Int → List Int → Int → Int → List (List Int) → Int → Option (Bool)
 | 0, _, _, _, _, _, _, _, _, _ => none
 |k+1,x0,x5,gH,gI,jf,ja,jk,gJ,gT=>if x5=true then(Zaq.j1 k x0 x5 ((jf.length:Int)==0) gH gI jf ja jk gJ gT)else(Zaq.j1 k x0 x5 false gH gI jf ja jk gJ gT)
def Zaq.j1 : Nat → List (List (S82)) → Bool → Bool → Int → List Int → List Int → Int → Int → List (List Int) → Int → Option (Bool)
 | 0, _, _, _, _, _, _, _, _, _, _ => none
 |k+1,x0,x5,x6,gH,gI,jf,ja,jk,gJ,gT=>if ja≥0 then(Zaq.j2 k x0 x5 x6 (decide (ja≤2)) gH gI jf ja jk gJ gT)else(Zaq.j2 k x0 x5 x6 false gH gI jf ja jk gJ gT)
def Zaq.j2 : Nat → List (List (S82)) → Bool → Bool → Bool → Int → List Int → List Int → Int → Int → List (List Int) → Int → Option (Bool)
 | 0, _, _, _, _, _, _, _, _, _, _, _ => none
 |k+1,x0,x5,x6,x7,gH,gI,jf,ja,jk,gJ,gT=>if(gI.length:Int)>0 then((Zay.f k gI).bind fun Mq=>(Zaq.j3 k x0 x5 x6 x7 Mq gH gI jf ja jk gJ gT))else(Zaq.j3 k x0 x5 x6 x7 false gH gI jf ja jk gJ gT)
def Zaq.j3 : Nat → List (List (S82)) → Bool → Bool → Bool → Bool → Int → List Int → List Int → Int → Int → List (List Int) → Int → Option (Bool)
 | 0, _, _, _, _, _, _, _, _, _, _, _, _ => none
 |k+1,x0,x5,x6,x7,x8,gH,gI,jf,ja,jk,gJ,gT=>if gH=0 then(if(gJ.length:Int)=0 then((Zb5.f k gH gI jf ja jk gJ gT).bind fun Pn=>(if Pn=true then(if x7=true then(some (gT==0))else(some false))else(some false)))else(some false))else(if gH=1 then(if(gJ.length:Int)=0 then(if x6=true then(some x8)else(some false))else(some false))else(if gH=2 then(if x6=true then(if x8=true then((Zbd.f k gH gI jf ja jk gJ gT).bind fun Po=>(some Po))else(some false))else(some false))else(if gH=3 then(if(gJ.length:Int)=0 then(if x6=true then(if x8=true then(some (decide ((gI.length:Int)≥3)))else(some false))else(some false))else(some false))else(if gH=4 then(if(gJ.length:Int)=0 then((Zb5.f k gH gI jf ja jk gJ gT).bind fun Pp=>(if Pp=true then(if x7=true then(if 0≤gT then(if gT<(x0.length:Int)then((Zbf.f k (Zdo x0 gT)).bind fun Pq=>(if Pq=true then((Zbl.f k gI gT).bind fun Ps=>(some (!Ps)))else(some false)))else(none))else(none))else(some false))else(some false)))else(some false))else(if gH=5 then(if(gJ.length:Int)=0 then(if x5=true then((Zb5.f k gH gI jf ja jk gJ gT).bind fun Pt=>(if Pt=true then((Zbx.f k x0 gH gI jf ja jk gJ gT).bind fun Pv=>(some Pv))else(some false)))else(some false))else(some false))else(if(gJ.length:Int)=0 then(if x6=true then(if(gI.length:Int)≥2 then(some (((gI.length:Int)%2)==0))else(some false))else(some false))else(some false)))))))
end
def Zaq.f (k:Nat) (l0:List (List (S82))) (aC:Int) (aA:List Int) (aJ:List Int) (di:Int) (dn:Int) (bu:List (List Int)) (cz:Int):Option (Bool):=if di=0 then(if dn=0 then(Zaq.j0 k l0 (cz==0) aC aA aJ di dn bu cz)else(Zaq.j0 k l0 false aC aA aJ di dn bu cz))else(Zaq.j0 k l0 false aC aA aJ di dn bu cz)
set_option maxRecDepth 100000 in
theorem Zaq.calls (k : Nat) (A0 : Option Addr) (c0 : Nat) (l0 : List (List (S82))) (aC : Int) (fO : Option Addr) (fQ : Nat) (aA : List Int) (fH : Option Addr) (fI : Nat) (aJ : List Int) (di : Int) (dn : Int) (j6 : Option Addr) (jB : Nat) (bu : List (List Int)) (cz : Int) (r : Bool) (w : World) (hr0 : Kd.C (Kd.slice 82 k82) w A0 l0.length l0) (hc0 : l0.length ≤ c0) (mK : Kd.C (Kd.int .i64) w fO aA.length aA) (mH : aA.length ≤ fQ) (mM : Kd.C (Kd.int .i64) w fH aJ.length aJ) (mI : aJ.length ≤ fI) (ut : Kd.C (Kd.slice 3 (Kd.int .i64)) w j6 bu.length bu) (uq : bu.length ≤ jB) (h : Zaq.f k l0 aC aA aJ di dn bu cz = some r) :
  Calls Tryz.prog 75 #[.slice A0 l0.length c0,.agg #[.int .i64 aC,.slice fO aA.length fQ,.slice fH aJ.length fI,.int .i64 di,.int .i64 dn,.slice j6 bu.length jB,.int .i64 cz]] w fun e w'=>e= .returned (.bool r)∧Below w.heap.size w w':=by
 have hu36:=Tryz.underlying36;have HR0:=Za.mk hr0;have HC0:=Za.mk hc0;clear hr0 hc0;have gL:=Za.mk mK;have iN:=Za.mk mH;clear mK mH;have gz:=Za.mk mM;have iO:=Za.mk mI;clear mM mI;have jP:=Za.mk ut;have jM:=Za.mk uq;clear ut uq;have HB:=Za.mk (Below.refl w.heap.size w);have H:(if di=0 then(if dn=0 then(Zaq.j0 k l0 (cz==0) aC aA aJ di dn bu cz)else(Zaq.j0 k l0 false aC aA aJ di dn bu cz))else(Zaq.j0 k l0 false aC aA aJ di dn bu cz))=some r:=h;clear h;have HC3:=Za.mk H;clear H;go_enter Tryz.func75,Tryz.ntmps75
 go_upto_region 1 with (first|((with_reducible refine Zar (N:=3) rfl ?_);(try(refine Zb2 (by rfl) ?_;dsimp only));refine bx 3 #[.int .i64 aC,.slice fO aA.length fQ,.slice fH aJ.length fI,.int .i64 di,.int .i64 dn,.slice j6 bu.length jB,.int .i64 cz] 36 ?_;intro Cq hg w4 hbox hb;have bJ:=Za.mk (hbox);have f3a:=Za.mk ((gE hg HB.out:w.heap.size≤Cq));replace HB:=Za.mk (bS HB.out hb);clear hb hbox hg))
 (try simp only[Act.put,List.setIfInBounds_toArray,List.set_cons_zero,List.set_cons_succ])
 go_cut [5] (fun v5 wc=>∃(kq:Nat) (dG:Bool),v5= .bool dG∧Za (Zaq.j0 kq l0 dG aC aA aJ di dn bu cz=some r)∧Za (kq≤k)∧Za (wc.heap[Cq]? =some (.cells #[.int .i64 aC,(.slice fO aA.length fQ),(.slice fH aJ.length fI),.int .i64 di,.int .i64 dn,(.slice j6 bu.length jB),.int .i64 cz] 36 (0,0)))∧Za (Below w.heap.size w wc))
 case first=>
  have H:=HC3.out;clear HC3;by_cases c5:di=0
  case neg=>
   rw[if_neg c5]at H;have dw:(di==0)=false:=beq_eq_false_iff_ne.mpr c5;have lq:(di !=0)=true:=bne_iff_ne.mpr c5
   (first|rw[dw]|(simp only[Zd5,Zeo];rw[dw])|skip)
   have H':=Za.mk H;clear H;obtain⟨Bo,Bp,Br,Jc,Jd,Je,Jf,Bf,Bg,Bh,IU,IV,IW,IX⟩:=cz7 bJ.out;go_wp2
   go_meet
   case rel=>exact⟨_,(false),eS,H',⟨by first|omega|exact Nat.le_refl _⟩,⟨kM bJ.out⟩,⟨bM HB.out⟩⟩
  rw[if_pos c5]at H;have dw:(di==0)=true:=beq_iff_eq.mpr c5;have lq:(di !=0)=false:=bne_eq_false_iff_eq.mpr c5;clear c5
  (first|rw[dw]|(simp only[Zd5,Zeo];rw[dw])|skip)
  by_cases c6:dn=0
  case neg=>
   rw[if_neg c6]at H;have iF:(dn==0)=false:=beq_eq_false_iff_ne.mpr c6;have sJ:(dn !=0)=true:=bne_iff_ne.mpr c6;have H':=Za.mk H;clear H;obtain⟨xX,xY,yc,yf,yg,yL,yM,xJ,xK,xL,xM,xN,yJ,yK⟩:=cz7 bJ.out;go_wp2
   go_meet
   case rel=>exact⟨_,(false),eS,H',⟨by first|omega|exact Nat.le_refl _⟩,⟨kM bJ.out⟩,⟨bM HB.out⟩⟩
  rw[if_pos c6]at H;have iF:(dn==0)=true:=beq_iff_eq.mpr c6;have sJ:(dn !=0)=false:=bne_eq_false_iff_eq.mpr c6;clear c6;have H':=Za.mk H;clear H;obtain⟨qY,rf,xW,Bi,Bj,Bl,Bn,qW,qX,xI,Bb,Bc,Bd,Be⟩:=cz7 bJ.out;go_wp2
  go_meet
  case rel=>exact⟨_,((cz==0)),eS,H',⟨by first|omega|exact Nat.le_refl _⟩,⟨kM bJ.out⟩,⟨bM HB.out⟩⟩
 case rest=>
  clear HC3;try clear c1
  try clear p2
  try clear c5
  try clear dw
  try clear lq
  try clear c6
  try clear iF
  try clear sJ
  try clear c7
  try clear qY rf xW Bi Bj Bl Bn qW qX xI Bb Bc Bd Be
  try clear xX xY yc yf yg yL yM xJ xK xL xM xN yJ yK
  try clear Bo Bp Br Jc Jd Je Jf Bf Bg Bh IU IV IW IX
  obtain⟨kq,dG,rfl,HA,HJ2,bJ,HB⟩:=hcut
  cases kq with
  | zero => exact absurd HA.out (by simp [Zaq.j0])
  |succ kj2=>
   have H:=HA.out;clear HA;simp only[Zaq.j0]at H;have NY:=Za.mk H;clear H
   go_upto_region 2 with (fail)
   go_cut [6] (fun v6 wc=>∃(kq:Nat) (xx:Bool),v6= .bool xx∧Za (Zaq.j1 kq l0 dG xx aC aA aJ di dn bu cz=some r)∧Za (kq≤kj2)∧Za (wc.heap[Cq]? =some (.cells #[.int .i64 aC,(.slice fO aA.length fQ),(.slice fH aJ.length fI),.int .i64 di,.int .i64 dn,(.slice j6 bu.length jB),.int .i64 cz] 36 (0,0)))∧Za (Below w.heap.size w wc))
   case first=>
    have H:=NY.out;clear NY;by_cases c11:dG=true
    case pos=>
     subst c11;rw[if_pos rfl]at H;have H':=Za.mk H;clear H;obtain⟨mV,mW,mX,mY,ng,uA,uB,mO,mP,mQ,mR,mU,uu,uw⟩:=cz7 bJ.out;go_wp2
     go_meet
     case rel=>exact⟨_,(((aJ.length:Int)==0)),eS,H',⟨by have:=HJ2.out;first|omega|exact Nat.le_refl _⟩,⟨kM bJ.out⟩,⟨bM HB.out⟩⟩
    replace c11:=Bool.eq_false_iff.mpr c11;subst c11;replace H:=ifF H;have H':=Za.mk H;clear H;go_wp2
    go_meet
    case rel=>exact⟨_,(false),eS,H',⟨by have:=HJ2.out;first|omega|exact Nat.le_refl _⟩,⟨kM bJ.out⟩,⟨bM HB.out⟩⟩
   case rest=>
    clear NY;try clear c1
    try clear p2
    try clear c5
    try clear dw
    try clear lq
    try clear c6
    try clear iF
    try clear sJ
    try clear c7
    try clear c11
    try clear mV mW mX mY ng uA uB mO mP mQ mR mU uu uw
    try clear qY rf xW Bi Bj Bl Bn qW qX xI Bb Bc Bd Be
    try clear xX xY yc yf yg yL yM xJ xK xL xM xN yJ yK
    try clear Bo Bp Br Jc Jd Je Jf Bf Bg Bh IU IV IW IX
    try clear p2
    obtain⟨kq,xx,rfl,HA,HJ9,bJ,HB⟩:=hcut
    cases kq with
    | zero => exact absurd HA.out (by simp [Zaq.j1])
    |succ kj9=>
     have H:=HA.out;clear HA;simp only[Zaq.j1]at H;have Ob:=Za.mk H;clear H
     go_upto_region 3 with (fail)
     go_cut [7] (fun v7 wc=>∃(kq:Nat) (zn:Bool),v7= .bool zn∧Za (Zaq.j2 kq l0 dG xx zn aC aA aJ di dn bu cz=some r)∧Za (kq≤kj9)∧Za (wc.heap[Cq]? =some (.cells #[.int .i64 aC,(.slice fO aA.length fQ),(.slice fH aJ.length fI),.int .i64 di,.int .i64 dn,(.slice j6 bu.length jB),.int .i64 cz] 36 (0,0)))∧Za (Below w.heap.size w wc))
     case first=>
      have H:=Ob.out;clear Ob;by_cases c14:di≥0
      case neg=>
       rw[if_neg c14]at H;have lm:decide (0≤di)=false:=decide_eq_false c14;clear c14
       (first|rw[lm]|(simp only[Zd5,Zeo];rw[lm])|skip)
       have H':=Za.mk H;clear H;obtain⟨zA,zB,zC,E5,E8,E9,EA,zt,zu,zw,En,Eo,Ep,Er⟩:=cz7 bJ.out;go_wp2
       go_meet
       case rel=>exact⟨_,(false),eS,H',⟨by have:=HJ2.out;have:=HJ9.out;first|omega|exact Nat.le_refl _⟩,⟨kM bJ.out⟩,⟨bM HB.out⟩⟩
      rw[if_pos c14]at H;have lm:decide (0≤di)=true:=decide_eq_true c14;clear c14
      (first|rw[lm]|(simp only[Zd5,Zeo];rw[lm])|skip)
      have H':=Za.mk H;clear H;obtain⟨rF,rG,rH,uC,uD,Ey,Ez,rC,rD,rE,uy,uz,El,Em⟩:=cz7 bJ.out;go_wp2
      go_meet
      case rel=>exact⟨_,(decide (di≤2)),eS,H',⟨by have:=HJ2.out;have:=HJ9.out;first|omega|exact Nat.le_refl _⟩,⟨kM bJ.out⟩,⟨bM HB.out⟩⟩
     case rest=>
      clear Ob;try clear c1
      try clear p2
      try clear c5
      try clear dw
      try clear lq
      try clear c6
      try clear iF
      try clear sJ
      try clear c7
      try clear c11
      try clear c14
      try clear lm
      try clear mV mW mX mY ng uA uB mO mP mQ mR mU uu uw
      try clear rF rG rH uC uD Ey Ez rC rD rE uy uz El Em
      try clear zA zB zC E5 E8 E9 EA zt zu zw En Eo Ep Er
      try clear qY rf xW Bi Bj Bl Bn qW qX xI Bb Bc Bd Be
      try clear xX xY yc yf yg yL yM xJ xK xL xM xN yJ yK
      try clear Bo Bp Br Jc Jd Je Jf Bf Bg Bh IU IV IW IX
      try clear p2
      obtain⟨kq,zn,rfl,HA,HJ12,bJ,HB⟩:=hcut
      cases kq with
      | zero => exact absurd HA.out (by simp [Zaq.j2])
      |succ kj12=>
       have H:=HA.out;clear HA;simp only[Zaq.j2]at H;have Oc:=Za.mk H;clear H
       go_upto_region 4 with (fail)
       go_cut [8] (fun v8 wc=>∃(kq:Nat) (Eg:Bool),v8= .bool Eg∧Za (Zaq.j3 kq l0 dG xx zn Eg aC aA aJ di dn bu cz=some r)∧Za (kq≤kj12)∧Za (wc.heap[Cq]? =some (.cells #[.int .i64 aC,(.slice fO aA.length fQ),(.slice fH aJ.length fI),.int .i64 di,.int .i64 dn,(.slice j6 bu.length jB),.int .i64 cz] 36 (0,0)))∧Za (Below w.heap.size w wc))
       case first=>
        have H:=Oc.out;clear Oc;by_cases c18:(aA.length:Int)>0
        case neg=>
         rw[if_neg c18]at H;have kz:decide (0<(aA.length:Int))=false:=decide_eq_false c18;have qM:decide (0<aA.length)=false:=decide_eq_false (by omega);clear c18
         (first|rw[kz]|(simp only[Zd5,Zeo];rw[kz])|skip)
         have H':=Za.mk H;clear H;obtain⟨G7,G8,SA,SB,SC,SE,SF,Gj,Gl,RD,RF,RG,RH,RI⟩:=cz7 bJ.out;go_wp2
         go_meet
         case rel=>exact⟨_,(false),eS,H',⟨by have:=HJ2.out;have:=HJ9.out;have:=HJ12.out;first|omega|exact Nat.le_refl _⟩,⟨kM bJ.out⟩,⟨bM HB.out⟩⟩
        rw[if_pos c18]at H;have kz:decide (0<(aA.length:Int))=true:=decide_eq_true c18;have qM:decide (0<aA.length)=true:=decide_eq_true (by omega);clear c18
        (first|rw[kz]|(simp only[Zd5,Zeo];rw[kz])|skip)
        obtain⟨Mq,A19,H⟩:=bnd H;try dsimp only at H
        have H':=Za.mk H;clear H;obtain⟨zD,zF,G5,Nk,Nl,bba,bca,zx,zy,Gi,MC,ME,YI,YJ⟩:=cz7 bJ.out
        go_wp2_with (first|(go_at_call 102;(with_reducible refine(Zay.calls kj12 _ _ aA Mq _ (cM (Kd.Zac gL.out HB.out)) iN.out A19.out).mono ?_);rintro e w' ⟨rfl,⟨nd,rfl⟩⟩))
        go_meet
        case rel=>exact⟨_,(Mq),eS,H',⟨by have:=HJ2.out;have:=HJ9.out;have:=HJ12.out;first|omega|exact Nat.le_refl _⟩,⟨kM bJ.out⟩,⟨bM HB.out⟩⟩
       case rest=>
        clear Oc;try clear c1
        try clear p2
        try clear c5
        try clear dw
        try clear lq
        try clear c6
        try clear iF
        try clear sJ
        try clear c7
        try clear c11
        try clear c14
        try clear lm
        try clear c18
        try clear kz
        try clear qM
        try clear mV mW mX mY ng uA uB mO mP mQ mR mU uu uw
        try clear rF rG rH uC uD Ey Ez rC rD rE uy uz El Em
        try clear zA zB zC E5 E8 E9 EA zt zu zw En Eo Ep Er
        try clear zD zF G5 Nk Nl bba bca zx zy Gi MC ME YI YJ
        try clear G7 G8 SA SB SC SE SF Gj Gl RD RF RG RH RI
        try clear qY rf xW Bi Bj Bl Bn qW qX xI Bb Bc Bd Be
        try clear xX xY yc yf yg yL yM xJ xK xL xM xN yJ yK
        try clear Bo Bp Br Jc Jd Je Jf Bf Bg Bh IU IV IW IX
        try clear p2
        obtain⟨kq,Eg,rfl,HA,HJ16,bJ,HB⟩:=hcut
        cases kq with
        | zero => exact absurd HA.out (by simp [Zaq.j3])
        |succ kj16=>
         have H:=HA.out;clear HA;simp only[Zaq.j3]at H;by_cases c22:aC=0
         case pos=>
          rw[if_pos c22]at H;have Cn:(aC==0)=true:=beq_iff_eq.mpr c22;have LG:(aC !=0)=false:=bne_eq_false_iff_eq.mpr c22;clear c22;by_cases c23:(bu.length:Int)=0
          case neg=>
           rw[if_neg c23]at H;have yY:((bu.length:Int)==0)=false:=beq_eq_false_iff_ne.mpr c23;have FU:((bu.length:Int) !=0)=true:=bne_iff_ne.mpr c23;have Ru:¬(bu= []):=fun h_=>c23 (by rw[h_];rfl)
           obtain rfl:=sj H;obtain⟨bwa,bxa,bya,bza,b0a,b1a,b2a,afa,aga,aha,aia,aja,aka,ala⟩:=cz7 bJ.out;go_wp2;go_ret;exact⟨eR,bM HB.out⟩
          rw[if_pos c23]at H;have yY:((bu.length:Int)==0)=true:=beq_iff_eq.mpr c23;have FU:((bu.length:Int) !=0)=false:=bne_eq_false_iff_eq.mpr c23;clear c23;obtain⟨Pn,A24,H⟩:=bnd H;try dsimp only at H
          by_cases c25:Pn=true
          case neg=>
           replace c25:=Bool.eq_false_iff.mpr c25;subst c25;replace H:=ifF H;obtain rfl:=sj H;obtain⟨Tf,Tg,bqa,bra,bsa,kPa,kQa,Sg,Si,YX,YY,aaa,h6a,h7a⟩:=cz7 bJ.out
           go_wp2_with (first|(go_at_call 103;(with_reducible refine(Zb5.calls kj16 aC _ _ aA _ _ aJ di dn _ _ bu cz false _ (cM (Kd.Zac gL.out HB.out)) iN.out (cM (Kd.Zac gz.out HB.out)) iO.out (cM (Kd.Zac jP.out HB.out)) jM.out A24.out).mono ?_);rintro e w33 ⟨rfl,hb⟩;replace HB:=Za.mk (bS HB.out hb);clear bJ;(try clear hb);(try clear hb2);(try clear hk);(try clear hi)))
           go_ret;exact⟨eR,bM HB.out⟩
          subst c25;rw[if_pos rfl]at H;by_cases c26:zn=true
          case pos=>
           subst c26;rw[if_pos rfl]at H;obtain rfl:=sj H;obtain⟨Nv,Nw,SQ,SV,SX,kGa,kHa,MM,MN,RU,RV,RX,hqa,hta⟩:=cz7 bJ.out
           go_wp2_with (first|(go_at_call 103;(with_reducible refine(Zb5.calls kj16 aC _ _ aA _ _ aJ di dn _ _ bu cz true _ (cM (Kd.Zac gL.out HB.out)) iN.out (cM (Kd.Zac gz.out HB.out)) iO.out (cM (Kd.Zac jP.out HB.out)) jM.out A24.out).mono ?_);rintro e w28 ⟨rfl,hb⟩;replace bJ:=Za.mk (kB bJ.out hb);replace HB:=Za.mk (bS HB.out hb);(try clear hb);(try clear hb2);(try clear hk);(try clear hi);obtain⟨uE,uF,Ny,Nz,N7,bma,bna,u6,u7,MO,MP,MQ,YT,YU⟩:=cz7 bJ.out))
           go_ret;exact⟨eR,bM HB.out⟩
          replace c26:=Bool.eq_false_iff.mpr c26;subst c26;replace H:=ifF H;obtain rfl:=sj H;obtain⟨boa,bpa,kIa,kJa,kKa,kLa,kMa,YV,YW,hua,hwa,h0a,h2a,h3a⟩:=cz7 bJ.out
          go_wp2_with (first|(go_at_call 103;(with_reducible refine(Zb5.calls kj16 aC _ _ aA _ _ aJ di dn _ _ bu cz true _ (cM (Kd.Zac gL.out HB.out)) iN.out (cM (Kd.Zac gz.out HB.out)) iO.out (cM (Kd.Zac jP.out HB.out)) jM.out A24.out).mono ?_);rintro e w31 ⟨rfl,hb⟩;replace HB:=Za.mk (bS HB.out hb);clear bJ;(try clear hb);(try clear hb2);(try clear hk);(try clear hi)))
          go_ret;exact⟨eR,bM HB.out⟩
         rw[if_neg c22]at H;have Cn:(aC==0)=false:=beq_eq_false_iff_ne.mpr c22;have LG:(aC !=0)=true:=bne_iff_ne.mpr c22;by_cases c35:aC=1
         case pos=>
          rw[if_pos c35]at H;have FV:(aC==1)=true:=beq_iff_eq.mpr c35;have Yb:(aC !=1)=false:=bne_eq_false_iff_eq.mpr c35;clear c35;by_cases c36:(bu.length:Int)=0
          case neg=>
           rw[if_neg c36]at H;have LH:((bu.length:Int)==0)=false:=beq_eq_false_iff_ne.mpr c36;have Yc:((bu.length:Int) !=0)=true:=bne_iff_ne.mpr c36;have fRa:¬(bu= []):=fun h_=>c36 (by rw[h_];rfl)
           obtain rfl:=sj H;obtain⟨lba,lca,lda,lea,lfa,lga,lha,hJa,hLa,hMa,hNa,hOa,hPa,hQa⟩:=cz7 bJ.out;go_wp2;go_ret;exact⟨eR,bM HB.out⟩
          rw[if_pos c36]at H;have LH:((bu.length:Int)==0)=true:=beq_iff_eq.mpr c36;have Yc:((bu.length:Int) !=0)=false:=bne_eq_false_iff_eq.mpr c36;clear c36;by_cases c37:xx=true
          case pos=>
           subst c37;rw[if_pos rfl]at H;obtain rfl:=sj H;obtain⟨Tk,Tm,b3a,b4a,b5a,b6a,b7a,Sl,Sm,ama,ana,aoa,apa,aqa⟩:=cz7 bJ.out;go_wp2;go_ret;exact⟨eR,bM HB.out⟩
          replace c37:=Bool.eq_false_iff.mpr c37;subst c37;replace H:=ifF H;obtain rfl:=sj H;obtain⟨b8a,b9a,bAa,bBa,bCa,kYa,laa,ara,asa,ata,aua,ava,hHa,hIa⟩:=cz7 bJ.out;go_wp2;go_ret;exact⟨eR,bM HB.out⟩
         rw[if_neg c35]at H;have FV:(aC==1)=false:=beq_eq_false_iff_ne.mpr c35;have Yb:(aC !=1)=true:=bne_iff_ne.mpr c35;by_cases c41:aC=2
         case pos=>
          rw[if_pos c41]at H;have Yf:(aC==2)=true:=beq_iff_eq.mpr c41;have Yg:(aC !=2)=false:=bne_eq_false_iff_eq.mpr c41;clear c41;by_cases c42:xx=true
          case neg=>
           replace c42:=Bool.eq_false_iff.mpr c42;subst c42;replace H:=ifF H;obtain rfl:=sj H;obtain⟨lwa,lxa,lya,lza,l0a,l1a,l2a,iia,ija,ika,ila,ima,ina,ioa⟩:=cz7 bJ.out;go_wp2;go_ret;exact⟨eR,bM HB.out⟩
          subst c42;rw[if_pos rfl]at H;by_cases c43:Eg=true
          case neg=>
           replace c43:=Bool.eq_false_iff.mpr c43;subst c43;replace H:=ifF H;obtain rfl:=sj H;obtain⟨lpa,lqa,lra,lsa,lta,lua,lva,iaa,iba,ica,ida,iea,ifa,iga⟩:=cz7 bJ.out;go_wp2;go_ret;exact⟨eR,bM HB.out⟩
          subst c43;rw[if_pos rfl]at H;obtain⟨Po,A44,H⟩:=bnd H;try dsimp only at H
          obtain rfl:=sj H;obtain⟨GJ,GK,GL,GM,GN,lia,lja,Gs,Gt,Gu,Gv,Gw,hRa,hSa⟩:=cz7 bJ.out
          go_wp2_with (first|(go_at_call 104;(with_reducible refine(Zbd.calls kj16 aC _ _ aA _ _ aJ di dn _ _ bu cz Po _ (cM (Kd.Zac gL.out HB.out)) iN.out (cM (Kd.Zac gz.out HB.out)) iO.out (cM (Kd.Zac jP.out HB.out)) jM.out A44.out).mono ?_);rintro e w46 ⟨rfl,hb⟩;replace HB:=Za.mk (bS HB.out hb);clear bJ;(try clear hb);(try clear hb2);(try clear hk);(try clear hi)))
          go_ret;exact⟨eR,bM HB.out⟩
         rw[if_neg c41]at H;have Yf:(aC==2)=false:=beq_eq_false_iff_ne.mpr c41;have Yg:(aC !=2)=true:=bne_iff_ne.mpr c41;by_cases c49:aC=3
         case pos=>
          rw[if_pos c49]at H;have Yh:(aC==3)=true:=beq_iff_eq.mpr c49;have Yi:(aC !=3)=false:=bne_eq_false_iff_eq.mpr c49;clear c49;by_cases c50:(bu.length:Int)=0
          case neg=>
           rw[if_neg c50]at H;have Yj:((bu.length:Int)==0)=false:=beq_eq_false_iff_ne.mpr c50;have Yk:((bu.length:Int) !=0)=true:=bne_iff_ne.mpr c50;have fSa:¬(bu= []):=fun h_=>c50 (by rw[h_];rfl)
           obtain rfl:=sj H;obtain⟨lJa,lKa,lLa,lMa,lNa,lOa,lPa,i5a,i6a,i7a,i8a,i9a,iAa,iBa⟩:=cz7 bJ.out;go_wp2;go_ret;exact⟨eR,bM HB.out⟩
          rw[if_pos c50]at H;have Yj:((bu.length:Int)==0)=true:=beq_iff_eq.mpr c50;have Yk:((bu.length:Int) !=0)=false:=bne_eq_false_iff_eq.mpr c50;clear c50;by_cases c51:xx=true
          case neg=>
           replace c51:=Bool.eq_false_iff.mpr c51;subst c51;replace H:=ifF H;obtain rfl:=sj H;obtain⟨lCa,lDa,lEa,lFa,lGa,lHa,lIa,iya,iza,i0a,i1a,i2a,i3a,i4a⟩:=cz7 bJ.out;go_wp2;go_ret;exact⟨eR,bM HB.out⟩
          subst c51;rw[if_pos rfl]at H;by_cases c52:Eg=true
          case pos=>
           subst c52;rw[if_pos rfl]at H;obtain rfl:=sj H;obtain⟨Tn,Tp,Tq,Tt,Tu,l3a,l4a,Sn,Sq,Sr,Su,Sv,ipa,iqa⟩:=cz7 bJ.out;go_wp2;go_ret;exact⟨eR,bM HB.out⟩
          replace c52:=Bool.eq_false_iff.mpr c52;subst c52;replace H:=ifF H;obtain rfl:=sj H;obtain⟨l5a,l6a,l7a,l8a,l9a,lAa,lBa,ira,isa,ita,iua,iva,iwa,ixa⟩:=cz7 bJ.out;go_wp2;go_ret;exact⟨eR,bM HB.out⟩
         rw[if_neg c49]at H;have Yh:(aC==3)=false:=beq_eq_false_iff_ne.mpr c49;have Yi:(aC !=3)=true:=bne_iff_ne.mpr c49;by_cases c57:aC=4
         case pos=>
          rw[if_pos c57]at H;have Yl:(aC==4)=true:=beq_iff_eq.mpr c57;have Ym:(aC !=4)=false:=bne_eq_false_iff_eq.mpr c57;clear c57;by_cases c58:(bu.length:Int)=0
          case neg=>
           rw[if_neg c58]at H;have LJ:((bu.length:Int)==0)=false:=beq_eq_false_iff_ne.mpr c58;have LK:((bu.length:Int) !=0)=true:=bne_iff_ne.mpr c58;have Yn:¬(bu= []):=fun h_=>c58 (by rw[h_];rfl)
           obtain rfl:=sj H;obtain⟨m4a,m5a,m6a,m7a,m8a,m9a,mAa,jqa,jra,jsa,jta,jua,jva,jwa⟩:=cz7 bJ.out;go_wp2;go_ret;exact⟨eR,bM HB.out⟩
          rw[if_pos c58]at H;have LJ:((bu.length:Int)==0)=true:=beq_iff_eq.mpr c58;have LK:((bu.length:Int) !=0)=false:=bne_eq_false_iff_eq.mpr c58;clear c58;obtain⟨Pp,A59,H⟩:=bnd H;try dsimp only at H
          by_cases c60:Pp=true
          case neg=>
           replace c60:=Bool.eq_false_iff.mpr c60;subst c60;replace H:=ifF H;obtain rfl:=sj H;obtain⟨mxa,mya,mza,m0a,m1a,m2a,m3a,jja,jka,jla,jma,jna,joa,jpa⟩:=cz7 bJ.out
           go_wp2_with (first|(go_at_call 103;(with_reducible refine(Zb5.calls kj16 aC _ _ aA _ _ aJ di dn _ _ bu cz false _ (cM (Kd.Zac gL.out HB.out)) iN.out (cM (Kd.Zac gz.out HB.out)) iO.out (cM (Kd.Zac jP.out HB.out)) jM.out A59.out).mono ?_);rintro e w76 ⟨rfl,hb⟩;replace HB:=Za.mk (bS HB.out hb);clear bJ;(try clear hb);(try clear hb2);(try clear hk);(try clear hi)))
           go_ret;exact⟨eR,bM HB.out⟩
          subst c60;rw[if_pos rfl]at H;by_cases c61:zn=true
          case neg=>
           replace c61:=Bool.eq_false_iff.mpr c61;subst c61;replace H:=ifF H;obtain rfl:=sj H;obtain⟨bXa,bYa,caa,cba,cca,cda,cea,aHa,aIa,aJa,aKa,aLa,aMa,aNa⟩:=cz7 bJ.out
           go_wp2_with (first|(go_at_call 103;(with_reducible refine(Zb5.calls kj16 aC _ _ aA _ _ aJ di dn _ _ bu cz true _ (cM (Kd.Zac gL.out HB.out)) iN.out (cM (Kd.Zac gz.out HB.out)) iO.out (cM (Kd.Zac jP.out HB.out)) jM.out A59.out).mono ?_);rintro e w74 ⟨rfl,hb⟩;replace HB:=Za.mk (bS HB.out hb);clear bJ;(try clear hb);(try clear hb2);(try clear hk);(try clear hi)))
           go_ret;exact⟨eR,bM HB.out⟩
          subst c61;rw[if_pos rfl]at H;obtain⟨Yo,H⟩:=ifT H;obtain⟨gba,H⟩:=ifT H;obtain⟨Pq,A64,H⟩:=bnd H;try dsimp only at H
          by_cases c65:Pq=true
          case neg=>
           replace c65:=Bool.eq_false_iff.mpr c65;subst c65;replace H:=ifF H;obtain rfl:=sj H;obtain⟨bSa,bTa,bUa,bVa,bWa,moa,mpa,aCa,aDa,aEa,aFa,aGa,jaa,jba⟩:=cz7 bJ.out
           go_wp2_with (first|(go_at_call 103;(with_reducible refine(Zb5.calls kj16 aC _ _ aA _ _ aJ di dn _ _ bu cz true _ (cM (Kd.Zac gL.out HB.out)) iN.out (cM (Kd.Zac gz.out HB.out)) iO.out (cM (Kd.Zac jP.out HB.out)) jM.out A59.out).mono ?_);rintro e w71 ⟨rfl,hb⟩;replace bJ:=Za.mk (kB bJ.out hb);replace HB:=Za.mk (bS HB.out hb);(try clear hb);(try clear hb2);(try clear hk);(try clear hi);obtain⟨mqa,mra,msa,mta,mua,mva,mwa,jca,jda,jea,jfa,jga,jha,jia⟩:=cz7 bJ.out;have zR:0≤(cz:Int):=odt;have Am:cz<(l0.length:Int):=odt;obtain⟨XD,Us,UA,Ow,vR,vk,uK⟩:=Zfv HR0.out cz zR Am;cases Ow;replace vR:=hB HB.out vR;have EJ:=Za.mk uK;have EE:=Za.mk vk;clear uK vk;replace zR:=eq_true zR;replace Am:=eq_true Am)|(go_at_call 105;(with_reducible refine(Zbf.calls kj16 _ _ (Zdo l0 cz) false _ (cM (Kd.Zac EJ.out HB.out)) EE.out A64.out).mono ?_);rintro e w' ⟨rfl,⟨nd,rfl⟩⟩))
           go_ret;exact⟨eR,bM HB.out⟩
          subst c65;rw[if_pos rfl]at H;obtain⟨Ps,A66,H⟩:=bnd H;try dsimp only at H
          obtain rfl:=sj H;obtain⟨bNa,bOa,bPa,bQa,bRa,maa,mba,a7a,a8a,a9a,aAa,aBa,iLa,iMa⟩:=cz7 bJ.out
          go_wp2_with (first|(go_at_call 103;(with_reducible refine(Zb5.calls kj16 aC _ _ aA _ _ aJ di dn _ _ bu cz true _ (cM (Kd.Zac gL.out HB.out)) iN.out (cM (Kd.Zac gz.out HB.out)) iO.out (cM (Kd.Zac jP.out HB.out)) jM.out A59.out).mono ?_);rintro e w68 ⟨rfl,hb⟩;replace bJ:=Za.mk (kB bJ.out hb);replace HB:=Za.mk (bS HB.out hb);(try clear hb);(try clear hb2);(try clear hk);(try clear hi);obtain⟨mha,mia,mja,mka,mla,mma,mna,iSa,iTa,iUa,iVa,iWa,iXa,iYa⟩:=cz7 bJ.out;have zR:0≤(cz:Int):=odt;have Am:cz<(l0.length:Int):=odt;obtain⟨XD,Us,UA,Ow,vR,vk,uK⟩:=Zfv HR0.out cz zR Am;cases Ow;replace vR:=hB HB.out vR;have EJ:=Za.mk uK;have EE:=Za.mk vk;clear uK vk;replace zR:=eq_true zR;replace Am:=eq_true Am)|(go_at_call 105;(with_reducible refine(Zbf.calls kj16 _ _ (Zdo l0 cz) true _ (cM (Kd.Zac EJ.out HB.out)) EE.out A64.out).mono ?_);rintro e w' ⟨rfl,⟨nd,rfl⟩⟩)|(go_at_call 49;(with_reducible refine(Zbl.calls kj16 _ _ aA cz Ps _ (cM (Kd.Zac gL.out (bM HB.out))) iN.out A66.out).mono ?_);rintro e w' ⟨rfl,⟨nd,rfl⟩⟩))
          go_ret;exact⟨eR,bM HB.out⟩
         rw[if_neg c57]at H;have Yl:(aC==4)=false:=beq_eq_false_iff_ne.mpr c57;have Ym:(aC !=4)=true:=bne_iff_ne.mpr c57;by_cases c78:aC=5
         case neg=>
          rw[if_neg c78]at H;have Yp:(aC==5)=false:=beq_eq_false_iff_ne.mpr c78;have Yq:(aC !=5)=true:=bne_iff_ne.mpr c78;by_cases c92:(bu.length:Int)=0
          case neg=>
           rw[if_neg c92]at H;have Yu:((bu.length:Int)==0)=false:=beq_eq_false_iff_ne.mpr c92;have Yv:((bu.length:Int) !=0)=true:=bne_iff_ne.mpr c92;have gha:¬(bu= []):=fun h_=>c92 (by rw[h_];rfl)
           obtain rfl:=sj H;obtain⟨nDa,nEa,nFa,nGa,nHa,nIa,nJa,kza,k0a,k1a,k2a,k3a,k4a,k5a⟩:=cz7 bJ.out;go_wp2;go_ret;exact⟨eR,bM HB.out⟩
          rw[if_pos c92]at H;have Yu:((bu.length:Int)==0)=true:=beq_iff_eq.mpr c92;have Yv:((bu.length:Int) !=0)=false:=bne_eq_false_iff_eq.mpr c92;clear c92;by_cases c93:xx=true
          case neg=>
           replace c93:=Bool.eq_false_iff.mpr c93;subst c93;replace H:=ifF H;obtain rfl:=sj H;obtain⟨n6a,n7a,n8a,n9a,nAa,nBa,nCa,ksa,kta,kua,kva,kwa,kxa,kya⟩:=cz7 bJ.out;go_wp2;go_ret;exact⟨eR,bM HB.out⟩
          subst c93;rw[if_pos rfl]at H;by_cases c94:(aA.length:Int)≥2
          case neg=>
           rw[if_neg c94]at H;have Rx:decide (2≤(aA.length:Int))=false:=decide_eq_false c94;have Ry:decide (2≤aA.length)=false:=decide_eq_false (by omega);clear c94;obtain rfl:=sj H;obtain⟨nza,n0a,n1a,n2a,n3a,n4a,n5a,kla,kma,kna,koa,kpa,kqa,kra⟩:=cz7 bJ.out;go_wp2;go_ret;exact⟨eR,bM HB.out⟩
          rw[if_pos c94]at H;have Rx:decide (2≤(aA.length:Int))=true:=decide_eq_true c94;have Ry:decide (2≤aA.length)=true:=decide_eq_true (by omega);clear c94;obtain rfl:=sj H;obtain⟨nsa,nta,nua,nva,nwa,nxa,nya,kea,kfa,kga,kha,kia,kja,kka⟩:=cz7 bJ.out;go_wp2;go_ret;exact⟨eR,bM HB.out⟩
         rw[if_pos c78]at H;have Yp:(aC==5)=true:=beq_iff_eq.mpr c78;have Yq:(aC !=5)=false:=bne_eq_false_iff_eq.mpr c78;clear c78;by_cases c79:(bu.length:Int)=0
         case neg=>
          rw[if_neg c79]at H;have Yr:((bu.length:Int)==0)=false:=beq_eq_false_iff_ne.mpr c79;have Yt:((bu.length:Int) !=0)=true:=bne_iff_ne.mpr c79;have gca:¬(bu= []):=fun h_=>c79 (by rw[h_];rfl)
          obtain rfl:=sj H;obtain⟨nla,nma,nna,noa,npa,nqa,nra,jWa,jXa,jYa,kaa,kba,kca,kda⟩:=cz7 bJ.out;go_wp2;go_ret;exact⟨eR,bM HB.out⟩
         rw[if_pos c79]at H;have Yr:((bu.length:Int)==0)=true:=beq_iff_eq.mpr c79;have Yt:((bu.length:Int) !=0)=false:=bne_eq_false_iff_eq.mpr c79;clear c79;by_cases c80:dG=true
         case neg=>
          replace c80:=Bool.eq_false_iff.mpr c80;subst c80;replace H:=ifF H;obtain rfl:=sj H;obtain⟨nea,nfa,nga,nha,nia,nja,nka,jPa,jQa,jRa,jSa,jTa,jUa,jVa⟩:=cz7 bJ.out;go_wp2;go_ret;exact⟨eR,bM HB.out⟩
         subst c80;rw[if_pos rfl]at H;obtain⟨Pt,A81,H⟩:=bnd H;try dsimp only at H
         by_cases c82:Pt=true
         case neg=>
          replace c82:=Bool.eq_false_iff.mpr c82;subst c82;replace H:=ifF H;obtain rfl:=sj H;obtain⟨mWa,mXa,mYa,naa,nba,nca,nda,jIa,jJa,jKa,jLa,jMa,jNa,jOa⟩:=cz7 bJ.out
          go_wp2_with (first|(go_at_call 103;(with_reducible refine(Zb5.calls kj16 aC _ _ aA _ _ aJ di dn _ _ bu cz false _ (cM (Kd.Zac gL.out HB.out)) iN.out (cM (Kd.Zac gz.out HB.out)) iO.out (cM (Kd.Zac jP.out HB.out)) jM.out A81.out).mono ?_);rintro e w89 ⟨rfl,hb⟩;replace HB:=Za.mk (bS HB.out hb);clear bJ;(try clear hb);(try clear hb2);(try clear hk);(try clear hi)))
          go_ret;exact⟨eR,bM HB.out⟩
         subst c82;rw[if_pos rfl]at H;obtain⟨Pv,A83,H⟩:=bnd H;try dsimp only at H
         obtain rfl:=sj H;obtain⟨mIa,mJa,mKa,mLa,mMa,mNa,mOa,j4a,j5a,j6a,j7a,j8a,j9a,jAa⟩:=cz7 bJ.out
         go_wp2_with (first|(go_at_call 103;(with_reducible refine(Zb5.calls kj16 aC _ _ aA _ _ aJ di dn _ _ bu cz true _ (cM (Kd.Zac gL.out HB.out)) iN.out (cM (Kd.Zac gz.out HB.out)) iO.out (cM (Kd.Zac jP.out HB.out)) jM.out A81.out).mono ?_);rintro e w85 ⟨rfl,hb⟩;replace bJ:=Za.mk (kB bJ.out hb);replace HB:=Za.mk (bS HB.out hb);(try clear hb);(try clear hb2);(try clear hk);(try clear hi);obtain⟨mPa,mQa,mRa,mSa,mTa,mUa,mVa,jBa,jCa,jDa,jEa,jFa,jGa,jHa⟩:=cz7 bJ.out)|(go_at_call 106;(with_reducible refine(Zbx.calls kj16 _ _ l0 aC _ _ aA _ _ aJ di dn _ _ bu cz Pv _ (cM (Kd.Zac HR0.out HB.out)) HC0.out (cM (Kd.Zac gL.out HB.out)) iN.out (cM (Kd.Zac gz.out HB.out)) iO.out (cM (Kd.Zac jP.out HB.out)) jM.out A83.out).mono ?_);rintro e w87 ⟨rfl,hb⟩;replace HB:=Za.mk (bS HB.out hb);clear bJ;(try clear hb);(try clear hb2);(try clear hk);(try clear hi)))
         go_ret;exact⟨eR,bM HB.out⟩
mutual
def Zax.j0 : Nat → List Int → Int → Int → Bool → Option (Bool)
 | 0, _, _, _, _ => none
 |k+1,x0,x1,x5,x15=>if x15=true then(some true)else(Zax.l0 k x0 (wrap64 (x5 - (mx x1 (wrap64 (-x1))))) 0)
def Zax.l0 : Nat → List Int → Int → Int → Option (Bool)
 | 0, _, _, _ => none
 |k+1,x0,x5,x6=>if x6<(x0.length:Int)then(if 0≤x6 then(if(rd x0 x6)>4398046511104 then(Zax.j2 k x0 x5 x6 true)else(Zax.j2 k x0 x5 x6 (decide ((rd x0 x6)<(-4398046511104)))))else(none))else(some false)
def Zax.j2 : Nat → List Int → Int → Int → Bool → Option (Bool)
 | 0, _, _, _, _ => none
 |k+1,x0,x5,x6,x39=>if x39=true then(some true)else(if 0≤x6 then(if x6<(x0.length:Int)then(if(wrap64 (x5 - (wrap64 ((mx (rd x0 x6) (wrap64 (-(rd x0 x6))))*1048576))))<0 then(some true)else(Zax.l0 k x0 (wrap64 (x5 - (wrap64 ((mx (rd x0 x6) (wrap64 (-(rd x0 x6))))*1048576)))) (wrap64 (x6+1))))else(none))else(none))
end
def Zax.f (k:Nat) (l0:List Int) (a1:Int):Option (Bool):=if a1>4611686018427387904 then(Zax.j0 k l0 a1 4611686018427387904 true)else(Zax.j0 k l0 a1 4611686018427387904 (decide (a1<(-4611686018427387904))))
set_option maxRecDepth 100000 in
theorem Zax.calls (k : Nat) (A0 : Option Addr) (c0 : Nat) (l0 : List Int) (a1 : Int) (r : Bool) (w : World) (hr0 : Kd.C (Kd.int .i64) w A0 l0.length l0) (hc0 : l0.length ≤ c0) (h : Zax.f k l0 a1 = some r) :
  Calls Tryz.prog 76 #[.slice A0 l0.length c0,.int .i64 a1] w fun e w'=>e= .returned (.bool r)∧Below w.heap.size w w':=by
 have HR0:=Za.mk hr0;have HC0:=Za.mk hc0;clear hr0 hc0;have HB:=Za.mk (Below.refl w.heap.size w);have H:(if a1>4611686018427387904 then(Zax.j0 k l0 a1 4611686018427387904 true)else(Zax.j0 k l0 a1 4611686018427387904 (decide (a1<(-4611686018427387904)))))=some r:=h;clear h;have HC3:=Za.mk H;clear H;go_enter Tryz.func76,Tryz.ntmps76
 go_upto_region 2 with (fail)
 repeat(go_quiet (fail);go_upto_region 2 with (fail))
 go_cut [15] (fun v15 wc=>∃(kq:Nat) (FY:Bool),v15= .bool FY∧Za (Zax.j0 kq l0 a1 4611686018427387904 FY=some r)∧Za (kq≤k)∧Za (Below w.heap.size w wc))
 case first=>
  have H:=HC3.out;clear HC3;by_cases c4:a1>4611686018427387904
  case neg=>
   rw[if_neg c4]at H;have dC:decide (4611686018427387904<a1)=false:=decide_eq_false c4;clear c4
   (first|rw[dC]|(simp only[Zd5,Zeo];rw[dC])|skip)
   have H':=Za.mk H;clear H;go_wp2
   repeat(go_quiet (fail);try go_wp2)
   go_meet
   case rel=>exact⟨_,(decide (a1<(-4611686018427387904))),eS,H',⟨by first|omega|exact Nat.le_refl _⟩,⟨bM HB.out⟩⟩
  rw[if_pos c4]at H;have dC:decide (4611686018427387904<a1)=true:=decide_eq_true c4;clear c4
  (first|rw[dC]|(simp only[Zd5,Zeo];rw[dC])|skip)
  have H':=Za.mk H;clear H;go_wp2
  repeat(go_quiet (fail);try go_wp2)
  go_meet
  case rel=>exact⟨_,(true),eS,H',⟨by first|omega|exact Nat.le_refl _⟩,⟨bM HB.out⟩⟩
 case rest=>
  clear HC3;try clear p2
  try clear c4
  try clear dC
  obtain⟨kq,FY,rfl,HA,HJ2,HB⟩:=hcut
  cases kq with
  | zero => exact absurd HA.out (by simp [Zax.j0])
  |succ kj2=>
   have H:=HA.out;clear HA;simp only[Zax.j0]at H;by_cases c5:FY=true
   case pos=>
    subst c5;rw[if_pos rfl]at H;obtain rfl:=sj H;go_wp2
    repeat(go_quiet (fail);try go_wp2)
    go_ret;exact⟨eR,bM HB.out⟩
   replace c5:=Bool.eq_false_iff.mpr c5;subst c5;replace H:=ifF H;obtain⟨ji6,hji6⟩:∃j_:Int,(mx a1 (wrap64 (-a1)))=j_:=⟨_,rfl⟩;replace H:(Zax.l0 kj2 l0 (wrap64 (4611686018427387904 - (ji6))) 0)=some r:=by first|(rw[hji6]at H;exact H)|(simp only[hji6]at H ⊢;exact H)
   have hji6_:(if a1<(wrap64 (-a1))then(wrap64 (-a1))else a1)=ji6:=hji6;have H':=Za.mk H;clear H;go_wp2
   repeat(go_quiet (fail);try go_wp2)
   go_loopg [5,6] kj2 (fun kq v5 v6 w'=>∃(dG:Int) (ae:Int),v5= .int .i64 dG∧v6= .int .i64 ae∧Za (Zax.l0 kq l0 dG ae=some r)∧Za (kq≤kj2)∧Za (Below w.heap.size w w'))
   case atStart=>exact⟨(wrap64 (4611686018427387904 - (ji6))),(0),(by first|rfl|(simp;done)|(simp only[←hji6]<;>(first|rfl|simp))|(simp[*];done)),eS,H',⟨Nat.le_refl _⟩,⟨bM HB.out⟩⟩
   case round=>
    clear H';try clear p2
    try clear c4
    try clear dC
    try clear c5
    try clear p6
    try clear p2
    obtain⟨dG,ae,rfl,rfl,HA,HK2,HB⟩:=hrel
    cases gk with
    | zero => exact absurd HA.out (by simp [Zax.l0])
    |succ k2=>
     have H:=HA.out;clear HA;simp only[Zax.l0]at H;by_cases c7:ae<(l0.length:Int)
     case neg=>
      rw[if_neg c7]at H;have nu:decide (ae<(l0.length:Int))=false:=decide_eq_false c7;clear c7;obtain rfl:=sj H;go_wp2
      repeat(go_quiet (fail);try go_wp2)
      go_ret;exact⟨by first|rfl|(simp[Zde,Zdf]<;>rfl)|(simp only[←hji6];first|rfl|(simp[Zde,Zdf]<;>rfl))|(simp[*,Zde,Zdf]<;>rfl),bM HB.out⟩
     rw[if_pos c7]at H;have nu:decide (ae<(l0.length:Int))=true:=decide_eq_true c7;clear c7;have HC8:=Za.mk H;clear H
     go_upto_region 8 with (fail)
     repeat(go_quiet (fail);go_upto_region 8 with (fail))
     go_cut [39] (fun v39 wc=>∃(kq:Nat) (Gc:Bool),v39= .bool Gc∧Za (Zax.j2 kq l0 dG ae Gc=some r)∧Za (kq≤k2)∧Za (Below w.heap.size w wc))
     case first=>
      have H:=HC8.out;clear HC8;obtain⟨nz,H⟩:=ifT H
      (first|rw[nz]|(simp only[Zd5,Zeo];rw[nz])|skip)
      by_cases c10:(rd l0 ae)>4398046511104
      case pos=>
       rw[if_pos c10]at H;have jS:decide (4398046511104<(rd l0 ae))=true:=decide_eq_true c10;clear c10;have H':=Za.mk H;clear H;have yw:0≤(ae:Int):=odt;have yx:ae<(l0.length:Int):=odt;obtain⟨Rj,rfl,rO⟩:=Kd.Zb1 HR0.out ae yw yx;replace rO:=hB HB.out rO;replace yw:=eq_true yw;replace yx:=eq_true yx;go_wp2
       repeat(go_quiet (fail);try go_wp2)
       go_meet
       case rel=>exact⟨_,(true),eS,H',⟨by have:=HJ2.out;have:=HK2.out;first|omega|exact Nat.le_refl _⟩,⟨bM HB.out⟩⟩
      rw[if_neg c10]at H;have jS:decide (4398046511104<(rd l0 ae))=false:=decide_eq_false c10;clear c10;have H':=Za.mk H;clear H;have yw:0≤(ae:Int):=odt;have yx:ae<(l0.length:Int):=odt;obtain⟨Rj,rfl,rO⟩:=Kd.Zb1 HR0.out ae yw yx;replace rO:=hB HB.out rO;replace yw:=eq_true yw;replace yx:=eq_true yx;have Mh:0≤(ae:Int):=odt;have Ml:ae<(l0.length:Int):=odt;obtain⟨XE,e287,EX⟩:=Kd.Zb1 HR0.out ae Mh Ml;obtain rfl:Rj=XE:=(by injection e287);replace EX:=hB HB.out EX;replace Mh:=eq_true Mh;replace Ml:=eq_true Ml;go_wp2
      repeat(go_quiet (fail);try go_wp2)
      go_meet
      case rel=>exact⟨_,(decide ((rd l0 ae)<(-4398046511104))),eS,H',⟨by have:=HJ2.out;have:=HK2.out;first|omega|exact Nat.le_refl _⟩,⟨bM HB.out⟩⟩
     case rest=>
      clear HC8;try clear c1
      try clear p2
      try clear q2
      try clear hx2
      try clear c4
      try clear dC
      try clear c5
      try clear p6
      try clear c7
      try clear nu
      try clear c9
      try clear nz
      try clear c10
      try clear jS
      try clear rO
      try clear EX
      try clear p2
      try clear yw
      try clear Mh
      try clear p6
      try clear yx
      try clear Ml
      obtain⟨kq,Gc,rfl,HA,HJ7,HB⟩:=hcut
      cases kq with
      | zero => exact absurd HA.out (by simp [Zax.j2])
      |succ kj7=>
       have H:=HA.out;clear HA;simp only[Zax.j2]at H;by_cases c11:Gc=true
       case pos=>
        subst c11;rw[if_pos rfl]at H;obtain rfl:=sj H;go_wp2
        repeat(go_quiet (fail);try go_wp2)
        go_ret;exact⟨by first|rfl|(simp[Zde,Zdf]<;>rfl)|(simp only[←hji6];first|rfl|(simp[Zde,Zdf]<;>rfl))|(simp[*,Zde,Zdf]<;>rfl),bM HB.out⟩
       replace c11:=Bool.eq_false_iff.mpr c11;subst c11;replace H:=ifF H;obtain⟨iV,H⟩:=ifT H;obtain⟨o5,H⟩:=ifT H;obtain⟨jD,hji14⟩:∃j_:Int,(mx (rd l0 ae) (wrap64 (-(rd l0 ae))))=j_:=⟨_,rfl⟩;replace H:(if(wrap64 (dG - (wrap64 ((jD)*1048576))))<0 then(some true)else(Zax.l0 kj7 l0 (wrap64 (dG - (wrap64 ((jD)*1048576)))) (wrap64 (ae+1))))=some r:=by first|(rw[hji14]at H;exact H)|(simp only[hji14]at H ⊢;exact H)
       have hji14_:(if(rd l0 ae)<(wrap64 (-(rd l0 ae)))then(wrap64 (-(rd l0 ae)))else(rd l0 ae))=jD:=hji14;by_cases c15:(wrap64 (dG - (wrap64 ((jD)*1048576))))<0
       case pos=>
        rw[if_pos c15]at H;have jo:decide ((wrap64 (dG - (wrap64 ((jD)*1048576))))<0)=true:=decide_eq_true c15;clear c15;obtain rfl:=sj H;have zS:0≤(ae:Int):=odt;have Ao:ae<(l0.length:Int):=odt;obtain⟨Lm,rfl,vS⟩:=Kd.Zb1 HR0.out ae zS Ao;replace vS:=hB HB.out vS;replace zS:=eq_true zS;replace Ao:=eq_true Ao;have zT:0≤(ae:Int):=odt;have Ap:ae<(l0.length:Int):=odt;obtain⟨Lp,e289,vT⟩:=Kd.Zb1 HR0.out ae zT Ap;obtain rfl:Lm=Lp:=(by injection e289);replace vT:=hB HB.out vT;replace zT:=eq_true zT;replace Ap:=eq_true Ap;go_wp2
        repeat(go_quiet (fail);try go_wp2)
        go_ret;exact⟨by first|rfl|(simp[Zde,Zdf]<;>rfl)|(simp only[←hji6,←hji14];first|rfl|(simp[Zde,Zdf]<;>rfl))|(simp[*,Zde,Zdf]<;>rfl),bM HB.out⟩
       rw[if_neg c15]at H;have jo:decide ((wrap64 (dG - (wrap64 ((jD)*1048576))))<0)=false:=decide_eq_false c15;clear c15;have H':=Za.mk H;clear H;have zS:0≤(ae:Int):=odt;have Ao:ae<(l0.length:Int):=odt;obtain⟨Lm,rfl,vS⟩:=Kd.Zb1 HR0.out ae zS Ao;replace vS:=hB HB.out vS;replace zS:=eq_true zS;replace Ao:=eq_true Ao;have zT:0≤(ae:Int):=odt;have Ap:ae<(l0.length:Int):=odt;obtain⟨Lp,e289,vT⟩:=Kd.Zb1 HR0.out ae zT Ap;obtain rfl:Lm=Lp:=(by injection e289);replace vT:=hB HB.out vT;replace zT:=eq_true zT;replace Ap:=eq_true Ap;go_wp2
       repeat(go_quiet (fail);try go_wp2)
       go_roundg kj7
       case measure=>have:=HJ2.out;have:=HK2.out;have:=HJ7.out;omega
       case rel=>exact⟨(wrap64 (dG - (wrap64 ((jD)*1048576)))),(wrap64 (ae+1)),(by first|rfl|(simp;done)|(simp only[←hji14]<;>(first|rfl|simp))|(simp[*];done)),eS,H',⟨by have:=HJ2.out;have:=HK2.out;have:=HJ7.out;omega⟩,⟨bM HB.out⟩⟩
end Go.Proofs.YtdpieallpbllkaaGreat.P
