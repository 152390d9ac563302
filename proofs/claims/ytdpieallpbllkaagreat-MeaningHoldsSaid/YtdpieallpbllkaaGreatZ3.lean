/- Proved: what each function of the program that the statements of this seat reach comes to, for whatever memory and arguments it is called with (on condition that its plain text tells a result). -/
import Derived.Test.YtdpieallpbllkaaGreatZ1
import Derived.Test.YtdpieallpbllkaaGreatZ2
import Derived.Shelf.GgClosure.Gives
import Derived.Deep.LoopGhost
import Derived.Maps.OwnSet
import Derived.StringKeys
import Derived.Laws.RangeString
import Derived.Laws.RangeAny
import Derived.Laws.Strings
import Derived.Laws.Strings2
import Derived.Laws.Strings3
import Derived.LoopTactic
import Derived.Lib.SliceRun
import Derived.Carry
set_option linter.unusedSimpArgs false
set_option linter.unusedVariables false
set_option maxHeartbeats 8000000
namespace Go.Proofs.YtdpieallpbllkaaGreat.P
open Go.RowKit Go.Proofs.YtdpieallpbllkaaGreatW.PrintWords Go.Proofs.YtdpieallpbllkaaGreatW.PrintLast Go.Proofs.YtdpieallpbllkaaGreatW.PrintMore
attribute [local go_sem] Zcv Zcx Zdi Zdj Zcm Zcn Zcw Zcy
mutual
def Za0.l0 : Nat → List Int → Int → Int → List Int → List Int → Int → Int → List (List Int) → Int → Option (Bool)
 | 0, _, _, _, _, _, _, _, _, _ => none
 |k+1,x5,x7,ug,uh,lY,ui,uj,p8,uk=>if x7<(p8.length:Int)then(if 0≤x7 then((Zat.f k (Zco p8 x7) x5).bind fun UC=>(if UC=true then(some true)else(Za0.l0 k x5 (wrap64 (x7+1)) ug uh lY ui uj p8 uk)))else(none))else(some false)
def Za0.l1 : Nat → List Int → Int → Int → List Int → List Int → Int → Int → List (List Int) → Int → Option (Bool)
 | 0, _, _, _, _, _, _, _, _, _ => none
 |k+1,x5,x8,ug,uh,lY,ui,uj,p8,uk=>if x8<(x5.length:Int)then(if 0≤x8 then(if x8<(lY.length:Int)then(if(rd lY x8)=1 then(if(rd x5 x8)=1 then(some true)else(if(rd lY x8)=(-1)then(if(rd x5 x8)=0 then(some true)else(Za0.l1 k x5 (wrap64 (x8+1)) ug uh lY ui uj p8 uk))else(Za0.l1 k x5 (wrap64 (x8+1)) ug uh lY ui uj p8 uk)))else(if(rd lY x8)=(-1)then(if(rd x5 x8)=0 then(some true)else(Za0.l1 k x5 (wrap64 (x8+1)) ug uh lY ui uj p8 uk))else(Za0.l1 k x5 (wrap64 (x8+1)) ug uh lY ui uj p8 uk)))else(none))else(none))else(some false)
end
def Za0.f (k:Nat) (ay:Int) (aa:List Int) (aj:List Int) (aW:Int) (bi:Int) (aA:List (List Int)) (bg:Int) (l1:List Int):Option (Bool):=(Zbt.f k aa l1).bind fun aJ=>((Zbq.f k aa aj l1).bind fun Jk=>((Zd.f aW Jk bi).bind fun AB=>(if ay=0 then(some AB)else(if ay=1 then((Zaj.f k aJ).bind fun DC=>(some ((DC.length:Int)==(aJ.length:Int))))else(if ay=2 then(Za0.l0 k aJ 0 ay aa aj aW bi aA bg)else(if ay=3 then(if(aJ.length:Int)≥2 then(if 0<(aJ.length:Int)then(if(rd aJ 0)≥0 then(if(wrap64 ((rd aJ 0)+2))<(aJ.length:Int)then(if 0≤(wrap64 ((rd aJ 0)+2))then(if 1<(aJ.length:Int)then(some ((rd aJ (wrap64 ((rd aJ 0)+2)))==(rd aJ 1)))else(none))else(none))else(some false))else(some false))else(none))else(some false))else(if ay=4 then(if AB=true then((Zb0.f l1 bg).bind fun oJ=>(if oJ=1 then(some true)else(some false)))else((Zb0.f l1 bg).bind fun DF=>(some (DF==0))))else(if ay=5 then(Za0.l1 k aJ 0 ay aa aj aW bi aA bg)else(if 0≤(wrap64 ((aJ.length:Int) / 2))then(if(wrap64 ((aJ.length:Int) / 2))≤(aJ.length:Int)then((Za1.f k (aJ.take ((wrap64 ((aJ.length:Int) / 2)):Int).toNat) (aJ.drop ((wrap64 ((aJ.length:Int) / 2)):Int).toNat)).bind fun qX=>(some (decide (qX≤0))))else(none))else(none))))))))))
set_option maxRecDepth 100000 in
theorem Za0.calls (k : Nat) (ay : Int) (aQ : Option Addr) (aM : Nat) (aa : List Int) (bN : Option Addr) (bP : Nat) (aj : List Int) (aW : Int) (bi : Int) (dD : Option Addr) (dC : Nat) (aA : List (List Int)) (bg : Int) (A1 : Option Addr) (c1 : Nat) (l1 : List Int) (r : Bool) (w : World) (dB : Kd.C (Kd.int .i64) w aQ aa.length aa) (dA : aa.length ≤ aM) (fH : Kd.C (Kd.int .i64) w bN aj.length aj) (fG : aj.length ≤ bP) (iq : Kd.C (Kd.slice 3 (Kd.int .i64)) w dD aA.length aA) (il : aA.length ≤ dC) (hr1 : Kd.C (Kd.int .i64) w A1 l1.length l1) (hc1 : l1.length ≤ c1) (h : Za0.f k ay aa aj aW bi aA bg l1 = some r) :
  Calls Tryz.prog 14 #[.agg #[.int .i64 ay,.slice aQ aa.length aM,.slice bN aj.length bP,.int .i64 aW,.int .i64 bi,.slice dD aA.length dC,.int .i64 bg],.slice A1 l1.length c1] w fun e w'=>e= .returned (.bool r)∧Below w.heap.size w w':=by
 have hu36:=Tryz.underlying36;have dM:=Za.mk dB;have eH:=Za.mk dA;clear dB dA;have fo:=Za.mk fH;have jf:=Za.mk fG;clear fH fG;have jg:=Za.mk iq;have o5:=Za.mk il;clear iq il;have HR1:=Za.mk hr1;have HC1:=Za.mk hc1;clear hr1 hc1;have HB:=Za.mk (Below.refl w.heap.size w);have H:((Zbt.f k aa l1).bind fun aJ=>((Zbq.f k aa aj l1).bind fun Jk=>((Zd.f aW Jk bi).bind fun AB=>(if ay=0 then(some AB)else(if ay=1 then((Zaj.f k aJ).bind fun DC=>(some ((DC.length:Int)==(aJ.length:Int))))else(if ay=2 then(Za0.l0 k aJ 0 ay aa aj aW bi aA bg)else(if ay=3 then(if(aJ.length:Int)≥2 then(if 0<(aJ.length:Int)then(if(rd aJ 0)≥0 then(if(wrap64 ((rd aJ 0)+2))<(aJ.length:Int)then(if 0≤(wrap64 ((rd aJ 0)+2))then(if 1<(aJ.length:Int)then(some ((rd aJ (wrap64 ((rd aJ 0)+2)))==(rd aJ 1)))else(none))else(none))else(some false))else(some false))else(none))else(some false))else(if ay=4 then(if AB=true then((Zb0.f l1 bg).bind fun oJ=>(if oJ=1 then(some true)else(some false)))else((Zb0.f l1 bg).bind fun DF=>(some (DF==0))))else(if ay=5 then(Za0.l1 k aJ 0 ay aa aj aW bi aA bg)else(if 0≤(wrap64 ((aJ.length:Int) / 2))then(if(wrap64 ((aJ.length:Int) / 2))≤(aJ.length:Int)then((Za1.f k (aJ.take ((wrap64 ((aJ.length:Int) / 2)):Int).toNat) (aJ.drop ((wrap64 ((aJ.length:Int) / 2)):Int).toNat)).bind fun qX=>(some (decide (qX≤0))))else(none))else(none)))))))))))=some r:=h;clear h;obtain⟨aJ,A3,H⟩:=bnd H;try dsimp only at H
 obtain⟨Jk,A4,H⟩:=bnd H;try dsimp only at H
 obtain⟨AB,A5,H⟩:=bnd H;try dsimp only at H
 have HH_:=Za.mk H;clear H;go_enter Tryz.func14,Tryz.ntmps14
 go_wp2_with (first|((with_reducible refine Zao (N:=2) rfl ?_);(try(refine Zb7 (by rfl) ?_;dsimp only));refine bx 2 #[.int .i64 ay,.slice aQ aa.length aM,.slice bN aj.length bP,.int .i64 aW,.int .i64 bi,.slice dD aA.length dC,.int .i64 bg] 36 ?_;intro PY hg wPa hbox hb;have fV:=Za.mk (hbox);have mqa:=Za.mk ((gE hg HB.out:w.heap.size≤PY));replace HB:=Za.mk (bS HB.out hb);clear hb hbox hg;obtain⟨lJa,lKa,lLa,lMa,lNa,lOa,lPa,kKa,kLa,kMa,kNa,kOa,kPa,kQa⟩:=cz7 fV.out)|(go_at_call 40;(with_reducible refine(Zbt.calls k _ _ aa _ _ l1 aJ _ (cM (Kd.Zab dM.out HB.out)) eH.out (cM (Kd.Zab HR1.out HB.out)) HC1.out A3.out).mono ?_);rintro e wQa ⟨bta,rfl,ho0,hb⟩;have fe:=Za.mk (Kd.Zbm ho0 (Zad (bM HB.out)));replace fV:=Za.mk (kB fV.out hb);replace HB:=Za.mk (bS HB.out hb);(try clear hb);(try clear hb2);(try clear hk);(try clear hi);(try clear ho0);obtain⟨lQa,lRa,lSa,lTa,lUa,lVa,lWa,kRa,kSa,kTa,kUa,kVa,kWa,kXa⟩:=cz7 fV.out))
 go_quiet (first|(go_at_call 42;(with_reducible refine(Zbq.calls k _ _ aa _ _ aj _ _ l1 Jk _ (cM (Kd.Zab dM.out HB.out)) eH.out (cM (Kd.Zab fo.out HB.out)) jf.out (cM (Kd.Zab HR1.out HB.out)) HC1.out A4.out).mono ?_);rintro e w' ⟨rfl,⟨nd,rfl⟩⟩;(try first|exact⟨rfl,_,World.drewN_drewN _ _ _⟩|exact⟨rfl,_,Eq.trans (World.drewN_drewN _ _ _) (congrArg (World.drewN _) (Nat.add_assoc _ _ _))⟩))|(go_at_call 41;(with_reducible refine(Zd.calls aW Jk bi AB _ A5.out).mono ?_);rintro e w' ⟨rfl,⟨nd,rfl⟩⟩;(try first|exact⟨rfl,_,World.drewN_drewN _ _ _⟩|exact⟨rfl,_,Eq.trans (World.drewN_drewN _ _ _) (congrArg (World.drewN _) (Nat.add_assoc _ _ _))⟩)))
 have H:=HH_.out;clear HH_;by_cases c6:ay=0
 case pos=>
  rw[if_pos c6]at H;have fK:(ay==0)=true:=beq_iff_eq.mpr c6;have rR:(ay !=0)=false:=bne_eq_false_iff_eq.mpr c6;clear c6;obtain rfl:=sj H;try go_wp2
  repeat(go_quiet (first|done);try go_wp2)
  go_ret;exact⟨eR,bM HB.out⟩
 rw[if_neg c6]at H;have fK:(ay==0)=false:=beq_eq_false_iff_ne.mpr c6;have rR:(ay !=0)=true:=bne_iff_ne.mpr c6;by_cases c11:ay=1
 case pos=>
  rw[if_pos c11]at H;have jA:(ay==1)=true:=beq_iff_eq.mpr c11;have za:(ay !=1)=false:=bne_eq_false_iff_eq.mpr c11;clear c11;obtain⟨DC,A12,H⟩:=bnd H;try dsimp only at H
  obtain rfl:=sj H;obtain⟨gY,ib,wD⟩:=Kd.Za8 fe.out;subst wD;try go_wp2_with (first|(go_at_call 43;(with_reducible refine(Zaj.calls k _ _ aJ DC _ (cM ((Kd.Zah fe.out).2.2)) ((Kd.Zah fe.out).2.1) A12.out).mono ?_);rintro e w18 ⟨bua,rfl,ho0,hb⟩;have EK:=Za.mk (Kd.Zbm (Kd.Zeu ho0 (Kd.R_lt (rM fe.out))) (Zad (bM HB.out)));replace fe:=Za.mk (Kd.Zdz (rM fe.out) (Kd.Zc7 ho0) hb);replace fV:=Za.mk (kB fV.out hb);replace HB:=Za.mk (bS HB.out hb);(try clear hb);(try clear hb2);(try clear hk);(try clear hi);(try clear ho0);obtain⟨zY,Ae,Cq⟩:=Kd.Za8 EK.out;subst Cq))
  repeat(go_quiet (first|(go_at_call 43;(with_reducible refine(Zaj.calls k _ _ aJ DC _ (cM ((Kd.Zah fe.out).2.2)) ((Kd.Zah fe.out).2.1) A12.out).mono ?_);rintro e w18 ⟨bua,rfl,ho0,hb⟩;have EK:=Za.mk (Kd.Zbm (Kd.Zeu ho0 (Kd.R_lt (rM fe.out))) (Zad (bM HB.out)));replace fe:=Za.mk (Kd.Zdz (rM fe.out) (Kd.Zc7 ho0) hb);replace fV:=Za.mk (kB fV.out hb);replace HB:=Za.mk (bS HB.out hb);(try clear hb);(try clear hb2);(try clear hk);(try clear hi);(try clear ho0);obtain⟨zY,Ae,Cq⟩:=Kd.Za8 EK.out;subst Cq));try go_wp2_with (first|(go_at_call 43;(with_reducible refine(Zaj.calls k _ _ aJ DC _ (cM ((Kd.Zah fe.out).2.2)) ((Kd.Zah fe.out).2.1) A12.out).mono ?_);rintro e w18 ⟨bua,rfl,ho0,hb⟩;have EK:=Za.mk (Kd.Zbm (Kd.Zeu ho0 (Kd.R_lt (rM fe.out))) (Zad (bM HB.out)));replace fe:=Za.mk (Kd.Zdz (rM fe.out) (Kd.Zc7 ho0) hb);replace fV:=Za.mk (kB fV.out hb);replace HB:=Za.mk (bS HB.out hb);(try clear hb);(try clear hb2);(try clear hk);(try clear hi);(try clear ho0);obtain⟨zY,Ae,Cq⟩:=Kd.Za8 EK.out;subst Cq)))
  go_ret;exact⟨eR,bM HB.out⟩
 rw[if_neg c11]at H;have jA:(ay==1)=false:=beq_eq_false_iff_ne.mpr c11;have za:(ay !=1)=true:=bne_iff_ne.mpr c11;by_cases c20:ay=2
 case pos=>
  rw[if_pos c20]at H;have P8:(ay==2)=true:=beq_iff_eq.mpr c20;have P9:(ay !=2)=false:=bne_eq_false_iff_eq.mpr c20;clear c20;have H':=Za.mk H;clear H;try go_wp2
  repeat(go_quiet (first|done);try go_wp2)
  go_loopg [7] k (fun kq v7 w'=>∃(aV:Int),v7= .int .i64 aV∧Za (Za0.l0 kq aJ aV ay aa aj aW bi aA bg=some r)∧Za (kq≤k)∧Za (Kd.R (Kd.int .i64) 3 w' w.heap.size (fun _=>True) bta aJ)∧Za (w'.heap[PY]? =some (.cells #[.int .i64 ay,(.slice aQ aa.length aM),(.slice bN aj.length bP),.int .i64 aW,.int .i64 bi,(.slice dD aA.length dC),.int .i64 bg] 36 (0,0)))∧Za (Below w.heap.size w w'))
  case atStart=>exact⟨(0),eS,H',⟨Nat.le_refl _⟩,⟨rM fe.out⟩,⟨kM fV.out⟩,⟨bM HB.out⟩⟩
  case round=>
   clear H';try clear c1
   try clear c2
   try clear p2
   try clear c6
   try clear fK
   try clear rR
   try clear p6
   try clear c11
   try clear jA
   try clear za
   try clear c14
   try clear c20
   try clear P8
   try clear P9
   try clear kz kC kD lJ lK wh wu kv kw ky lD lF vS vT
   try clear tu tC zL Cb Cc H7 H8 sW tq zx BJ BM GU GV
   try clear wz wB wC zM zN zO zP vW vX vY zy zz z8 zA
   try clear Rj Rk Rl Rm Rn Xv Xw QB QC QD QE QF WH WI
   try clear rD rE rF rG rH Ro Rp rq ru ry rz r9 QG QH
   try clear sG sH sI vo vv wI wJ sw sD sF uX uY wG wH
   obtain⟨aV,rfl,HA,HK1,aT,fV,HB⟩:=hrel
   cases gk with
   | zero => exact absurd HA.out (by simp [Za0.l0])
   |succ k1=>
    have H:=HA.out;clear HA;simp only[Za0.l0]at H;by_cases c25:aV<(aA.length:Int)
    case neg=>
     rw[if_neg c25]at H;have JM:decide (aV<(aA.length:Int))=false:=decide_eq_false c25;clear c25;obtain rfl:=sj H;obtain⟨K6,K7,Rx,Ry,Rz,fWa,fXa,Ko,Kq,QO,QP,QQ,eqa,era⟩:=cz7 fV.out;go_wp2
     repeat(go_quiet (fail);try go_wp2)
     go_ret;exact⟨eR,bM HB.out⟩
    rw[if_pos c25]at H;have JM:decide (aV<(aA.length:Int))=true:=decide_eq_true c25;clear c25;obtain⟨zf,H⟩:=ifT H;obtain⟨UC,A27,H⟩:=bnd H;try dsimp only at H
    by_cases c28:UC=true
    case pos=>
     subst c28;rw[if_pos rfl]at H;obtain rfl:=sj H;obtain⟨rJ,rO,Ii,Ij,Ik,Rt,Ru,rA,rC,Hl,Hm,Ho,QK,QL⟩:=cz7 fV.out;have aGa:(0≤(aV:Int))=True:=teq;have aPa:(aV<(aA.length:Int))=True:=teq;obtain⟨dla,YW,aua,rfl,tQ,xJ,xh⟩:=Zfj jg.out aV odt odt;replace tQ:=hB HB.out tQ;have qJ:=Za.mk xh;have qB:=Za.mk xJ;clear xh xJ;obtain⟨uHa,vfa,iia⟩:=Kd.Za8 aT.out;subst iia
     go_wp2_with (first|(go_at_call 27;(with_reducible refine(Zat.calls k1 _ _ (Zco aA aV) _ _ aJ true _ (cM (Kd.Zab qJ.out HB.out)) qB.out (cM ((Kd.Zah aT.out).2.2)) ((Kd.Zah aT.out).2.1) A27.out).mono ?_);rintro e w' ⟨rfl,⟨nd,rfl⟩⟩;(try first|exact⟨rfl,_,World.drewN_drewN _ _ _⟩|exact⟨rfl,_,Eq.trans (World.drewN_drewN _ _ _) (congrArg (World.drewN _) (Nat.add_assoc _ _ _))⟩)))
     repeat(go_quiet (first|(go_at_call 27;(with_reducible refine(Zat.calls k1 _ _ (Zco aA aV) _ _ aJ true _ (cM (Kd.Zab qJ.out HB.out)) qB.out (cM ((Kd.Zah aT.out).2.2)) ((Kd.Zah aT.out).2.1) A27.out).mono ?_);rintro e w' ⟨rfl,⟨nd,rfl⟩⟩;(try first|exact⟨rfl,_,World.drewN_drewN _ _ _⟩|exact⟨rfl,_,Eq.trans (World.drewN_drewN _ _ _) (congrArg (World.drewN _) (Nat.add_assoc _ _ _))⟩)));try go_wp2_with (first|(go_at_call 27;(with_reducible refine(Zat.calls k1 _ _ (Zco aA aV) _ _ aJ true _ (cM (Kd.Zab qJ.out HB.out)) qB.out (cM ((Kd.Zah aT.out).2.2)) ((Kd.Zah aT.out).2.1) A27.out).mono ?_);rintro e w' ⟨rfl,⟨nd,rfl⟩⟩;(try first|exact⟨rfl,_,World.drewN_drewN _ _ _⟩|exact⟨rfl,_,Eq.trans (World.drewN_drewN _ _ _) (congrArg (World.drewN _) (Nat.add_assoc _ _ _))⟩))))
     go_ret;exact⟨eR,bM HB.out⟩
    replace c28:=Bool.eq_false_iff.mpr c28;subst c28;replace H:=ifF H;have H':=Za.mk H;clear H;obtain⟨Ky,Kz,K3,K4,K5,X7,X8,Kj,Kk,Kl,Km,Kn,WR,WS⟩:=cz7 fV.out;have aGa:(0≤(aV:Int))=True:=teq;have aPa:(aV<(aA.length:Int))=True:=teq;obtain⟨dla,YW,aua,rfl,tQ,xJ,xh⟩:=Zfj jg.out aV odt odt;replace tQ:=hB HB.out tQ;have qJ:=Za.mk xh;have qB:=Za.mk xJ;clear xh xJ;obtain⟨aaa,aya,Tf⟩:=Kd.Za8 aT.out;subst Tf
    go_wp2_with (first|(go_at_call 27;(with_reducible refine(Zat.calls k1 _ _ (Zco aA aV) _ _ aJ false _ (cM (Kd.Zab qJ.out HB.out)) qB.out (cM ((Kd.Zah aT.out).2.2)) ((Kd.Zah aT.out).2.1) A27.out).mono ?_);rintro e w' ⟨rfl,⟨nd,rfl⟩⟩;(try first|exact⟨rfl,_,World.drewN_drewN _ _ _⟩|exact⟨rfl,_,Eq.trans (World.drewN_drewN _ _ _) (congrArg (World.drewN _) (Nat.add_assoc _ _ _))⟩)))
    repeat(go_quiet (first|(go_at_call 27;(with_reducible refine(Zat.calls k1 _ _ (Zco aA aV) _ _ aJ false _ (cM (Kd.Zab qJ.out HB.out)) qB.out (cM ((Kd.Zah aT.out).2.2)) ((Kd.Zah aT.out).2.1) A27.out).mono ?_);rintro e w' ⟨rfl,⟨nd,rfl⟩⟩;(try first|exact⟨rfl,_,World.drewN_drewN _ _ _⟩|exact⟨rfl,_,Eq.trans (World.drewN_drewN _ _ _) (congrArg (World.drewN _) (Nat.add_assoc _ _ _))⟩)));try go_wp2_with (first|(go_at_call 27;(with_reducible refine(Zat.calls k1 _ _ (Zco aA aV) _ _ aJ false _ (cM (Kd.Zab qJ.out HB.out)) qB.out (cM ((Kd.Zah aT.out).2.2)) ((Kd.Zah aT.out).2.1) A27.out).mono ?_);rintro e w' ⟨rfl,⟨nd,rfl⟩⟩;(try first|exact⟨rfl,_,World.drewN_drewN _ _ _⟩|exact⟨rfl,_,Eq.trans (World.drewN_drewN _ _ _) (congrArg (World.drewN _) (Nat.add_assoc _ _ _))⟩))))
    go_roundg k1
    case measure=>have:=HK1.out;omega
    case rel=>exact⟨(wrap64 (aV+1)),eS,H',⟨by have:=HK1.out;omega⟩,⟨rM aT.out⟩,⟨kM fV.out⟩,⟨bM HB.out⟩⟩
 rw[if_neg c20]at H;have P8:(ay==2)=false:=beq_eq_false_iff_ne.mpr c20;have P9:(ay !=2)=true:=bne_iff_ne.mpr c20;by_cases c34:ay=3
 case pos=>
  rw[if_pos c34]at H;have JN:(ay==3)=true:=beq_iff_eq.mpr c34;have Wi:(ay !=3)=false:=bne_eq_false_iff_eq.mpr c34;clear c34;by_cases c35:(aJ.length:Int)≥2
  case neg=>
   rw[if_neg c35]at H;have Bh:decide (2≤(aJ.length:Int))=false:=decide_eq_false c35;have JO:decide (2≤aJ.length)=false:=decide_eq_false (by omega);clear c35;obtain rfl:=sj H;obtain⟨uPa,voa,isa⟩:=Kd.Za8 fe.out;subst isa;try go_wp2
   repeat(go_quiet (first|done);try go_wp2)
   go_ret;exact⟨eR,bM HB.out⟩
  rw[if_pos c35]at H;have Bh:decide (2≤(aJ.length:Int))=true:=decide_eq_true c35;have JO:decide (2≤aJ.length)=true:=decide_eq_true (by omega);clear c35;obtain⟨c36,H⟩:=ifP H;have JP:decide (0<(aJ.length:Int))=true:=decide_eq_true c36;have PG:decide (0<aJ.length)=true:=decide_eq_true (by omega);clear c36;by_cases c37:(rd aJ 0)≥0
  case neg=>
   rw[if_neg c37]at H;have Wj:decide (0≤(rd aJ 0))=false:=decide_eq_false c37;clear c37;obtain rfl:=sj H;obtain⟨uMa,vla,ipa⟩:=Kd.Za8 fe.out;subst ipa;have rV:0≤(0:Int):=(by omega);have rX:0<(aJ.length:Int):=odt;obtain⟨yX,KI,nO⟩:=Kd.Zbh (Kd.Zah fe.out).2.2 0 rV rX;cases KI;have qi629:(0<aJ.length)=True:=eq_true (by omega)
   (try rw[show((0:Int)).toNat=0 from rfl]at nO)
   (try rw[Addr.add_zero']at nO)
   replace rV:=eq_true rV;replace rX:=eq_true rX;try go_wp2
   repeat(go_quiet (first|done);try go_wp2)
   go_ret;exact⟨eR,bM HB.out⟩
  rw[if_pos c37]at H;have Wj:decide (0≤(rd aJ 0))=true:=decide_eq_true c37;clear c37;by_cases c38:(wrap64 ((rd aJ 0)+2))<(aJ.length:Int)
  case neg=>
   rw[if_neg c38]at H;have Fb:decide ((wrap64 ((rd aJ 0)+2))<(aJ.length:Int))=false:=decide_eq_false c38;clear c38;obtain rfl:=sj H;obtain⟨uJa,vha,ima⟩:=Kd.Za8 fe.out;subst ima;have rV:0≤(0:Int):=(by omega);have rX:0<(aJ.length:Int):=odt;obtain⟨yX,KI,nO⟩:=Kd.Zbh (Kd.Zah fe.out).2.2 0 rV rX;cases KI;have qi629:(0<aJ.length)=True:=eq_true (by omega)
   (try rw[show((0:Int)).toNat=0 from rfl]at nO)
   (try rw[Addr.add_zero']at nO)
   replace rV:=eq_true rV;replace rX:=eq_true rX;have Ak:0≤(0:Int):=(by omega);have Ap:0<(aJ.length:Int):=odt;obtain⟨Pv,SQ,tT⟩:=Kd.Zbh (Kd.Zah fe.out).2.2 0 Ak Ap;obtain rfl:yX=Pv:=(by injection SQ);have qi630:(0<aJ.length)=True:=eq_true (by omega)
   (try rw[show((0:Int)).toNat=0 from rfl]at tT)
   (try rw[Addr.add_zero']at tT)
   replace Ak:=eq_true Ak;replace Ap:=eq_true Ap;try go_wp2
   repeat(go_quiet (first|done);try go_wp2)
   go_ret;exact⟨eR,bM HB.out⟩
  rw[if_pos c38]at H;have Fb:decide ((wrap64 ((rd aJ 0)+2))<(aJ.length:Int))=true:=decide_eq_true c38;clear c38;obtain⟨Jd,hji39⟩:∃j_:Int,(wrap64 ((rd aJ 0)+2))=j_:=⟨_,rfl⟩;replace H:(if 0≤(Jd)then(if 1<(aJ.length:Int)then(some ((rd aJ (Jd))==(rd aJ 1)))else(none))else(none))=some r:=by first|(rw[hji39]at H;exact H)|(simp only[hji39]at H ⊢;exact H)
  (try rw[hji39]at Fb)
  (try rw[hji39]at A3)
  (try rw[hji39]at A4)
  (try rw[hji39]at A5)
  have hji39w:(IntKind.i64.wrap ((rd aJ 0)+2))=Jd:=(Zd0 _).trans hji39;obtain⟨dza,H⟩:=ifT H;obtain⟨c41,H⟩:=ifP H;have PH:decide (1<(aJ.length:Int))=true:=decide_eq_true c41;have PI:decide (1<aJ.length)=true:=decide_eq_true (by omega);clear c41;obtain rfl:=sj H;obtain⟨hCa,hQa,Tk⟩:=Kd.Za8 fe.out;subst Tk;have rV:0≤(0:Int):=(by omega);have rX:0<(aJ.length:Int):=odt;obtain⟨yX,KI,nO⟩:=Kd.Zbh (Kd.Zah fe.out).2.2 0 rV rX;cases KI;have qi629:(0<aJ.length)=True:=eq_true (by omega)
  (try rw[show((0:Int)).toNat=0 from rfl]at nO)
  (try rw[Addr.add_zero']at nO)
  replace rV:=eq_true rV;replace rX:=eq_true rX;have Ak:0≤(0:Int):=(by omega);have Ap:0<(aJ.length:Int):=odt;obtain⟨Pv,SQ,tT⟩:=Kd.Zbh (Kd.Zah fe.out).2.2 0 Ak Ap;obtain rfl:yX=Pv:=(by injection SQ);have qi630:(0<aJ.length)=True:=eq_true (by omega)
  (try rw[show((0:Int)).toNat=0 from rfl]at tT)
  (try rw[Addr.add_zero']at tT)
  replace Ak:=eq_true Ak;replace Ap:=eq_true Ap;have Qg:0≤(0:Int):=(by omega);have Qn:0<(aJ.length:Int):=odt;obtain⟨dma,hVa,Ja⟩:=Kd.Zbh (Kd.Zah fe.out).2.2 0 Qg Qn;obtain rfl:yX=dma:=(by injection hVa);have qi631:(0<aJ.length)=True:=eq_true (by omega)
  (try rw[show((0:Int)).toNat=0 from rfl]at Ja)
  (try rw[Addr.add_zero']at Ja)
  replace Qg:=eq_true Qg;replace Qn:=eq_true Qn;have Qh:0≤((Jd):Int):=odt;have Qo:(Jd)<(aJ.length:Int):=odt;obtain⟨dna,hXa,YB⟩:=Kd.Zbh (Kd.Zah fe.out).2.2 (Jd) Qh Qo;obtain rfl:yX=dna:=(by injection hXa);replace Qh:=eq_true Qh;replace Qo:=eq_true Qo;have Qi:0≤(1:Int):=(by omega);have Qp:1<(aJ.length:Int):=odt;obtain⟨doa,hYa,Jb⟩:=Kd.Zbh (Kd.Zah fe.out).2.2 1 Qi Qp;obtain rfl:yX=doa:=(by injection hYa)
  (try simp only[show(1:Int).toNat=1 from rfl,Nat.reduceMul,Nat.reduceEqDiff,Go.Addr.add,↓reduceIte]at Jb)
  have qi633:(1<aJ.length)=True:=eq_true (by omega)
  (try rw[show((1:Int)).toNat=1 from rfl]at Jb)
  replace Qi:=eq_true Qi;replace Qp:=eq_true Qp;try go_wp2
  repeat(go_quiet (first|done);try go_wp2)
  go_ret;exact⟨by first|rfl|(simp[Zc3,Zc4]<;>rfl)|(simp only[←hji39];first|rfl|(simp[Zc3,Zc4]<;>rfl))|(simp[*,Zc3,Zc4]<;>rfl),bM HB.out⟩
 rw[if_neg c34]at H;have JN:(ay==3)=false:=beq_eq_false_iff_ne.mpr c34;have Wi:(ay !=3)=true:=bne_iff_ne.mpr c34;by_cases c62:ay=4
 case pos=>
  rw[if_pos c62]at H;have JQ:(ay==4)=true:=beq_iff_eq.mpr c62;have PL:(ay !=4)=false:=bne_eq_false_iff_eq.mpr c62;clear c62;by_cases c63:AB=true
  case neg=>
   replace c63:=Bool.eq_false_iff.mpr c63;subst c63;replace H:=ifF H;obtain⟨DF,A74,H⟩:=bnd H;try dsimp only at H
   obtain rfl:=sj H;try go_wp2_with (first|(go_at_call 44;(with_reducible refine(Zb0.calls _ _ l1 bg DF _ (cM (Kd.Zab HR1.out (bM HB.out))) HC1.out A74.out).mono ?_);rintro e w' ⟨rfl,⟨nd,rfl⟩⟩;(try first|exact⟨rfl,_,World.drewN_drewN _ _ _⟩|exact⟨rfl,_,Eq.trans (World.drewN_drewN _ _ _) (congrArg (World.drewN _) (Nat.add_assoc _ _ _))⟩)))
   repeat(go_quiet (first|(go_at_call 44;(with_reducible refine(Zb0.calls _ _ l1 bg DF _ (cM (Kd.Zab HR1.out (bM HB.out))) HC1.out A74.out).mono ?_);rintro e w' ⟨rfl,⟨nd,rfl⟩⟩;(try first|exact⟨rfl,_,World.drewN_drewN _ _ _⟩|exact⟨rfl,_,Eq.trans (World.drewN_drewN _ _ _) (congrArg (World.drewN _) (Nat.add_assoc _ _ _))⟩)));try go_wp2_with (first|(go_at_call 44;(with_reducible refine(Zb0.calls _ _ l1 bg DF _ (cM (Kd.Zab HR1.out (bM HB.out))) HC1.out A74.out).mono ?_);rintro e w' ⟨rfl,⟨nd,rfl⟩⟩;(try first|exact⟨rfl,_,World.drewN_drewN _ _ _⟩|exact⟨rfl,_,Eq.trans (World.drewN_drewN _ _ _) (congrArg (World.drewN _) (Nat.add_assoc _ _ _))⟩))))
   go_ret;exact⟨eR,bM HB.out⟩
  subst c63;rw[if_pos rfl]at H;obtain⟨oJ,A64,H⟩:=bnd H;try dsimp only at H
  by_cases c65:oJ=1
  case neg=>
   rw[if_neg c65]at H;have Wn:(oJ==1)=false:=beq_eq_false_iff_ne.mpr c65;have Wo:(oJ !=1)=true:=bne_iff_ne.mpr c65;obtain rfl:=sj H;try go_wp2_with (first|(go_at_call 44;(with_reducible refine(Zb0.calls _ _ l1 bg oJ _ (cM (Kd.Zab HR1.out (bM HB.out))) HC1.out A64.out).mono ?_);rintro e w' ⟨rfl,⟨nd,rfl⟩⟩;(try first|exact⟨rfl,_,World.drewN_drewN _ _ _⟩|exact⟨rfl,_,Eq.trans (World.drewN_drewN _ _ _) (congrArg (World.drewN _) (Nat.add_assoc _ _ _))⟩)))
   repeat(go_quiet (first|(go_at_call 44;(with_reducible refine(Zb0.calls _ _ l1 bg oJ _ (cM (Kd.Zab HR1.out (bM HB.out))) HC1.out A64.out).mono ?_);rintro e w' ⟨rfl,⟨nd,rfl⟩⟩;(try first|exact⟨rfl,_,World.drewN_drewN _ _ _⟩|exact⟨rfl,_,Eq.trans (World.drewN_drewN _ _ _) (congrArg (World.drewN _) (Nat.add_assoc _ _ _))⟩)));try go_wp2_with (first|(go_at_call 44;(with_reducible refine(Zb0.calls _ _ l1 bg oJ _ (cM (Kd.Zab HR1.out (bM HB.out))) HC1.out A64.out).mono ?_);rintro e w' ⟨rfl,⟨nd,rfl⟩⟩;(try first|exact⟨rfl,_,World.drewN_drewN _ _ _⟩|exact⟨rfl,_,Eq.trans (World.drewN_drewN _ _ _) (congrArg (World.drewN _) (Nat.add_assoc _ _ _))⟩))))
   go_ret;exact⟨eR,bM HB.out⟩
  rw[if_pos c65]at H;have Wn:(oJ==1)=true:=beq_iff_eq.mpr c65;have Wo:(oJ !=1)=false:=bne_eq_false_iff_eq.mpr c65;clear c65;obtain rfl:=sj H;try go_wp2_with (first|(go_at_call 44;(with_reducible refine(Zb0.calls _ _ l1 bg oJ _ (cM (Kd.Zab HR1.out (bM HB.out))) HC1.out A64.out).mono ?_);rintro e w' ⟨rfl,⟨nd,rfl⟩⟩;(try first|exact⟨rfl,_,World.drewN_drewN _ _ _⟩|exact⟨rfl,_,Eq.trans (World.drewN_drewN _ _ _) (congrArg (World.drewN _) (Nat.add_assoc _ _ _))⟩)))
  repeat(go_quiet (first|(go_at_call 44;(with_reducible refine(Zb0.calls _ _ l1 bg oJ _ (cM (Kd.Zab HR1.out (bM HB.out))) HC1.out A64.out).mono ?_);rintro e w' ⟨rfl,⟨nd,rfl⟩⟩;(try first|exact⟨rfl,_,World.drewN_drewN _ _ _⟩|exact⟨rfl,_,Eq.trans (World.drewN_drewN _ _ _) (congrArg (World.drewN _) (Nat.add_assoc _ _ _))⟩)));try go_wp2_with (first|(go_at_call 44;(with_reducible refine(Zb0.calls _ _ l1 bg oJ _ (cM (Kd.Zab HR1.out (bM HB.out))) HC1.out A64.out).mono ?_);rintro e w' ⟨rfl,⟨nd,rfl⟩⟩;(try first|exact⟨rfl,_,World.drewN_drewN _ _ _⟩|exact⟨rfl,_,Eq.trans (World.drewN_drewN _ _ _) (congrArg (World.drewN _) (Nat.add_assoc _ _ _))⟩))))
  go_ret;exact⟨eR,bM HB.out⟩
 rw[if_neg c62]at H;have JQ:(ay==4)=false:=beq_eq_false_iff_ne.mpr c62;have PL:(ay !=4)=true:=bne_iff_ne.mpr c62;by_cases c79:ay=5
 case neg=>
  rw[if_neg c79]at H;have JR:(ay==5)=false:=beq_eq_false_iff_ne.mpr c79;have JS:(ay !=5)=true:=bne_iff_ne.mpr c79;obtain⟨gK,hji108⟩:∃j_:Int,(wrap64 ((aJ.length:Int) / 2))=j_:=⟨_,rfl⟩;replace H:(if 0≤(gK)then(if(gK)≤(aJ.length:Int)then((Za1.f k (aJ.take ((gK):Int).toNat) (aJ.drop ((gK):Int).toNat)).bind fun qX=>(some (decide (qX≤0))))else(none))else(none))=some r:=by first|(rw[hji108]at H;exact H)|(simp only[hji108]at H ⊢;exact H)
  (try rw[hji108]at A3)
  (try rw[hji108]at A4)
  (try rw[hji108]at A5)
  have hji108w:(IntKind.i64.wrap ((aJ.length:Int) / 2))=gK:=(Zd0 _).trans hji108;by_cases c109:0≤(gK)
  case neg=>
   rw[if_neg c109]at H;exact absurd H (by simp)
  rw[if_pos c109]at H;have jNa:=eq_true c109;have jOa:decide (0≤(gK))=true:=decide_eq_true c109;clear c109;obtain⟨Sz,H⟩:=ifP H;have jPa:=eq_true Sz;have jQa:decide ((gK)≤(aJ.length:Int))=true:=decide_eq_true Sz;clear Sz;obtain⟨DY,GJ⟩:∃y_:List Int,y_=(aJ.take ((gK):Int).toNat):=⟨_,rfl⟩;replace H:((Za1.f k DY (aJ.drop ((gK):Int).toNat)).bind fun qX=>(some (decide (qX≤0))))=some r:=by first|(rw[GJ];with_reducible exact H)|(have H2_:=(Option.bind_some _ _).symm.trans H;rw[GJ];with_reducible exact H2_)|(have H2_:=(Option.bind_some _ _).symm.trans H;with_reducible exact H2_)|with_reducible exact H|(rw[GJ];exact H)|exact H
  have VN:=Za.mk GJ;clear GJ;have jRa:=eq_true (odt:0≤(gK));have jSa:=eq_true (odt:(gK)≤(aJ.length:Int));obtain⟨zI,GK⟩:∃y_:List Int,y_=(aJ.drop ((gK):Int).toNat):=⟨_,rfl⟩;replace H:((Za1.f k DY zI).bind fun qX=>(some (decide (qX≤0))))=some r:=by first|(rw[GK];with_reducible exact H)|(have H2_:=(Option.bind_some _ _).symm.trans H;rw[GK];with_reducible exact H2_)|(have H2_:=(Option.bind_some _ _).symm.trans H;with_reducible exact H2_)|with_reducible exact H|(rw[GK];exact H)|exact H
  have VO:=Za.mk GK;clear GK;obtain⟨qX,RV,H⟩:=bnd H;try dsimp only at H
  obtain rfl:=sj H;obtain⟨AQ,vP,dNa⟩:=Kd.Za8 fe.out;subst dNa;have TI:((gK):Int)≤((aJ.length:Int):Int):=odt;obtain⟨i0119,RS,_,hsz119,_⟩:=info_parts info3;have hroom119:aJ.length≤vP:=(Kd.Zah fe.out).2.1;have hC119:Kd.C (Kd.int .i64) _ AQ aJ.length aJ:=(Kd.Zah fe.out).2.2;have hcut119:=cut_to (P:=Tryz.prog) 24 3 .i64 Tryz.underlying24 RS AQ aJ.length vP (gK) (of_decide_eq_true (by first|(with_reducible assumption)|assumption)) TI hroom119;have Qc:=Kd.C_take (m:=((gK):Int).toNat) hC119 (by omega);have sU:DY.length=((gK):Int).toNat:=(by rw[VN.out,List.length_take];omega);rw[←VN.out]at Qc;rw[←sU]at hcut119;have Ba:=Za.mk Qc;have NW:=Za.mk (show DY.length≤vP from by omega);clear Qc hC119 hroom119 RS hsz119;have KY119:=Za.mk sU;clear sU;have KL119:=Za.mk (show((gK):Int).toNat≤aJ.length from by omega);replace TI:=eq_true TI;have TJ:((gK):Int)≤((aJ.length:Int):Int):=odt;obtain⟨i0120,RU,_,hsz120,_⟩:=info_parts info3;have hroom120:aJ.length≤vP:=(Kd.Zah fe.out).2.1;have hC120:Kd.C (Kd.int .i64) _ AQ aJ.length aJ:=(Kd.Zah fe.out).2.2;have dTa:(0:Int)≤((gK):Int):=odt;have hcut120:=cut_from (P:=Tryz.prog) 24 3 .i64 Tryz.underlying24 RU 1 hsz120 AQ aJ.length vP (gK) dTa TJ;have Fs:=Kd.C_drop (m:=((gK):Int).toNat) (c:=vP) hC120 (by omega) hroom120;obtain⟨h5a,hA120⟩:∃A1,A1=(if vP=((gK):Int).toNat then AQ else(AQ:Option Addr).map (·.add (((gK):Int).toNat*1))):=⟨_,rfl⟩;obtain⟨hIa,Qb⟩:∃c1,c1=vP - ((gK):Int).toNat:=⟨_,rfl⟩;have JU:zI.length=aJ.length - ((gK):Int).toNat:=(by rw[VO.out,List.length_drop]<;>omega);rw[show(aJ).drop ((gK):Int).toNat=zI from VO.out.symm]at Fs;replace Fs:Kd.C (Kd.int .i64) _ h5a zI.length zI:=(by rw[hA120];exact Fs);rw[←JU,←hA120,←Qb]at hcut120;have Bb:=Za.mk Fs;have NY:=Za.mk (show zI.length≤hIa from by rw[JU,Qb];exact Nat.sub_le_sub_right hroom120 _);clear Fs hC120 hroom120 RU hsz120 Qb;have KY120:=Za.mk JU;have KA120:=Za.mk hA120;clear JU hA120;have KL120:=Za.mk (show((gK):Int).toNat≤aJ.length from by omega);replace TJ:=eq_true TJ;try go_wp2_with (first|(go_at_call 45;(with_reducible refine(Za1.calls k _ _ DY _ _ zI qX _ ?side1 ?side2 ?side3 ?side4 RV.out).mono ?_);(case side1=>repeat(first|exact(by repeat(first|(with_reducible exact Ba.out)|(with_reducible refine Kd.C_alloc ?_ _)|(with_reducible refine Kd.Zbo ?_ _)|(with_reducible refine Kd.Zb3 ?_)|exact Ba.out))|(with_reducible refine Kd.C_alloc ?_ _)|(with_reducible refine Kd.Zbo ?_ _)|(with_reducible refine Kd.Zb3 ?_)));(case side2=>exact NW.out);(case side3=>repeat(first|exact(by repeat(first|(with_reducible exact Bb.out)|(with_reducible refine Kd.C_alloc ?_ _)|(with_reducible refine Kd.Zbo ?_ _)|(with_reducible refine Kd.Zb3 ?_)|exact Bb.out))|(with_reducible refine Kd.C_alloc ?_ _)|(with_reducible refine Kd.Zbo ?_ _)|(with_reducible refine Kd.Zb3 ?_)));(case side4=>exact NY.out);rintro e w' ⟨rfl,⟨nd,rfl⟩⟩;(try first|exact⟨rfl,_,World.drewN_drewN _ _ _⟩|exact⟨rfl,_,Eq.trans (World.drewN_drewN _ _ _) (congrArg (World.drewN _) (Nat.add_assoc _ _ _))⟩)))
  repeat(go_quiet (first|(go_at_call 45;(with_reducible refine(Za1.calls k _ _ DY _ _ zI qX _ ?side1 ?side2 ?side3 ?side4 RV.out).mono ?_);(case side1=>repeat(first|exact(by repeat(first|(with_reducible exact Ba.out)|(with_reducible refine Kd.C_alloc ?_ _)|(with_reducible refine Kd.Zbo ?_ _)|(with_reducible refine Kd.Zb3 ?_)|exact Ba.out))|(with_reducible refine Kd.C_alloc ?_ _)|(with_reducible refine Kd.Zbo ?_ _)|(with_reducible refine Kd.Zb3 ?_)));(case side2=>exact NW.out);(case side3=>repeat(first|exact(by repeat(first|(with_reducible exact Bb.out)|(with_reducible refine Kd.C_alloc ?_ _)|(with_reducible refine Kd.Zbo ?_ _)|(with_reducible refine Kd.Zb3 ?_)|exact Bb.out))|(with_reducible refine Kd.C_alloc ?_ _)|(with_reducible refine Kd.Zbo ?_ _)|(with_reducible refine Kd.Zb3 ?_)));(case side4=>exact NY.out);rintro e w' ⟨rfl,⟨nd,rfl⟩⟩;(try first|exact⟨rfl,_,World.drewN_drewN _ _ _⟩|exact⟨rfl,_,Eq.trans (World.drewN_drewN _ _ _) (congrArg (World.drewN _) (Nat.add_assoc _ _ _))⟩)));try go_wp2_with (first|(go_at_call 45;(with_reducible refine(Za1.calls k _ _ DY _ _ zI qX _ ?side1 ?side2 ?side3 ?side4 RV.out).mono ?_);(case side1=>repeat(first|exact(by repeat(first|(with_reducible exact Ba.out)|(with_reducible refine Kd.C_alloc ?_ _)|(with_reducible refine Kd.Zbo ?_ _)|(with_reducible refine Kd.Zb3 ?_)|exact Ba.out))|(with_reducible refine Kd.C_alloc ?_ _)|(with_reducible refine Kd.Zbo ?_ _)|(with_reducible refine Kd.Zb3 ?_)));(case side2=>exact NW.out);(case side3=>repeat(first|exact(by repeat(first|(with_reducible exact Bb.out)|(with_reducible refine Kd.C_alloc ?_ _)|(with_reducible refine Kd.Zbo ?_ _)|(with_reducible refine Kd.Zb3 ?_)|exact Bb.out))|(with_reducible refine Kd.C_alloc ?_ _)|(with_reducible refine Kd.Zbo ?_ _)|(with_reducible refine Kd.Zb3 ?_)));(case side4=>exact NY.out);rintro e w' ⟨rfl,⟨nd,rfl⟩⟩;(try first|exact⟨rfl,_,World.drewN_drewN _ _ _⟩|exact⟨rfl,_,Eq.trans (World.drewN_drewN _ _ _) (congrArg (World.drewN _) (Nat.add_assoc _ _ _))⟩))))
  go_ret;exact⟨by first|rfl|(simp[Zc3,Zc4]<;>rfl)|(simp only[←hji108];first|rfl|(simp[Zc3,Zc4]<;>rfl))|(simp[*,Zc3,Zc4]<;>rfl),bM HB.out⟩
 rw[if_pos c79]at H;have JR:(ay==5)=true:=beq_iff_eq.mpr c79;have JS:(ay !=5)=false:=bne_eq_false_iff_eq.mpr c79;clear c79;have H':=Za.mk H;clear H;try go_wp2
 repeat(go_quiet (first|done);try go_wp2)
 go_loopg [8] k (fun kq v8 w'=>∃(aG:Int),v8= .int .i64 aG∧Za (Za0.l1 kq aJ aG ay aa aj aW bi aA bg=some r)∧Za (kq≤k)∧Za (Kd.R (Kd.int .i64) 3 w' w.heap.size (fun _=>True) bta aJ)∧Za (w'.heap[PY]? =some (.cells #[.int .i64 ay,(.slice aQ aa.length aM),(.slice bN aj.length bP),.int .i64 aW,.int .i64 bi,(.slice dD aA.length dC),.int .i64 bg] 36 (0,0)))∧Za (Below w.heap.size w w'))
 case atStart=>exact⟨(0),eS,H',⟨Nat.le_refl _⟩,⟨rM fe.out⟩,⟨kM fV.out⟩,⟨bM HB.out⟩⟩
 case round=>
  clear H';try clear c1
  try clear c2
  try clear p2
  try clear c3
  try clear c4
  try clear c6
  try clear fK
  try clear rR
  try clear p6
  try clear q6
  try clear hx6
  try clear qi6
  try clear c7
  try clear c11
  try clear jA
  try clear za
  try clear c14
  try clear c20
  try clear P8
  try clear P9
  try clear c25
  try clear JM
  try clear c26
  try clear zf
  try clear c28
  try clear c34
  try clear JN
  try clear Wi
  try clear c35
  try clear Bh
  try clear JO
  try clear c36
  try clear JP
  try clear PG
  try clear c37
  try clear Wj
  try clear c38
  try clear Fb
  try clear c40
  try clear dza
  try clear c41
  try clear PH
  try clear PI
  try clear c62
  try clear JQ
  try clear PL
  try clear p62
  try clear q62
  try clear v6a
  try clear qi62
  try clear c63
  try clear p63
  try clear q63
  try clear v7a
  try clear qi63
  try clear p64
  try clear c65
  try clear Wn
  try clear Wo
  try clear c79
  try clear JR
  try clear JS
  try clear kz kC kD lJ lK wh wu kv kw ky lD lF vS vT
  try clear tu tC zL Cb Cc H7 H8 sW tq zx BJ BM GU GV
  try clear wz wB wC zM zN zO zP vW vX vY zy zz z8 zA
  try clear Rj Rk Rl Rm Rn Xv Xw QB QC QD QE QF WH WI
  try clear rD rE rF rG rH Ro Rp rq ru ry rz r9 QG QH
  try clear rJ rO Ii Ij Ik Rt Ru rA rC Hl Hm Ho QK QL
  try clear Ky Kz K3 K4 K5 X7 X8 Kj Kk Kl Km Kn WR WS
  try clear K6 K7 Rx Ry Rz fWa fXa Ko Kq QO QP QQ eqa era
  try clear rPa rQa rRa rSa rTa rUa rVa owa oxa oya oza o0a o1a o2a
  try clear Ch Ci Cj Ck Cm gqa gra BQ BR BS BU Ca e9a eAa
  try clear gta gua gva gwa gxa gya gza eBa eCa eDa eEa eFa eGa eHa
  try clear XE XF XG XH XI sja ska WY Xa Xb Xc Xd oFa oGa
  try clear R3 R4 R5 R6 R7 g0a g1a QR QS QT QU QV eIa eJa
  try clear g2a g3a g4a g5a g6a g7a g8a eKa eLa eMa eNa eOa ePa eQa
  try clear s0a s1a s2a s3a s4a s5a s6a oVa oWa oXa oYa paa pba pca
  try clear s7a s8a s9a sAa sBa sCa sDa pda pea pfa pga pha pia pja
  try clear g9a gAa gBa gCa gDa gEa gFa eRa eSa eTa eUa eVa eWa eXa
  try clear gGa gHa gIa gJa gKa gLa gMa eYa faa fba fca fda fea ffa
  try clear tfa tga tha tia tja tka tla pAa pBa pCa pDa pEa pFa pGa
  try clear XJ XK XL XM XN XO XP Xe Xf Xg Xh Xi Xj Xk
  try clear t0a t1a t2a t3a t4a t5a t6a pVa pWa pXa pYa qaa qba qca
  try clear gNa gOa gPa gQa gRa gSa gTa fga fha fia fja fka fla fna
  try clear tEa tFa tGa tHa tIa tJa tKa qka qla qma qna qoa qpa qqa
  try clear tLa tMa tNa tOa tPa tQa tRa qra qsa qta qua qva qwa qxa
  try clear sG sH sI vo vv wI wJ sw sD sF uX uY wG wH
  try clear tQ
  try clear nO
  try clear tT
  try clear Ja
  try clear YB
  try clear Jb
  try clear p2
  try clear p6
  try clear aGa
  try clear rV
  try clear Ak
  try clear Qg
  try clear Qh
  try clear Qi
  try clear aPa
  try clear rX
  try clear Ap
  try clear Qn
  try clear Qo
  try clear Qp
  obtain⟨aG,rfl,HA,HK1,aT,fV,HB⟩:=hrel
  cases gk with
  | zero => exact absurd HA.out (by simp [Za0.l1])
  |succ k1=>
   have H:=HA.out;clear HA;simp only[Za0.l1]at H;by_cases c84:aG<(aJ.length:Int)
   case neg=>
    rw[if_neg c84]at H;have d8a:decide (aG<(aJ.length:Int))=false:=decide_eq_false c84;clear c84;obtain rfl:=sj H;obtain⟨maa,mVa,dJa⟩:=Kd.Za8 aT.out;subst dJa;go_wp2
    repeat(go_quiet (fail);try go_wp2)
    go_ret;exact⟨eR,bM HB.out⟩
   rw[if_pos c84]at H;have d8a:decide (aG<(aJ.length:Int))=true:=decide_eq_true c84;clear c84;obtain⟨mKa,H⟩:=ifT H;obtain⟨mLa,H⟩:=ifT H;by_cases c87:(rd aj aG)=1
   case neg=>
    rw[if_neg c87]at H;have d9a:((rd aj aG)==1)=false:=beq_eq_false_iff_ne.mpr c87;have dAa:((rd aj aG) !=1)=true:=bne_iff_ne.mpr c87;by_cases c99:(rd aj aG)=(-1)
    case neg=>
     rw[if_neg c99]at H;have dFa:((rd aj aG)==(-1))=false:=beq_eq_false_iff_ne.mpr c99;have dGa:((rd aj aG) !=(-1))=true:=bne_iff_ne.mpr c99;have H':=Za.mk H;clear H;obtain⟨lYa,mUa,dIa⟩:=Kd.Za8 aT.out;subst dIa;obtain⟨lxa,lya,lza,l0a,l1a,l2a,l3a,kya,kza,k0a,k1a,k2a,k3a,k4a⟩:=cz7 fV.out;have ja:0≤(aG:Int):=odt;have jb:aG<(aj.length:Int):=odt;obtain⟨o6,rfl,gB⟩:=Kd.Zbh fo.out aG ja jb;replace gB:=hB HB.out gB;replace ja:=eq_true ja;replace jb:=eq_true jb;have uF:0≤(aG:Int):=odt;have uQ:aG<(aj.length:Int):=odt;obtain⟨ER,KL,pz⟩:=Kd.Zbh fo.out aG uF uQ;obtain rfl:o6=ER:=(by injection KL);replace pz:=hB HB.out pz;replace uF:=eq_true uF;replace uQ:=eq_true uQ;go_wp2
     repeat(go_quiet (fail);try go_wp2)
     go_roundg k1
     case measure=>have:=HK1.out;omega
     case rel=>exact⟨(wrap64 (aG+1)),eS,H',⟨by have:=HK1.out;omega⟩,⟨rM aT.out⟩,⟨kM fV.out⟩,⟨bM HB.out⟩⟩
    rw[if_pos c99]at H;have dFa:((rd aj aG)==(-1))=true:=beq_iff_eq.mpr c99;have dGa:((rd aj aG) !=(-1))=false:=bne_eq_false_iff_eq.mpr c99;clear c99;by_cases Co:(rd aJ aG)=0
    case pos=>
     rw[if_pos Co]at H;have afa:((rd aJ aG)==0)=true:=beq_iff_eq.mpr Co;have aga:((rd aJ aG) !=0)=false:=bne_eq_false_iff_eq.mpr Co;clear Co;obtain rfl:=sj H;obtain⟨lXa,mTa,dHa⟩:=Kd.Za8 aT.out;subst dHa;obtain⟨lea,lfa,lga,lha,lia,lja,lka,kfa,kga,kha,kia,kja,kka,kla⟩:=cz7 fV.out;have ja:0≤(aG:Int):=odt;have jb:aG<(aj.length:Int):=odt;obtain⟨o6,rfl,gB⟩:=Kd.Zbh fo.out aG ja jb;replace gB:=hB HB.out gB;replace ja:=eq_true ja;replace jb:=eq_true jb;have uF:0≤(aG:Int):=odt;have uQ:aG<(aj.length:Int):=odt;obtain⟨ER,KL,pz⟩:=Kd.Zbh fo.out aG uF uQ;obtain rfl:o6=ER:=(by injection KL);replace pz:=hB HB.out pz;replace uF:=eq_true uF;replace uQ:=eq_true uQ;have CX:0≤(aG:Int):=odt;have Dx:aG<(aJ.length:Int):=odt;obtain⟨dpa,rfl,YD⟩:=Kd.Zbh (Kd.Zah aT.out).2.2 aG CX Dx;replace CX:=eq_true CX;replace Dx:=eq_true Dx;go_wp2
     repeat(go_quiet (fail);try go_wp2)
     go_ret;exact⟨eR,bM HB.out⟩
    rw[if_neg Co]at H;have afa:((rd aJ aG)==0)=false:=beq_eq_false_iff_ne.mpr Co;have aga:((rd aJ aG) !=0)=true:=bne_iff_ne.mpr Co;have H':=Za.mk H;clear H;obtain⟨mD,mO,PP⟩:=Kd.Za8 aT.out;subst PP;obtain⟨lla,lma,lna,loa,lpa,lqa,lra,kma,kna,koa,kpa,kqa,kra,ksa⟩:=cz7 fV.out;have ja:0≤(aG:Int):=odt;have jb:aG<(aj.length:Int):=odt;obtain⟨o6,rfl,gB⟩:=Kd.Zbh fo.out aG ja jb;replace gB:=hB HB.out gB;replace ja:=eq_true ja;replace jb:=eq_true jb;have uF:0≤(aG:Int):=odt;have uQ:aG<(aj.length:Int):=odt;obtain⟨ER,KL,pz⟩:=Kd.Zbh fo.out aG uF uQ;obtain rfl:o6=ER:=(by injection KL);replace pz:=hB HB.out pz;replace uF:=eq_true uF;replace uQ:=eq_true uQ;have CX:0≤(aG:Int):=odt;have Dx:aG<(aJ.length:Int):=odt;obtain⟨dpa,rfl,YD⟩:=Kd.Zbh (Kd.Zah aT.out).2.2 aG CX Dx;replace CX:=eq_true CX;replace Dx:=eq_true Dx;go_wp2
    repeat(go_quiet (fail);try go_wp2)
    go_roundg k1
    case measure=>have:=HK1.out;omega
    case rel=>exact⟨(wrap64 (aG+1)),eS,H',⟨by have:=HK1.out;omega⟩,⟨rM aT.out⟩,⟨kM fV.out⟩,⟨bM HB.out⟩⟩
   rw[if_pos c87]at H;have d9a:((rd aj aG)==1)=true:=beq_iff_eq.mpr c87;have dAa:((rd aj aG) !=1)=false:=bne_eq_false_iff_eq.mpr c87;clear c87;by_cases c88:(rd aJ aG)=1
   case pos=>
    rw[if_pos c88]at H;have dBa:((rd aJ aG)==1)=true:=beq_iff_eq.mpr c88;have dCa:((rd aJ aG) !=1)=false:=bne_eq_false_iff_eq.mpr c88;clear c88;obtain rfl:=sj H;obtain⟨uVa,vua,iza⟩:=Kd.Za8 aT.out;subst iza;obtain⟨gUa,gVa,gWa,gXa,gYa,haa,hba,foa,fpa,fqa,fra,fsa,fta,fua⟩:=cz7 fV.out;have ja:0≤(aG:Int):=odt;have jb:aG<(aj.length:Int):=odt;obtain⟨o6,rfl,gB⟩:=Kd.Zbh fo.out aG ja jb;replace gB:=hB HB.out gB;replace ja:=eq_true ja;replace jb:=eq_true jb;have oC:0≤(aG:Int):=odt;have oG:aG<(aJ.length:Int):=odt;obtain⟨EP,rfl,Jc⟩:=Kd.Zbh (Kd.Zah aT.out).2.2 aG oC oG;replace oC:=eq_true oC;replace oG:=eq_true oG;go_wp2
    repeat(go_quiet (fail);try go_wp2)
    go_ret;exact⟨eR,bM HB.out⟩
   rw[if_neg c88]at H;have dBa:((rd aJ aG)==1)=false:=beq_eq_false_iff_ne.mpr c88;have dCa:((rd aJ aG) !=1)=true:=bne_iff_ne.mpr c88;by_cases c91:(rd aj aG)=(-1)
   case neg=>
    rw[if_neg c91]at H;have dDa:((rd aj aG)==(-1))=false:=beq_eq_false_iff_ne.mpr c91;have dEa:((rd aj aG) !=(-1))=true:=bne_iff_ne.mpr c91;have H':=Za.mk H;clear H;obtain⟨vca,v0a,i5a⟩:=Kd.Za8 aT.out;subst i5a;obtain⟨hta,hua,hwa,h0a,h2a,h3a,h4a,f4a,f5a,f6a,f7a,f8a,f9a,fAa⟩:=cz7 fV.out;have ja:0≤(aG:Int):=odt;have jb:aG<(aj.length:Int):=odt;obtain⟨o6,rfl,gB⟩:=Kd.Zbh fo.out aG ja jb;replace gB:=hB HB.out gB;replace ja:=eq_true ja;replace jb:=eq_true jb;have oC:0≤(aG:Int):=odt;have oG:aG<(aJ.length:Int):=odt;obtain⟨EP,rfl,Jc⟩:=Kd.Zbh (Kd.Zah aT.out).2.2 aG oC oG;replace oC:=eq_true oC;replace oG:=eq_true oG;have uE:0≤(aG:Int):=odt;have uP:aG<(aj.length:Int):=odt;obtain⟨EQ,KJ,pq⟩:=Kd.Zbh fo.out aG uE uP;obtain rfl:o6=EQ:=(by injection KJ);replace pq:=hB HB.out pq;replace uE:=eq_true uE;replace uP:=eq_true uP;go_wp2
    repeat(go_quiet (fail);try go_wp2)
    go_roundg k1
    case measure=>have:=HK1.out;omega
    case rel=>exact⟨(wrap64 (aG+1)),eS,H',⟨by have:=HK1.out;omega⟩,⟨rM aT.out⟩,⟨kM fV.out⟩,⟨bM HB.out⟩⟩
   rw[if_pos c91]at H;have dDa:((rd aj aG)==(-1))=true:=beq_iff_eq.mpr c91;have dEa:((rd aj aG) !=(-1))=false:=bne_eq_false_iff_eq.mpr c91;clear c91;by_cases c92:(rd aJ aG)=0
   case pos=>
    rw[if_pos c92]at H;have PN:((rd aJ aG)==0)=true:=beq_iff_eq.mpr c92;have PO:((rd aJ aG) !=0)=false:=bne_eq_false_iff_eq.mpr c92;clear c92;obtain rfl:=sj H;obtain⟨hDa,hRa,Tn⟩:=Kd.Za8 aT.out;subst Tn;obtain⟨uva,uwa,uxa,uya,uza,u0a,u1a,qQa,qRa,qSa,qTa,qUa,qVa,qWa⟩:=cz7 fV.out;have ja:0≤(aG:Int):=odt;have jb:aG<(aj.length:Int):=odt;obtain⟨o6,rfl,gB⟩:=Kd.Zbh fo.out aG ja jb;replace gB:=hB HB.out gB;replace ja:=eq_true ja;replace jb:=eq_true jb;have oC:0≤(aG:Int):=odt;have oG:aG<(aJ.length:Int):=odt;obtain⟨EP,rfl,Jc⟩:=Kd.Zbh (Kd.Zah aT.out).2.2 aG oC oG;replace oC:=eq_true oC;replace oG:=eq_true oG;have uE:0≤(aG:Int):=odt;have uP:aG<(aj.length:Int):=odt;obtain⟨EQ,KJ,pq⟩:=Kd.Zbh fo.out aG uE uP;obtain rfl:o6=EQ:=(by injection KJ);replace pq:=hB HB.out pq;replace uE:=eq_true uE;replace uP:=eq_true uP;have CW:0≤(aG:Int):=odt;have Dw:aG<(aJ.length:Int):=odt;obtain⟨Pw,SV,YC⟩:=Kd.Zbh (Kd.Zah aT.out).2.2 aG CW Dw;obtain rfl:EP=Pw:=(by injection SV);replace CW:=eq_true CW;replace Dw:=eq_true Dw;go_wp2
    repeat(go_quiet (fail);try go_wp2)
    go_ret;exact⟨eR,bM HB.out⟩
   rw[if_neg c92]at H;have PN:((rd aJ aG)==0)=false:=beq_eq_false_iff_ne.mpr c92;have PO:((rd aJ aG) !=0)=true:=bne_iff_ne.mpr c92;have H':=Za.mk H;clear H;obtain⟨vba,vza,i4a⟩:=Kd.Za8 aT.out;subst i4a;obtain⟨hca,hda,hea,hha,hma,hpa,hqa,fva,fwa,fxa,fya,fza,f2a,f3a⟩:=cz7 fV.out;have ja:0≤(aG:Int):=odt;have jb:aG<(aj.length:Int):=odt;obtain⟨o6,rfl,gB⟩:=Kd.Zbh fo.out aG ja jb;replace gB:=hB HB.out gB;replace ja:=eq_true ja;replace jb:=eq_true jb;have oC:0≤(aG:Int):=odt;have oG:aG<(aJ.length:Int):=odt;obtain⟨EP,rfl,Jc⟩:=Kd.Zbh (Kd.Zah aT.out).2.2 aG oC oG;replace oC:=eq_true oC;replace oG:=eq_true oG;have uE:0≤(aG:Int):=odt;have uP:aG<(aj.length:Int):=odt;obtain⟨EQ,KJ,pq⟩:=Kd.Zbh fo.out aG uE uP;obtain rfl:o6=EQ:=(by injection KJ);replace pq:=hB HB.out pq;replace uE:=eq_true uE;replace uP:=eq_true uP;have CW:0≤(aG:Int):=odt;have Dw:aG<(aJ.length:Int):=odt;obtain⟨Pw,SV,YC⟩:=Kd.Zbh (Kd.Zah aT.out).2.2 aG CW Dw;obtain rfl:EP=Pw:=(by injection SV);replace CW:=eq_true CW;replace Dw:=eq_true Dw;go_wp2
   repeat(go_quiet (fail);try go_wp2)
   go_roundg k1
   case measure=>have:=HK1.out;omega
   case rel=>exact⟨(wrap64 (aG+1)),eS,H',⟨by have:=HK1.out;omega⟩,⟨rM aT.out⟩,⟨kM fV.out⟩,⟨bM HB.out⟩⟩
end Go.Proofs.YtdpieallpbllkaaGreat.P
/- Does a constraint hold: meaning.Holds and secateurref06.Holds in plain words. -/
namespace Go.Proofs.YtdpieallpbllkaaGreat.P
open Go.RowKit Go.Proofs.YtdpieallpbllkaaGreatW.PrintWords Go.Proofs.YtdpieallpbllkaaGreatW.PrintLast Go.Proofs.YtdpieallpbllkaaGreatW.PrintMore
theorem ev_all {α β : Type} {F : α → Nat → Option β} {g : α → β} : ∀ {l : List α}, (∀ x ∈ l, Ev (F x) (g x)) → ∃ k0, ∀ k, k0 ≤ k → ∀ x ∈ l, F x k = some (g x)
  | [], _ => ⟨0, fun _ _ x hx => absurd hx List.not_mem_nil⟩
  |y::l,h=>by
    obtain⟨k1,h1⟩:=h y List.mem_cons_self;obtain⟨k2,h2⟩:=ev_all (fun x hx=>h x (List.mem_cons_of_mem _ hx));refine⟨max k1 k2,fun k hk x hx=> ?_⟩
    rcases List.mem_cons.1 hx with e|hx
    · rw[e];exact h1 k (by omega)
    exact h2 k (by omega) x hx
def ordV : List Int → List Int → Int
  | [], [] => 0
  | [], _ :: _ => -1
  | _ :: _, [] => 1
  |x::a,y::b=>if x<y then -1 else if x>y then 1 else ordV a b
theorem cmpI_f (x y:Int):cmp_Compare_int.f x y=some (if x<y then -1 else if x>y then 1 else 0):=by
  unfold cmp_Compare_int.f
  have e:∀z:Int,cmp_isNaN_int.f z=some false:=fun z=>by
    unfold cmp_isNaN_int.f
    simp
  rw[e,e];simp only[Option.bind_some,Bool.false_eq_true,if_false]
  split
  · rfl
  split<;>rfl
theorem cmp_loop (a b : List Int) (ha : a.length ≤ 1000000) : ∀ (d n : Nat), n + d = a.length → n ≤ b.length → Ev (fun k => Za3.l0 k a b a (a.length : Int) (n : Int)) (ordV (a.drop n) (b.drop n))
  |0,n,h,hb=>by
    rw[List.drop_eq_nil_of_le (show a.length≤n by omega)];by_cases q:a.length<b.length;rotate_left
    · refine Ev.step (G := fun _ => some 0) (fun k => by rw [Za3.l0, if_neg (by omega), if_neg (by omega)]) (Ev.const ?_)
      rw[List.drop_eq_nil_of_le (by omega)]
      rfl
    refine Ev.step (G:=fun _=>some (-1)) (fun k=>by rw[Za3.l0,if_neg (by omega),if_pos (by omega)]) (Ev.const ?_);rw[List.drop_eq_getElem_cons (by omega)]
    rfl
  |d+1,n,h,hb=>by
    have hn:n<a.length:=by omega
    rw[List.drop_eq_getElem_cons hn];by_cases q:b.length≤n
    · rw [List.drop_eq_nil_of_le q]
      exact Ev.step (G:=fun _=>some 1) (fun k=>by rw[Za3.l0,if_pos (by omega),if_pos (by omega),if_pos (by omega),if_pos (by omega)]) (Ev.const rfl)
    have hnb:n<b.length:=by omega
    rw[List.drop_eq_getElem_cons hnb,ordV];refine Ev.step (fun k=>by rw[Za3.l0,if_pos (by omega),if_pos (by omega),if_pos (by omega),if_neg (by omega),if_pos (by omega),Zc1 _ _ hn,Zc1 _ _ hnb,cmpI_f,w1 (by omega)]) (Ev.bind (Ev.const rfl) ?_);by_cases q1:a[n]<b[n]
    · rw [if_pos q1, if_pos q1]
      exact Ev.Za5 (by decide) (Ev.const rfl)
    rw[if_neg q1,if_neg q1];by_cases q2:a[n]>b[n]
    · rw [if_pos q2, if_pos q2]
      exact Ev.Za5 (by decide) (Ev.const rfl)
    rw[if_neg q2,if_neg q2];exact Ev.Zas rfl (cmp_loop a b ha d (n+1) (by omega) (by omega))
theorem cmp_ev (a b:List Int) (ha:a.length≤1000000):Ev (fun k=>Za3.f k a b) (ordV a b):=cmp_loop a b ha a.length 0 (by omega) (Nat.zero_le _)
theorem Zh6 (a b : List Int) (ha : a.length ≤ 1000000) : ∀ (d n : Nat), n + d = a.length → n ≤ b.length → Ev (fun k => Za1.l0 k a b (n : Int)) (ordV (a.drop n) (b.drop n))
  |0,n,h,hb=>by
    rw[List.drop_eq_nil_of_le (show a.length≤n by omega)];refine Ev.step (fun k=>by rw[Za1.l0,if_neg (by omega)]) ?_;by_cases q:a.length<b.length
    · refine Ev.step (G := fun _ => some (-1)) (fun k => by rw [Za1.j1, if_neg (by simp), if_pos (by omega)]) (Ev.const ?_)
      rw[List.drop_eq_getElem_cons (by omega)]
      rfl
    refine Ev.step (G:=fun _=>some 0) (fun k=>by rw[Za1.j1,if_neg (by simp),if_neg (by omega),if_neg (by omega)]) (Ev.const ?_);rw[List.drop_eq_nil_of_le (by omega)]
    rfl
  |d+1,n,h,hb=>by
    have hn:n<a.length:=by omega
    rw[List.drop_eq_getElem_cons hn];by_cases q:b.length≤n
    · rw [List.drop_eq_nil_of_le q]
      refine Ev.step (fun k=>by rw[Za1.l0,if_pos (by omega),decide_eq_false (by omega)]) ?_;exact Ev.step (G:=fun _=>some 1) (fun k=>by rw[Za1.j1,if_neg (by simp),if_neg (by omega),if_pos (by omega)]) (Ev.const rfl)
    have hnb:n<b.length:=by omega
    rw[List.drop_eq_getElem_cons hnb,ordV];refine Ev.step (fun k=>by rw[Za1.l0,if_pos (by omega),decide_eq_true (by omega)]) ?_;refine Ev.step (fun k=>by rw[Za1.j1,if_pos rfl,if_pos (by omega),if_pos (by omega),if_pos (by omega),Zc1 _ _ hn,Zc1 _ _ hnb,w1 (by omega)]) ?_;by_cases q1:a[n]<b[n]
    · rw [if_pos q1]
      exact Ev.Zas q1 (Ev.const rfl)
    rw[if_neg q1];refine Ev.Za5 q1 ?_;by_cases q2:a[n]>b[n]
    · rw [if_pos q2]
      exact Ev.Zas q2 (Ev.const rfl)
    rw[if_neg q2];exact Ev.Za5 q2 (Zh6 a b ha d (n+1) (by omega) (by omega))
theorem order_ev (a b:List Int) (ha:a.length≤1000000):Ev (fun k=>Za1.f k a b) (ordV a b):=Zh6 a b ha a.length 0 (by omega) (Nat.zero_le _)
theorem Zhy (a b : List Int) (ha : a.length ≤ 1000000) (he : a.length = b.length) : ∀ (d n : Nat), n + d = a.length → Ev (fun k => slices_Equal_int.l0 k a b (a.length : Int) (n : Int)) (decide (a.drop n = b.drop n))
  |0,n,h=>by
    rw[List.drop_eq_nil_of_le (show a.length≤n by omega),List.drop_eq_nil_of_le (show b.length≤n by omega)];exact Ev.step (G:=fun _=>some true) (fun k=>by rw[slices_Equal_int.l0,if_neg (by omega)]) (Ev.const (by simp))
  |d+1,n,h=>by
    have hn:n<a.length:=by omega
    have hnb:n<b.length:=by omega
    rw[List.drop_eq_getElem_cons hn,List.drop_eq_getElem_cons hnb];refine Ev.step (fun k=>by rw[slices_Equal_int.l0,if_pos (by omega),if_pos (by omega),if_pos (by omega),if_pos (by omega),Zc1 _ _ hn,Zc1 _ _ hnb,w1 (by omega)]) ?_;by_cases q:a[n]=b[n];rotate_left
    · have e : decide (a[n] :: a.drop (n + 1) = b[n] :: b.drop (n + 1)) = false := by simp only [List.cons.injEq, q, false_and, decide_false]
      rw[e];exact Ev.Za5 q (Ev.const rfl)
    have e:decide (a[n]::a.drop (n+1)=b[n]::b.drop (n+1))=decide (a.drop (n+1)=b.drop (n+1)):=by simp only[List.cons.injEq,q,true_and]
    rw[e];exact Ev.Zas q (Zhy a b ha he d (n+1) (by omega))
theorem equal_ev (a b:List Int) (ha:a.length≤1000000):Ev (fun k=>slices_Equal_int.f k a b) (decide (a=b)):=by
  unfold slices_Equal_int.f;by_cases h:a.length=b.length
  · exact Ev.Zas (by omega) (Zhy a b ha h a.length 0 (by omega))
  refine Ev.Za5 (by omega) (Ev.const ?_);rw[decide_eq_false (fun e=>h (by rw[e]))]
def cmpB (op n rhs:Int):Bool:=if op=0 then decide (n≤rhs)else if op=1 then decide (n=rhs)else decide (n≠rhs)
def holdB (kd:Int) (vars coefs:List Int) (op rhs:Int) (rows:List (List Int)) (b:Int) (a:List Int):Bool:=
  if kd=0 then cmpB op (dotV coefs (vars.map (atV a))) rhs
  else if kd=1 then decide ((sd (vars.map (atV a))).length=vars.length)
  else if kd=2 then rows.any fun x=>decide (x=vars.map (atV a))
  else if kd=3 then elemB (vars.map (atV a))
  else if kd=4 then decide (atV a b=if cmpB op (dotV coefs (vars.map (atV a))) rhs=true then 1 else 0)
  else if kd=5 then clG coefs (vars.map (atV a)) (vars.map (atV a)).length 0
  else decide (ordV ((vars.map (atV a)).take ((vars.map (atV a)).length / 2)) ((vars.map (atV a)).drop ((vars.map (atV a)).length / 2))≤0)
theorem atV_small {a:List Int} (h:smallV a) (v:Int): -1048576≤atV a v∧atV a v≤1048576:=by
  unfold atV
  split
  · omega
  split
  · omega
  rename_i h1 h2
  have hv:v.toNat<a.length:=by omega
  have e:rd a v=a[v.toNat]:=by simp[rd,List.getD_eq_getElem?_getD,List.getElem?_eq_getElem hv]
  rw[e];exact h _ (List.getElem_mem hv)
theorem Zfa {a:List Int} (h:smallV a) (vars:List Int):smallV (vars.map (atV a)):=fun x hx=>by
  obtain⟨v,_,rfl⟩:=List.mem_map.1 hx;exact atV_small h v
theorem Zgf {d:List (List Rg)} {kd:Int} {vars coefs:List Int} {op rhs:Int} {rows:List (List Int)} {b:Int} (h:conE d kd vars coefs op rhs rows b=0):0≤kd∧kd<7∧rightB d kd vars coefs op rhs rows b=true∧tot coefs≤4611686018427387904:=by
  unfold conE at h
  split at h
  · exact absurd h (by decide)
  rename_i q0
  split at h
  · exact absurd h (by decide)
  split at h
  · exact absurd h (by decide)
  split at h
  · exact absurd h (by decide)
  rename_i q3
  split at h
  · rename_i q4
    exact⟨by omega,by omega,by simpa using q3,by omega⟩
  exact absurd h (by decide)
theorem sumB_len {vars coefs:List Int} (h:sumB vars coefs=true):vars.length=coefs.length:=by
  unfold sumB at h;simp only[Bool.and_eq_true,decide_eq_true_eq]at h;exact h.2.1
theorem Zfr {d : List (List Rg)} {kd : Int} {vars coefs : List Int} {op rhs : Int} {rows : List (List Int)} {b : Int} (h : rightB d kd vars coefs op rhs rows b = true) (h0 : 0 ≤ kd) (h7 : kd < 7) :
    ((kd=0∨kd=4)→vars.length=coefs.length∧0≤op∧op<3)∧(kd=5→vars.length=coefs.length)∧((kd=1∨kd=2∨kd=3∨kd=6)→coefs= [])∧(kd=3→3≤vars.length):=by
  unfold rightB at h
  split at h
  · cases h
  split at h
  · rename_i k
    subst k;simp only[heldB,Bool.and_eq_true,decide_eq_true_eq]at h;exact⟨fun _=>⟨sumB_len h.1.1,h.1.2.1,h.1.2.2⟩,fun e=>absurd e (by decide),fun e=>by omega,fun e=>by omega⟩
  split at h
  · rename_i k
    subst k;simp only[plainB,Bool.and_eq_true,decide_eq_true_eq]at h;exact⟨fun e=>by omega,fun e=>absurd e (by decide),fun _=>List.length_eq_zero_iff.1 h.1.1,fun e=>by omega⟩
  split at h
  · rename_i k
    subst k;simp only[plainB,Bool.and_eq_true,decide_eq_true_eq]at h;exact⟨fun e=>by omega,fun e=>absurd e (by decide),fun _=>List.length_eq_zero_iff.1 h.1.1,fun e=>by omega⟩
  split at h
  · rename_i k
    subst k;simp only[plainB,Bool.and_eq_true,decide_eq_true_eq]at h;exact⟨fun e=>by omega,fun e=>absurd e (by decide),fun _=>List.length_eq_zero_iff.1 h.1.1,fun _=>h.2.1⟩
  split at h
  · rename_i k
    subst k;simp only[heldB,Bool.and_eq_true,decide_eq_true_eq]at h;exact⟨fun _=>⟨sumB_len h.1.1,h.1.2.1,h.1.2.2⟩,fun e=>absurd e (by decide),fun e=>by omega,fun e=>by omega⟩
  split at h
  · rename_i k
    subst k;simp only[Bool.and_eq_true]at h;exact⟨fun e=>by omega,fun _=>sumB_len h.1,fun e=>by omega,fun e=>by omega⟩
  simp only[plainB,Bool.and_eq_true,decide_eq_true_eq]at h;exact⟨fun e=>by omega,fun e=>by omega,fun _=>List.length_eq_zero_iff.1 h.1.1,fun e=>by omega⟩
section
variable {d:List (List Rg)} {kd:Int} {vars coefs:List Int} {op rhs:Int} {rows:List (List Int)} {b:Int} {a:List Int}
theorem mheld_ev (h1:vars.length≤14) (he:vars.length=coefs.length) (ha:smallV a) (ht:tot coefs≤4611686018427387904):Ev (fun k=>Zb6.f k kd vars coefs op rhs rows b a) (cmpB op (dotV coefs (vars.map (atV a))) rhs):=by
  have hd:=dot_ev coefs (vars.map (atV a)) (by omega) (by rw[List.length_map];omega) (Zfa ha vars) ht;unfold Zb6.f cmpB;refine Ev.bind (a:=vars.map (atV a)) (Ev.const (by unfold Zcd.f;rw[if_pos (by omega)])) (Ev.bind hd ?_);by_cases q0:op=0
  · simp only[if_pos q0];exact Ev.const rfl
  simp only[if_neg q0];by_cases q1:op=1
  · simp only [if_pos q1]
    exact Ev.const (by first|rfl|(congr 1;rw[Bool.eq_iff_iff];simp))
  simp only[if_neg q1];exact Ev.const (by first|rfl|(congr 1;rw[Bool.eq_iff_iff];simp))
theorem holds_ev (hc:conE d kd vars coefs op rhs rows b=0) (h1:vars.length≤14) (h5:∀r ∈ rows,r.length≤14) (ha:smallV a):Ev (fun k=>Zb.f k kd vars coefs op rhs rows b a) (holdB kd vars coefs op rhs rows b a):=by
  obtain⟨k0,k7,hr,ht⟩:=Zgf hc;obtain⟨c1,c2,c3,c4⟩:=Zfr hr k0 k7;unfold Zb.f holdB;refine Ev.bind (a:=vars.map (atV a)) (Ev.const (by unfold Zcd.f;rw[if_pos (by omega)])) ?_;by_cases q0:kd=0
  · rw[if_pos q0];exact Ev.Zas q0 (mheld_ev h1 (c1 (.inl q0)).1 ha ht)
  rw[if_neg q0];refine Ev.Za5 q0 ?_;by_cases q1:kd=1
  · rw[if_pos q1];exact Ev.Zas q1 (Ev.const rfl)
  rw[if_neg q1];refine Ev.Za5 q1 ?_;by_cases q2:kd=2
  · rw [if_pos q2]; refine Ev.Zas q2 ?_
    obtain⟨k0,hk⟩:=ev_all (F:=fun x k=>slices_Equal_int.f k x (vars.map (atV a))) (g:=fun x=>decide (x=vars.map (atV a))) (l:=rows) (fun x hx=>equal_ev x _ (by have:=h5 x hx;omega));exact⟨k0,fun k hkk=>if_pos (List.all_eq_true.2 (fun x hx=>decide_eq_true (hk k hkk x hx)))⟩
  rw[if_neg q2];refine Ev.Za5 q2 ?_;by_cases q3:kd=3
  · rw[if_pos q3];exact Ev.Zas q3 (Ev.const rfl)
  rw[if_neg q3];refine Ev.Za5 q3 ?_;by_cases q4:kd=4
  · rw[if_pos q4];exact Ev.Zas q4 (Ev.bind (mheld_ev h1 (c1 (.inr q4)).1 ha ht) (Ev.const rfl))
  rw[if_neg q4];refine Ev.Za5 q4 ?_;by_cases q5:kd=5
  · rw[if_pos q5];exact Ev.Zas q5 (Ev.const rfl)
  rw[if_neg q5];refine Ev.Za5 q5 ?_;exact Ev.bind (cmp_ev _ _ (by rw[List.length_take,List.length_map];omega)) (Ev.const rfl)
theorem Zi (vars a : List Int) (hl : vars.length ≤ 1000000) : ∀ (d n : Nat) (acc : List Int), n + d = vars.length → acc.length ≤ n → Ev (fun k => Zbt.l0 k vars a acc (n : Int)) (acc ++ (vars.drop n).map (atV a))
  |0,n,acc,h,ha=>by
    rw[List.drop_eq_nil_of_le (by omega)];exact Ev.step (G:=fun _=>some acc) (fun k=>by rw[Zbt.l0,if_neg (by omega)]) (Ev.const (by simp))
  |d+1,n,acc,h,ha=>by
    have hn:n<vars.length:=by omega
    have ih:=Zi vars a hl d (n+1) (acc++ [atV a vars[n]]) (by omega) (by simp;omega);rw[List.append_assoc,List.singleton_append]at ih;rw[List.drop_eq_getElem_cons hn,List.map_cons];refine Ev.step (fun k=>by rw[Zbt.l0,if_pos (by omega),if_pos (by omega),Zc1 _ _ hn,refAt_f,w1 (by omega)]) (Ev.bind (a:=atV a vars[n]) (Ev.const rfl) ?_);have hlt:acc.length<17592186044416:=by omega
    exact Ev.Zas hlt ih
theorem rpick_ev (vars a:List Int) (hl:vars.length≤1000000):Ev (fun k=>Zbt.f k vars a) (vars.map (atV a)):=by
  unfold Zbt.f;have:=Zi vars a hl vars.length 0 [] (by omega) (by simp)
  simpa using this
theorem rows_loop (l : List Int) (hl : l.length ≤ 1000000) (kd : Int) (v1 v2 : List Int) (x3 x4 : Int) (hrl : rows.length ≤ 1000000) (hr : ∀ r ∈ rows, r.length ≤ 1000000) (x6 : Int) : ∀ (d n : Nat), n + d = rows.length → Ev (fun k => Za0.l0 k l (n : Int) kd v1 v2 x3 x4 rows x6) ((rows.drop n).any fun x => decide (x = l))
  |0,n,h=>by
    rw[List.drop_eq_nil_of_le (by omega)];exact Ev.step (G:=fun _=>some false) (fun k=>by rw[Za0.l0,if_neg (by omega)]) (Ev.const rfl)
  |d+1,n,h=>by
    have hn:n<rows.length:=by omega
    rw[List.drop_eq_getElem_cons hn,List.any_cons];have er:Zco rows (n:Int)=rows[n]:=by simp[Zco,List.getD_eq_getElem?_getD,List.getElem?_eq_getElem hn]
    refine Ev.step (fun k=>by rw[Za0.l0,if_pos (by omega),if_pos (by omega),er,w1 (by omega)]) (Ev.bind (ref_Nums rows[n] l (by have:=hr _ (List.getElem_mem hn);omega)) ?_);by_cases q:rows[n]=l
    · rw[decide_eq_true q,Bool.true_or];exact Ev.Zas rfl (Ev.const rfl)
    rw[decide_eq_false q,Bool.false_or];exact Ev.Za5 (by simp) (rows_loop l hl kd v1 v2 x3 x4 hrl hr x6 d (n+1) (by omega))
theorem Zg3 (l : List Int) (hl : l.length ≤ 1000000) (kd : Int) (v1 : List Int) (he : l.length = coefs.length) (x3 x4 : Int) (x6 : Int) : ∀ (d n : Nat), n + d = l.length → Ev (fun k => Za0.l1 k l (n : Int) kd v1 coefs x3 x4 rows x6) (clG coefs l d n)
  | 0, n, h => Ev.step (G := fun _ => some false) (fun k => by rw [Za0.l1, if_neg (by omega)]) (Ev.const rfl)
  |d+1,n,h=>by
    have hn:n<l.length:=by omega
    have ih:=Zg3 l hl kd v1 he x3 x4 x6 d (n+1) (by omega);rw[clG];unfold clauseAt;rw[decide_eq_true (show n<coefs.length by omega),Bool.true_and];refine Ev.step (fun k=>by rw[Za0.l1,if_pos (by omega),if_pos (by omega),if_pos (by omega),w1 (by omega)]) ?_;have wi:rd coefs (n:Int)=coefs[n]:=Zc1 _ _ (by omega);have wl:rd l (n:Int)=l[n]:=Zc1 _ _ hn;rw[wi,wl];by_cases q1:coefs[n]=1
    · by_cases q2 : l[n] = 1
      · refine Ev.Zas q1 (Ev.Zas q2 (Ev.const ?_))
        simp[q1,q2]
      refine Ev.Zas q1 (Ev.Za5 q2 (Ev.Za5 (by omega) ?_))
      simpa[q1,q2] using ih
    refine Ev.Za5 q1 ?_;by_cases q3:coefs[n]= -1;rotate_left
    · refine Ev.Za5 q3 ?_
      simpa[q1,q3] using ih
    refine Ev.Zas q3 ?_;by_cases q4:l[n]=0;rotate_left
    · refine Ev.Za5 q4 ?_
      simpa[q3,q4] using ih
    refine Ev.Zas q4 (Ev.const ?_)
    simp[q3,q4]
theorem rsum_any (h1:vars.length≤14) (hx:vars.length=coefs.length∨coefs= []) (ha:smallV a) (ht:tot coefs≤4611686018427387904):Ev (fun k=>Zbq.f k vars coefs a) (dotV coefs (vars.map (atV a))):=by
  rcases hx with he|rfl
  · exact rsumD_ev vars coefs a (by omega) he (Zfa ha vars) ht
  unfold Zbq.f;by_cases q:0<vars.length;rotate_left
  · exact Ev.step (G:=fun _=>some 0) (fun k=>by rw[Zbq.l0,if_neg (by omega)]) (Ev.const (by simp[dotV]))
  exact Ev.step (G:=fun _=>some 0) (fun k=>by rw[Zbq.l0,if_pos (by omega),if_neg (by simp)]) (Ev.const (by simp[dotV]))
def heldR (op n rhs:Int):Bool:=if op=0 then decide (n≤rhs)else((n==rhs)==(op==1))
theorem heldR_f (op n rhs:Int):Zd.f op n rhs=some (heldR op n rhs):=by
  unfold Zd.f heldR;by_cases q:op=0
  · rw[if_pos q,if_pos q]
  rw[if_neg q,if_neg q]
theorem heldR_cmp {op n rhs:Int} (h0:0≤op) (h3:op<3):heldR op n rhs=cmpB op n rhs:=by
  unfold heldR cmpB;by_cases q:op=0
  · rw[if_pos q,if_pos q]
  rw[if_neg q,if_neg q];by_cases q1:op=1
  · rw[if_pos q1];subst q1;simp;rw[Bool.eq_iff_iff];simp
  rw[if_neg q1];have e:(op==1)=false:=by simpa using q1
  rw[e]
  by_cases z:n=rhs<;>simp[z]
theorem rholds_ev (hc:conE d kd vars coefs op rhs rows b=0) (h1:vars.length≤14) (hrl:rows.length≤20) (h5:∀r ∈ rows,r.length≤14) (ha:smallV a):Ev (fun k=>Za0.f k kd vars coefs op rhs rows b a) (holdB kd vars coefs op rhs rows b a):=by
  obtain⟨k0,k7,hr,ht⟩:=Zgf hc;obtain⟨c1,c2,c3,c4⟩:=Zfr hr k0 k7
  have hx:vars.length=coefs.length∨coefs= []:=by
    by_cases e0:kd=0∨kd=4
    · exact .inl (c1 e0).1
    by_cases e5:kd=5
    · exact .inl (c2 e5)
    exact .inr (c3 (by omega))
  have hll:(vars.map (atV a)).length=vars.length:=List.length_map _;have hms:=Zfa ha vars;have hsum:=rsum_any h1 hx ha ht;unfold Za0.f holdB
  generalize hL:vars.map (atV a)=l at hll hms hsum ⊢
  have hpk:=rpick_ev vars a (by omega);rw[hL]at hpk;refine Ev.bind hpk (Ev.bind hsum (Ev.bind (Ev.const (heldR_f op _ rhs)) ?_));by_cases q0:kd=0
  · rw[if_pos q0];exact Ev.Zas q0 (Ev.const (by rw[heldR_cmp (c1 (.inl q0)).2.1 (c1 (.inl q0)).2.2]))
  rw[if_neg q0];refine Ev.Za5 q0 ?_;by_cases q1:kd=1
  · rw [if_pos q1]
    refine Ev.Zas q1 (Ev.bind (Zgk l (by omega)) (Ev.const ?_))
    congr 1
    rw[Bool.eq_iff_iff]
    simp
    omega
  rw[if_neg q1];refine Ev.Za5 q1 ?_;by_cases q2:kd=2
  · rw [if_pos q2]
    have:=rows_loop (rows:=rows) l (by omega) kd vars coefs op rhs (by omega) (fun r hr=>by have:=h5 r hr;omega) b rows.length 0 (by omega);rw[List.drop_zero]at this;exact Ev.Zas q2 this
  rw[if_neg q2];refine Ev.Za5 q2 ?_;by_cases q3:kd=3
  · rw [if_pos q3]
    have h3:=c4 q3;have e0:rd l (0:Int)=l[0]'(by omega):=Zc1 l 0 (by omega);have e1:rd l (1:Int)=l[1]'(by omega):=Zc1 l 1 (by omega);have hs0:=hms _ (List.getElem_mem (show 0<l.length by omega));have hw:wrap64 (rd l 0+2)=rd l 0+2:=w64 (by omega) (by omega);refine Ev.Zas q3 (Ev.Zas (by omega) (Ev.Zas (by omega) ?_));rw[hw];unfold elemB;rw[decide_eq_true (show 2≤l.length by omega),Bool.true_and];by_cases z0:0≤rd l 0;rotate_left
    · rw [decide_eq_false z0, Bool.false_and]
      exact Ev.Za5 (by omega) (Ev.const rfl)
    rw[decide_eq_true z0,Bool.true_and];refine Ev.Zas z0 ?_;by_cases z1:rd l 0<(l.length:Int) - 2;rotate_left
    · rw [decide_eq_false z1, Bool.false_and]
      exact Ev.Za5 (by omega) (Ev.const rfl)
    rw[decide_eq_true z1,Bool.true_and];refine Ev.Zas (by omega) (Ev.Zas (by omega) (Ev.Zas (by omega) (Ev.const ?_)));rw[Int.add_comm (rd l 0) 2]
    congr 1
  rw[if_neg q3];refine Ev.Za5 q3 ?_;by_cases q4:kd=4
  · rw [if_pos q4]
    refine Ev.Zas q4 ?_;rw[heldR_cmp (c1 (.inr q4)).2.1 (c1 (.inr q4)).2.2]
    cases cmpB op (dotV coefs l) rhs with
    |true=>
      refine Ev.Zas rfl (Ev.bind (Ev.const (refAt_f a b)) ?_);by_cases z:atV a b=1
      · exact Ev.Zas z (Ev.const (by simp[z]))
      exact Ev.Za5 z (Ev.const (by simp[z]))
    |false=>
      refine Ev.Za5 (by simp) (Ev.bind (Ev.const (refAt_f a b)) (Ev.const ?_))
      congr 1
  rw[if_neg q4];refine Ev.Za5 q4 ?_;by_cases q5:kd=5
  · rw [if_pos q5]
    have h5:=c2 q5;exact Ev.Zas q5 (Zg3 l (by omega) kd vars (by omega) op rhs b l.length 0 (by omega))
  rw[if_neg q5];refine Ev.Za5 q5 ?_;have hw:wrap64 ((l.length:Int) / 2)=((l.length / 2:Nat):Int):=by rw[w64 (by omega) (by omega)];omega
  rw[hw,Int.toNat_natCast];exact Ev.Zas (by omega) (Ev.Zas (by omega) (Ev.bind (order_ev _ _ (by rw[List.length_take];omega)) (Ev.const rfl)))
end
end Go.Proofs.YtdpieallpbllkaaGreat.P
/- dom.Least and dom.Next, inside a fence (for the iterator meaning.all). -/
namespace Go.Proofs.YtdpieallpbllkaaGreat.P
open Go.RowKit Go.Shelf Go.Proofs.YtdpieallpbllkaaGreatW.PrintWords Go.Proofs.YtdpieallpbllkaaGreatW.PrintLast Go.Proofs.YtdpieallpbllkaaGreatW.PrintMore
attribute [local go_sem] Oper.semAt_some
def leastV : List S82 → Int × Bool
  | [] => (0, false)
  |x::_=>(x.f0,true)
def nextV (v : Int) : List S82 → Int × Bool
  | [] => (0, false)
  |x::d=>if v<x.f1 then(max x.f0 (wrap64 (v+1)),true)else nextV v d
theorem least_in (F : Fence) (n : Nat) (h : F.fn 83) (hro : F.round = none) (A : Option Addr) (c : Nat) (zs : List S82) (w : World) (hr : Kd.C k82 w A zs.length zs) :
    CallsIn F n Tryz.prog 83 #[.slice A zs.length c] w fun e w'=>e= .returned (.tuple #[.int .i64 (leastV zs).1,.bool (leastV zs).2])∧w'=w:=by
  refine callsIn_of_wp Tryz.func83 rfl h ?_ hro;simp only[Tryz.ntmps83,List.size_toArray,List.length_cons,List.length_nil,Nat.reduceAdd,Nat.reduceSub,Array.replicate_succ,Array.replicate_zero,List.push_toArray,List.append_toArray,List.nil_append,List.cons_append];have hlen:zs.length≤9223372036854775807:=hr.2.1
  cases zs with
  |nil=>
    clear hr
    gi_wp2
    go_ret2
    exact⟨rfl,rfl⟩
  |cons x d=>
    obtain⟨ad,rfl,hx0,hx1⟩:=Zen hr (0:Int) (by omega) (by simp);have p1_:decide ((0:Int)<((x::d).length:Int))=true:=decide_eq_true (by simp);have p2_:(((x::d).length:Int)==0)=false:=beq_eq_false_iff_ne.2 (by simp;omega);have hx0q:w.cell? ad=some (.int .i64 x.f0):=by first|exact hx0|(simpa using hx0)|(simpa[Addr.add] using hx0)
    have p3_:0<(x::d).length:=by simp
    generalize hL:(x::d).length=L at*
    have HL:=Za.mk hL;clear hL hr hx0 hx1
    gi_wp2
    go_ret2
    exact⟨rfl,rfl⟩
theorem drop_atR {zs:List S82} {k:Nat} (h:k<zs.length):zs.drop k=Zbr zs (k:Int)::zs.drop (k+1):=by
  rw[List.drop_eq_getElem_cons h]
  simp[Zbr,List.getD_eq_getElem?_getD,List.getElem?_eq_getElem h]
set_option maxRecDepth 100000 in
theorem next_in (F : Fence) (n : Nat) (h : F.fn 84) (hro : F.round = none) (A : Option Addr) (c : Nat) (zs : List S82) (v : Int) (w : World) (hr : Kd.C k82 w A zs.length zs) :
    CallsIn F n Tryz.prog 84 #[.slice A zs.length c,.int .i64 v] w fun e w'=>e= .returned (.tuple #[.int .i64 (nextV v zs).1,.bool (nextV v zs).2])∧Below w.heap.size w w':=by
  refine callsIn_of_wp Tryz.func84 rfl h ?_ hro;simp only[Tryz.ntmps84,List.size_toArray,List.length_cons,List.length_nil,Nat.reduceAdd,Nat.reduceSub,Array.replicate_succ,Array.replicate_zero,List.push_toArray,List.append_toArray,List.nil_append,List.cons_append];have hlen:zs.length≤9223372036854775807:=hr.2.1
  generalize hR:nextV v zs=R
  have HR:=Za.mk hR;clear hR
  gi_wp2
  gi_loopw [10] (fun i10 wr => ∃ k : Nat, k ≤ zs.length ∧ i10 = .int .i64 k ∧ Za (nextV v (zs.drop k) = R) ∧ Below w.heap.size w wr)
    (fun i _=>zs.length - (intOf i).toNat)
  case atStart=>exact⟨0,Nat.zero_le _,rfl,⟨HR.out⟩,Below.refl _ _⟩
  case round=>
    obtain⟨k,hk,rfl,HS,hb⟩:=hrel;by_cases hlt:k<zs.length;rotate_left
    · obtain rfl : k = zs.length := by omega
      have hR2:=HS.out;rw[List.drop_length]at hR2;subst hR2
      gi_wp2
      go_ret2
      exact⟨rfl,hb⟩
    obtain⟨ad,rfl,hx0,hx1⟩:=Zen hr (k:Int) (by omega) (by omega);have hx0:=(hb.cell (World.block_lt_of_cell? w _ hx0)).trans hx0;have hx1:=(hb.cell (World.block_lt_of_cell? w _ hx1)).trans hx1;have hd:=HS.out;rw[drop_atR hlt,nextV]at hd;have HD:=Za.mk hd;clear hd HS;simp only[Int.toNat_natCast]at hx0 hx1
    generalize Zbr zs (k:Int)=x at hx0 hx1 HD
    by_cases hv:v<x.f1;rotate_left
    · have hd := HD.out
      rw[if_neg hv]at hd;have HS:=Za.mk hd;have d1_:decide (v<x.f1)=false:=decide_eq_false hv;clear hd HD
      gi_wp2
      go_roundw
      case rel=>exact⟨k+1,by omega,by first|rfl|go_num,HS,hb.alloc hb.size _⟩
      case measure=>simp[intOf];omega
    have hd:=HD.out;rw[if_pos hv]at hd;subst hd;have d1_:decide (v<x.f1)=true:=decide_eq_true hv;have hb1:Below w.heap.size w (wr.alloc (.cells #[.int .i64 x.f0,.int .i64 x.f1] 82)):=hb.alloc hb.size _
    gi_wp2
    all_goals go_ret2
    all_goals refine⟨?_,hb1⟩
    all_goals(generalize wrap64 (v+1)=u at*)
    all_goals(first|rfl|(congr 4;omega)|(simp;omega))
end Go.Proofs.YtdpieallpbllkaaGreat.P
/- The lists that meaning.all yields, in plain words: from the least values on, the last place first. -/
namespace Go.Proofs.YtdpieallpbllkaaGreat.P
open Go.RowKit Go.Proofs.YtdpieallpbllkaaGreatW.PrintWords Go.Proofs.YtdpieallpbllkaaGreatW.PrintLast Go.Proofs.YtdpieallpbllkaaGreatW.PrintMore
def incR (ds : List (List S82)) : Nat → List Int → List Int × Bool
  | 0, a => (a, false)
  |i+1,a=>if(nextV (a.getD i 0) (ds.getD i [])).2=true then(a.set i (nextV (a.getD i 0) (ds.getD i [])).1,true)else incR ds i (a.set i (leastV (ds.getD i [])).1)
def seqV (ds : List (List S82)) : Nat → List Int → Option (List (List Int))
  | 0, _ => none
  |m+1,a=>if(incR ds ds.length a).2=true then(seqV ds m (incR ds ds.length a).1).map (a::·)else some [a]
theorem seqV_mono (ds : List (List S82)) : ∀ m a r, seqV ds m a = some r → seqV ds (m + 1) a = some r
  | 0, _, _, h => by cases h
  |m+1,a,r,h=>by
    rw[seqV]at h;rw[seqV]
    split at h
    · rename_i q
      rw[if_pos q]
      cases e:seqV ds m (incR ds ds.length a).1 with
      | none => rw [e] at h; cases h
      |some s=>rw[seqV_mono ds m _ _ e];rw[e]at h;exact h
    rename_i q
    rw[if_neg q];exact h
theorem seqV_head {ds : List (List S82)} : ∀ {m : Nat} {a : List Int} {r : List (List Int)}, seqV ds m a = some r → ∃ s, r = a :: s
  | 0, _, _, h => by cases h
  |m+1,a,r,h=>by
    rw[seqV]at h
    split at h
    · cases e:seqV ds m (incR ds ds.length a).1 with
      | none => rw [e] at h; cases h
      |some s=>rw[e]at h;exact⟨s,(Option.some.inj h).symm⟩
    exact⟨[],(Option.some.inj h).symm⟩
theorem seqV_last {ds:List (List S82)} {m:Nat} {a:List Int} {r:List (List Int)} (h:seqV ds m a=some r) (e:(incR ds ds.length a).2=false):r= [a]:=by
  cases m with
  | zero => cases h
  |succ m=>
    rw[seqV,if_neg (by rw[e];decide)]at h;exact(Option.some.inj h).symm
theorem seqV_next {ds:List (List S82)} {m:Nat} {a:List Int} {r:List (List Int)} (h:seqV ds m a=some r) (e:(incR ds ds.length a).2=true):∃s,r=a::s∧seqV ds m (incR ds ds.length a).1=some s:=by
  cases m with
  | zero => cases h
  |succ m=>
    rw[seqV,if_pos e]at h
    cases e2:seqV ds m (incR ds ds.length a).1 with
    | none => rw [e2] at h; cases h
    |some s=>rw[e2]at h;exact⟨s,(Option.some.inj h).symm,seqV_mono ds m _ _ e2⟩
def startV (ds:List (List S82)):List Int:=ds.map fun d=>(leastV d).1
end Go.Proofs.YtdpieallpbllkaaGreat.P
/- All lists of values of domains, in order: what meaning.all yields, and what secateurref06.Grow grows, in plain words. -/
namespace Go.Proofs.YtdpieallpbllkaaGreat.P
open Go.RowKit Go.Proofs.YtdpieallpbllkaaGreatW.PrintWords Go.Proofs.YtdpieallpbllkaaGreatW.PrintLast Go.Proofs.YtdpieallpbllkaaGreatW.PrintMore
theorem Zfh (v : Int) (h64 : -4611686018427387904 ≤ v ∧ v ≤ 4611686018427387904) : ∀ {b : Int} {d : List Rg}, Gd 1048576 b d →
    ((nextV v d).2=true→Va d (nextV v d).1∧v<(nextV v d).1∧∀z,Va d z→v<z→(nextV v d).1≤z)∧((nextV v d).2=false→∀z,Va d z→z≤v)
  | _, [], _ => ⟨fun h => absurd h (by simp [nextV]), fun _ z h => absurd h (by simp)⟩
  |b,x::d,hg@⟨h1,h2,h3,h4⟩=>by
    have hw:wrap64 (v+1)=v+1:=w64 (by omega) (by omega);by_cases q:v<x.f1;rotate_left
    · have e : nextV v (x :: d) = nextV v d := by rw [nextV, if_neg q]
      rw[e];obtain⟨a1,a2⟩:=Zfh v h64 h4;refine⟨fun h=> ?_,fun h z hz=> ?_⟩
      · obtain ⟨b1, b2, b3⟩ := a1 h
        refine⟨(Zc6 _ _ _).2 (.inr b1),b2,fun z hz hv=> ?_⟩
        rcases(Zc6 _ _ _).1 hz with hz|hz
        · omega
        exact b3 z hz hv
      rcases(Zc6 _ _ _).1 hz with hz|hz
      · omega
      exact a2 h z hz
    have e:nextV v (x::d)=(max x.f0 (wrap64 (v+1)),true):=by rw[nextV,if_pos q]
    rw[e,hw];refine⟨fun _=>⟨(Zc6 _ _ _).2 (.inl ⟨by show x.f0≤max x.f0 (v+1);omega,by show max x.f0 (v+1)≤x.f1;omega⟩),by show v<max x.f0 (v+1);omega,fun z hz hv=> ?_⟩,fun h=>absurd h (by simp)⟩
    show max x.f0 (v+1)≤z
    rcases(Zc6 _ _ _).1 hz with hz|hz
    · omega
    have:=Gd.ge h4 hz;omega
theorem SS.filter {l:List Int} (h:SS l) (p:Int→Bool):SS (l.filter p):=List.Pairwise.filter p h
def overV (v:Int) (d:List Rg):List Int:=(vals d).filter fun z=>decide (v<z)
theorem overV_next {v b:Int} {d:List Rg} (h64: -4611686018427387904≤v∧v≤4611686018427387904) (hg:Gd 1048576 b d) (h:(nextV v d).2=true):overV v d=(nextV v d).1::overV (nextV v d).1 d:=by
  obtain⟨a1,a2,a3⟩:=(Zfh v h64 hg).1 h;refine SS.ext ((Zgm hg).filter _) (List.pairwise_cons.2 ⟨fun z hz=> ?_,(Zgm hg).filter _⟩) (fun z=> ?_)
  · have := (List.mem_filter.1 hz).2
    simpa using this
  unfold overV;rw[List.mem_cons,List.mem_filter,List.mem_filter,Zex,decide_eq_true_eq,decide_eq_true_eq]
  constructor
  · rintro ⟨hz, hv⟩
    have:=a3 z hz hv;by_cases e:z=(nextV v d).1
    · exact .inl e
    exact .inr ⟨hz,by omega⟩
  rintro(e|⟨hz,hv⟩)
  · rw[e];exact⟨a1,a2⟩
  exact⟨hz,by omega⟩
theorem overV_last {v b:Int} {d:List Rg} (h64: -4611686018427387904≤v∧v≤4611686018427387904) (hg:Gd 1048576 b d) (h:(nextV v d).2=false):overV v d= []:=by
  unfold overV;rw[List.filter_eq_nil_iff];intro z hz;have:=(Zfh v h64 hg).2 h z ((Zex z d).1 hz)
  simp;omega
theorem Zh3 {b:Int} {d:List Rg} (hg:Gd 1048576 b d) (hn:d≠ []):Va d (leastV d).1∧vals d=(leastV d).1::overV (leastV d).1 d:=by
  cases d with
  | nil => exact absurd rfl hn
  |cons x d=>
    obtain⟨h1,h2,h3,h4⟩:=hg;have hm:Va (x::d) x.f0:=(Zc6 _ _ _).2 (.inl ⟨Int.le_refl _,h2⟩);have hg':Gd 1048576 b (x::d):=⟨h1,h2,h3,h4⟩;refine⟨hm,SS.ext (Zgm hg') (List.pairwise_cons.2 ⟨fun z hz=> ?_,(Zgm hg').filter _⟩) (fun z=> ?_)⟩
    · have := (List.mem_filter.1 hz).2
      simpa using this
    show z ∈ vals (x::d)↔z ∈ x.f0::overV x.f0 (x::d)
    unfold overV;rw[List.mem_cons,List.mem_filter,Zex,decide_eq_true_eq]
    constructor
    · intro hz
      have hge:x.f0≤z:=Gd.ge (V:=1048576) (b:=x.f0) (d:=x::d) ⟨Int.le_refl _,h2,h3,h4⟩ hz;by_cases e:z=x.f0
      · exact .inl e
      exact .inr ⟨hz,by omega⟩
    rintro(e|⟨hz,_⟩)
    · rw[e];exact hm
    exact hz
def prV : List (List Rg) → List (List Int)
  | [] => [[]]
  |d::ds=>(vals d).flatMap fun x=>(prV ds).map (x::·)
def afterV : List (List Rg) → List Int → List (List Int)
  | d :: ds, x :: a => (afterV ds a).map (x :: ·) ++ (overV x d).flatMap fun y => (prV ds).map (y :: ·)
  |_,_=> [[]]
def GdS (ds:List (List Rg)):Prop:=∀d ∈ ds,Gd 1048576 (-1048576) d∧d≠ []
theorem Zfp : ∀ {ds : List (List Rg)}, GdS ds → afterV ds (startV ds) = prV ds
  | [], _ => rfl
  |d::ds,h=>by
    have hd:=h d List.mem_cons_self;have ih:=Zfp (ds:=ds) (fun x hx=>h x (List.mem_cons_of_mem _ hx))
    show(afterV ds (startV ds)).map _++_=_
    rw[ih,prV,(Zh3 hd.1 hd.2).2,List.flatMap_cons]
def InV : List (List Rg) → List Int → Prop
  | [], [] => True
  | d :: ds, x :: a => Va d x ∧ InV ds a
  |_,_=>False
theorem InV.len : ∀ {ds : List (List Rg)} {a : List Int}, InV ds a → a.length = ds.length
  | [], [], _ => rfl
  |d::ds,x::a,h=>by simp[InV.len h.2]
theorem start_in : ∀ {ds : List (List Rg)}, GdS ds → InV ds (startV ds)
  | [], _ => trivial
  |d::ds,h=>⟨(Zh3 (h d List.mem_cons_self).1 (h d List.mem_cons_self).2).1,start_in (fun x hx=>h x (List.mem_cons_of_mem _ hx))⟩
theorem incR_cons (d : List Rg) (ds : List (List Rg)) (x : Int) : ∀ (i : Nat) (a : List Int), incR (d :: ds) (i + 1) (x :: a) = if (incR ds i a).2 = true then (x :: (incR ds i a).1, true) else incR (d :: ds) 1 (x :: (incR ds i a).1)
  |0,a=>by
    have:incR ds 0 a=(a,false):=rfl;rw[this,if_neg (by simp)]
  |i+1,a=>by
    rw[incR];have e1:(x::a).getD (i+1) 0=a.getD i 0:=rfl;have e2:(d::ds).getD (i+1) []=ds.getD i []:=rfl;rw[e1,e2,incR.eq_2 ds]
    split
    · rfl
    rw[List.set_cons_succ];exact incR_cons d ds x i (a.set i _)
theorem incR_one (d:List Rg) (ds:List (List Rg)) (x:Int) (a:List Int):incR (d::ds) 1 (x::a)=if(nextV x d).2=true then((nextV x d).1::a,true)else((leastV d).1::a,false):=by
  rw[incR];have e1:(x::a).getD 0 0=x:=rfl;have e2:(d::ds).getD 0 []=d:=rfl;rw[e1,e2]
  split
  · rfl
  rfl
theorem inc_spec : ∀ {ds : List (List Rg)} {a : List Int}, GdS ds → InV ds a →
    ((incR ds ds.length a).2=true→InV ds (incR ds ds.length a).1∧afterV ds a=a::afterV ds (incR ds ds.length a).1)∧((incR ds ds.length a).2=false→(incR ds ds.length a).1=startV ds∧afterV ds a= [a])
  | [], [], _, _ => ⟨fun h => absurd h (by simp [incR]), fun _ => ⟨rfl, rfl⟩⟩
  | [], _ :: _, _, h => h.elim
  | _ :: _, [], _, h => h.elim
  |d::ds,x::a,hg,⟨hx,ha⟩=>by
    have hd:=hg d List.mem_cons_self;have hgs:GdS ds:=fun x hx=>hg x (List.mem_cons_of_mem _ hx)
    obtain⟨i1,i2⟩:=inc_spec hgs ha
    have hxb: -4611686018427387904≤x∧x≤4611686018427387904:=by
      have:=Gd.ge hd.1 hx;have:=Gd.le hd.1 hx
      omega
    show((incR (d::ds) (ds.length+1) (x::a)).2=true→InV (d::ds) (incR (d::ds) (ds.length+1) (x::a)).1∧afterV (d::ds) (x::a)=(x::a)::afterV (d::ds) (incR (d::ds) (ds.length+1) (x::a)).1)∧((incR (d::ds) (ds.length+1) (x::a)).2=false→(incR (d::ds) (ds.length+1) (x::a)).1=startV (d::ds)∧afterV (d::ds) (x::a)= [x::a])
    rw[incR_cons];by_cases q:(incR ds ds.length a).2=true
    · rw [if_pos q]
      obtain⟨j1,j2⟩:=i1 q;refine⟨fun _=>⟨⟨hx,j1⟩,?_⟩,fun h=>absurd h (by simp)⟩
      show(afterV ds a).map _++_=_
      rw[j2,List.map_cons,List.cons_append]
      rfl
    rw[if_neg q];obtain⟨j1,j2⟩:=i2 (Bool.eq_false_iff.2 q);rw[incR_one,j1];by_cases p:(nextV x d).2=true;rotate_left
    · rw [if_neg p]
      refine⟨fun h=>absurd h (by simp),fun _=>⟨rfl,?_⟩⟩
      show(afterV ds a).map _++(overV x d).flatMap _=_
      rw[j2,overV_last hxb hd.1 (Bool.eq_false_iff.2 p)]
      rfl
    rw[if_pos p];refine⟨fun _=>⟨⟨((Zfh x hxb hd.1).1 p).1,start_in hgs⟩,?_⟩,fun h=>absurd h (by simp)⟩
    show(afterV ds a).map _++(overV x d).flatMap _=(x::a)::((afterV ds (startV ds)).map _++(overV (nextV x d).1 d).flatMap _)
    rw[j2,overV_next hxb hd.1 p,List.flatMap_cons,Zfp hgs]
    rfl
theorem after_pos {ds:List (List Rg)} {a:List Int} (hg:GdS ds) (ha:InV ds a):0<(afterV ds a).length:=by
  obtain⟨h1,h2⟩:=inc_spec hg ha
  cases q:(incR ds ds.length a).2 with
  | true => rw [(h1 q).2]; simp
  |false=>rw[(h2 q).2];simp
theorem Zia : ∀ (m : Nat) {ds : List (List Rg)} {a : List Int}, GdS ds → InV ds a → (afterV ds a).length ≤ m → seqV ds m a = some (afterV ds a)
  | 0, ds, a, hg, ha, h => absurd h (by have := after_pos hg ha; omega)
  |m+1,ds,a,hg,ha,h=>by
    obtain⟨h1,h2⟩:=inc_spec hg ha;rw[seqV];by_cases q:(incR ds ds.length a).2=true;rotate_left
    · rw[if_neg q,(h2 (Bool.eq_false_iff.2 q)).2]
    rw[if_pos q];obtain⟨j1,j2⟩:=h1 q;rw[Zia m hg j1 (by rw[j2]at h;simpa using h),j2]
    rfl
theorem seqV_all {ds:List (List Rg)} (hg:GdS ds) {m:Nat} (hm:(prV ds).length≤m):seqV ds m (startV ds)=some (prV ds):=by
  have e:=Zfp hg;rw[←e];exact Zia m hg (start_in hg) (by rw[e];exact hm)
end Go.Proofs.YtdpieallpbllkaaGreat.P
/- dom.Has: whether a value is in a domain. -/
namespace Go.Proofs.YtdpieallpbllkaaGreat.P
open Go.RowKit Go.Shelf Go.Proofs.YtdpieallpbllkaaGreatW.PrintWords Go.Proofs.YtdpieallpbllkaaGreatW.PrintLast Go.Proofs.YtdpieallpbllkaaGreatW.PrintMore
theorem take_at_T82 {d:List S82} {k:Nat} (hk:k<d.length):d.take (k+1)=d.take k++ [Zbr d (k:Int)]:=by
  rw[List.take_succ_eq_append_getElem hk]
  simp[Zbr,List.getD_eq_getElem?_getD,List.getElem?_eq_getElem hk]
theorem Zg6 (p : S82 → Bool) (g : Nat) (lb : Array Value) (eg : ∀ args w, (callFunc g args).run Tryz.prog w = .ok (.enter g args) w) (A : Option Addr) (c : Nat) (zs : List S82) (w : World) (hr : Kd.C k82 w A zs.length zs)
    (hp:∀(x:S82) W,Below w.heap.size w W→Calls Tryz.prog g (#[.agg #[.int .i64 x.f0,.int .i64 x.f1]]++lb) W fun e w'=>e= .returned (.bool (p x))∧Below w.heap.size w w'):
    Calls Tryz.prog 97 #[.slice A zs.length c,.func (.func g) #[] lb] w fun e w'=>(∃i:Int,e= .returned (.int .i64 i)∧decide (0≤i)=zs.any p)∧Below w.heap.size w w':=by
  have hlen:zs.length≤9223372036854775807:=hr.2.1;have hany:∀k,zs.any p=((zs.take k).any p||(zs.drop k).any p):=fun k=>by rw[←List.any_append,List.take_append_drop]
  have HY:=Za.mk hany;clear hany;go_enter Tryz.func97,Tryz.ntmps97;go_wp2
  go_loopg [5,8] zs.length (fun gg _ s8 wr=>∃kk:Nat,kk≤zs.length∧zs.length - kk≤gg∧s8= .int .i64 kk∧Za (Below w.heap.size w wr)∧Za ((zs.take kk).any p=false))
  case atStart=>exact⟨0,Nat.zero_le _,by omega,rfl,⟨Below.refl _ _⟩,⟨by simp⟩⟩
  case round=>
    obtain⟨kk,hkk,hg,rfl,HB,A1⟩:=hrel;by_cases hlt:kk<zs.length;rotate_left
    · obtain rfl : kk = zs.length := by omega
      go_wp2;go_ret;refine⟨⟨_,rfl,?_⟩,HB.out⟩;have:=A1.out;rw[List.take_length]at this;rw[this]
      rfl
    obtain⟨ad,rfl,hx0,hx1⟩:=Zen hr (kk:Int) (by omega) (by omega);replace hx0:=(HB.out.cell (World.block_lt_of_cell? w _ hx0)).trans hx0;replace hx1:=(HB.out.cell (World.block_lt_of_cell? w _ hx1)).trans hx1;simp only[Int.toNat_natCast]at hx0 hx1;have hcall:=fun W=>hp (Zbr zs (kk:Int)) W
    clear hp;have htk:Za (zs.take (kk+1)=zs.take kk++ [Zbr zs (kk:Int)]):=⟨take_at_T82 hlt⟩
    generalize Zbr zs (kk:Int)=y at*
    cases hq:p y with
    |true=>
      rw[hq]at hcall;have B:=Za.mk hq;clear hq
      go_wp2_with (go_at_fn g;refine(hcall _ (by first|exact HB.out|exact HB.out.drewN _)).mono ?_;rintro e w' ⟨rfl,hb'⟩)
      go_ret;refine⟨⟨_,rfl,?_⟩,hb'⟩;rw[HY.out (kk+1),htk.out,List.any_append]
      simp[B.out]
    |false=>
      rw[hq]at hcall;have B:=Za.mk hq;clear hq
      go_wp2_with (go_at_fn g;refine(hcall _ (by first|exact HB.out|exact HB.out.drewN _)).mono ?_;rintro e w' ⟨rfl,hb'⟩)
      go_roundg (zs.length - (kk+1))
      case measure=>omega
      case rel=>exact⟨kk+1,by omega,by omega,by go_num,⟨hb'⟩,⟨by rw[htk.out,List.any_append,A1.out];simp[B.out]⟩⟩
theorem Zf1 (p : S82 → Bool) (g : Nat) (lb : Array Value) (eg : ∀ args w, (callFunc g args).run Tryz.prog w = .ok (.enter g args) w) (A : Option Addr) (c : Nat) (zs : List S82) (w : World) (hr : Kd.C k82 w A zs.length zs)
    (hp:∀(x:S82) W,Below w.heap.size w W→Calls Tryz.prog g (#[.agg #[.int .i64 x.f0,.int .i64 x.f1]]++lb) W fun e w'=>e= .returned (.bool (p x))∧Below w.heap.size w w'):
    Calls Tryz.prog 67 #[.slice A zs.length c,.func (.func g) #[] lb] w fun e w'=>e= .returned (.bool (zs.any p))∧Below w.heap.size w w':=by
  have hI:=Zg6 p g lb eg A c zs w hr hp;go_enter Tryz.func67,Tryz.ntmps67
  go_wp2_with (go_at_call 97;refine hI.mono ?_;rintro e w' ⟨⟨i,rfl,hi⟩,hb⟩)
  go_ret;exact⟨by rw[←hi];rfl,hb⟩
def inR (v:Int) (x:S82):Bool:=decide (x.f0≤v) && decide (v≤x.f1)
theorem hasPred (w : World) (v : Int) (b : Nat) (hb : w.cell? ⟨b, 0, none⟩ = some (.int .i64 v)) (hbl : b < w.heap.size) (x : S82) (W : World) (hW : Below w.heap.size w W) :
    Calls Tryz.prog 68 (#[.agg #[.int .i64 x.f0,.int .i64 x.f1]]++ #[.pointer (some ⟨b,0,none⟩)]) W fun e w'=>e= .returned (.bool (inR v x))∧Below w.heap.size w w':=by
  have hc:W.cell? ⟨b,0,none⟩=some (.int .i64 v):=(hW.cell (p:=⟨b,0,none⟩) hbl).trans hb;have hne:=hW.size;have hc2:(W.alloc (.cells #[.int .i64 x.f0,.int .i64 x.f1] 82)).cell? ⟨b,0,none⟩=some (.int .i64 v):=(((Below.refl _ W).alloc (Nat.le_refl _) _).cell (p:=⟨b,0,none⟩) (by show b<W.heap.size;omega)).trans hc
  show Calls Tryz.prog 68 #[.agg #[.int .i64 x.f0,.int .i64 x.f1],.pointer (some ⟨b,0,none⟩)] W fun e w'=>e= .returned (.bool (inR v x))∧Below w.heap.size w w'
  unfold inR;by_cases h0:x.f0≤v
  · have c0 : decide (x.f0 ≤ v) = true := decide_eq_true h0
    rw[c0,Bool.true_and];clear h0;go_enter Tryz.func68,Tryz.ntmps68;go_wp2;go_ret;exact⟨rfl,by repeat(first|exact hW|exact hW.alloc hne _|apply Zcf)⟩
  have c0:decide (x.f0≤v)=false:=decide_eq_false h0;rw[c0,Bool.false_and];clear h0;go_enter Tryz.func68,Tryz.ntmps68;go_wp2;go_ret;exact⟨rfl,by repeat(first|exact hW|exact hW.alloc hne _|apply Zcf)⟩
def Zg4.f (l0:List S82) (a1:Int):Option Bool:=some (l0.any (inR a1))
theorem Zg4.calls (A0 : Option Addr) (c0 : Nat) (l0 : List S82) (a1 : Int) (r : Bool) (w : World) (hr0 : Kd.C k82 w A0 l0.length l0) (hc0 : l0.length ≤ c0) (h : Zg4.f l0 a1 = some r) :
    Calls Tryz.prog 46 #[.slice A0 l0.length c0,.int .i64 a1] w fun e w'=>e= .returned (.bool r)∧Below w.heap.size w w':=by
  obtain rfl:=Option.some.inj h;clear h;have hB:Below w.heap.size w (w.alloc (.cells #[.int .i64 a1] 3)):=(Below.refl _ w).alloc (Nat.le_refl _) _
  have cC := Zf1 (inR a1) 68 #[.pointer (some ⟨w.heap.size, 0, none⟩)] (enters_of Tryz.func68 (by kernel_rfl) rfl) A0 c0 l0 (w.alloc (.cells #[.int .i64 a1] 3)) (Kd.Zab hr0 hB)
    (fun x W hW=>hasPred _ a1 w.heap.size (Boxed.new w 3 (.int .i64 a1)).cell (by simp) x W hW)
  clear hr0;go_enter Tryz.func46,Tryz.ntmps46
  go_wp2_with (go_at_call 67;refine cC.mono ?_;rintro e w' ⟨rfl,hb⟩)
  go_ret;exact⟨rfl,hB.trans (hb.mono (by simp))⟩
end Go.Proofs.YtdpieallpbllkaaGreat.P
/- meaning.Solves: do the values solve the model? (ContainsFunc over constraints; the loop over the variables.) -/
namespace Go.Proofs.YtdpieallpbllkaaGreat.P
open Go.RowKit Go.Shelf Go.Lib Go.Proofs.YtdpieallpbllkaaGreatW.PrintWords Go.Proofs.YtdpieallpbllkaaGreatW.PrintLast Go.Proofs.YtdpieallpbllkaaGreatW.PrintMore
theorem take_at_T36 {d:List S36} {k:Nat} (hk:k<d.length):d.take (k+1)=d.take k++ [Zaa d (k:Int)]:=by
  rw[List.take_succ_eq_append_getElem hk]
  simp[Zaa,List.getD_eq_getElem?_getD,List.getElem?_eq_getElem hk]
theorem indexFunc_Con (p : S36 → Bool) (g : Nat) (lb : Array Value) (eg : ∀ args w, (callFunc g args).run Tryz.prog w = .ok (.enter g args) w) (A : Option Addr) (c : Nat) (zs : List S36) (w : World) (hr : Kd.C k36 w A zs.length zs)
    (hp : ∀ (n : Nat), n < zs.length → ∀ x, x = Zaa zs (n : Int) → ∀ W, Below w.heap.size w W → ∀ A1 c1 A2 c2 A5 c5, x.f1.length ≤ c1 → Kd.C (Kd.int .i64) W A1 x.f1.length x.f1 → x.f2.length ≤ c2 → Kd.C (Kd.int .i64) W A2 x.f2.length x.f2 → x.f5.length ≤ c5 → Kd.C (Kd.slice 3 (Kd.int .i64)) W A5 x.f5.length x.f5 →
      Calls Tryz.prog g (#[.agg #[.int .i64 x.f0, .slice A1 x.f1.length c1, .slice A2 x.f2.length c2, .int .i64 x.f3, .int .i64 x.f4, .slice A5 x.f5.length c5, .int .i64 x.f6]] ++ lb) W fun e w' => e = .returned (.bool (p x)) ∧ Below W.heap.size W w') :
    Calls Tryz.prog 69 #[.slice A zs.length c,.func (.func g) #[] lb] w fun e w'=>(∃i:Int,e= .returned (.int .i64 i)∧decide (0≤i)=zs.any p)∧Below w.heap.size w w':=by
  have hlen:zs.length≤9223372036854775807:=hr.2.1;have hany:∀k,zs.any p=((zs.take k).any p||(zs.drop k).any p):=fun k=>by rw[←List.any_append,List.take_append_drop]
  have HY:=Za.mk hany;have HR:=Za.mk hr;have HP:=Za.mk hp;clear hany hr hp;obtain⟨wo,rfl⟩:∃wo:World,wo=w:=⟨_,rfl⟩;go_enter Tryz.func69,Tryz.ntmps69;go_wp2
  go_loopg [5,8] zs.length (fun gg _ s8 wr=>∃kk:Nat,kk≤zs.length∧zs.length - kk≤gg∧s8= .int .i64 kk∧Za (Below wo.heap.size wo wr)∧Za ((zs.take kk).any p=false))
  case atStart=>exact⟨0,Nat.zero_le _,by omega,rfl,⟨bM (Below.refl wo.heap.size wo)⟩,⟨by simp⟩⟩
  case round=>
    obtain⟨kk,hkk,hg,rfl,HB,A1⟩:=hrel;by_cases hlt:kk<zs.length;rotate_left
    · obtain rfl : kk = zs.length := by omega
      have p1_:decide ((zs.length:Int)<(zs.length:Int))=false:=decide_eq_false (by omega);go_wp2;go_ret;refine⟨⟨_,rfl,?_⟩,bM HB.out⟩;have:=A1.out;rw[List.take_length]at this;rw[this]
      rfl
    have hltz:(kk:Int)<(zs.length:Int):=by omega
    have p1_:decide ((kk:Int)<(zs.length:Int))=true:=decide_eq_true hltz;have p2_:decide ((0:Int)≤(kk:Int))=true:=decide_eq_true (by omega);obtain⟨ad,A1A,c1A,A2A,c2A,A5A,c5A,rfl,hx0,hx1,hx2,hx3,hx4,hx5,hx6,l1,g1,l2,g2,l5,g5⟩:=Zfw (Kd.Zab HR.out HB.out) (kk:Int) (by omega) hltz;have HC:=Za.mk (HP.out kk hlt _ rfl);have HG1:=Za.mk g1;have HG2:=Za.mk g2;have HG5:=Za.mk g5;clear g1 g2 g5;have htk:Za (zs.take (kk+1)=zs.take kk++ [Zaa zs (kk:Int)]):=⟨take_at_T36 hlt⟩;simp only[Int.toNat_natCast]at hx0 hx1 hx2 hx3 hx4 hx5 hx6
    generalize Zaa zs (kk:Int)=y at hx0 hx1 hx2 hx3 hx4 hx5 hx6 l1 l2 l5 HC HG1 HG2 HG5 htk
    cases hq:p y with
    |true=>
      have B:=Za.mk hq;rw[hq]at HC;clear hq
      go_wp2_with (go_at_fn g;refine(HC.out _ (bM HB.out) A1A c1A A2A c2A A5A c5A l1 (cM HG1.out) l2 (cM HG2.out) l5 (cM HG5.out)).mono ?_;rintro e w' ⟨rfl,hb⟩;have HB2:=Za.mk (bS HB.out hb);clear hb)
      go_ret;refine⟨⟨_,rfl,?_⟩,HB2.out⟩;rw[HY.out (kk+1),htk.out,List.any_append]
      simp[B.out]
    |false=>
      have B:=Za.mk hq;rw[hq]at HC;clear hq
      go_wp2_with (go_at_fn g;refine(HC.out _ (bM HB.out) A1A c1A A2A c2A A5A c5A l1 (cM HG1.out) l2 (cM HG2.out) l5 (cM HG5.out)).mono ?_;rintro e w' ⟨rfl,hb⟩;have HB2:=Za.mk (bS HB.out hb);clear hb)
      go_roundg (zs.length - (kk+1))
      case measure=>omega
      case rel=>exact⟨kk+1,by omega,by omega,by go_num,⟨bM HB2.out⟩,⟨by rw[htk.out,List.any_append,A1.out];simp[B.out]⟩⟩
theorem Zgt (p : S36 → Bool) (g : Nat) (lb : Array Value) (eg : ∀ args w, (callFunc g args).run Tryz.prog w = .ok (.enter g args) w) (A : Option Addr) (c : Nat) (zs : List S36) (w : World) (hr : Kd.C k36 w A zs.length zs)
    (hp : ∀ (n : Nat), n < zs.length → ∀ x, x = Zaa zs (n : Int) → ∀ W, Below w.heap.size w W → ∀ A1 c1 A2 c2 A5 c5, x.f1.length ≤ c1 → Kd.C (Kd.int .i64) W A1 x.f1.length x.f1 → x.f2.length ≤ c2 → Kd.C (Kd.int .i64) W A2 x.f2.length x.f2 → x.f5.length ≤ c5 → Kd.C (Kd.slice 3 (Kd.int .i64)) W A5 x.f5.length x.f5 →
      Calls Tryz.prog g (#[.agg #[.int .i64 x.f0, .slice A1 x.f1.length c1, .slice A2 x.f2.length c2, .int .i64 x.f3, .int .i64 x.f4, .slice A5 x.f5.length c5, .int .i64 x.f6]] ++ lb) W fun e w' => e = .returned (.bool (p x)) ∧ Below W.heap.size W w') :
    Calls Tryz.prog 47 #[.slice A zs.length c,.func (.func g) #[] lb] w fun e w'=>e= .returned (.bool (zs.any p))∧Below w.heap.size w w':=by
  have hI:=Za.mk (indexFunc_Con p g lb eg A c zs w hr hp);clear hr hp;go_enter Tryz.func47,Tryz.ntmps47
  go_wp2_with (go_at_call 69;refine hI.out.mono ?_;rintro e w' ⟨⟨i,rfl,hi⟩,hb⟩)
  go_ret;exact⟨by rw[←hi];rfl,hb⟩
def hasG (vars : List S55) (a : List Int) : Nat → Nat → Bool
  | 0, _ => true
  |d+1,i=>(Za9 vars (i:Int)).f1.any (inR (rd a (i:Int))) && hasG vars a d (i+1)
def hOk (k:Nat) (a:List Int) (x:S36):Option Bool:=Zb.f k x.f0 x.f1 x.f2 x.f3 x.f4 x.f5 x.f6 a
theorem hOk_mono {k:Nat} {a:List Int} {x:S36} {b:Bool} (h:hOk k a x=some b):hOk (k+1) a x=some b:=Zb.mono _ _ _ _ _ _ _ _ _ _ h
def Zaz.f (k:Nat) (vars:List S55) (cons:List S36) (gk:Int) (gv gc a:List Int):Option Bool:=
  if a.length=vars.length then(if hasG vars a vars.length 0=true then(if cons.all (fun x=>(hOk k a x).isSome)=true then some (cons.all fun x=>decide (hOk k a x=some true))else none)else some false)else some false
theorem Zaz.mono:∀a0 a1 a2 a3 a4 a5 k,LeO (Zaz.f k a0 a1 a2 a3 a4 a5) (Zaz.f (k+1) a0 a1 a2 a3 a4 a5):=by
  intro a0 cons a2 a3 a4 a k;unfold Zaz.f;refine LeO.ite (LeO.ite ?_ (LeO.refl _)) (LeO.refl _);intro r h;by_cases q:cons.all (fun x=>(hOk k a x).isSome)=true;rotate_left
  · rw [if_neg q] at h
    cases h
  rw[if_pos q]at h;obtain rfl:=Option.some.inj h;have q2:=List.all_eq_true.1 q;rw[if_pos]
  · congr 1
    rw[Bool.eq_iff_iff,List.all_eq_true,List.all_eq_true];refine⟨fun h x hx=> ?_,fun h x hx=> ?_⟩
    · have h1 := h x hx
      obtain⟨b,hb⟩:=Option.isSome_iff_exists.1 (q2 x hx);rw[decide_eq_true_eq]at h1 ⊢;rw[hOk_mono hb]at h1;rw[hb];exact h1
    have h1:=h x hx;obtain⟨b,hb⟩:=Option.isSome_iff_exists.1 (q2 x hx);rw[decide_eq_true_eq]at h1 ⊢;rw[hb]at h1;rw[hOk_mono hb];exact h1
  rw[List.all_eq_true];intro x hx;obtain⟨b,hb⟩:=Option.isSome_iff_exists.1 (q2 x hx);rw[hOk_mono hb]
  rfl
theorem solvesPred (k : Nat) (x : S36) (A1 : Option Addr) (c1 : Nat) (A2 : Option Addr) (c2 : Nat) (A5 : Option Addr) (c5 : Nat) (A : Option Addr) (c : Nat) (a : List Int) (g : Nat) (t : Bool) (w : World)
    (hl1:x.f1.length≤c1) (hr1:Kd.C (Kd.int .i64) w A1 x.f1.length x.f1) (hl2:x.f2.length≤c2) (hr2:Kd.C (Kd.int .i64) w A2 x.f2.length x.f2) (hl5:x.f5.length≤c5) (hr5:Kd.C (Kd.slice 3 (Kd.int .i64)) w A5 x.f5.length x.f5)
    (hr:Kd.C (Kd.int .i64) w A a.length a) (hc:a.length≤c) (hz:w.cell? ⟨g,0,none⟩=some (.slice A a.length c)) (h:hOk k a x=some t):
    Calls Tryz.prog 48 #[.agg #[.int .i64 x.f0,.slice A1 x.f1.length c1,.slice A2 x.f2.length c2,.int .i64 x.f3,.int .i64 x.f4,.slice A5 x.f5.length c5,.int .i64 x.f6],.pointer (some ⟨g,0,none⟩)] w fun e w'=>e= .returned (.bool (!t))∧Below w.heap.size w w':=by
  have HR1:=Za.mk hr1;have HR2:=Za.mk hr2;have HR5:=Za.mk hr5;have HR:=Za.mk hr;have HH:=Za.mk h;have HB:=Za.mk (Below.refl w.heap.size w);clear hr1 hr2 hr5 hr h;obtain⟨x0,x1,x2,x3,x4,x5,x6⟩:=x;have HH2:Za (Zb.f k x0 x1 x2 x3 x4 x5 x6 a=some t):=⟨HH.out⟩;clear HH;dsimp only at hl1 hl2 hl5 HR1 HR2 HR5 ⊢;go_enter Tryz.func48,Tryz.ntmps48
  go_wp2_with (first|((with_reducible refine Zao (N:=2) rfl ?_);refine bx 2 #[.int .i64 x0,.slice A1 x1.length c1,.slice A2 x2.length c2,.int .i64 x3,.int .i64 x4,.slice A5 x5.length c5,.int .i64 x6] 36 ?_;intro g2 hg2 w2 hbox hb;have hz2:=hB hb hz;have B2:=Za.mk (bS HB.out hb);obtain⟨z0,z1,z2,z3,z4,z5,z6,y0,y1,y2,y3,y4,y5,y6⟩:=cz7 hbox;clear hbox hb hg2)|(go_at_call 13;go_loud (refine(Zb.calls k x0 A1 c1 x1 A2 c2 x2 x3 x4 A5 c5 x5 x6 A c a t w2 (Kd.Zab HR1.out B2.out) hl1 (Kd.Zab HR2.out B2.out) hl2 (Kd.Zab HR5.out B2.out) hl5 (Kd.Zab HR.out B2.out) hc HH2.out).mono ?_;rintro e w3 ⟨rfl,hb⟩;have B3:=Za.mk (bS B2.out hb);clear hb)))
  go_ret;exact⟨by first|rfl|(simp;done),bM B3.out⟩
set_option maxRecDepth 100000 in
theorem Zaz.calls (k : Nat) (A0 : Option Addr) (c0 : Nat) (vars : List S55) (A1 : Option Addr) (c1 : Nat) (cons : List S36) (gk : Int) (A3 : Option Addr) (c3 : Nat) (gv : List Int) (A4 : Option Addr) (c4 : Nat) (gc : List Int) (A : Option Addr) (c : Nat) (a : List Int) (r : Bool) (w : World)
    (hr0:Kd.C k55 w A0 vars.length vars) (hc0:vars.length≤c0) (hr1:Kd.C k36 w A1 cons.length cons) (hc1:cons.length≤c1) (hr3:Kd.C (Kd.int .i64) w A3 gv.length gv) (hc3:gv.length≤c3) (hr4:Kd.C (Kd.int .i64) w A4 gc.length gc) (hc4:gc.length≤c4) (hr:Kd.C (Kd.int .i64) w A a.length a) (hc:a.length≤c)
    (h:Zaz.f k vars cons gk gv gc a=some r):
    Calls Tryz.prog 15 #[.agg #[.slice A0 vars.length c0,.slice A1 cons.length c1,.int .i64 gk,.slice A3 gv.length c3,.slice A4 gc.length c4],.slice A a.length c] w fun e w'=>e= .returned (.bool r)∧Below w.heap.size w w':=by
  unfold Zaz.f at h;have HR0:=Za.mk hr0;have HR1:=Za.mk hr1;have HR:=Za.mk hr;have HLv:Za (vars.length≤9223372036854775807):=⟨hr0.2.1⟩;have HB:=Za.mk (Below.refl w.heap.size w);clear hr0 hr1 hr3 hr4 hr;have H:=Za.mk h;clear h;go_enter Tryz.func15,Tryz.ntmps15;by_cases n0:a.length=vars.length
  case neg=>
    have h:=H.out;rw[if_neg n0]at h;obtain rfl:=Option.some.inj h;have e0:((a.length:Int)==(vars.length:Int))=false:=beq_eq_false_iff_ne.2 (by omega);have e0b:((a.length:Int) !=(vars.length:Int))=true:=by simp only[bne,e0];rfl
    clear h H n0
    go_wp2_with (first|((with_reducible refine Zao (N:=2) rfl ?_);refine bx 2 #[.slice A0 vars.length c0,.slice A1 cons.length c1,.int .i64 gk,.slice A3 gv.length c3,.slice A4 gc.length c4] 28 ?_;intro g2 hg2 w2 hbox hb;have BK2:=Za.mk hbox;have B2:=Za.mk (bS HB.out hb);obtain⟨z0,z1,z2,z3,z4,y0,y1,y2,y3,y4⟩:=cz5 hbox;clear hbox hb hg2)|((with_reducible refine Zao (N:=3) rfl ?_);refine bx 3 #[.slice A a.length c] 24 ?_;intro g3 hg3 w3 hbox hb;have BK3:=Za.mk hbox;have BK2:=Za.mk (kB BK2.out hb);have B3:=Za.mk (bS B2.out hb);have z10:w3.cell? ⟨g3,0,none⟩=some (.slice A a.length c):=bc hbox 0;obtain⟨z0,z1,z2,z3,z4,y0,y1,y2,y3,y4⟩:=cz5 BK2.out;clear hbox hb hg3))
    go_ret;exact⟨rfl,bM B3.out⟩
  have h:=H.out;rw[if_pos n0]at h;clear H;have H:=Za.mk h;clear h;have N0:=Za.mk n0;have e0:((a.length:Int)==(vars.length:Int))=true:=beq_iff_eq.2 (by omega);have e0b:((a.length:Int) !=(vars.length:Int))=false:=by simp only[bne,e0];rfl
  clear n0
  generalize hs_:hasG vars a vars.length 0=hs at H
  have HS:=Za.mk hs_;clear hs_
  go_wp2_with (first|((with_reducible refine Zao (N:=2) rfl ?_);refine bx 2 #[.slice A0 vars.length c0,.slice A1 cons.length c1,.int .i64 gk,.slice A3 gv.length c3,.slice A4 gc.length c4] 28 ?_;intro g2 hg2 w2 hbox hb;have BK2:=Za.mk hbox;have B2:=Za.mk (bS HB.out hb);obtain⟨z0,z1,z2,z3,z4,y0,y1,y2,y3,y4⟩:=cz5 hbox;clear hbox hb hg2)|((with_reducible refine Zao (N:=3) rfl ?_);refine bx 3 #[.slice A a.length c] 24 ?_;intro g3 hg3 w3 hbox hb;have BK3:=Za.mk hbox;have BK2:=Za.mk (kB BK2.out hb);have B3:=Za.mk (bS B2.out hb);have z10:w3.cell? ⟨g3,0,none⟩=some (.slice A a.length c):=bc hbox 0;obtain⟨z0,z1,z2,z3,z4,y0,y1,y2,y3,y4⟩:=cz5 BK2.out;clear hbox hb hg3))
  clear e0 e0b
  go_loopg [16] vars.length (fun gg v16 w'=>∃i:Nat,v16= .int .i64 i∧i≤vars.length∧vars.length - i≤gg∧Za (hasG vars a (vars.length - i) i=hs)∧Za (Below w3.heap.size w3 w'))
  case atStart=>exact⟨0,rfl,Nat.zero_le _,Nat.le_refl _,⟨by simpa using HS.out⟩,⟨bM (Below.refl w3.heap.size w3)⟩⟩
  case round=>
    clear HS z0 z1 z2 z3 z4 z10 y0 y1 y2 y3 y4;obtain⟨i,rfl,hi,hg,HS,BW⟩:=hrel;have BWw:=Za.mk (Zaf B3.out BW.out);have BK2r:=Za.mk (kB BK2.out BW.out);have BK3r:=Za.mk (kB BK3.out BW.out);have z1:wr.cell? ⟨g2,1,none⟩=some (.slice A1 cons.length c1):=bc BK2r.out 1;have z10:wr.cell? ⟨g3,0,none⟩=some (.slice A a.length c):=bc BK3r.out 0;by_cases hlt:i<vars.length
    case neg=>
      obtain rfl:i=vars.length:=by omega
      have p1_:decide ((vars.length:Int)<(vars.length:Int))=false:=decide_eq_false (by omega);obtain rfl:true=hs:=by have h_:=HS.out;rw[Nat.sub_self]at h_;exact h_
      have h:=H.out;rw[if_pos rfl]at h;by_cases q:cons.all (fun x=>(hOk k a x).isSome)=true;case neg=>rw[if_neg q]at h;cases h
      rw[if_pos q]at h;have HRR:=Za.mk (Option.some.inj h);have HQ:=Za.mk (List.all_eq_true.1 q);clear h H q HS hi hg hlt
      have HF := Za.mk (Zgt (fun x => !(decide (hOk k a x = some true))) 48 #[.pointer (some ⟨g3, 0, none⟩)] (enters_of Tryz.func48 (by kernel_rfl) rfl) A1 c1 cons wr (Kd.Zab HR1.out BWw.out) (fun n hn x hx W hW A1 c1 A2 c2 A5 c5 l1 g1 l2 g2_ l5 g5 => by
          have hm:x ∈ cons:=by rw[hx];simp[Zaa,List.getD_eq_getElem?_getD,List.getElem?_eq_getElem hn]
          obtain⟨b,hb⟩:=Option.isSome_iff_exists.1 (HQ.out x hm);have h_:=solvesPred k x A1 c1 A2 c2 A5 c5 A c a g3 b W l1 g1 l2 g2_ l5 g5 (Kd.Zab (Kd.Zab HR.out BWw.out) hW) hc (hB hW (bc BK3r.out 0)) hb;have e_:(!(decide (hOk k a x=some true)))= !b:=by rw[hb];cases b<;>rfl
          rw[e_]
          exact h_))
      go_wp2_with (first|(go_at_call 47;go_loud (refine HF.out.mono ?_;rintro e w6 ⟨rfl,hb⟩;have B6:=Za.mk (bS BWw.out hb))))
      go_ret;exact⟨by rw[←HRR.out];first|(simp;done)|(rw[List.not_any_eq_all_not];simp),bM B6.out⟩
    have hltz:(i:Int)<(vars.length:Int):=by omega
    have p1_:decide ((i:Int)<(vars.length:Int))=true:=decide_eq_true hltz;have p2_:decide ((0:Int)≤(i:Int))=true:=decide_eq_true (by omega);have hlta:(i:Int)<(a.length:Int):=by have:=N0.out;omega
    have p3_:decide ((i:Int)<(a.length:Int))=true:=decide_eq_true hlta;have hltn:i<a.length:=by omega
    obtain⟨ad,A5,c5,e_,hx0,hx1,hl1,hi1⟩:=Zem (Kd.Zab HR0.out BWw.out) (i:Int) (by omega) hltz;cases e_;simp only[Int.toNat_natCast]at hx0 hx1;obtain⟨ada,e_,hxa⟩:=Kd.Zbh (Kd.Zab HR.out BWw.out) (i:Int) (by omega) hlta;cases e_;simp only[Int.toNat_natCast]at hxa;have h_:=HS.out;rw[show vars.length - i=(vars.length - (i+1))+1 by omega,hasG]at h_;have HS2:=Za.mk h_;clear h_ HS
    generalize Za9 vars (i:Int)=x at hx0 hx1 hl1 hi1 HS2
    have HI1:=Za.mk hi1;clear hi1
    generalize hq_:x.f1.any (inR (rd a (i:Int)))=q at HS2
    have HQ:Za (Zg4.f x.f1 (rd a (i:Int))=some q):=⟨by rw[←hq_];rfl⟩;clear hq_
    go_wp2_with (first|((with_reducible refine Zao (N:=6) rfl ?_);refine bx 6 #[.string (⟨#[]⟩:ByteArray),.slice none 0 0] 55 ?_;intro g6 hg6 w6 hbox hb;have BK6:=Za.mk hbox;have B6:=Za.mk (bS BWw.out hb);have W6:=Za.mk (bS BW.out hb);have WR6:=Za.mk (bS (Below.refl wr.heap.size wr) hb);have G6:Za (wr.heap.size≤g6):=⟨gE hg6 (Below.refl wr.heap.size wr)⟩;have hxa6:=hB hb hxa;have z16:=hB hb z10;obtain⟨z0,zz1,y0,y1⟩:=cz2 hbox;clear hbox hb hg6))
    have BXq:=Za.mk (Za4 (cs':=#[.string x.f0,.slice A5 x.f1.length c5]) (Za4 (cs':=#[.string x.f0,.slice none 0 0]) BK6.out 0 (.string x.f0) rfl) 1 (.slice A5 x.f1.length c5) rfl);have G6w:Za (w.heap.size≤g6):=⟨Nat.le_trans BWw.out.size G6.out⟩;have G6x:Za (w3.heap.size≤g6):=⟨Nat.le_trans BW.out.size G6.out⟩;have Bq:=Za.mk (show Below w.heap.size w ((w6.setCell ⟨g6,0,none⟩ (.string x.f0)).setCell ⟨g6,1,none⟩ (.slice A5 x.f1.length c5))from Zbd (Zbd B6.out G6w.out) G6w.out);have Wq:=Za.mk (show Below w3.heap.size w3 ((w6.setCell ⟨g6,0,none⟩ (.string x.f0)).setCell ⟨g6,1,none⟩ (.slice A5 x.f1.length c5))from Zbd (Zbd W6.out G6x.out) G6x.out);have WRq:=Za.mk (show Below wr.heap.size wr ((w6.setCell ⟨g6,0,none⟩ (.string x.f0)).setCell ⟨g6,1,none⟩ (.slice A5 x.f1.length c5))from Zbd (Zbd WR6.out G6.out) G6.out);clear z0 zz1 y0 y1 hxa6 z16 BK6 B6 W6 WR6
    generalize ((w6.setCell ⟨g6,0,none⟩ (.string x.f0)).setCell ⟨g6,1,none⟩ (.slice A5 x.f1.length c5))=wq at BXq Bq Wq WRq ⊢
    have hz6:wq.cell? ⟨g6,1,none⟩=some (.slice A5 x.f1.length c5):=bc BXq.out 1;have hz3:wq.cell? ⟨g3,0,none⟩=some (.slice (some ada) a.length c):=bc (kB BK3.out Wq.out) 0;obtain⟨adb,e_,hza⟩:=Kd.Zbh (Kd.Zab HR.out Bq.out) (i:Int) (by omega) hlta;cases e_;simp only[Int.toNat_natCast]at hza;have HI2:=Za.mk (Kd.Zab HI1.out (show Below wr.heap.size wr wq from WRq.out));clear hx0 hx1 hxa z1 z10
    cases q with
    |true=>
      go_region_held3 (fun w'=>w'.cell? ⟨g6,1,none⟩=some (.slice A5 x.f1.length c5)∧w'.cell? ⟨g3,0,none⟩=some (.slice (some ada) a.length c)∧w'.cell? (ada.add i)=some (.int .i64 (rd a (i:Int)))) (first|go_keep|exact⟨hB Q7.out hz6,hB Q7.out hz3,hB Q7.out hza⟩) ((go_at_call 46;refine(Zg4.calls A5 c5 x.f1 (rd a (i:Int)) true _ (cM HI2.out) hl1 HQ.out).mono ?_;rintro e w7 ⟨rfl,hb⟩;have B7:=Za.mk (bS Bq.out hb);have W7:=Za.mk (bS Wq.out hb);have Q7:=Za.mk (bS (Below.refl wq.heap.size wq) hb);clear hb))
      all_goals go_wp2
      all_goals go_roundg (vars.length - (i+1))
      all_goals first|omega|exact⟨i+1,(by have hlv:=HLv.out;rw[w64 (by omega) (by omega)];first|rfl|(simp;done)),by omega,Nat.le_refl _,⟨by have h_:=HS2.out;rw[Bool.true_and]at h_;exact h_⟩,⟨bM W7.out⟩⟩
    |false=>
      go_region_held3 (fun w'=>w'.cell? ⟨g6,1,none⟩=some (.slice A5 x.f1.length c5)∧w'.cell? ⟨g3,0,none⟩=some (.slice (some ada) a.length c)∧w'.cell? (ada.add i)=some (.int .i64 (rd a (i:Int)))) (first|go_keep|exact⟨hB Q7.out hz6,hB Q7.out hz3,hB Q7.out hza⟩) ((go_at_call 46;refine(Zg4.calls A5 c5 x.f1 (rd a (i:Int)) false _ (cM HI2.out) hl1 HQ.out).mono ?_;rintro e w7 ⟨rfl,hb⟩;have B7:=Za.mk (bS Bq.out hb);have W7:=Za.mk (bS Wq.out hb);have Q7:=Za.mk (bS (Below.refl wq.heap.size wq) hb);clear hb))
      all_goals go_wp2
      all_goals go_ret
      all_goals exact⟨by have h_:=HS2.out;rw[Bool.false_and]at h_;subst h_;have h2_:=H.out;rw[if_neg Bool.false_ne_true]at h2_;obtain rfl:=Option.some.inj h2_;first|rfl|(simp;done),bM B7.out⟩
end Go.Proofs.YtdpieallpbllkaaGreat.P
/- The map of the names that came: a set of texts. -/
namespace Go.Proofs.YtdpieallpbllkaaGreat.P
open Go.RowKit Go.WideMaps Go.Maps Go.Proofs.YtdpieallpbllkaaGreatW.PrintWords Go.Proofs.YtdpieallpbllkaaGreatW.PrintLast Go.Proofs.YtdpieallpbllkaaGreatW.PrintMore
theorem keyedS:Keyed Tryz.prog 9:=string_keyed Tryz.underlying9
def nameLit (s:ByteArray):Lit:= .string s.data.toList
theorem Zgi {s:ByteArray} (h:s.size≤maxLen):keyOf Tryz.prog 9 (.string s)=some (nameLit s):=keyOf_string_mk Tryz.underlying9 h
theorem nameLit_inj {a b:ByteArray} (e:nameLit a=nameLit b):a=b:=by
  unfold nameLit at e
  injection e with e
  cases a;cases b
  congr 1
  exact Array.toList_inj.1 e
def hasN (L:List ByteArray) (x:ByteArray):Bool:=L.any fun y=>y.toList==x.toList
theorem bytes_ext {a b:ByteArray} (e:a.toList=b.toList):a=b:=by
  rw[ByteArray.toList_eq,ByteArray.toList_eq]at e;cases a;cases b
  congr 1
  exact Array.toList_inj.1 e
theorem hasN_iff (L:List ByteArray) (x:ByteArray):hasN L x=true↔x ∈ L:=by
  unfold hasN;rw[List.any_eq_true]
  constructor
  · rintro ⟨y, hy, e⟩
    rwa [←bytes_ext (beq_iff_eq.1 e)]
  intro h;exact⟨x,h,beq_iff_eq.2 rfl⟩
theorem hasN_false (L:List ByteArray) (x:ByteArray) (h:¬x ∈ L):hasN L x=false:=by
  cases e:hasN L x with
  | false => rfl
  |true=>exact absurd ((hasN_iff L x).1 e) h
theorem Zg2 {H : Type} (u z : DataW H) (k : Lit) : ∀ (acc : List Lit) (m : DataW H), k ∉ acc → (acc.foldl (fun m x => m.put x u) m).atKey k z = m.atKey k z
  | [], m, _ => rfl
  |x::r,m,h=>by
    rw[List.foldl_cons,Zg2 u z k r (m.put x u) (fun e=>h (by simp[e])),atKey_put_other (fun e=>h (by simp[e]))]
theorem atKey_in {H : Type} (u z : DataW H) (k : Lit) (hk : WideAt.IsKeyLit k) : ∀ (acc : List Lit) (m : DataW H), IsMap m → k ∈ acc → (acc.foldl (fun m x => m.put x u) m).atKey k z = u
  | [], m, _, h => by cases h
  |x::r,m,hm,h=>by
    rw[List.foldl_cons]
    rcases Classical.em (k ∈ r)with hr|hr
    · exact atKey_in u z k hk r (m.put x u) (hm.put x u) hr
    rw[Zg2 u z k r _ hr];obtain rfl:k=x:=(List.mem_cons.1 h).resolve_right hr;exact atKey_put_same hm hk u z
def SetN (w:World) (b:Nat) (L:List ByteArray):Prop:=w.ownsMap (H:=Unit) Tryz.prog 9 (plainElem Tryz.prog 4) b L.length (setOf (.lit (.bool true)) (L.map nameLit))
theorem SetN.below {w w':World} {b:Nat} {L:List ByteArray} (h:SetN w b L) (hb:Below w.heap.size w w'):SetN w' b L:=by
  have hlt:=World.ownsMap.lt h;obtain⟨es,clock,h1,F,hs,hD⟩:=h;exact⟨es,clock,(hb.block b hlt).trans h1,F,hs,hD⟩
theorem SetN.lt {w:World} {b:Nat} {L:List ByteArray} (h:SetN w b L):b<w.heap.size:=World.ownsMap.lt h
set_option maxRecDepth 100000 in
theorem SetN.look {w:World} {b:Nat} {L:List ByteArray} {x:ByteArray} (h:SetN w b L) (hx:x.size≤maxLen):(Instr.lookup 96 (.map (some b)) (.string x) false).run Tryz.prog w= .ok (.bool (hasN L x)) w:=by
  obtain⟨v,ps,hrun,hv⟩:=World.ownsMap.lookup h keyedS Tryz.underlying96 (z:= .bool false) (by kernel_rfl) (plainElem_bool Tryz.underlying4 false) (Zgi hx)
  have e:(nameLit x ∈ L.map nameLit)↔x ∈ L:=by
    rw[List.mem_map]
    constructor
    · rintro ⟨y, hy, e⟩
      rwa [←nameLit_inj e]
    intro hy;exact⟨x,hy,rfl⟩
  rw[hrun]
  have hb:v= .bool (hasN L x):=by
    have hc:∃c,v= .bool c∧((setOf (.lit (.bool true)) (L.map nameLit)).atKey (nameLit x) (.lit (.bool false)):DataW Unit)= .lit (.bool c):=by
      unfold plainElem at hv;rw[Tryz.underlying4]at hv;clear hrun e h
      generalize ((setOf (.lit (.bool true)) (L.map nameLit)).atKey (nameLit x) (.lit (.bool false)):DataW Unit)=dd at hv ⊢
      cases v<;>simp at hv
      exact⟨_,rfl,hv.1.symm⟩
    obtain⟨c,rfl,hc⟩:=hc
    rcases Classical.em (x ∈ L)with hm|hm
    · have := (atKey_in (.lit (.bool true)) (.lit (.bool false)) _ (keyedS.key (Zgi hx)) _ _ isMap_empty (e.2 hm)).symm.trans hc
      simp at this
      rw[(hasN_iff L x).2 hm,this]
    have:=(Zg2 (.lit (.bool true)) (.lit (.bool false)) (nameLit x) (L.map nameLit) (.map []) (fun h=>hm (e.1 h))).symm.trans hc;have e2:((DataW.map []:DataW Unit).atKey (nameLit x) (.lit (.bool false)))= .lit (.bool false):=rfl;rw[e2]at this
    simp at this
    rw[hasN_false L x hm,this]
  rw[hb]
theorem SetN.made (w:World):SetN (w.alloc (.map #[] 0)) w.heap.size []:=World.ownsMap_made w _ _ _
theorem Ze0 {w : World} {ops : Array Oper} {rest : List Oper} {o : Oper} {a : Act} {Q : Exit → Act → World → Prop} (hg : o.guard = none) (m x : Operand) (hop : o.op = Op.lookup 96 m x false) {b : Nat} {L : List ByteArray} {q : ByteArray}
    (hm:a.eval m= .map (some b)) (h:SetN w b L) (hx:a.eval x= .string q) (hq:q.size≤maxLen) (hK:wpList Tryz.prog ops Q rest (a.put o.dst (.bool (hasN L q))) w):wpList Tryz.prog ops Q (o::rest) a w:=by
  refine wpList_plain hg fun K' hK'=> ?_
  have hrun:=h.look hq;unfold Oper.wp
  simp[execOp,hop,hm,hx,hrun,Result.andThen]
  exact hK' _ _ hK
theorem wpList_putN {w : World} {ops : Array Oper} {rest : List Oper} {o : Oper} {a : Act} {Q : Exit → Act → World → Prop} (hg : o.guard = none) (m x v : Operand) (hop : o.op = Op.mapUpdate 96 m x v) {b : Nat} {L : List ByteArray} {q : ByteArray}
    (hm:a.eval m= .map (some b)) (h:SetN w b L) (hx:a.eval x= .string q) (hv:a.eval v= .bool true) (hq:q.size≤maxLen) (hn:L.length<maxLen) (hK:∀w',SetN w' b (L++ [q])→w.grownBy w' (some b)→wpList Tryz.prog ops Q rest (a.put o.dst undef) w'):wpList Tryz.prog ops Q (o::rest) a w:=by
  refine wpList_plain hg fun K' hK'=> ?_
  obtain⟨w',hrun,r1,r2⟩:=World.ownsMap.update h keyedS Tryz.underlying96 hn (Zgi hq) (plainElem_bool Tryz.underlying4 true)
  have r3:SetN w' b (L++ [q]):=by
    unfold SetN;rw[List.map_append,List.map_cons,List.map_nil,setOf_snoc,List.length_append];exact r1
  unfold Oper.wp
  simp[execOp,hop,hm,hx,hv,hrun,Result.andThen]
  exact hK' _ _ (hK w' r3 r2)
end Go.Proofs.YtdpieallpbllkaaGreat.P
/- model.Name: may a text be a name? (a range over a string) -/
namespace Go.Proofs.YtdpieallpbllkaaGreat.P
open Go.RowKit Go.Proofs.YtdpieallpbllkaaGreatW.PrintWords Go.Proofs.YtdpieallpbllkaaGreatW.PrintLast Go.Proofs.YtdpieallpbllkaaGreatW.PrintMore
def okAt (i c:Nat):Bool:=(decide (97≤c) && decide (c≤122))||(!decide (i=0) && (decide (c=95)||(decide (48≤c) && decide (c≤57))))
def nameGo (s : ByteArray) : Nat → Nat → Bool
  | 0, _ => true
  |b+1,pos=>if h:pos<s.size then okAt pos (s[pos]'h).toNat && nameGo s b (pos+1)else true
def Zd8.f (a0:ByteArray):Option Bool:=some (!decide (a0.size=0) && (decide (a0.size≤16) && nameGo a0 a0.size 0))
theorem nameGo_end (s:ByteArray) (b pos:Nat) (h:¬pos<s.size):nameGo s b pos=true:=by
  cases b with
  | zero => rfl
  |succ b=>simp[nameGo,h]
theorem okAt_high (i c:Nat) (h:128≤c):okAt i c=false:=by
  have h1:decide (c≤122)=false:=decide_eq_false (by omega);have h2:decide (c=95)=false:=decide_eq_false (by omega);have h3:decide (c≤57)=false:=decide_eq_false (by omega)
  simp[okAt,h1,h2,h3]
set_option maxRecDepth 1000000 in
theorem Zd8.calls (a0 : ByteArray) (r : Bool) (w : World) (h : Zd8.f a0 = some r) :
    Calls Tryz.prog 77 #[.string a0] w fun e w'=>e= .returned (.bool r)∧Below w.heap.size w w':=by
  obtain rfl:=Option.some.inj h;clear h;by_cases h0:a0.size=0
  · have d0 : decide (a0.size = 0) = true := decide_eq_true h0
    have e0:a0=⟨#[]⟩:=by
      have:a0.data=#[]:=Array.eq_empty_of_size_eq_zero h0;cases a0;simpa using this
    subst e0;go_enter Tryz.func77,Tryz.ntmps77;go_wp2;go_ret;exact⟨by rfl,Below.refl _ _⟩
  have d0:decide (a0.size=0)=false:=decide_eq_false h0
  have eE:a0.toList.isEmpty=false:=by
    rw[ByteArray.toList_eq]
    cases hd:a0.data.toList with
    | nil => exact absurd (show a0.data.size = 0 by rw [← Array.length_toList, hd]; rfl) h0
    |cons a l=>rfl
  have DD:=Za.mk d0;clear d0 h0;by_cases h16:16<a0.size
  · have e1 : decide (16 < (a0.size : Int)) = true := decide_eq_true (by omega)
    have e2:decide (16<a0.size)=true:=decide_eq_true h16;have e3:Za (decide (a0.size≤16)=false):=⟨decide_eq_false (by omega)⟩;clear h16;go_enter Tryz.func77,Tryz.ntmps77;go_wp2;go_ret;exact⟨by rw[DD.out,e3.out];rfl,Below.refl _ _⟩
  have e1:decide (16<(a0.size:Int))=false:=decide_eq_false (by omega);have e2:decide (16<a0.size)=false:=decide_eq_false h16;have e3:Za (decide (a0.size≤16)=true):=⟨decide_eq_true (by omega)⟩;have hsz:a0.size≤16:=by omega
  clear h16;rw[DD.out,e3.out]
  show Calls _ _ _ _ fun e w'=>e= .returned (.bool (nameGo a0 a0.size 0))∧_
  obtain⟨wo,rfl⟩:∃wo:World,wo=w:=⟨_,rfl⟩;go_enter Tryz.func77,Tryz.ntmps77;go_wp2
  go_loopw [3,4,5] (fun s3 s4 s5 w'=>∃(pos b:Nat),w'=wo.iter a0 pos∧Za (nameGo a0 b pos=nameGo a0 a0.size 0)∧Za (a0.size≤pos+b)) (fun _ _ _ w'=>a0.size - w'.iterPos wo.heap.size)
  case atStart=>exact⟨0,a0.size,rfl,⟨rfl⟩,⟨by omega⟩⟩
  case round=>
    obtain⟨pos,b,rfl,hc,hb⟩:=hrel;by_cases hp:pos<a0.size;rotate_left
    · have hnx : ∀ ty, (Instr.next (.pointer (some ⟨wo.heap.size, 0, none⟩)) true ty).run Tryz.prog (wo.iter a0 pos) = _ := fun ty => run_next_end wo a0 pos ty hp
      go_wp2;go_ret;have:=hc.out;rw[nameGo_end a0 b pos hp]at this;rw[←this];exact⟨rfl,Zbn (Below.refl _ _) _⟩
    skip
    by_cases ha:(a0[pos]'hp).toNat<128;rotate_left
    · have hnx := fun ty => run_next_any (P := Tryz.prog) wo a0 pos ty hp
      have hh:=(decode_high a0 pos hp (by omega)).1;have OKx:Za (okAt pos (a0[pos]'hp).toNat=false):=⟨okAt_high pos _ (by omega)⟩
      generalize (Utf8.decode a0 pos).1=c at hnx hh
      generalize pos+(Utf8.decode a0 pos).2=pos2 at hnx
      have OK:=OKx;clear OKx;have a1:decide ((97:Int)≤(c:Int))=true:=decide_eq_true (by omega);have a2:decide ((c:Int)≤122)=false:=decide_eq_false (by omega);have a4:((c:Int)==95)=false:=beq_eq_false_iff_ne.2 (by omega);have a4n:((c:Int) !=95)=true:=by simp only[bne,a4,Bool.not_false]
      have a4d:decide ((c:Int)=95)=false:=decide_eq_false (by omega);have a5:decide ((c:Int)<48)=false:=decide_eq_false (by omega);have a6:decide ((57:Int)<(c:Int))=true:=decide_eq_true (by omega);by_cases q3:pos=0
      · subst q3
        go_wp2;go_ret;refine⟨?_,Zbn (Below.refl _ _) _⟩;rw[←hc.out]
        cases b with
        | zero => exact absurd hb.out (by omega)
        |succ b=>(first|rw[nameGo,dif_pos hp,HX.out,OK.out,Bool.false_and]|rw[nameGo,dif_pos hp,OK.out,Bool.false_and]);rfl
      skip
      have a3:((pos:Int)==0)=false:=beq_eq_false_iff_ne.2 (by omega);have a3n:((pos:Int) !=0)=true:=by simp only[bne,a3,Bool.not_false]
      have a3d:decide ((pos:Int)=0)=false:=decide_eq_false (by omega);go_wp2;go_ret;refine⟨?_,Zbn (Below.refl _ _) _⟩;rw[←hc.out]
      cases b with
      | zero => exact absurd hb.out (by omega)
      |succ b=>(first|rw[nameGo,dif_pos hp,HX.out,OK.out,Bool.false_and]|rw[nameGo,dif_pos hp,OK.out,Bool.false_and]);rfl
    have hnx:=fun ty=>run_next_ascii (P:=Tryz.prog) wo a0 pos ty hp ha
    generalize hx:(a0[pos]'hp).toNat=c at hnx ha
    have HX:=Za.mk hx;clear hx;by_cases q1:97≤c;rotate_left
    · skip
      have a1:decide ((97:Int)≤(c:Int))=false:=decide_eq_false (by omega);by_cases q3:pos=0
      · skip
        have OK:Za (okAt pos c=false):=⟨by by_cases z1:97≤c<;>by_cases z2:c≤122<;>by_cases z3:pos=0<;>by_cases z4:c=95<;>by_cases z5:48≤c<;>by_cases z6:c≤57<;>first|(exfalso;omega)|simp[okAt,z1,z2,z3,z4,z5,z6]⟩;subst q3;go_wp2;go_ret;refine⟨?_,Zbn (Below.refl _ _) _⟩;rw[←hc.out]
        cases b with
        | zero => exact absurd hb.out (by omega)
        |succ b=>(first|rw[nameGo,dif_pos hp,HX.out,OK.out,Bool.false_and]|rw[nameGo,dif_pos hp,OK.out,Bool.false_and]);rfl
      skip
      have a3:((pos:Int)==0)=false:=beq_eq_false_iff_ne.2 (by omega);have a3n:((pos:Int) !=0)=true:=by simp only[bne,a3,Bool.not_false]
      have a3d:decide ((pos:Int)=0)=false:=decide_eq_false (by omega);by_cases q4:c=95
      · skip
        have OK:Za (okAt pos c=true):=⟨by by_cases z1:97≤c<;>by_cases z2:c≤122<;>by_cases z3:pos=0<;>by_cases z4:c=95<;>by_cases z5:48≤c<;>by_cases z6:c≤57<;>first|(exfalso;omega)|simp[okAt,z1,z2,z3,z4,z5,z6]⟩;have a4:((c:Int)==95)=true:=beq_iff_eq.2 (by omega);have a4n:((c:Int) !=95)=false:=by simp only[bne,a4,Bool.not_true]
        have a4d:decide ((c:Int)=95)=true:=decide_eq_true (by omega);go_wp2
        go_roundw
        case rel=>
          cases b with
          | zero => exact absurd hb.out (by omega)
          |succ b=>
            refine⟨pos+1,b,rfl,⟨?_⟩,⟨by have:=hb.out;omega⟩⟩;rw[←hc.out,nameGo,dif_pos hp,HX.out,OK.out,Bool.true_and]
        case measure=>simp;omega
      skip
      have a4:((c:Int)==95)=false:=beq_eq_false_iff_ne.2 (by omega);have a4n:((c:Int) !=95)=true:=by simp only[bne,a4,Bool.not_false]
      have a4d:decide ((c:Int)=95)=false:=decide_eq_false (by omega);by_cases q5:c<48
      · skip
        have OK:Za (okAt pos c=false):=⟨by by_cases z1:97≤c<;>by_cases z2:c≤122<;>by_cases z3:pos=0<;>by_cases z4:c=95<;>by_cases z5:48≤c<;>by_cases z6:c≤57<;>first|(exfalso;omega)|simp[okAt,z1,z2,z3,z4,z5,z6]⟩;have a5:decide ((c:Int)<48)=true:=decide_eq_true (by omega);go_wp2;go_ret;refine⟨?_,Zbn (Below.refl _ _) _⟩;rw[←hc.out]
        cases b with
        | zero => exact absurd hb.out (by omega)
        |succ b=>(first|rw[nameGo,dif_pos hp,HX.out,OK.out,Bool.false_and]|rw[nameGo,dif_pos hp,OK.out,Bool.false_and]);rfl
      skip
      have a5:decide ((c:Int)<48)=false:=decide_eq_false (by omega);by_cases q6:57<c
      · skip
        have OK:Za (okAt pos c=false):=⟨by by_cases z1:97≤c<;>by_cases z2:c≤122<;>by_cases z3:pos=0<;>by_cases z4:c=95<;>by_cases z5:48≤c<;>by_cases z6:c≤57<;>first|(exfalso;omega)|simp[okAt,z1,z2,z3,z4,z5,z6]⟩;have a6:decide ((57:Int)<(c:Int))=true:=decide_eq_true (by omega);go_wp2;go_ret;refine⟨?_,Zbn (Below.refl _ _) _⟩;rw[←hc.out]
        cases b with
        | zero => exact absurd hb.out (by omega)
        |succ b=>(first|rw[nameGo,dif_pos hp,HX.out,OK.out,Bool.false_and]|rw[nameGo,dif_pos hp,OK.out,Bool.false_and]);rfl
      skip
      have OK:Za (okAt pos c=true):=⟨by by_cases z1:97≤c<;>by_cases z2:c≤122<;>by_cases z3:pos=0<;>by_cases z4:c=95<;>by_cases z5:48≤c<;>by_cases z6:c≤57<;>first|(exfalso;omega)|simp[okAt,z1,z2,z3,z4,z5,z6]⟩;have a6:decide ((57:Int)<(c:Int))=false:=decide_eq_false (by omega);go_wp2
      go_roundw
      case rel=>
        cases b with
        | zero => exact absurd hb.out (by omega)
        |succ b=>
          refine⟨pos+1,b,rfl,⟨?_⟩,⟨by have:=hb.out;omega⟩⟩;rw[←hc.out,nameGo,dif_pos hp,HX.out,OK.out,Bool.true_and]
      case measure=>simp;omega
    by_cases q2:c≤122
    · skip
      have OK:Za (okAt pos c=true):=⟨by by_cases z1:97≤c<;>by_cases z2:c≤122<;>by_cases z3:pos=0<;>by_cases z4:c=95<;>by_cases z5:48≤c<;>by_cases z6:c≤57<;>first|(exfalso;omega)|simp[okAt,z1,z2,z3,z4,z5,z6]⟩;have a1:decide ((97:Int)≤(c:Int))=true:=decide_eq_true (by omega);have a2:decide ((c:Int)≤122)=true:=decide_eq_true (by omega);clear q1 q2 ha;go_wp2
      go_roundw
      case rel=>
        cases b with
        | zero => exact absurd hb.out (by omega)
        |succ b=>
          refine⟨pos+1,b,rfl,⟨?_⟩,⟨by have:=hb.out;omega⟩⟩;rw[←hc.out,nameGo,dif_pos hp,HX.out,OK.out,Bool.true_and]
      case measure=>simp;omega
    skip
    have a1:decide ((97:Int)≤(c:Int))=true:=decide_eq_true (by omega);have a2:decide ((c:Int)≤122)=false:=decide_eq_false (by omega);by_cases q3:pos=0
    · skip
      have OK:Za (okAt pos c=false):=⟨by by_cases z1:97≤c<;>by_cases z2:c≤122<;>by_cases z3:pos=0<;>by_cases z4:c=95<;>by_cases z5:48≤c<;>by_cases z6:c≤57<;>first|(exfalso;omega)|simp[okAt,z1,z2,z3,z4,z5,z6]⟩;subst q3;go_wp2;go_ret;refine⟨?_,Zbn (Below.refl _ _) _⟩;rw[←hc.out]
      cases b with
      | zero => exact absurd hb.out (by omega)
      |succ b=>(first|rw[nameGo,dif_pos hp,HX.out,OK.out,Bool.false_and]|rw[nameGo,dif_pos hp,OK.out,Bool.false_and]);rfl
    skip
    have a3:((pos:Int)==0)=false:=beq_eq_false_iff_ne.2 (by omega);have a3n:((pos:Int) !=0)=true:=by simp only[bne,a3,Bool.not_false]
    have a3d:decide ((pos:Int)=0)=false:=decide_eq_false (by omega);by_cases q4:c=95
    · skip
      have OK:Za (okAt pos c=true):=⟨by by_cases z1:97≤c<;>by_cases z2:c≤122<;>by_cases z3:pos=0<;>by_cases z4:c=95<;>by_cases z5:48≤c<;>by_cases z6:c≤57<;>first|(exfalso;omega)|simp[okAt,z1,z2,z3,z4,z5,z6]⟩;have a4:((c:Int)==95)=true:=beq_iff_eq.2 (by omega);have a4n:((c:Int) !=95)=false:=by simp only[bne,a4,Bool.not_true]
      have a4d:decide ((c:Int)=95)=true:=decide_eq_true (by omega);go_wp2
      go_roundw
      case rel=>
        cases b with
        | zero => exact absurd hb.out (by omega)
        |succ b=>
          refine⟨pos+1,b,rfl,⟨?_⟩,⟨by have:=hb.out;omega⟩⟩;rw[←hc.out,nameGo,dif_pos hp,HX.out,OK.out,Bool.true_and]
      case measure=>simp;omega
    skip
    have a4:((c:Int)==95)=false:=beq_eq_false_iff_ne.2 (by omega);have a4n:((c:Int) !=95)=true:=by simp only[bne,a4,Bool.not_false]
    have a4d:decide ((c:Int)=95)=false:=decide_eq_false (by omega);by_cases q5:c<48
    · skip
      have OK:Za (okAt pos c=false):=⟨by by_cases z1:97≤c<;>by_cases z2:c≤122<;>by_cases z3:pos=0<;>by_cases z4:c=95<;>by_cases z5:48≤c<;>by_cases z6:c≤57<;>first|(exfalso;omega)|simp[okAt,z1,z2,z3,z4,z5,z6]⟩;have a5:decide ((c:Int)<48)=true:=decide_eq_true (by omega);go_wp2;go_ret;refine⟨?_,Zbn (Below.refl _ _) _⟩;rw[←hc.out]
      cases b with
      | zero => exact absurd hb.out (by omega)
      |succ b=>(first|rw[nameGo,dif_pos hp,HX.out,OK.out,Bool.false_and]|rw[nameGo,dif_pos hp,OK.out,Bool.false_and]);rfl
    skip
    have a5:decide ((c:Int)<48)=false:=decide_eq_false (by omega);by_cases q6:57<c
    · skip
      have OK:Za (okAt pos c=false):=⟨by by_cases z1:97≤c<;>by_cases z2:c≤122<;>by_cases z3:pos=0<;>by_cases z4:c=95<;>by_cases z5:48≤c<;>by_cases z6:c≤57<;>first|(exfalso;omega)|simp[okAt,z1,z2,z3,z4,z5,z6]⟩;have a6:decide ((57:Int)<(c:Int))=true:=decide_eq_true (by omega);go_wp2;go_ret;refine⟨?_,Zbn (Below.refl _ _) _⟩;rw[←hc.out]
      cases b with
      | zero => exact absurd hb.out (by omega)
      |succ b=>(first|rw[nameGo,dif_pos hp,HX.out,OK.out,Bool.false_and]|rw[nameGo,dif_pos hp,OK.out,Bool.false_and]);rfl
    skip
    have OK:Za (okAt pos c=true):=⟨by by_cases z1:97≤c<;>by_cases z2:c≤122<;>by_cases z3:pos=0<;>by_cases z4:c=95<;>by_cases z5:48≤c<;>by_cases z6:c≤57<;>first|(exfalso;omega)|simp[okAt,z1,z2,z3,z4,z5,z6]⟩;have a6:decide ((57:Int)<(c:Int))=false:=decide_eq_false (by omega);go_wp2
    go_roundw
    case rel=>
      cases b with
      | zero => exact absurd hb.out (by omega)
      |succ b=>
        refine⟨pos+1,b,rfl,⟨?_⟩,⟨by have:=hb.out;omega⟩⟩;rw[←hc.out,nameGo,dif_pos hp,HX.out,OK.out,Bool.true_and]
    case measure=>simp;omega
end Go.Proofs.YtdpieallpbllkaaGreat.P
namespace Go.Proofs.YtdpieallpbllkaaGreat.P
open Go.RowKit Go.Proofs.YtdpieallpbllkaaGreatW.PrintWords Go.Proofs.YtdpieallpbllkaaGreatW.PrintLast Go.Proofs.YtdpieallpbllkaaGreatW.PrintMore
attribute [local go_sem] Zcv Zcx Zdi Zdj Zcm Zcn Zcw Zcy
def Zcs.l0 : Nat → Int → List (S82) → Int → Int → Option (Int)
 | 0, _, _, _, _ => none
 |k+1,x3,x6,x7,x8=>if x8<x7 then(if 0≤x8 then(if x8<(x6.length:Int)then(Zcs.l0 k (wrap64 (x3+(wrap64 ((wrap64 (((Zbr x6 x8).f1) - ((Zbr x6 x8).f0)))+1)))) x6 x7 (wrap64 (x8+1)))else(none))else(none))else(some x3)
def Zcs.f (k:Nat) (l0:List (S82)):Option (Int):=Zcs.l0 k 0 l0 (l0.length:Int) 0
theorem Zcs.Zda : ∀ k, (∀ y0 y1 y2 y3, LeO (Zcs.l0 k y0 y1 y2 y3) (Zcs.l0 (k + 1) y0 y1 y2 y3))
 | 0 => fun _ _ _ _ r h => by simp [Zcs.l0] at h
 |k+1=>by
  have ih0:=Zcs.Zda k;intro y0 y1 y2 y3;unfold Zcs.l0
  repeat' first
  | (with_reducible exact ih0 _ _ _ _)
  | (with_reducible exact LeO.refl _)
  | (with_reducible exact LeO.none _)
  | (with_reducible refine LeO.ite ?_ ?_)
  |(with_reducible refine LeO.bind ?_ (fun _=> ?_))
theorem Zcs.mono:∀a0 k,LeO (Zcs.f k a0) (Zcs.f (k+1) a0):=by
 intro a0 k;have ih0:=Zcs.Zda k;unfold Zcs.f
 repeat' first
   | (with_reducible exact ih0 _ _ _ _)
   | (with_reducible exact LeO.refl _)
   | (with_reducible exact LeO.none _)
   | (with_reducible refine LeO.ite ?_ ?_)
   |(with_reducible refine LeO.bind ?_ (fun _=> ?_))
set_option maxRecDepth 100000 in
theorem Zcs.calls (k : Nat) (A0 : Option Addr) (c0 : Nat) (l0 : List (S82)) (r : Int) (w : World) (hr0 : Kd.C k82 w A0 l0.length l0) (hc0 : l0.length ≤ c0) (h : Zcs.f k l0 = some r) :
  Calls Tryz.prog 60 #[.slice A0 l0.length c0] w fun e w'=>e= .returned (.int .i64 r)∧Below w.heap.size w w':=by
 have hu82:=Tryz.underlying82;have HR0:=Za.mk hr0;have HC0:=Za.mk hc0;clear hr0 hc0;have HB:=Za.mk (Below.refl w.heap.size w);have H:(Zcs.l0 k 0 l0 (l0.length:Int) 0)=some r:=h;clear h;have H':=Za.mk H;clear H;go_enter Tryz.func60,Tryz.ntmps60;go_wp2
 go_loopg [3,8] k (fun kq v3 v8 w'=>∃(af:Int) (aG:Int),v3= .int .i64 af∧v8= .int .i64 aG∧Za (Zcs.l0 kq af l0 (l0.length:Int) aG=some r)∧Za (kq≤k)∧Za (Below w.heap.size w w'))
 case atStart=>exact⟨(0),(0),eS,eS,H',⟨Nat.le_refl _⟩,⟨bM HB.out⟩⟩
 case round=>
  clear H';obtain⟨af,aG,rfl,rfl,HA,HK1,HB⟩:=hrel
  cases gk with
  | zero => exact absurd HA.out (by simp [Zcs.l0])
  |succ k1=>
   have H:=HA.out;clear HA;simp only[Zcs.l0]at H;by_cases c2:aG<(l0.length:Int)
   case neg=>
    rw[if_neg c2]at H;have jE:decide (aG<(l0.length:Int))=false:=decide_eq_false c2;clear c2;obtain rfl:=sj H;go_wp2;go_ret;exact⟨eR,bM HB.out⟩
   rw[if_pos c2]at H;have jE:decide (aG<(l0.length:Int))=true:=decide_eq_true c2;clear c2;obtain⟨eB,H⟩:=ifT H;obtain⟨bQ,H⟩:=ifT H;have H':=Za.mk H;clear H;have vAa:(0≤(aG:Int))=True:=teq;have vDa:(aG<(l0.length:Int))=True:=teq;obtain⟨mya,rfl,Nu,Nv⟩:=Zen HR0.out aG odt odt;replace Nu:=hB HB.out Nu;replace Nv:=hB HB.out Nv
   go_wp2_with (first|((with_reducible refine Zao (N:=5) rfl ?_);refine bx 5 #[.int .i64 0,.int .i64 0] 82 ?_;intro dOa hg w5 hbox hb;have bMa:=Za.mk (hbox);have mla:=Za.mk ((gE hg HB.out:w.heap.size≤dOa));replace HB:=Za.mk (bS HB.out hb);clear hb hbox hg;obtain⟨lc,lg,kX,kY⟩:=cz2 bMa.out))
   go_roundg k1
   case measure=>have:=HK1.out;omega
   case rel=>exact⟨(wrap64 (af+(wrap64 ((wrap64 (((Zbr l0 aG).f1) - ((Zbr l0 aG).f0)))+1)))),(wrap64 (aG+1)),eS,eS,H',⟨by have:=HK1.out;omega⟩,⟨bM HB.out⟩⟩
def Zdn.f (a0:Int):Option (Bool):=if a0≥(-1048576)then(some (decide (a0≤1048576)))else(some false)
set_option maxRecDepth 100000 in
theorem Zdn.calls (a0 : Int) (r : Bool) (w : World) (h : Zdn.f a0 = some r) :
  Calls Tryz.prog 117 #[.int .i64 a0] w fun e w'=>e= .returned (.bool r)∧Zar w w':=by
 have H:(if a0≥(-1048576)then(some (decide (a0≤1048576)))else(some false))=some r:=h;clear h;by_cases c2:a0≥(-1048576)
 case pos=>
  rw[if_pos c2]at H;have jE:decide ((-1048576)≤a0)=true:=decide_eq_true c2;clear c2;obtain rfl:=sj H;go_enter Tryz.func117,Tryz.ntmps117;go_wp2;go_ret;exact⟨eS,by repeat(first|exact Zar.refl _|apply Zar.step)⟩
 rw[if_neg c2]at H;have jE:decide ((-1048576)≤a0)=false:=decide_eq_false c2;clear c2;obtain rfl:=sj H;go_enter Tryz.func117,Tryz.ntmps117;go_wp2;go_ret;exact⟨eS,by repeat(first|exact Zar.refl _|apply Zar.step)⟩
end Go.Proofs.YtdpieallpbllkaaGreat.P
/- secateur/dom.right: over a list of ranges. -/
namespace Go.Proofs.YtdpieallpbllkaaGreat.P
open Go.RowKit Go.Proofs.YtdpieallpbllkaaGreatW.PrintWords Go.Proofs.YtdpieallpbllkaaGreatW.PrintLast Go.Proofs.YtdpieallpbllkaaGreatW.PrintMore
def Zcl.l0 : Nat → List (S82) → List (S82) → Int → Int → Option (Bool)
 | 0, _, _, _, _ => none
 |k+1,x0,x5,x6,x7=>if x7<x6 then(if 0≤x7 then(if x7<(x5.length:Int)then((Zdn.f ((Zbr x5 x7).f0)).bind fun ta=>(if ta=true then((Zdn.f ((Zbr x5 x7).f1)).bind fun tb=>(if tb=true then(if((Zbr x5 x7).f0)>((Zbr x5 x7).f1)then(some false)else(if x7>0 then(if 0≤(wrap64 (x7 - 1))then(if(wrap64 (x7 - 1))<(x0.length:Int)then(if((Zbr x5 x7).f0)<(wrap64 (((Zbr x0 (wrap64 (x7 - 1))).f1)+2))then(some false)else(Zcl.l0 k x0 x5 x6 (wrap64 (x7+1))))else(none))else(none))else(Zcl.l0 k x0 x5 x6 (wrap64 (x7+1)))))else(some false)))else(some false)))else(none))else(none))else(some true)
def Zcl.f (k:Nat) (l0:List (S82)):Option (Bool):=Zcl.l0 k l0 l0 (l0.length:Int) 0
theorem Zcl.Zda : ∀ k, (∀ y0 y1 y2 y3, LeO (Zcl.l0 k y0 y1 y2 y3) (Zcl.l0 (k + 1) y0 y1 y2 y3))
  | 0 => by intro y0 y1 y2 y3 r h; simp [Zcl.l0] at h
  |k+1=>by
    have ih:=Zcl.Zda k;intro y0 y1 y2 y3;unfold Zcl.l0
    repeat' first
      | (with_reducible exact ih _ _ _ _)
      | (with_reducible exact LeO.refl _)
      | (with_reducible exact LeO.none _)
      | (with_reducible refine LeO.ite ?_ ?_)
      |(with_reducible refine LeO.bind ?_ (fun _=> ?_))
theorem Zcl.mono:∀a0 k,LeO (Zcl.f k a0) (Zcl.f (k+1) a0):=fun a0 k=>Zcl.Zda k a0 a0 _ _
set_option maxRecDepth 100000 in
theorem Zcl.calls (k : Nat) (A0 : Option Addr) (c0 : Nat) (l0 : List (S82)) (r : Bool) (w : World) (hr0 : Kd.C k82 w A0 l0.length l0) (hc0 : l0.length ≤ c0) (h : Zcl.f k l0 = some r) :
  Calls Tryz.prog 107 #[.slice A0 l0.length c0] w fun e w'=>e= .returned (.bool r)∧Below w.heap.size w w':=by
 have hu:=Tryz.underlying82;have HR0:=Za.mk hr0;clear hr0 hc0;have HB:=Za.mk (Below.refl w.heap.size w);have H':=Za.mk (show Zcl.l0 k l0 l0 (l0.length:Int) 0=some r from h);clear h;go_enter Tryz.func107,Tryz.ntmps107;go_wp2
 go_loopg [7] k (fun kq v7 w'=>∃(x:Int),v7= .int .i64 x∧Za (Zcl.l0 kq l0 l0 (l0.length:Int) x=some r)∧Za (kq≤k)∧Za (Below w.heap.size w w'))
 case atStart=>exact⟨0,rfl,H',⟨Nat.le_refl _⟩,⟨mvB HB.out⟩⟩
 case round=>
  clear H' HB;obtain⟨x,rfl,HA,HK1,HB⟩:=hrel
  cases gk with
  | zero => exact absurd HA.out (by simp [Zcl.l0])
  |succ k1=>
   have H:=HA.out;clear HA;simp only[Zcl.l0]at H;by_cases c2:x<(l0.length:Int);rotate_left
   ·rw [if_neg c2] at H
    have p1_:decide (x<(l0.length:Int))=false:=decide_eq_false c2;clear c2;obtain rfl:=Option.some.inj H;clear H;go_wp2;go_ret;exact⟨rfl,mvB HB.out⟩
   rw[if_pos c2]at H;have p1_:decide (x<(l0.length:Int))=true:=decide_eq_true c2;by_cases c3:0≤x;rotate_left
   ·rw [if_neg c3] at H
    exact absurd H (by simp)
   rw[if_pos c3]at H;rw[if_pos c2]at H;have p2_:decide (0≤x)=true:=decide_eq_true c3;obtain⟨ad,e_,hx0,hx1⟩:=Zen (Kd.Zab HR0.out HB.out) x c3 c2;cases e_;replace c2:=eq_true c2;replace c3:=eq_true c3
   generalize (Zbr l0 x).f0=a at hx0 H
   generalize (Zbr l0 x).f1=b at hx1 H
   obtain⟨va,hva,H2_⟩:=Option.bind_eq_some_iff.1 H;clear H;have H:=H2_;clear H2_;have HVa:=Za.mk hva;clear hva
   cases va with
   |false=>
    rw[if_neg Bool.false_ne_true]at H;obtain rfl:=Option.some.inj H;clear H
    go_wp2_with (first|((with_reducible refine Zao (N:=4) rfl ?_);refine Zdh ?hg (N:=4) ?hd (cs:=#[.int .i64 0,.int .i64 0]) (t:=82) ?hr ?_;(case hd=>rfl);(case hg=>rfl);(case hr=>first|(go_simp;done)|(go_simp;rfl));intro g4 hg4 w9 hbox hb;have BX:=Za.mk hbox;have mg:w9.cell? ⟨g4,0,none⟩=some (.int .i64 0):=(Zap hbox 0).trans rfl;have l6:w9.cell? ⟨g4,1,none⟩=some (.int .i64 0):=(Zap hbox 1).trans rfl;have mh:=Za2 hbox 0;have mi:=Za2 hbox 1;have BV:=Za.mk (Zaf (mvB (Below.refl wr.heap.size wr)) hb);have HG4:Za (wr.heap.size≤g4):=⟨by rw[hg4];exact(mvB (Below.refl wr.heap.size wr)).size⟩;clear hbox hb hg4))
    have BXq:=Za.mk (Za4 (cs':=#[.int .i64 a,.int .i64 b]) (Za4 (cs':=#[.int .i64 a,.int .i64 0]) BX.out 0 (.int .i64 a) rfl) 1 (.int .i64 b) rfl);have BVq:=Za.mk (show Below wr.heap.size wr ((w9.setCell ⟨g4,0,none⟩ (.int .i64 a)).setCell ⟨g4,1,none⟩ (.int .i64 b))from Zbd (Zbd BV.out HG4.out) HG4.out);clear mg l6 mh mi
    generalize ((w9.setCell ⟨g4,0,none⟩ (.int .i64 a)).setCell ⟨g4,1,none⟩ (.int .i64 b))=wq at BXq BVq ⊢
    have hq0:wq.cell? ⟨g4,0,none⟩=some (.int .i64 a):=(Zap BXq.out 0).trans rfl;have hq1:wq.cell? ⟨g4,1,none⟩=some (.int .i64 b):=(Zap BXq.out 1).trans rfl;clear hx0 hx1;have HCa:Za (∀n,Calls Tryz.prog 117 #[.int .i64 a] (wq.drewN n) fun e w''=>e= .returned (.bool false)∧∃m,w''=wq.drewN m):=⟨fun n=>Calls.quiet_of ((Zdn.calls a _ _ HVa.out).mono fun e w' h_=>⟨h_.1,h_.2.out⟩)⟩
    go_quiet (with_reducible exact HCa.out _)
    go_wp2;go_ret;exact⟨rfl,mvB (Zaf HB.out BVq.out)⟩
   |true=>
    rw[if_pos rfl]at H;obtain⟨vb,hvb,H2_⟩:=Option.bind_eq_some_iff.1 H;clear H;have H:=H2_;clear H2_;have HVb:=Za.mk hvb;clear hvb
    cases vb with
    |false=>
     rw[if_neg Bool.false_ne_true]at H;obtain rfl:=Option.some.inj H;clear H
     go_wp2_with (first|((with_reducible refine Zao (N:=4) rfl ?_);refine Zdh ?hg (N:=4) ?hd (cs:=#[.int .i64 0,.int .i64 0]) (t:=82) ?hr ?_;(case hd=>rfl);(case hg=>rfl);(case hr=>first|(go_simp;done)|(go_simp;rfl));intro g4 hg4 w9 hbox hb;have BX:=Za.mk hbox;have mg:w9.cell? ⟨g4,0,none⟩=some (.int .i64 0):=(Zap hbox 0).trans rfl;have l6:w9.cell? ⟨g4,1,none⟩=some (.int .i64 0):=(Zap hbox 1).trans rfl;have mh:=Za2 hbox 0;have mi:=Za2 hbox 1;have BV:=Za.mk (Zaf (mvB (Below.refl wr.heap.size wr)) hb);have HG4:Za (wr.heap.size≤g4):=⟨by rw[hg4];exact(mvB (Below.refl wr.heap.size wr)).size⟩;clear hbox hb hg4))
     have BXq:=Za.mk (Za4 (cs':=#[.int .i64 a,.int .i64 b]) (Za4 (cs':=#[.int .i64 a,.int .i64 0]) BX.out 0 (.int .i64 a) rfl) 1 (.int .i64 b) rfl);have BVq:=Za.mk (show Below wr.heap.size wr ((w9.setCell ⟨g4,0,none⟩ (.int .i64 a)).setCell ⟨g4,1,none⟩ (.int .i64 b))from Zbd (Zbd BV.out HG4.out) HG4.out);clear mg l6 mh mi
     generalize ((w9.setCell ⟨g4,0,none⟩ (.int .i64 a)).setCell ⟨g4,1,none⟩ (.int .i64 b))=wq at BXq BVq ⊢
     have hq0:wq.cell? ⟨g4,0,none⟩=some (.int .i64 a):=(Zap BXq.out 0).trans rfl;have hq1:wq.cell? ⟨g4,1,none⟩=some (.int .i64 b):=(Zap BXq.out 1).trans rfl;clear hx0 hx1;have HCa:Za (∀n,Calls Tryz.prog 117 #[.int .i64 a] (wq.drewN n) fun e w''=>e= .returned (.bool true)∧∃m,w''=wq.drewN m):=⟨fun n=>Calls.quiet_of ((Zdn.calls a _ _ HVa.out).mono fun e w' h_=>⟨h_.1,h_.2.out⟩)⟩;have HCb:Za (∀n,Calls Tryz.prog 117 #[.int .i64 b] (wq.drewN n) fun e w''=>e= .returned (.bool false)∧∃m,w''=wq.drewN m):=⟨fun n=>Calls.quiet_of ((Zdn.calls b _ _ HVb.out).mono fun e w' h_=>⟨h_.1,h_.2.out⟩)⟩
     go_quiet (first|with_reducible exact HCa.out _|with_reducible exact HCb.out _)
     go_wp2;go_ret;exact⟨rfl,mvB (Zaf HB.out BVq.out)⟩
    |true=>
     rw[if_pos rfl]at H;by_cases c9:a>b
     ·rw [if_pos c9] at H
      have d9_:decide (b<a)=true:=decide_eq_true c9;clear c9;obtain rfl:=Option.some.inj H;clear H
      go_wp2_with (first|((with_reducible refine Zao (N:=4) rfl ?_);refine Zdh ?hg (N:=4) ?hd (cs:=#[.int .i64 0,.int .i64 0]) (t:=82) ?hr ?_;(case hd=>rfl);(case hg=>rfl);(case hr=>first|(go_simp;done)|(go_simp;rfl));intro g4 hg4 w9 hbox hb;have BX:=Za.mk hbox;have mg:w9.cell? ⟨g4,0,none⟩=some (.int .i64 0):=(Zap hbox 0).trans rfl;have l6:w9.cell? ⟨g4,1,none⟩=some (.int .i64 0):=(Zap hbox 1).trans rfl;have mh:=Za2 hbox 0;have mi:=Za2 hbox 1;have BV:=Za.mk (Zaf (mvB (Below.refl wr.heap.size wr)) hb);have HG4:Za (wr.heap.size≤g4):=⟨by rw[hg4];exact(mvB (Below.refl wr.heap.size wr)).size⟩;clear hbox hb hg4))
      have BXq:=Za.mk (Za4 (cs':=#[.int .i64 a,.int .i64 b]) (Za4 (cs':=#[.int .i64 a,.int .i64 0]) BX.out 0 (.int .i64 a) rfl) 1 (.int .i64 b) rfl);have BVq:=Za.mk (show Below wr.heap.size wr ((w9.setCell ⟨g4,0,none⟩ (.int .i64 a)).setCell ⟨g4,1,none⟩ (.int .i64 b))from Zbd (Zbd BV.out HG4.out) HG4.out);clear mg l6 mh mi
      generalize ((w9.setCell ⟨g4,0,none⟩ (.int .i64 a)).setCell ⟨g4,1,none⟩ (.int .i64 b))=wq at BXq BVq ⊢
      have hq0:wq.cell? ⟨g4,0,none⟩=some (.int .i64 a):=(Zap BXq.out 0).trans rfl;have hq1:wq.cell? ⟨g4,1,none⟩=some (.int .i64 b):=(Zap BXq.out 1).trans rfl;clear hx0 hx1;have HCa:Za (∀n,Calls Tryz.prog 117 #[.int .i64 a] (wq.drewN n) fun e w''=>e= .returned (.bool true)∧∃m,w''=wq.drewN m):=⟨fun n=>Calls.quiet_of ((Zdn.calls a _ _ HVa.out).mono fun e w' h_=>⟨h_.1,h_.2.out⟩)⟩;have HCb:Za (∀n,Calls Tryz.prog 117 #[.int .i64 b] (wq.drewN n) fun e w''=>e= .returned (.bool true)∧∃m,w''=wq.drewN m):=⟨fun n=>Calls.quiet_of ((Zdn.calls b _ _ HVb.out).mono fun e w' h_=>⟨h_.1,h_.2.out⟩)⟩
      go_quiet (first|with_reducible exact HCa.out _|with_reducible exact HCb.out _)
      go_wp2;go_ret;exact⟨rfl,mvB (Zaf HB.out BVq.out)⟩
     rw[if_neg c9]at H;have d9_:decide (b<a)=false:=decide_eq_false c9;clear c9;by_cases c10:x>0;rotate_left
     ·rw [if_neg c10] at H
      have d10_:decide (0<x)=false:=decide_eq_false c10;clear c10;have H':=Za.mk H;clear H
      go_wp2_with (first|((with_reducible refine Zao (N:=4) rfl ?_);refine Zdh ?hg (N:=4) ?hd (cs:=#[.int .i64 0,.int .i64 0]) (t:=82) ?hr ?_;(case hd=>rfl);(case hg=>rfl);(case hr=>first|(go_simp;done)|(go_simp;rfl));intro g4 hg4 w9 hbox hb;have BX:=Za.mk hbox;have mg:w9.cell? ⟨g4,0,none⟩=some (.int .i64 0):=(Zap hbox 0).trans rfl;have l6:w9.cell? ⟨g4,1,none⟩=some (.int .i64 0):=(Zap hbox 1).trans rfl;have mh:=Za2 hbox 0;have mi:=Za2 hbox 1;have BV:=Za.mk (Zaf (mvB (Below.refl wr.heap.size wr)) hb);have HG4:Za (wr.heap.size≤g4):=⟨by rw[hg4];exact(mvB (Below.refl wr.heap.size wr)).size⟩;clear hbox hb hg4))
      have BXq:=Za.mk (Za4 (cs':=#[.int .i64 a,.int .i64 b]) (Za4 (cs':=#[.int .i64 a,.int .i64 0]) BX.out 0 (.int .i64 a) rfl) 1 (.int .i64 b) rfl);have BVq:=Za.mk (show Below wr.heap.size wr ((w9.setCell ⟨g4,0,none⟩ (.int .i64 a)).setCell ⟨g4,1,none⟩ (.int .i64 b))from Zbd (Zbd BV.out HG4.out) HG4.out);clear mg l6 mh mi
      generalize ((w9.setCell ⟨g4,0,none⟩ (.int .i64 a)).setCell ⟨g4,1,none⟩ (.int .i64 b))=wq at BXq BVq ⊢
      have hq0:wq.cell? ⟨g4,0,none⟩=some (.int .i64 a):=(Zap BXq.out 0).trans rfl;have hq1:wq.cell? ⟨g4,1,none⟩=some (.int .i64 b):=(Zap BXq.out 1).trans rfl;clear hx0 hx1;have HCa:Za (∀n,Calls Tryz.prog 117 #[.int .i64 a] (wq.drewN n) fun e w''=>e= .returned (.bool true)∧∃m,w''=wq.drewN m):=⟨fun n=>Calls.quiet_of ((Zdn.calls a _ _ HVa.out).mono fun e w' h_=>⟨h_.1,h_.2.out⟩)⟩;have HCb:Za (∀n,Calls Tryz.prog 117 #[.int .i64 b] (wq.drewN n) fun e w''=>e= .returned (.bool true)∧∃m,w''=wq.drewN m):=⟨fun n=>Calls.quiet_of ((Zdn.calls b _ _ HVb.out).mono fun e w' h_=>⟨h_.1,h_.2.out⟩)⟩
      go_quiet (first|with_reducible exact HCa.out _|with_reducible exact HCb.out _)
      go_wp2
      go_roundg k1
      case measure=>exact Nat.lt_succ_self _
      case rel=>exact⟨_,(by first|rfl|(simp;done)|(simp[*];done)),H',⟨by have:=HK1.out;omega⟩,⟨mvB (Zaf HB.out BVq.out)⟩⟩
     rw[if_pos c10]at H;have d10_:decide (0<x)=true:=decide_eq_true c10;clear c10;obtain⟨j,hj⟩:∃j_:Int,wrap64 (x - 1)=j_:=⟨_,rfl⟩;rw[hj]at H;have hjw:IntKind.i64.wrap (x - 1)=j:=(Zd0 _).trans hj;clear hj;by_cases c11:0≤j;case neg=>rw[if_neg c11]at H;exact absurd H (by simp)
     rw[if_pos c11]at H;by_cases c12:j<(l0.length:Int);case neg=>rw[if_neg c12]at H;exact absurd H (by simp)
     rw[if_pos c12]at H;obtain⟨ad2,e2_,hy0,hy1⟩:=Zen (Kd.Zab HR0.out HB.out) j c11 c12;obtain rfl:ad=ad2:=(by injection e2_);clear e2_;have d11_:decide (0≤j)=true:=decide_eq_true c11;have d12_:decide (j<(l0.length:Int))=true:=decide_eq_true c12;replace c11:=eq_true c11;replace c12:=eq_true c12
     generalize (Zbr l0 j).f1=q at hy1 H
     obtain⟨g,hg⟩:∃g_:Int,wrap64 (q+2)=g_:=⟨_,rfl⟩;rw[hg]at H;have hgw:IntKind.i64.wrap (q+2)=g:=(Zd0 _).trans hg;clear hg;by_cases c13:a<g
     ·rw [if_pos c13] at H
      have d13_:decide (a<g)=true:=decide_eq_true c13;clear c13;obtain rfl:=Option.some.inj H;clear H
      go_wp2_with (first|((with_reducible refine Zao (N:=4) rfl ?_);refine Zdh ?hg (N:=4) ?hd (cs:=#[.int .i64 0,.int .i64 0]) (t:=82) ?hr ?_;(case hd=>rfl);(case hg=>rfl);(case hr=>first|(go_simp;done)|(go_simp;rfl));intro g4 hg4 w9 hbox hb;have BX:=Za.mk hbox;have mg:w9.cell? ⟨g4,0,none⟩=some (.int .i64 0):=(Zap hbox 0).trans rfl;have l6:w9.cell? ⟨g4,1,none⟩=some (.int .i64 0):=(Zap hbox 1).trans rfl;have mh:=Za2 hbox 0;have mi:=Za2 hbox 1;have BV:=Za.mk (Zaf (mvB (Below.refl wr.heap.size wr)) hb);have HG4:Za (wr.heap.size≤g4):=⟨by rw[hg4];exact(mvB (Below.refl wr.heap.size wr)).size⟩;clear hbox hb hg4))
      have BXq:=Za.mk (Za4 (cs':=#[.int .i64 a,.int .i64 b]) (Za4 (cs':=#[.int .i64 a,.int .i64 0]) BX.out 0 (.int .i64 a) rfl) 1 (.int .i64 b) rfl);have BVq:=Za.mk (show Below wr.heap.size wr ((w9.setCell ⟨g4,0,none⟩ (.int .i64 a)).setCell ⟨g4,1,none⟩ (.int .i64 b))from Zbd (Zbd BV.out HG4.out) HG4.out);clear mg l6 mh mi
      generalize ((w9.setCell ⟨g4,0,none⟩ (.int .i64 a)).setCell ⟨g4,1,none⟩ (.int .i64 b))=wq at BXq BVq ⊢
      have hq0:wq.cell? ⟨g4,0,none⟩=some (.int .i64 a):=(Zap BXq.out 0).trans rfl;have hq1:wq.cell? ⟨g4,1,none⟩=some (.int .i64 b):=(Zap BXq.out 1).trans rfl;have hq2:=(BVq.out.cell (World.block_lt_of_cell? wr _ hy1)).trans hy1;clear hy0 hy1 hx0 hx1;have HCa:Za (∀n,Calls Tryz.prog 117 #[.int .i64 a] (wq.drewN n) fun e w''=>e= .returned (.bool true)∧∃m,w''=wq.drewN m):=⟨fun n=>Calls.quiet_of ((Zdn.calls a _ _ HVa.out).mono fun e w' h_=>⟨h_.1,h_.2.out⟩)⟩;have HCb:Za (∀n,Calls Tryz.prog 117 #[.int .i64 b] (wq.drewN n) fun e w''=>e= .returned (.bool true)∧∃m,w''=wq.drewN m):=⟨fun n=>Calls.quiet_of ((Zdn.calls b _ _ HVb.out).mono fun e w' h_=>⟨h_.1,h_.2.out⟩)⟩
      go_quiet (first|with_reducible exact HCa.out _|with_reducible exact HCb.out _)
      go_wp2;go_ret;exact⟨rfl,mvB (Zaf HB.out BVq.out)⟩
     rw[if_neg c13]at H;have d13_:decide (a<g)=false:=decide_eq_false c13;clear c13;have H':=Za.mk H;clear H
     go_wp2_with (first|((with_reducible refine Zao (N:=4) rfl ?_);refine Zdh ?hg (N:=4) ?hd (cs:=#[.int .i64 0,.int .i64 0]) (t:=82) ?hr ?_;(case hd=>rfl);(case hg=>rfl);(case hr=>first|(go_simp;done)|(go_simp;rfl));intro g4 hg4 w9 hbox hb;have BX:=Za.mk hbox;have mg:w9.cell? ⟨g4,0,none⟩=some (.int .i64 0):=(Zap hbox 0).trans rfl;have l6:w9.cell? ⟨g4,1,none⟩=some (.int .i64 0):=(Zap hbox 1).trans rfl;have mh:=Za2 hbox 0;have mi:=Za2 hbox 1;have BV:=Za.mk (Zaf (mvB (Below.refl wr.heap.size wr)) hb);have HG4:Za (wr.heap.size≤g4):=⟨by rw[hg4];exact(mvB (Below.refl wr.heap.size wr)).size⟩;clear hbox hb hg4))
     have BXq:=Za.mk (Za4 (cs':=#[.int .i64 a,.int .i64 b]) (Za4 (cs':=#[.int .i64 a,.int .i64 0]) BX.out 0 (.int .i64 a) rfl) 1 (.int .i64 b) rfl);have BVq:=Za.mk (show Below wr.heap.size wr ((w9.setCell ⟨g4,0,none⟩ (.int .i64 a)).setCell ⟨g4,1,none⟩ (.int .i64 b))from Zbd (Zbd BV.out HG4.out) HG4.out);clear mg l6 mh mi
     generalize ((w9.setCell ⟨g4,0,none⟩ (.int .i64 a)).setCell ⟨g4,1,none⟩ (.int .i64 b))=wq at BXq BVq ⊢
     have hq0:wq.cell? ⟨g4,0,none⟩=some (.int .i64 a):=(Zap BXq.out 0).trans rfl;have hq1:wq.cell? ⟨g4,1,none⟩=some (.int .i64 b):=(Zap BXq.out 1).trans rfl;have hq2:=(BVq.out.cell (World.block_lt_of_cell? wr _ hy1)).trans hy1;clear hy0 hy1 hx0 hx1;have HCa:Za (∀n,Calls Tryz.prog 117 #[.int .i64 a] (wq.drewN n) fun e w''=>e= .returned (.bool true)∧∃m,w''=wq.drewN m):=⟨fun n=>Calls.quiet_of ((Zdn.calls a _ _ HVa.out).mono fun e w' h_=>⟨h_.1,h_.2.out⟩)⟩;have HCb:Za (∀n,Calls Tryz.prog 117 #[.int .i64 b] (wq.drewN n) fun e w''=>e= .returned (.bool true)∧∃m,w''=wq.drewN m):=⟨fun n=>Calls.quiet_of ((Zdn.calls b _ _ HVb.out).mono fun e w' h_=>⟨h_.1,h_.2.out⟩)⟩
     go_quiet (first|with_reducible exact HCa.out _|with_reducible exact HCb.out _)
     go_wp2
     go_roundg k1
     case measure=>exact Nat.lt_succ_self _
     case rel=>exact⟨_,(by first|rfl|(simp;done)|(simp[*];done)),H',⟨by have:=HK1.out;omega⟩,⟨mvB (Zaf HB.out BVq.out)⟩⟩
end Go.Proofs.YtdpieallpbllkaaGreat.P
namespace Go.Proofs.YtdpieallpbllkaaGreat.P
open Go.RowKit Go.Proofs.YtdpieallpbllkaaGreatW.PrintWords Go.Proofs.YtdpieallpbllkaaGreatW.PrintLast Go.Proofs.YtdpieallpbllkaaGreatW.PrintMore
attribute [local go_sem] Zcv Zcx Zdi Zdj Zcm Zcn Zcw Zcy
def Zea.f (k:Nat) (l0:List (S82)):Option (Int):=(Zcl.f k l0).bind fun LC=>(if LC=true then((Zcs.f k l0).bind fun zt=>(if zt>4096 then(some 2)else(some 0)))else(some 20))
theorem Zea.mono:∀a0 k,LeO (Zea.f k a0) (Zea.f (k+1) a0):=by
 intro a0 k;unfold Zea.f
 repeat' first
   | (with_reducible exact Zcs.mono _ _)
   | (with_reducible exact Zcl.mono _ _)
   | (with_reducible exact LeO.refl _)
   | (with_reducible exact LeO.none _)
   | (with_reducible refine LeO.ite ?_ ?_)
   |(with_reducible refine LeO.bind ?_ (fun _=> ?_))
set_option maxRecDepth 100000 in
theorem Zea.calls (k : Nat) (A0 : Option Addr) (c0 : Nat) (l0 : List (S82)) (r : Int) (w : World) (hr0 : Kd.C k82 w A0 l0.length l0) (hc0 : l0.length ≤ c0) (h : Zea.f k l0 = some r) :
  Calls Tryz.prog 78 #[.slice A0 l0.length c0] w fun e w'=>e= .returned (.int .i64 r)∧Below w.heap.size w w':=by
 have HR0:=Za.mk hr0;have HC0:=Za.mk hc0;clear hr0 hc0;have HB:=Za.mk (Below.refl w.heap.size w);have H:((Zcl.f k l0).bind fun LC=>(if LC=true then((Zcs.f k l0).bind fun zt=>(if zt>4096 then(some 2)else(some 0)))else(some 20)))=some r:=h;clear h;obtain⟨LC,A2,H⟩:=bnd H;try dsimp only at H
 by_cases c3:LC=true
 case neg=>
  replace c3:=Bool.eq_false_iff.mpr c3;subst c3;replace H:=ifF H;obtain rfl:=sj H;go_enter Tryz.func78,Tryz.ntmps78
  go_wp2_with (first|((with_reducible refine Zak (f:=107) rfl ?_);refine gl 5 Tryz.func107 #[.slice A0 l0.length c0] ?_;(with_reducible refine(Zcl.calls k _ _ l0 false _ (cM HR0.out) HC0.out A2.out).mono ?_);rintro e w10 ⟨rfl,hb⟩;refine⟨_,rfl,?_⟩;replace HB:=Za.mk (bS HB.out hb);(try clear hb);(try clear hb2);(try clear hk);(try clear hi)))
  go_ret;exact⟨eR,bM HB.out⟩
 subst c3;rw[if_pos rfl]at H;obtain⟨zt,A4,H⟩:=bnd H;try dsimp only at H
 by_cases c5:zt>4096
 case neg=>
  rw[if_neg c5]at H;have bU:decide (4096<zt)=false:=decide_eq_false c5;clear c5;obtain rfl:=sj H;go_enter Tryz.func78,Tryz.ntmps78
  go_wp2_with (first|((with_reducible refine Zak (f:=107) rfl ?_);refine gl 5 Tryz.func107 #[.slice A0 l0.length c0] ?_;(with_reducible refine(Zcl.calls k _ _ l0 true _ (cM HR0.out) HC0.out A2.out).mono ?_);rintro e w8 ⟨rfl,hb⟩;refine⟨_,rfl,?_⟩;replace HB:=Za.mk (bS HB.out hb);(try clear hb);(try clear hb2);(try clear hk);(try clear hi))|((with_reducible refine Zak (f:=60) rfl ?_);refine gl 9 Tryz.func60 #[.slice A0 l0.length c0] ?_;(with_reducible refine(Zcs.calls k _ _ l0 zt _ (cM (Kd.Zab HR0.out HB.out)) HC0.out A4.out).mono ?_);rintro e w9 ⟨rfl,hb⟩;refine⟨_,rfl,?_⟩;replace HB:=Za.mk (bS HB.out hb);(try clear hb);(try clear hb2);(try clear hk);(try clear hi)))
  go_ret;exact⟨eR,bM HB.out⟩
 rw[if_pos c5]at H;have bU:decide (4096<zt)=true:=decide_eq_true c5;clear c5;obtain rfl:=sj H;go_enter Tryz.func78,Tryz.ntmps78
 go_wp2_with (first|((with_reducible refine Zak (f:=107) rfl ?_);refine gl 5 Tryz.func107 #[.slice A0 l0.length c0] ?_;(with_reducible refine(Zcl.calls k _ _ l0 true _ (cM HR0.out) HC0.out A2.out).mono ?_);rintro e w6 ⟨rfl,hb⟩;refine⟨_,rfl,?_⟩;replace HB:=Za.mk (bS HB.out hb);(try clear hb);(try clear hb2);(try clear hk);(try clear hi))|((with_reducible refine Zak (f:=60) rfl ?_);refine gl 9 Tryz.func60 #[.slice A0 l0.length c0] ?_;(with_reducible refine(Zcs.calls k _ _ l0 zt _ (cM (Kd.Zab HR0.out HB.out)) HC0.out A4.out).mono ?_);rintro e w7 ⟨rfl,hb⟩;refine⟨_,rfl,?_⟩;replace HB:=Za.mk (bS HB.out hb);(try clear hb);(try clear hb2);(try clear hk);(try clear hi)))
 go_ret;exact⟨eR,bM HB.out⟩
end Go.Proofs.YtdpieallpbllkaaGreat.P
/- slices.Clone of ranges. -/
namespace Go.Proofs.YtdpieallpbllkaaGreat.P
open Go.RowKit Go.Proofs.YtdpieallpbllkaaGreatW.PrintWords Go.Proofs.YtdpieallpbllkaaGreatW.PrintLast Go.Proofs.YtdpieallpbllkaaGreatW.PrintMore
def cloneR.f (l0:List S82):Option (List S82):=if l0.length<8796093022208 then some l0 else none
set_option maxRecDepth 100000 in
theorem cloneR.calls (A0 : Option Addr) (c0 : Nat) (l0 : List S82) (r : List S82) (w : World) (hr0 : Kd.C k82 w A0 l0.length l0) (hc0 : l0.length ≤ c0) (h : cloneR.f l0 = some r) :
    Calls Tryz.prog 81 #[.slice A0 l0.length c0] w fun e w'=>∃v0_:Value,e= .returned (v0_)∧Kd.R k82 82 w' w.heap.size (fun _=>True) v0_ r∧Below w.heap.size w w':=by
  have hu:=Tryz.underlying82;have q22:∀(w:World) (a:Option Addr) (n c n' c':Nat),(binOp .eql 53 (.slice a n c) (.slice none n' c')).run Tryz.prog w= .ok (.bool a.isNone) w:=fun w a n c n' c'=>Lib.run_eql_slice_nil w _ _ a n c n' c' Tryz.underlying53
  unfold cloneR.f at h
  split at h
  case isFalse=>cases h
  case isTrue hl=>
    obtain rfl:=Option.some.inj h;have HL:=Za.mk hl;clear h hl;have HR:=Za.mk hr0;have hlen:l0.length≤9223372036854775807:=hr0.2.1
    cases A0 with
    |none=>
      have h0:l0= []:=by
        rcases Nat.eq_zero_or_pos l0.length with h|h
        · exact List.length_eq_zero_iff.1 h
        obtain⟨ad,e,_⟩:=hr0.2.2 h;cases e
      subst h0;clear hr0;go_enter Tryz.func81,Tryz.ntmps81;go_wp2;go_ret;exact⟨_,rfl,Kd.R_nil _ _ _ _ _,Below.refl _ _⟩
    |some ad=>
      clear hr0;have HB:=Za.mk (Below.refl w.heap.size w);go_enter Tryz.func81,Tryz.ntmps81
      go_wp2_with (first|((with_reducible refine Zao (N:=5) rfl ?_);refine Kd.Zdg k82 _ 82 ?hg (N:=5) ?hd (xs:=([]:List S82)) (inner:= []) (ok:=fun _=>True) (okp:=fun _=>True) ?hr ?hp (fun _ hk=>hk) trivial (Below.refl w.heap.size w) (Nat.le_refl _) (by simp) ?_;(case hd=>rfl);(case hg=>rfl);(case hr=>first|(go_simp;done)|(go_simp;rfl));(case hp=>exact(Reps.none _ _));intro v1 w1 ho hb hg_ hnew_;have HO:=Za.mk ho;have HB:=Za.mk hb;clear ho hb hg_ hnew_)|((with_reducible refine Zbu (b:= .append) (xs:=#[.tmp 5,.tmp 6]) rfl ?_);at_builtin;go_loud (refine Kd.Zdf k82 (Rr:=k82.K w1) (w0:=w) w.heap.size rfl (.tmp 5) (.tmp 6) 53 82 (.agg #[(.int .i64 0),(.int .i64 0)]) 16 rfl Tryz.underlying53 Zh1 rfl (by decide) (by omega) v1 ([]:List S82) l0 _ _ _ (fun _=>True) (fun _=>False) rfl rfl ?aO ?aR ?aK (fun _ h=>h.elim) ?aF ?aB ?aS ?aL ?_;(case aR=>exact Kd.Zab HR.out HB.out);(case aK=>intro x cs h;have e_:=k82_open h;subst e_;exact Zh _ _ _ x);(case aB=>exact HB.out);(case aF=>exact(fun _ _=>trivial));(case aO=>exact HO.out);(case aS=>exact HB.out.size);(case aL=>have:=HL.out;simp;omega);intro v2 w2 ho2 hb2 hg hat;have HO2:=Za.mk ho2;have HB2:=Za.mk hb2;clear ho2 hb2 hg hat)))
      go_ret;exact⟨_,rfl,by simpa using HO2.out,HB2.out⟩
end Go.Proofs.YtdpieallpbllkaaGreat.P
namespace Go.Proofs.YtdpieallpbllkaaGreat.P
open Go.RowKit Go.Proofs.YtdpieallpbllkaaGreatW.PrintWords Go.Proofs.YtdpieallpbllkaaGreatW.PrintLast Go.Proofs.YtdpieallpbllkaaGreatW.PrintMore
attribute [local go_sem] Zcv Zcx Zdi Zdj Zcm Zcn Zcw Zcy
def Zch.l0 : Nat → List (List (S82)) → List (S55) → Int → Int → Option ((List (List (S82))))
 | 0, _, _, _, _ => none
 |k+1,x3,x7,x8,x9=>if x9<x8 then(if 0≤x9 then(if x9<(x7.length:Int)then((cloneR.f ((Za9 x7 x9).f1)).bind fun D7=>(if x3.length<5864062014805 then(Zch.l0 k (x3++ [D7]) x7 x8 (wrap64 (x9+1)))else(none)))else(none))else(none))else(some x3)
def Zch.f (k:Nat) (ag:List (S55)) (aa:List (S36)) (az:Int) (au:List Int) (ak:List Int):Option ((List (List (S82)))):=Zch.l0 k ([]:List (List (S82))) ag (ag.length:Int) 0
theorem Zch.Zda : ∀ k, (∀ y0 y1 y2 y3, LeO (Zch.l0 k y0 y1 y2 y3) (Zch.l0 (k + 1) y0 y1 y2 y3))
 | 0 => fun _ _ _ _ r h => by simp [Zch.l0] at h
 |k+1=>by
  have ih0:=Zch.Zda k;intro y0 y1 y2 y3;unfold Zch.l0
  repeat' first
  | (with_reducible exact ih0 _ _ _ _)
  | (with_reducible exact LeO.refl _)
  | (with_reducible exact LeO.none _)
  | (with_reducible refine LeO.ite ?_ ?_)
  |(with_reducible refine LeO.bind ?_ (fun _=> ?_))
theorem Zch.mono:∀a0 a1 a2 a3 a4 k,LeO (Zch.f k a0 a1 a2 a3 a4) (Zch.f (k+1) a0 a1 a2 a3 a4):=by
 intro a0 a1 a2 a3 a4 k;have ih0:=Zch.Zda k;unfold Zch.f
 repeat' first
   | (with_reducible exact ih0 _ _ _ _)
   | (with_reducible exact LeO.refl _)
   | (with_reducible exact LeO.none _)
   | (with_reducible refine LeO.ite ?_ ?_)
   |(with_reducible refine LeO.bind ?_ (fun _=> ?_))
set_option maxRecDepth 100000 in
theorem Zch.calls (k : Nat) (dV : Option Addr) (dL : Nat) (ag : List (S55)) (aQ : Option Addr) (aM : Nat) (aa : List (S36)) (az : Int) (bJ : Option Addr) (bK : Nat) (au : List Int) (bE : Option Addr) (bF : Nat) (ak : List Int) (r : List (List (S82))) (w : World) (jY : Kd.C k55 w dV ag.length ag) (jX : ag.length ≤ dL) (dB : Kd.C k36 w aQ aa.length aa) (dA : aa.length ≤ aM) (jo : Kd.C (Kd.int .i64) w bJ au.length au) (jl : au.length ≤ bK) (jq : Kd.C (Kd.int .i64) w bE ak.length ak) (jm : ak.length ≤ bF) (h : Zch.f k ag aa az au ak = some r) :
  Calls Tryz.prog 59 #[.agg #[.slice dV ag.length dL,.slice aQ aa.length aM,.int .i64 az,.slice bJ au.length bK,.slice bE ak.length bF]] w fun e w'=>∃v0_:Value,e= .returned (v0_)∧Kd.S (Kd.slice 82 k82) 53 w' w.heap.size (fun _=>True) v0_ r∧Below w.heap.size w w':=by
 have hu28:=Tryz.underlying28;have hu55:=Tryz.underlying55;have gT:=Za.mk jY;have oz:=Za.mk jX;clear jY jX;have dM:=Za.mk dB;have eH:=Za.mk dA;clear dB dA;have jS:=Za.mk jo;have jN:=Za.mk jl;clear jo jl;have jT:=Za.mk jq;have jO:=Za.mk jm;clear jq jm;have HB:=Za.mk (Below.refl w.heap.size w);have H:(Zch.l0 k ([]:List (List (S82))) ag (ag.length:Int) 0)=some r:=h;clear h;have H':=Za.mk H;clear H;go_enter Tryz.func59,Tryz.ntmps59
 go_wp2_with (first|((with_reducible refine Zao (N:=1) rfl ?_);refine bx 1 #[.slice dV ag.length dL,.slice aQ aa.length aM,.int .i64 az,.slice bJ au.length bK,.slice bE ak.length bF] 28 ?_;intro Fj hg w2 hbox hb;have ny:=Za.mk (hbox);have mja:=Za.mk ((gE hg HB.out:w.heap.size≤Fj));replace HB:=Za.mk (bS HB.out hb);clear hb hbox hg;obtain⟨j0a,j1a,j2a,j3a,j4a,jva,jwa,jxa,jya,jza⟩:=cz5 ny.out))
 go_loopg [3,9] k (fun kq v3 v9 w'=>∃(af:List (List (S82))) (oK:Int),v9= .int .i64 oK∧Za (Zch.l0 kq af ag (ag.length:Int) oK=some r)∧Za (kq≤k)∧Za (Kd.S (Kd.slice 82 k82) 53 w' w.heap.size (fun _=>True) v3 af)∧Za (w'.heap[Fj]? =some (.cells #[(.slice dV ag.length dL),(.slice aQ aa.length aM),.int .i64 az,(.slice bJ au.length bK),(.slice bE ak.length bF)] 28 (0,0)))∧Za (Below w.heap.size w w'))
 case atStart=>exact⟨(([]:List (List (S82)))),(0),eS,H',⟨Nat.le_refl _⟩,⟨by first|exact Kd.S_nil _ _ _ _ _|exact Kd.N_nil _ _ _ _ _|exact Kd.V_nil _ _ _ _ _|exact Kd.Q_nil _ _ _ _ _|exact Kd.R_nil _ _ _ _ _⟩,⟨kM ny.out⟩,⟨bM HB.out⟩⟩
 case round=>
  clear H';try clear p2
  try clear j0a j1a j2a j3a j4a jva jwa jxa jya jza
  obtain⟨af,oK,rfl,HA,HK1,aX,ny,HB⟩:=hrel
  cases gk with
  | zero => exact absurd HA.out (by simp [Zch.l0])
  |succ k1=>
   have H:=HA.out;clear HA;simp only[Zch.l0]at H;by_cases c4:oK<(ag.length:Int)
   case neg=>
    rw[if_neg c4]at H;have bQ:decide (oK<(ag.length:Int))=false:=decide_eq_false c4;clear c4;obtain rfl:=sj H;go_wp2;go_ret;exact⟨_,eR,sM aX.out,bM HB.out⟩
   rw[if_pos c4]at H;have bQ:decide (oK<(ag.length:Int))=true:=decide_eq_true c4;clear c4;obtain⟨bU,H⟩:=ifT H;obtain⟨fK,H⟩:=ifT H;obtain⟨D7,A7,H⟩:=bnd H;try dsimp only at H
   obtain⟨c8,H⟩:=ifP H;have Sy:=Za.mk c8;clear c8;obtain⟨b8a,Ga⟩:∃y_:List (List (S82)),y_=(af++ [D7]):=⟨_,rfl⟩;replace H:(Zch.l0 k1 b8a ag (ag.length:Int) (wrap64 (oK+1)))=some r:=by first|(rw[Ga];with_reducible exact H)|(have H2_:=(Option.bind_some _ _).symm.trans H;rw[Ga];with_reducible exact H2_)|(have H2_:=(Option.bind_some _ _).symm.trans H;with_reducible exact H2_)|with_reducible exact H|(rw[Ga];exact H)|exact H
   have cMa:=Za.mk Ga;clear Ga;have H':=Za.mk H;clear H;have v9a:(0≤(oK:Int))=True:=teq;have vCa:(oK<(ag.length:Int))=True:=teq;obtain⟨dfa,RA,RO,rfl,Ns,Nt,MN,M7⟩:=Zem gT.out oK odt odt;replace Ns:=hB HB.out Ns;replace Nt:=hB HB.out Nt;have Yr:=Za.mk M7;have Ya:=Za.mk MN;clear M7 MN
   go_wp2_with (first|((with_reducible refine Zao (N:=5) rfl ?_);refine bx 5 #[.string (⟨#[]⟩:ByteArray),.slice none 0 0] 55 ?_;intro Fp hg w9 hbox hb;replace aX:=Za.mk (Kd.Ze1 (sM aX.out) hb);have NR:=Za.mk (hbox);have mka:=Za.mk ((gE hg HB.out:w.heap.size≤Fp));replace HB:=Za.mk (bS HB.out hb);have Jy:=Za.mk ((by rw[hg];exact Nat.ne_of_lt (Zc9 (kM ny.out)):Fj≠Fp));have RI:=Za.mk ((by rw[hg];exact Nat.ne_of_gt (Zc9 (kM ny.out)):Fp≠Fj));replace ny:=Za.mk (kB ny.out hb);clear hb hbox hg;have dPa:=RI.out;have dRa:=Jy.out;obtain⟨Hy,Hz,GQ,GR⟩:=cz2 NR.out)|((with_reducible refine Zak (f:=81) rfl ?_);refine gl 16 Tryz.func81 #[.slice RA ((Za9 ag oK).f1).length RO] ?_;(with_reducible refine(cloneR.calls _ _ ((Za9 ag oK).f1) D7 _ (Kd.Zab Yr.out (bM HB.out)) Ya.out A7.out).mono ?_);rintro e w12 ⟨waa,rfl,ho0,hb⟩;refine⟨_,rfl,?_⟩;replace aX:=Za.mk (Kd.Zgv (sM (Kd.Ze (Kd.Zdv (p:=⟨Fp,1,none⟩) (Kd.Zdv (p:=⟨Fp,0,none⟩) (Kd.Zes aX.out NR.out (by decide)) (fun _ hk=>hk.2) (.string ((Za9 ag oK).f0))) (fun _ hk=>hk.2) (.slice RA ((Za9 ag oK).f1).length RO)) (fun _ h_=>h_.1))) (Kd.Zc7 ho0) hb);have J6:=Za.mk (Kd.Zbm ho0 (Zad (bM HB.out)));replace ny:=Za.mk (Zci (g:=Fj) (o:= .cells #[.slice (some dfa) ag.length dL,.slice aQ aa.length aM,.int .i64 az,.slice bJ au.length bK,.slice bE ak.length bF] 28 (0,0)) (by(with_reducible repeat(first|exact ny.out|refine Zcu ?_ Jy.out _|refine Zae ?_ _|refine Zai ?_|refine Zag ?_ _))) hb);replace HB:=Za.mk (bS HB.out hb);clear NR;(try clear hb);(try clear hb2);(try clear hk);(try clear hi);(try clear ho0);obtain⟨Ir,IE,II⟩:=Kd.Za8 J6.out;subst II)|((with_reducible refine Zbu (b:= .append) (xs:=#[.tmp 13,.tmp 17]) rfl ?_);at_builtin;refine Kd.S_append (Kd.slice 82 k82) (w0:=w) w.heap.size rfl (.tmp 13) (.tmp 17) 43 53 (.slice none 0 0) 24 rfl Tryz.underlying43 info53 rfl (by decide) (by omega) u3 af D7 [.slice Ir D7.length IE] (fun _=>True) (fun k_=>some k_=(.slice Ir D7.length IE:Value).ownBlock) rfl rfl ?aP (fun k_ hk_=>((Kd.Zba (ok':=fun k_=>((fun _=>True)) k_∧some k_≠(u3:Value).ownBlock) (Kd.Zdp (J6.out) (Kd.Zec aX.out) (by decide)) (fun k_ hk=>⟨trivial,hk.2⟩))).1 k_ hk_.symm) ?aF ?aO ?aB ?aS ?aL ?_;(case aP=>exact Kd.M_row (Kd.Zba (Kd.Zgd rfl (Kd.Zba (ok':=fun k_=>((fun _=>True)) k_∧some k_≠(u3:Value).ownBlock) (Kd.Zdp (J6.out) (Kd.Zec aX.out) (by decide)) (fun k_ hk=>⟨trivial,hk.2⟩))) (fun _ h_=>h_)));(case aB=>exact(bM HB.out));(case aF=>exact(fun _ _=>trivial));(case aO=>exact(sM (Kd.Ze aX.out (fun k_ hk=>⟨trivial,fun e_=>hk.2 e_⟩))));(case aS=>exact(Zad (bM HB.out)));(case aL=>have:=Sy.out;omega);intro wba w13 ho hb hg hat;rw[←cMa.out]at ho;replace ny:=Za.mk (kG ny.out hg (Kd.S_ne aX.out ny.out (by decide)));replace HB:=Za.mk (hb);have cna:=Za.mk (ho);clear aX J6;clear ho hb hg hat))
   go_roundg k1
   case measure=>have:=HK1.out;omega
   case rel=>exact⟨(b8a),(wrap64 (oK+1)),eS,H',⟨by have:=HK1.out;omega⟩,⟨sM cna.out⟩,⟨kM ny.out⟩,⟨bM HB.out⟩⟩
def Zd7.f (k:Nat) (l0:List (List (S82))) (aH:Int) (aD:List Int) (aU:List Int):Option (Int):=if aH=0 then(if(aD.length:Int)>0 then(some 44)else(if(aU.length:Int)>0 then(some 44)else(some 0)))else(if aH=1 then((Zdc.f k l0 0 aD aU 0 0 ([]:List (List Int)) 0).bind fun LK=>(some LK))else(if aH=2 then((Zdc.f k l0 0 aD aU 0 0 ([]:List (List Int)) 0).bind fun LM=>(some LM))else(some 44)))
theorem Zd7.mono:∀a0 a1 a2 a3 k,LeO (Zd7.f k a0 a1 a2 a3) (Zd7.f (k+1) a0 a1 a2 a3):=by
 intro a0 a1 a2 a3 k;unfold Zd7.f
 repeat' first
   | (with_reducible exact Zdc.mono _ _ _ _ _ _ _ _ _)
   | (with_reducible exact LeO.refl _)
   | (with_reducible exact LeO.none _)
   | (with_reducible refine LeO.ite ?_ ?_)
   |(with_reducible refine LeO.bind ?_ (fun _=> ?_))
set_option maxRecDepth 100000 in
theorem Zd7.calls (k : Nat) (A0 : Option Addr) (c0 : Nat) (l0 : List (List (S82))) (aH : Int) (fI : Option Addr) (fJ : Nat) (aD : List Int) (fB : Option Addr) (fC : Nat) (aU : List Int) (r : Int) (w : World) (hr0 : Kd.C (Kd.slice 82 k82) w A0 l0.length l0) (hc0 : l0.length ≤ c0) (mV : Kd.C (Kd.int .i64) w fI aD.length aD) (mR : aD.length ≤ fJ) (mW : Kd.C (Kd.int .i64) w fB aU.length aU) (mU : aU.length ≤ fC) (h : Zd7.f k l0 aH aD aU = some r) :
  Calls Tryz.prog 80 #[.slice A0 l0.length c0,.agg #[.int .i64 aH,.slice fI aD.length fJ,.slice fB aU.length fC]] w fun e w'=>e= .returned (.int .i64 r)∧Below w.heap.size w w':=by
 have hu26:=Tryz.underlying26;have hu36:=Tryz.underlying36;have HR0:=Za.mk hr0;have HC0:=Za.mk hc0;clear hr0 hc0;have gI:=Za.mk mV;have iP:=Za.mk mR;clear mV mR;have gp:=Za.mk mW;have iQ:=Za.mk mU;clear mW mU;have HB:=Za.mk (Below.refl w.heap.size w);have H:(if aH=0 then(if(aD.length:Int)>0 then(some 44)else(if(aU.length:Int)>0 then(some 44)else(some 0)))else(if aH=1 then((Zdc.f k l0 0 aD aU 0 0 ([]:List (List Int)) 0).bind fun LK=>(some LK))else(if aH=2 then((Zdc.f k l0 0 aD aU 0 0 ([]:List (List Int)) 0).bind fun LM=>(some LM))else(some 44))))=some r:=h;clear h;by_cases c3:aH=0
 case pos=>
  rw[if_pos c3]at H;have eB:(aH==0)=true:=beq_iff_eq.mpr c3;have iY:(aH !=0)=false:=bne_eq_false_iff_eq.mpr c3;clear c3;by_cases c4:(aD.length:Int)>0
  case pos=>
   rw[if_pos c4]at H;have bQ:decide (0<(aD.length:Int))=true:=decide_eq_true c4;have qK:decide (0<aD.length)=true:=decide_eq_true (by omega);clear c4;obtain rfl:=sj H;go_enter Tryz.func80,Tryz.ntmps80
   go_wp2_with (first|((with_reducible refine Zao (N:=3) rfl ?_);(try(refine Zb7 (by rfl) ?_;dsimp only));refine bx 3 #[.int .i64 aH,.slice fI aD.length fJ,.slice fB aU.length fC] 26 ?_;intro pK hg w5 hbox hb;have nz:=Za.mk (hbox);have Er:=Za.mk ((gE hg HB.out:w.heap.size≤pK));replace HB:=Za.mk (bS HB.out hb);clear hb hbox hg;obtain⟨lc,lg,lL,kX,kY,lI⟩:=cz3 nz.out))
   go_ret;exact⟨eR,bM HB.out⟩
  rw[if_neg c4]at H;have bQ:decide (0<(aD.length:Int))=false:=decide_eq_false c4;have qK:decide (0<aD.length)=false:=decide_eq_false (by omega);clear c4;by_cases c7:(aU.length:Int)>0
  case neg=>
   rw[if_neg c7]at H;have kF:decide (0<(aU.length:Int))=false:=decide_eq_false c7;have PM:decide (0<aU.length)=false:=decide_eq_false (by omega);clear c7;obtain rfl:=sj H;go_enter Tryz.func80,Tryz.ntmps80
   go_wp2_with (first|((with_reducible refine Zao (N:=3) rfl ?_);(try(refine Zb7 (by rfl) ?_;dsimp only));refine bx 3 #[.int .i64 aH,.slice fI aD.length fJ,.slice fB aU.length fC] 26 ?_;intro pK hg w10 hbox hb;have nz:=Za.mk (hbox);have Er:=Za.mk ((gE hg HB.out:w.heap.size≤pK));replace HB:=Za.mk (bS HB.out hb);clear hb hbox hg;obtain⟨Hy,Hz,Kr,GQ,GR,Kb⟩:=cz3 nz.out))
   go_ret;exact⟨eR,bM HB.out⟩
  rw[if_pos c7]at H;have kF:decide (0<(aU.length:Int))=true:=decide_eq_true c7;have PM:decide (0<aU.length)=true:=decide_eq_true (by omega);clear c7;obtain rfl:=sj H;go_enter Tryz.func80,Tryz.ntmps80
  go_wp2_with (first|((with_reducible refine Zao (N:=3) rfl ?_);(try(refine Zb7 (by rfl) ?_;dsimp only));refine bx 3 #[.int .i64 aH,.slice fI aD.length fJ,.slice fB aU.length fC] 26 ?_;intro pK hg w8 hbox hb;have nz:=Za.mk (hbox);have Er:=Za.mk ((gE hg HB.out:w.heap.size≤pK));replace HB:=Za.mk (bS HB.out hb);clear hb hbox hg;obtain⟨Ej,El,Em,Ec,Ed,Ee⟩:=cz3 nz.out))
  go_ret;exact⟨eR,bM HB.out⟩
 rw[if_neg c3]at H;have eB:(aH==0)=false:=beq_eq_false_iff_ne.mpr c3;have iY:(aH !=0)=true:=bne_iff_ne.mpr c3;by_cases c12:aH=1
 case pos=>
  rw[if_pos c12]at H;have iH:(aH==1)=true:=beq_iff_eq.mpr c12;have qY:(aH !=1)=false:=bne_eq_false_iff_eq.mpr c12;clear c12;obtain⟨LK,A13,H⟩:=bnd H;try dsimp only at H
  obtain rfl:=sj H;go_enter Tryz.func80,Tryz.ntmps80
  go_wp2_with (first|((with_reducible refine Zao (N:=3) rfl ?_);(try(refine Zb7 (by rfl) ?_;dsimp only));refine bx 3 #[.int .i64 aH,.slice fI aD.length fJ,.slice fB aU.length fC] 26 ?_;intro pK hg w14 hbox hb;have nz:=Za.mk (hbox);have Er:=Za.mk ((gE hg HB.out:w.heap.size≤pK));replace HB:=Za.mk (bS HB.out hb);clear hb hbox hg;obtain⟨Ce,Cf,Cg,BN,BO,BP⟩:=cz3 nz.out)|((with_reducible refine Zak (f:=79) rfl ?_);refine gl 28 Tryz.func79 #[.slice A0 l0.length c0,.agg #[.int .i64 0,.slice fI aD.length fJ,.slice fB aU.length fC,.int .i64 0,.int .i64 0,.slice none 0 0,.int .i64 0]] ?_;(refine(Zdc.calls k _ _ l0 0 _ _ aD _ _ aU 0 0 _ _ ([]:List (List Int)) 0 LK _ ?side1 ?side2 ?side3 ?side4 ?side5 ?side6 ?side7 ?side8 A13.out).mono ?_);(case side1=>repeat(first|exact(Kd.Zab HR0.out HB.out)|(with_reducible refine Kd.C_alloc ?_ _)|(with_reducible refine Kd.Zbo ?_ _)|(with_reducible refine Kd.Zb3 ?_)));(case side2=>exact HC0.out);(case side3=>repeat(first|exact(Kd.Zab gI.out HB.out)|(with_reducible refine Kd.C_alloc ?_ _)|(with_reducible refine Kd.Zbo ?_ _)|(with_reducible refine Kd.Zb3 ?_)));(case side4=>exact iP.out);(case side5=>repeat(first|exact(Kd.Zab gp.out HB.out)|(with_reducible refine Kd.C_alloc ?_ _)|(with_reducible refine Kd.Zbo ?_ _)|(with_reducible refine Kd.Zb3 ?_)));(case side6=>exact iQ.out);(case side7=>exact Kd.Zgs _ _);(case side8=>exact Nat.le_refl _);rintro e w16 ⟨rfl,hb⟩;refine⟨_,rfl,?_⟩;replace HB:=Za.mk (bS HB.out hb);clear nz;(try clear hb);(try clear hb2);(try clear hk);(try clear hi)))
  go_ret;exact⟨eR,bM HB.out⟩
 rw[if_neg c12]at H;have iH:(aH==1)=false:=beq_eq_false_iff_ne.mpr c12;have qY:(aH !=1)=true:=bne_iff_ne.mpr c12;by_cases c17:aH=2
 case neg=>
  rw[if_neg c17]at H;have Bf:(aH==2)=false:=beq_eq_false_iff_ne.mpr c17;have P7:(aH !=2)=true:=bne_iff_ne.mpr c17;obtain rfl:=sj H;go_enter Tryz.func80,Tryz.ntmps80
  go_wp2_with (first|((with_reducible refine Zao (N:=3) rfl ?_);(try(refine Zb7 (by rfl) ?_;dsimp only));refine bx 3 #[.int .i64 aH,.slice fI aD.length fJ,.slice fB aU.length fC] 26 ?_;intro pK hg w22 hbox hb;have nz:=Za.mk (hbox);have Er:=Za.mk ((gE hg HB.out:w.heap.size≤pK));replace HB:=Za.mk (bS HB.out hb);clear hb hbox hg;obtain⟨Xx,Xy,Xz,WJ,WK,WL⟩:=cz3 nz.out))
  go_ret;exact⟨eR,bM HB.out⟩
 rw[if_pos c17]at H;have Bf:(aH==2)=true:=beq_iff_eq.mpr c17;have P7:(aH !=2)=false:=bne_eq_false_iff_eq.mpr c17;clear c17;obtain⟨LM,A18,H⟩:=bnd H;try dsimp only at H
 obtain rfl:=sj H;go_enter Tryz.func80,Tryz.ntmps80
 go_wp2_with (first|((with_reducible refine Zao (N:=3) rfl ?_);(try(refine Zb7 (by rfl) ?_;dsimp only));refine bx 3 #[.int .i64 aH,.slice fI aD.length fJ,.slice fB aU.length fC] 26 ?_;intro pK hg w19 hbox hb;have nz:=Za.mk (hbox);have Er:=Za.mk ((gE hg HB.out:w.heap.size≤pK));replace HB:=Za.mk (bS HB.out hb);clear hb hbox hg;obtain⟨zQ,zR,Ih,zB,zC,Hg⟩:=cz3 nz.out)|((with_reducible refine Zak (f:=79) rfl ?_);refine gl 28 Tryz.func79 #[.slice A0 l0.length c0,.agg #[.int .i64 0,.slice fI aD.length fJ,.slice fB aU.length fC,.int .i64 0,.int .i64 0,.slice none 0 0,.int .i64 0]] ?_;(refine(Zdc.calls k _ _ l0 0 _ _ aD _ _ aU 0 0 _ _ ([]:List (List Int)) 0 LM _ ?side1 ?side2 ?side3 ?side4 ?side5 ?side6 ?side7 ?side8 A18.out).mono ?_);(case side1=>repeat(first|exact(Kd.Zab HR0.out HB.out)|(with_reducible refine Kd.C_alloc ?_ _)|(with_reducible refine Kd.Zbo ?_ _)|(with_reducible refine Kd.Zb3 ?_)));(case side2=>exact HC0.out);(case side3=>repeat(first|exact(Kd.Zab gI.out HB.out)|(with_reducible refine Kd.C_alloc ?_ _)|(with_reducible refine Kd.Zbo ?_ _)|(with_reducible refine Kd.Zb3 ?_)));(case side4=>exact iP.out);(case side5=>repeat(first|exact(Kd.Zab gp.out HB.out)|(with_reducible refine Kd.C_alloc ?_ _)|(with_reducible refine Kd.Zbo ?_ _)|(with_reducible refine Kd.Zb3 ?_)));(case side6=>exact iQ.out);(case side7=>exact Kd.Zgs _ _);(case side8=>exact Nat.le_refl _);rintro e w21 ⟨rfl,hb⟩;refine⟨_,rfl,?_⟩;replace HB:=Za.mk (bS HB.out hb);clear nz;(try clear hb);(try clear hb2);(try clear hk);(try clear hi)))
 go_ret;exact⟨eR,bM HB.out⟩
end Go.Proofs.YtdpieallpbllkaaGreat.P
/- model.Check: may a model be? -/
namespace Go.Proofs.YtdpieallpbllkaaGreat.P
open Go.RowKit Go.Proofs.YtdpieallpbllkaaGreatW.PrintWords Go.Proofs.YtdpieallpbllkaaGreatW.PrintLast Go.Proofs.YtdpieallpbllkaaGreatW.PrintMore
def Zew (k : Nat) : List S55 → List ByteArray → Option Int
  | [], _ => some 0
  |v::vs,had=>(Zd8.f v.f0).bind fun nm=>if nm=false then some 40 else if hasN had v.f0=true then some 41 else if v.f1.length=0 then some 42 else(Zea.f k v.f1).bind fun e=>if e=0 then Zew k vs (had++ [v.f0])else some 42
def Zev (k : Nat) (d : List (List S82)) : List S36 → Option Int
  | [] => some 0
  |c::cs=>(Zdc.f k d c.f0 c.f1 c.f2 c.f3 c.f4 c.f5 c.f6).bind fun e=>if e=0 then Zev k d cs else some e
def Zdt.f (k:Nat) (vars:List S55) (cons:List S36) (gkd:Int) (gv gc:List Int):Option Int:=
  if 64 < vars.length ∨ 256 < cons.length then some 2 else
    (Zew k vars []).bind fun e=>if e=0 then(Zch.f k vars cons gkd gv gc).bind fun d=>(Zev k d cons).bind fun e2=>if e2=0 then Zd7.f k d gkd gv gc else some e2 else some e
theorem Zfz (k : Nat) : ∀ vs had, LeO (Zew k vs had) (Zew (k + 1) vs had)
  | [], _ => LeO.refl _
  |v::vs,had=>by
    unfold Zew;exact LeO.bind (LeO.refl _) (fun _=>LeO.ite (LeO.refl _) (LeO.ite (LeO.refl _) (LeO.ite (LeO.refl _) (LeO.bind (Zea.mono _ _) (fun _=>LeO.ite (Zfz k vs _) (LeO.refl _))))))
theorem Zfy (k : Nat) (d : List (List S82)) : ∀ cs, LeO (Zev k d cs) (Zev (k + 1) d cs)
  | [] => LeO.refl _
  |c::cs=>by
    unfold Zev;exact LeO.bind (Zdc.mono _ _ _ _ _ _ _ _ _) (fun _=>LeO.ite (Zfy k d cs) (LeO.refl _))
theorem Zdt.mono:∀a0 a1 a2 a3 a4 k,LeO (Zdt.f k a0 a1 a2 a3 a4) (Zdt.f (k+1) a0 a1 a2 a3 a4):=by
  intro a0 a1 a2 a3 a4 k;unfold Zdt.f;exact LeO.ite (LeO.refl _) (LeO.bind (Zfz _ _ _) (fun _=>LeO.ite (LeO.bind (Zch.mono _ _ _ _ _ _) (fun _=>LeO.bind (Zfy _ _ _) (fun _=>LeO.ite (Zd7.mono _ _ _ _ _) (LeO.refl _)))) (LeO.refl _)))
theorem SetN.step {w w':World} {b:Nat} {L:List ByteArray} (h:SetN w b L) (hk:w'.heap[b]? =w.heap[b]?):SetN w' b L:=by
  obtain⟨es,clock,h1,F,hs,hD⟩:=h;exact⟨es,clock,hk.trans h1,F,hs,hD⟩
theorem SetN.far {w:World} {b g i j:Nat} {u v:Value} {L:List ByteArray} (h:SetN w b L) (hne:b≠g):SetN ((w.setCell ⟨g,i,none⟩ u).setCell ⟨g,j,none⟩ v) b L:=
  h.step ((Below.heap_setCell _ ⟨g,j,none⟩ v b hne).trans (Below.heap_setCell _ ⟨g,i,none⟩ u b hne))
theorem name_size {s:ByteArray} (h:Zd8.f s=some true):s.size≤maxLen:=by
  have h1:=Option.some.inj h;simp only[Bool.and_eq_true,decide_eq_true_eq]at h1;have h2:(16:Nat)≤maxLen:=by decide
  omega
theorem drop_rd {vars:List S55} {i:Nat} (hi:i<vars.length):vars.drop i=Za9 vars (i:Int)::vars.drop (i+1):=by
  rw[List.drop_eq_getElem_cons hi]
  simp[Za9,List.getD_eq_getElem?_getD,List.getElem?_eq_getElem hi]
theorem take_rd {vars:List S55} {i:Nat} (hi:i<vars.length):(vars.take (i+1)).map (·.f0)=(vars.take i).map (·.f0)++ [(Za9 vars (i:Int)).f0]:=by
  rw[List.take_succ_eq_append_getElem hi,List.map_append]
  simp[Za9,List.getD_eq_getElem?_getD,List.getElem?_eq_getElem hi]
theorem drop_rdC {cons:List S36} {i:Nat} (hi:i<cons.length):cons.drop i=Zaa cons (i:Int)::cons.drop (i+1):=by
  rw[List.drop_eq_getElem_cons hi]
  simp[Zaa,List.getD_eq_getElem?_getD,List.getElem?_eq_getElem hi]
set_option maxRecDepth 1000000 in
theorem Zdt.calls (k : Nat) (A0 : Option Addr) (c0 : Nat) (vars : List S55) (A1 : Option Addr) (c1 : Nat) (cons : List S36) (gkd : Int) (A3 : Option Addr) (c3 : Nat) (gv : List Int) (A4 : Option Addr) (c4 : Nat) (gc : List Int) (r : Int) (w : World)
    (hr0:Kd.C k55 w A0 vars.length vars) (hc0:vars.length≤c0) (hr1:Kd.C k36 w A1 cons.length cons) (hc1:cons.length≤c1) (hr3:Kd.C (Kd.int .i64) w A3 gv.length gv) (hc3:gv.length≤c3) (hr4:Kd.C (Kd.int .i64) w A4 gc.length gc) (hc4:gc.length≤c4)
    (h:Zdt.f k vars cons gkd gv gc=some r):
    Calls Tryz.prog 58 #[.agg #[.slice A0 vars.length c0,.slice A1 cons.length c1,.int .i64 gkd,.slice A3 gv.length c3,.slice A4 gc.length c4]] w fun e w'=>e= .returned (.int .i64 r)∧Below w.heap.size w w':=by
  have HR0:=Za.mk hr0;have HR1:=Za.mk hr1;have HR3:=Za.mk hr3;have HR4:=Za.mk hr4;clear hr0 hr1 hr3 hr4;have HBw:=Za.mk (Below.refl w.heap.size w);unfold Zdt.f at h;by_cases h64:64<vars.length
  · rw [if_pos (Or.inl h64)] at h
    obtain rfl:=Option.some.inj h;clear h;have d64a:decide (64<(vars.length:Int))=true:=decide_eq_true (by omega);have d64b:decide (64<vars.length)=true:=decide_eq_true (by omega);clear h64;go_enter Tryz.func58,Tryz.ntmps58
    go_wp2_with (first|((with_reducible refine Zao (N:=1) rfl ?_);refine Zdh ?hg (N:=1) ?hd (cs:=#[.slice A0 vars.length c0,.slice A1 cons.length c1,.int .i64 gkd,.slice A3 gv.length c3,.slice A4 gc.length c4]) (t:=28) ?hr ?_;(case hd=>rfl);(case hg=>rfl);(case hr=>first|(go_simp;done)|(go_simp;rfl));intro gm hg wb hbox hb;have HB:=Za.mk (Zaf (mvB HBw.out) hb);have BK:=Za.mk hbox;clear hb hg;have hm0:wb.cell? ⟨gm,0,none⟩=some (.slice A0 vars.length c0):=(Zap hbox 0).trans rfl;have hm1:wb.cell? ⟨gm,1,none⟩=some (.slice A1 cons.length c1):=(Zap hbox 1).trans rfl;have hm2:wb.cell? ⟨gm,2,none⟩=some (.int .i64 gkd):=(Zap hbox 2).trans rfl;have hm3:wb.cell? ⟨gm,3,none⟩=some (.slice A3 gv.length c3):=(Zap hbox 3).trans rfl;have hm4:wb.cell? ⟨gm,4,none⟩=some (.slice A4 gc.length c4):=(Zap hbox 4).trans rfl;have hn0:(wb.alloc (.map #[] 0)).cell? ⟨gm,0,none⟩=some (.slice A0 vars.length c0):=(Zap (Zae hbox _) 0).trans rfl;have hn1:(wb.alloc (.map #[] 0)).cell? ⟨gm,1,none⟩=some (.slice A1 cons.length c1):=(Zap (Zae hbox _) 1).trans rfl;have hn2:(wb.alloc (.map #[] 0)).cell? ⟨gm,2,none⟩=some (.int .i64 gkd):=(Zap (Zae hbox _) 2).trans rfl;have hn3:(wb.alloc (.map #[] 0)).cell? ⟨gm,3,none⟩=some (.slice A3 gv.length c3):=(Zap (Zae hbox _) 3).trans rfl;have hn4:(wb.alloc (.map #[] 0)).cell? ⟨gm,4,none⟩=some (.slice A4 gc.length c4):=(Zap (Zae hbox _) 4).trans rfl;clear hbox))
    go_ret;exact⟨rfl,mvB HB.out⟩
  have d64a:decide (64<(vars.length:Int))=false:=decide_eq_false (by omega);have d64b:decide (64<vars.length)=false:=decide_eq_false (by omega);by_cases h256:256<cons.length
  · rw [if_pos (Or.inr h256)] at h
    obtain rfl:=Option.some.inj h;clear h;have d256a:decide (256<(cons.length:Int))=true:=decide_eq_true (by omega);have d256b:decide (256<cons.length)=true:=decide_eq_true (by omega);clear h64 h256;go_enter Tryz.func58,Tryz.ntmps58
    go_wp2_with (first|((with_reducible refine Zao (N:=1) rfl ?_);refine Zdh ?hg (N:=1) ?hd (cs:=#[.slice A0 vars.length c0,.slice A1 cons.length c1,.int .i64 gkd,.slice A3 gv.length c3,.slice A4 gc.length c4]) (t:=28) ?hr ?_;(case hd=>rfl);(case hg=>rfl);(case hr=>first|(go_simp;done)|(go_simp;rfl));intro gm hg wb hbox hb;have HB:=Za.mk (Zaf (mvB HBw.out) hb);have BK:=Za.mk hbox;clear hb hg;have hm0:wb.cell? ⟨gm,0,none⟩=some (.slice A0 vars.length c0):=(Zap hbox 0).trans rfl;have hm1:wb.cell? ⟨gm,1,none⟩=some (.slice A1 cons.length c1):=(Zap hbox 1).trans rfl;have hm2:wb.cell? ⟨gm,2,none⟩=some (.int .i64 gkd):=(Zap hbox 2).trans rfl;have hm3:wb.cell? ⟨gm,3,none⟩=some (.slice A3 gv.length c3):=(Zap hbox 3).trans rfl;have hm4:wb.cell? ⟨gm,4,none⟩=some (.slice A4 gc.length c4):=(Zap hbox 4).trans rfl;have hn0:(wb.alloc (.map #[] 0)).cell? ⟨gm,0,none⟩=some (.slice A0 vars.length c0):=(Zap (Zae hbox _) 0).trans rfl;have hn1:(wb.alloc (.map #[] 0)).cell? ⟨gm,1,none⟩=some (.slice A1 cons.length c1):=(Zap (Zae hbox _) 1).trans rfl;have hn2:(wb.alloc (.map #[] 0)).cell? ⟨gm,2,none⟩=some (.int .i64 gkd):=(Zap (Zae hbox _) 2).trans rfl;have hn3:(wb.alloc (.map #[] 0)).cell? ⟨gm,3,none⟩=some (.slice A3 gv.length c3):=(Zap (Zae hbox _) 3).trans rfl;have hn4:(wb.alloc (.map #[] 0)).cell? ⟨gm,4,none⟩=some (.slice A4 gc.length c4):=(Zap (Zae hbox _) 4).trans rfl;clear hbox))
    go_ret;exact⟨rfl,mvB HB.out⟩
  have d256a:decide (256<(cons.length:Int))=false:=decide_eq_false (by omega);have d256b:decide (256<cons.length)=false:=decide_eq_false (by omega);have L64:Za (vars.length≤64):=⟨by omega⟩;have L256:Za (cons.length≤256):=⟨by omega⟩;rw[if_neg (fun h_=>h_.elim h64 h256)]at h;clear h64 h256;obtain⟨e1,he1,h2_⟩:=Option.bind_eq_some_iff.1 h;have H1:=Za.mk he1;have H2:=Za.mk h2_;clear h he1 h2_;have hmm:=@run_makeMap Tryz.prog;go_enter Tryz.func58,Tryz.ntmps58
  go_wp2_with (first|((with_reducible refine Zao (N:=1) rfl ?_);refine Zdh ?hg (N:=1) ?hd (cs:=#[.slice A0 vars.length c0,.slice A1 cons.length c1,.int .i64 gkd,.slice A3 gv.length c3,.slice A4 gc.length c4]) (t:=28) ?hr ?_;(case hd=>rfl);(case hg=>rfl);(case hr=>first|(go_simp;done)|(go_simp;rfl));intro gm hg wb hbox hb;have HB:=Za.mk (Zaf (mvB HBw.out) hb);have BK:=Za.mk hbox;clear hb hg;have hm0:wb.cell? ⟨gm,0,none⟩=some (.slice A0 vars.length c0):=(Zap hbox 0).trans rfl;have hm1:wb.cell? ⟨gm,1,none⟩=some (.slice A1 cons.length c1):=(Zap hbox 1).trans rfl;have hm2:wb.cell? ⟨gm,2,none⟩=some (.int .i64 gkd):=(Zap hbox 2).trans rfl;have hm3:wb.cell? ⟨gm,3,none⟩=some (.slice A3 gv.length c3):=(Zap hbox 3).trans rfl;have hm4:wb.cell? ⟨gm,4,none⟩=some (.slice A4 gc.length c4):=(Zap hbox 4).trans rfl;have hn0:(wb.alloc (.map #[] 0)).cell? ⟨gm,0,none⟩=some (.slice A0 vars.length c0):=(Zap (Zae hbox _) 0).trans rfl;have hn1:(wb.alloc (.map #[] 0)).cell? ⟨gm,1,none⟩=some (.slice A1 cons.length c1):=(Zap (Zae hbox _) 1).trans rfl;have hn2:(wb.alloc (.map #[] 0)).cell? ⟨gm,2,none⟩=some (.int .i64 gkd):=(Zap (Zae hbox _) 2).trans rfl;have hn3:(wb.alloc (.map #[] 0)).cell? ⟨gm,3,none⟩=some (.slice A3 gv.length c3):=(Zap (Zae hbox _) 3).trans rfl;have hn4:(wb.alloc (.map #[] 0)).cell? ⟨gm,4,none⟩=some (.slice A4 gc.length c4):=(Zap (Zae hbox _) 4).trans rfl;clear hbox))
  go_loopg [24] vars.length (fun gg s24 w'=>∃i:Nat,s24= .int .i64 i∧i≤vars.length∧vars.length - i≤gg∧Za (Below wb.heap.size wb w')∧Za (SetN w' wb.heap.size ((vars.take i).map (·.f0)))∧Za (Zew k (vars.drop i) ((vars.take i).map (·.f0))=some e1))
  case atStart=>exact⟨0,rfl,Nat.zero_le _,Nat.le_refl _,⟨Zbn (Below.refl _ _) _⟩,⟨SetN.made wb⟩,⟨by simpa using H1.out⟩⟩
  case round=>
    clear hmm hm0 hm1 hm2 hm3 hm4 hn0 hn1 hn2 hn3 hn4;obtain⟨i,rfl,hi,hg,BW,HS,HA⟩:=hrel;have hmb:=HS.out.lt;have HMB:=Za.mk hmb;clear hmb;have HWR:=Za.mk (Zaf HB.out BW.out);have BKr:=Za.mk (Zci BK.out BW.out);have hr0:wr.cell? ⟨gm,0,none⟩=some (.slice A0 vars.length c0):=(Zap BKr.out 0).trans rfl;have hr1:wr.cell? ⟨gm,1,none⟩=some (.slice A1 cons.length c1):=(Zap BKr.out 1).trans rfl;have hr2:wr.cell? ⟨gm,2,none⟩=some (.int .i64 gkd):=(Zap BKr.out 2).trans rfl;have hr3:wr.cell? ⟨gm,3,none⟩=some (.slice A3 gv.length c3):=(Zap BKr.out 3).trans rfl;have hr4:wr.cell? ⟨gm,4,none⟩=some (.slice A4 gc.length c4):=(Zap BKr.out 4).trans rfl;by_cases hlt:i<vars.length;rotate_left
    · obtain rfl : i = vars.length := by omega
      have HA1:=HA.out;rw[List.drop_length,Zew]at HA1;obtain rfl:=Option.some.inj HA1;clear HA HA1 HS HMB hi hg hlt;have p1_:decide ((vars.length:Int)<(vars.length:Int))=false:=decide_eq_false (by omega);have H3:=H2.out;rw[if_pos rfl]at H3;clear H2;obtain⟨d,hd,H4⟩:=Option.bind_eq_some_iff.1 H3;obtain⟨e2,he2,H5⟩:=Option.bind_eq_some_iff.1 H4;have HDm:=Za.mk hd;have HE2:=Za.mk he2;have HR:=Za.mk H5;clear H3 H4 H5 hd he2
      go_wp2_with (first|(go_at_call 59;go_loud (refine(Zch.calls k A0 c0 vars A1 c1 cons gkd A3 c3 gv A4 c4 gc d _ (Kd.Zab HR0.out (mvB HWR.out)) hc0 (Kd.Zab HR1.out (mvB HWR.out)) hc1 (Kd.Zab HR3.out (mvB HWR.out)) hc3 (Kd.Zab HR4.out (mvB HWR.out)) hc4 HDm.out).mono ?_;rintro e_ wd ⟨vd,rfl,ho,hb⟩;replace ho:=Kd.S_N ho;obtain⟨Ad,cd,ed⟩:=Kd.Zdb ho;subst ed;have HCd:=Za.mk (Kd.Zbv ho);have BD:=Za.mk (Zaf (mvB HWR.out) hb);have BKd:=Za.mk (Zci (mvK BKr.out) hb);have hd0:wd.cell? ⟨gm,0,none⟩=some (.slice A0 vars.length c0):=(Zap BKd.out 0).trans rfl;have hd1:wd.cell? ⟨gm,1,none⟩=some (.slice A1 cons.length c1):=(Zap BKd.out 1).trans rfl;have hd2:wd.cell? ⟨gm,2,none⟩=some (.int .i64 gkd):=(Zap BKd.out 2).trans rfl;have hd3:wd.cell? ⟨gm,3,none⟩=some (.slice A3 gv.length c3):=(Zap BKd.out 3).trans rfl;have hd4:wd.cell? ⟨gm,4,none⟩=some (.slice A4 gc.length c4):=(Zap BKd.out 4).trans rfl;clear ho hb)))
      go_loopg [58] cons.length (fun gg s58 w'=>∃j:Nat,s58= .int .i64 j∧j≤cons.length∧cons.length - j≤gg∧Za (Below wd.heap.size wd w')∧Za (Zev k d (cons.drop j)=some e2))
      case atStart=>exact⟨0,rfl,Nat.zero_le _,Nat.le_refl _,⟨mvB (Below.refl wd.heap.size wd)⟩,⟨by simpa using HE2.out⟩⟩
      case round=>
        clear hd0 hd1 hd2 hd3 hd4 hr0 hr1 hr2 hr3 hr4;obtain⟨j,rfl,hj,hg,BW2,HA⟩:=hrel;obtain⟨wq,rfl⟩:∃x:World,x=wr:=⟨_,rfl⟩;have HWQ:=Za.mk (Zaf BD.out BW2.out);have BKq:=Za.mk (Zci BKd.out BW2.out);have hq0:wq.cell? ⟨gm,0,none⟩=some (.slice A0 vars.length c0):=(Zap BKq.out 0).trans rfl;have hq1:wq.cell? ⟨gm,1,none⟩=some (.slice A1 cons.length c1):=(Zap BKq.out 1).trans rfl;have hq2:wq.cell? ⟨gm,2,none⟩=some (.int .i64 gkd):=(Zap BKq.out 2).trans rfl;have hq3:wq.cell? ⟨gm,3,none⟩=some (.slice A3 gv.length c3):=(Zap BKq.out 3).trans rfl;have hq4:wq.cell? ⟨gm,4,none⟩=some (.slice A4 gc.length c4):=(Zap BKq.out 4).trans rfl;by_cases hlt:j<cons.length;rotate_left
        · obtain rfl : j = cons.length := by omega
          have HA1:=HA.out;rw[List.drop_length,Zev]at HA1;obtain rfl:=Option.some.inj HA1;clear HA HA1 hj hg hlt;have p3_:decide ((cons.length:Int)<(cons.length:Int))=false:=decide_eq_false (by omega);have H6:=HR.out;rw[if_pos rfl]at H6;have HG:=Za.mk H6;clear HR H6
          go_wp2_with (first|(go_at_call 80;go_loud (refine(Zd7.calls k Ad cd d gkd A3 c3 gv A4 c4 gc r _ (Kd.Zab HCd.out.2.2 (mvB BW2.out)) HCd.out.2.1 (Kd.Zab HR3.out (mvB HWQ.out)) hc3 (Kd.Zab HR4.out (mvB HWQ.out)) hc4 HG.out).mono ?_;rintro e_ w12 ⟨rfl,hb⟩;have BV2:=Za.mk (Zaf (mvB HWQ.out) hb);clear hb)))
          go_ret;exact⟨rfl,mvB BV2.out⟩
        have hltz:(j:Int)<(cons.length:Int):=by omega
        have p3_:decide ((j:Int)<(cons.length:Int))=true:=decide_eq_true hltz;have p4_:decide ((0:Int)≤(j:Int))=true:=decide_eq_true (by omega);obtain⟨ad,B1,b1,B2,b2,B5,b5,e_,hx0,hx1,hx2,hx3,hx4,hx5,hx6,hl1,hi1,hl2,hi2,hl5,hi5⟩:=Zfw (Kd.Zab HR1.out HWQ.out) (j:Int) (by omega) hltz;cases e_;simp only[Int.toNat_natCast]at hx0 hx1 hx2 hx3 hx4 hx5 hx6;have HA1:=HA.out;rw[drop_rdC hlt,Zev]at HA1
        generalize Zaa cons (j:Int)=x at hx0 hx1 hx2 hx3 hx4 hx5 hx6 hl1 hi1 hl2 hi2 hl5 hi5 HA1
        have HI1:=Za.mk hi1;have HL1:=Za.mk hl1;clear hi1 hl1;have HI2:=Za.mk hi2;have HL2:=Za.mk hl2;clear hi2 hl2;have HI5:=Za.mk hi5;have HL5:=Za.mk hl5;clear hi5 hl5;obtain⟨e,he,HA2⟩:=Option.bind_eq_some_iff.1 HA1;have HE:=Za.mk he;clear HA HA1 he;by_cases he0:e=0
        · subst he0
          rw[if_pos rfl]at HA2
          go_wp2_with (first|((with_reducible refine Zao (N:=8) rfl ?_);refine Zdh ?hg (N:=8) ?hd (cs:=#[.int .i64 0,.slice none 0 0,.slice none 0 0,.int .i64 0,.int .i64 0,.slice none 0 0,.int .i64 0]) (t:=36) ?hr ?_;(case hd=>rfl);(case hg=>rfl);(case hr=>first|(go_simp;done)|(go_simp;rfl));intro g8 hg8 w9 hbox hb;have BX:=Za.mk hbox;have mg:w9.cell? ⟨g8,0,none⟩=some (.int .i64 0):=(Zap hbox 0).trans rfl;have mh:=Za2 hbox 0;have l6:w9.cell? ⟨g8,1,none⟩=some (.slice none 0 0):=(Zap hbox 1).trans rfl;have mi:=Za2 hbox 1;have hcz2:w9.cell? ⟨g8,2,none⟩=some (.slice none 0 0):=(Zap hbox 2).trans rfl;have iAa:=Za2 hbox 2;have i6a:w9.cell? ⟨g8,3,none⟩=some (.int .i64 0):=(Zap hbox 3).trans rfl;have iBa:=Za2 hbox 3;have i7a:w9.cell? ⟨g8,4,none⟩=some (.int .i64 0):=(Zap hbox 4).trans rfl;have iCa:=Za2 hbox 4;have i8a:w9.cell? ⟨g8,5,none⟩=some (.slice none 0 0):=(Zap hbox 5).trans rfl;have iDa:=Za2 hbox 5;have i9a:w9.cell? ⟨g8,6,none⟩=some (.int .i64 0):=(Zap hbox 6).trans rfl;have iEa:=Za2 hbox 6;have BV:=Za.mk (Zaf (mvB (Below.refl wq.heap.size wq)) hb);have HG8:Za (wq.heap.size≤g8):=⟨by rw[hg8];exact(mvB (Below.refl wq.heap.size wq)).size⟩;clear hbox hb hg8)|(go_at_call 79;go_loud (have B7:=Za.mk (show Below wq.heap.size wq (((((((w9.setCell ⟨g8,0,none⟩ (.int .i64 x.f0)).setCell ⟨g8,1,none⟩ (.slice B1 x.f1.length b1)).setCell ⟨g8,2,none⟩ (.slice B2 x.f2.length b2)).setCell ⟨g8,3,none⟩ (.int .i64 x.f3)).setCell ⟨g8,4,none⟩ (.int .i64 x.f4)).setCell ⟨g8,5,none⟩ (.slice B5 x.f5.length b5)).setCell ⟨g8,6,none⟩ (.int .i64 x.f6))from Zbd (Zbd (Zbd (Zbd (Zbd (Zbd (Zbd BV.out HG8.out) HG8.out) HG8.out) HG8.out) HG8.out) HG8.out) HG8.out);refine(Zdc.calls k Ad cd d x.f0 B1 b1 x.f1 B2 b2 x.f2 x.f3 x.f4 B5 b5 x.f5 x.f6 _ _ (Kd.Zab HCd.out.2.2 (Zaf BW2.out (mvB B7.out))) HCd.out.2.1 (Kd.Zab HI1.out (mvB B7.out)) HL1.out (Kd.Zab HI2.out (mvB B7.out)) HL2.out (Kd.Zab HI5.out (mvB B7.out)) HL5.out HE.out).mono ?_;rintro e_ w12 ⟨rfl,hb⟩;have BV2:=Za.mk (Zaf (mvB B7.out) hb);clear hb)))
          have h256_:=L256.out
          go_roundg (cons.length - (j+1))
          case measure=>omega
          case rel=>exact⟨j+1,(by rw[show wrap64 ((j:Int)+1)=((j+1:Nat):Int)from by unfold wrap64;omega]),by omega,Nat.le_refl _,⟨Zaf BW2.out (mvB BV2.out)⟩,⟨HA2⟩⟩
        rw[if_neg he0]at HA2;obtain rfl:=Option.some.inj HA2;have h4:=HR.out;rw[if_neg he0]at h4;obtain rfl:=Option.some.inj h4;clear h4 HA2;have de1:(e==0)=false:=beq_eq_false_iff_ne.2 he0;have de2:(e !=0)=true:=by simp only[bne,de1,Bool.not_false]
        have de3:decide (e=0)=false:=decide_eq_false he0;clear he0
        go_wp2_with (first|((with_reducible refine Zao (N:=8) rfl ?_);refine Zdh ?hg (N:=8) ?hd (cs:=#[.int .i64 0,.slice none 0 0,.slice none 0 0,.int .i64 0,.int .i64 0,.slice none 0 0,.int .i64 0]) (t:=36) ?hr ?_;(case hd=>rfl);(case hg=>rfl);(case hr=>first|(go_simp;done)|(go_simp;rfl));intro g8 hg8 w9 hbox hb;have BX:=Za.mk hbox;have mg:w9.cell? ⟨g8,0,none⟩=some (.int .i64 0):=(Zap hbox 0).trans rfl;have mh:=Za2 hbox 0;have l6:w9.cell? ⟨g8,1,none⟩=some (.slice none 0 0):=(Zap hbox 1).trans rfl;have mi:=Za2 hbox 1;have hcz2:w9.cell? ⟨g8,2,none⟩=some (.slice none 0 0):=(Zap hbox 2).trans rfl;have iAa:=Za2 hbox 2;have i6a:w9.cell? ⟨g8,3,none⟩=some (.int .i64 0):=(Zap hbox 3).trans rfl;have iBa:=Za2 hbox 3;have i7a:w9.cell? ⟨g8,4,none⟩=some (.int .i64 0):=(Zap hbox 4).trans rfl;have iCa:=Za2 hbox 4;have i8a:w9.cell? ⟨g8,5,none⟩=some (.slice none 0 0):=(Zap hbox 5).trans rfl;have iDa:=Za2 hbox 5;have i9a:w9.cell? ⟨g8,6,none⟩=some (.int .i64 0):=(Zap hbox 6).trans rfl;have iEa:=Za2 hbox 6;have BV:=Za.mk (Zaf (mvB (Below.refl wq.heap.size wq)) hb);have HG8:Za (wq.heap.size≤g8):=⟨by rw[hg8];exact(mvB (Below.refl wq.heap.size wq)).size⟩;clear hbox hb hg8)|(go_at_call 79;go_loud (have B7:=Za.mk (show Below wq.heap.size wq (((((((w9.setCell ⟨g8,0,none⟩ (.int .i64 x.f0)).setCell ⟨g8,1,none⟩ (.slice B1 x.f1.length b1)).setCell ⟨g8,2,none⟩ (.slice B2 x.f2.length b2)).setCell ⟨g8,3,none⟩ (.int .i64 x.f3)).setCell ⟨g8,4,none⟩ (.int .i64 x.f4)).setCell ⟨g8,5,none⟩ (.slice B5 x.f5.length b5)).setCell ⟨g8,6,none⟩ (.int .i64 x.f6))from Zbd (Zbd (Zbd (Zbd (Zbd (Zbd (Zbd BV.out HG8.out) HG8.out) HG8.out) HG8.out) HG8.out) HG8.out) HG8.out);refine(Zdc.calls k Ad cd d x.f0 B1 b1 x.f1 B2 b2 x.f2 x.f3 x.f4 B5 b5 x.f5 x.f6 _ _ (Kd.Zab HCd.out.2.2 (Zaf BW2.out (mvB B7.out))) HCd.out.2.1 (Kd.Zab HI1.out (mvB B7.out)) HL1.out (Kd.Zab HI2.out (mvB B7.out)) HL2.out (Kd.Zab HI5.out (mvB B7.out)) HL5.out HE.out).mono ?_;rintro e_ w12 ⟨rfl,hb⟩;have BV2:=Za.mk (Zaf (mvB B7.out) hb);clear hb)))
        go_ret;exact⟨rfl,Zaf HWQ.out (mvB BV2.out)⟩
    have hltz:(i:Int)<(vars.length:Int):=by omega
    have p1_:decide ((i:Int)<(vars.length:Int))=true:=decide_eq_true hltz;have p2_:decide ((0:Int)≤(i:Int))=true:=decide_eq_true (by omega);obtain⟨ad,A5,c5,e_,hx0,hx1,hl1,hi1⟩:=Zem (Kd.Zab HR0.out HWR.out) (i:Int) (by omega) hltz;cases e_;simp only[Int.toNat_natCast]at hx0 hx1;have HA1:=HA.out;rw[drop_rd hlt,Zew]at HA1;have HTK:=Za.mk (take_rd hlt)
    generalize Za9 vars (i:Int)=x at hx0 hx1 hl1 hi1 HA1 HTK
    have HI1:=Za.mk hi1;have HL1:=Za.mk hl1;clear hi1 hl1 HA;obtain⟨nm,hnm,HA2⟩:=Option.bind_eq_some_iff.1 HA1;have HN:=Za.mk hnm;clear HA1 hnm;have HGB:Za (wb.heap.size≤wr.heap.size):=⟨BW.out.size⟩
    cases nm with
    |false=>
      rw[if_pos rfl]at HA2;obtain rfl:=Option.some.inj HA2;have h4:=H2.out;rw[if_neg (by decide)]at h4;obtain rfl:=Option.some.inj h4;clear h4 HA2
      go_wp2_with (first|((with_reducible refine Zao (N:=5) rfl ?_);refine Zdh ?hg (N:=5) ?hd (cs:=#[.string (⟨#[]⟩:ByteArray),.slice none 0 0]) (t:=55) ?hr ?_;(case hd=>rfl);(case hg=>rfl);(case hr=>first|(go_simp;done)|(go_simp;rfl));intro g5 hg5 w9 hbox hb;have BX:=Za.mk hbox;have mg:w9.cell? ⟨g5,0,none⟩=some (.string (⟨#[]⟩:ByteArray)):=(Zap hbox 0).trans rfl;have l6:w9.cell? ⟨g5,1,none⟩=some (.slice none 0 0):=(Zap hbox 1).trans rfl;have mh:=Za2 hbox 0;have mi:=Za2 hbox 1;have BV:=Za.mk (Zaf (mvB (Below.refl wr.heap.size wr)) hb);have HG5:Za (wr.heap.size≤g5):=⟨by rw[hg5];exact(mvB (Below.refl wr.heap.size wr)).size⟩;have HM5:Za (wb.heap.size≠g5):=⟨by rw[hg5];exact Nat.ne_of_lt (Nat.lt_of_lt_of_le HMB.out (mvB (Below.refl wr.heap.size wr)).size)⟩;have HS9:=Za.mk (SetN.below (SetN.below HS.out (mvB (Below.refl wr.heap.size wr))) hb);clear hbox hb hg5)|(go_at_call 77;go_loud (refine(Zd8.calls x.f0 _ _ HN.out).mono ?_;rintro e w12 ⟨rfl,hb⟩;have BX2:=Za.mk (Zci (mvK (Za4 (cs':=#[.string x.f0,.slice A5 x.f1.length c5]) (Za4 (cs':=#[.string x.f0,.slice none 0 0]) BX.out 0 (.string x.f0) rfl) 1 (.slice A5 x.f1.length c5) rfl)) hb);have BV2:=Za.mk (Zaf (mvB (show Below wr.heap.size wr ((w9.setCell ⟨g5,0,none⟩ (.string x.f0)).setCell ⟨g5,1,none⟩ (.slice A5 x.f1.length c5))from Zbd (Zbd BV.out HG5.out) HG5.out)) hb);have HS2:=Za.mk (SetN.below (SetN.below (show SetN ((w9.setCell ⟨g5,0,none⟩ (.string x.f0)).setCell ⟨g5,1,none⟩ (.slice A5 x.f1.length c5)) _ _ from SetN.far HS9.out HM5.out) (mvB (Below.refl ((w9.setCell ⟨g5,0,none⟩ (.string x.f0)).setCell ⟨g5,1,none⟩ (.slice A5 x.f1.length c5)).heap.size ((w9.setCell ⟨g5,0,none⟩ (.string x.f0)).setCell ⟨g5,1,none⟩ (.slice A5 x.f1.length c5))))) hb);have hcy0:w12.cell? ⟨g5,0,none⟩=some (.string x.f0):=(Zap BX2.out 0).trans rfl;have hcy1:w12.cell? ⟨g5,1,none⟩=some (.slice A5 x.f1.length c5):=(Zap BX2.out 1).trans rfl;clear hb)))
      go_ret;exact⟨rfl,Zaf HWR.out (mvB BV2.out)⟩
    |true=>
      rw[if_neg (by decide)]at HA2;have HSZ:=Za.mk (name_size HN.out)
      generalize hhad:hasN ((vars.take i).map (·.f0)) x.f0=had at HA2
      have HD:=Za.mk hhad;clear hhad
      cases had with
      |true=>
        rw[if_pos rfl]at HA2;obtain rfl:=Option.some.inj HA2;have h4:=H2.out;rw[if_neg (by decide)]at h4;obtain rfl:=Option.some.inj h4;clear h4 HA2
        go_wp2_with (first|((with_reducible refine Zao (N:=5) rfl ?_);refine Zdh ?hg (N:=5) ?hd (cs:=#[.string (⟨#[]⟩:ByteArray),.slice none 0 0]) (t:=55) ?hr ?_;(case hd=>rfl);(case hg=>rfl);(case hr=>first|(go_simp;done)|(go_simp;rfl));intro g5 hg5 w9 hbox hb;have BX:=Za.mk hbox;have mg:w9.cell? ⟨g5,0,none⟩=some (.string (⟨#[]⟩:ByteArray)):=(Zap hbox 0).trans rfl;have l6:w9.cell? ⟨g5,1,none⟩=some (.slice none 0 0):=(Zap hbox 1).trans rfl;have mh:=Za2 hbox 0;have mi:=Za2 hbox 1;have BV:=Za.mk (Zaf (mvB (Below.refl wr.heap.size wr)) hb);have HG5:Za (wr.heap.size≤g5):=⟨by rw[hg5];exact(mvB (Below.refl wr.heap.size wr)).size⟩;have HM5:Za (wb.heap.size≠g5):=⟨by rw[hg5];exact Nat.ne_of_lt (Nat.lt_of_lt_of_le HMB.out (mvB (Below.refl wr.heap.size wr)).size)⟩;have HS9:=Za.mk (SetN.below (SetN.below HS.out (mvB (Below.refl wr.heap.size wr))) hb);clear hbox hb hg5)|(go_at_call 77;go_loud (refine(Zd8.calls x.f0 _ _ HN.out).mono ?_;rintro e w12 ⟨rfl,hb⟩;have BX2:=Za.mk (Zci (mvK (Za4 (cs':=#[.string x.f0,.slice A5 x.f1.length c5]) (Za4 (cs':=#[.string x.f0,.slice none 0 0]) BX.out 0 (.string x.f0) rfl) 1 (.slice A5 x.f1.length c5) rfl)) hb);have BV2:=Za.mk (Zaf (mvB (show Below wr.heap.size wr ((w9.setCell ⟨g5,0,none⟩ (.string x.f0)).setCell ⟨g5,1,none⟩ (.slice A5 x.f1.length c5))from Zbd (Zbd BV.out HG5.out) HG5.out)) hb);have HS2:=Za.mk (SetN.below (SetN.below (show SetN ((w9.setCell ⟨g5,0,none⟩ (.string x.f0)).setCell ⟨g5,1,none⟩ (.slice A5 x.f1.length c5)) _ _ from SetN.far HS9.out HM5.out) (mvB (Below.refl ((w9.setCell ⟨g5,0,none⟩ (.string x.f0)).setCell ⟨g5,1,none⟩ (.slice A5 x.f1.length c5)).heap.size ((w9.setCell ⟨g5,0,none⟩ (.string x.f0)).setCell ⟨g5,1,none⟩ (.slice A5 x.f1.length c5))))) hb);have hcy0:w12.cell? ⟨g5,0,none⟩=some (.string x.f0):=(Zap BX2.out 0).trans rfl;have hcy1:w12.cell? ⟨g5,1,none⟩=some (.slice A5 x.f1.length c5):=(Zap BX2.out 1).trans rfl;clear hb))|(refine Ze0 rfl (.tmp 34) (.tmp 36) rfl rfl HS2.out rfl HSZ.out ?_;rw[HD.out]))
        go_ret;exact⟨rfl,Zaf HWR.out (mvB BV2.out)⟩
      |false=>
        rw[if_neg (by decide)]at HA2;by_cases hl0:x.f1.length=0
        · rw [if_pos hl0] at HA2
          obtain rfl:=Option.some.inj HA2;have h4:=H2.out;rw[if_neg (by decide)]at h4;obtain rfl:=Option.some.inj h4;clear h4 HA2;have dl1:((x.f1.length:Int)==0)=true:=beq_iff_eq.2 (by omega);have dl2:decide ((x.f1.length:Int)=0)=true:=decide_eq_true (by omega);have dl3:decide (x.f1.length=0)=true:=decide_eq_true hl0;have dl4:(x.f1.length==0)=true:=beq_iff_eq.2 hl0;clear hl0
          go_wp2_with (first|((with_reducible refine Zao (N:=5) rfl ?_);refine Zdh ?hg (N:=5) ?hd (cs:=#[.string (⟨#[]⟩:ByteArray),.slice none 0 0]) (t:=55) ?hr ?_;(case hd=>rfl);(case hg=>rfl);(case hr=>first|(go_simp;done)|(go_simp;rfl));intro g5 hg5 w9 hbox hb;have BX:=Za.mk hbox;have mg:w9.cell? ⟨g5,0,none⟩=some (.string (⟨#[]⟩:ByteArray)):=(Zap hbox 0).trans rfl;have l6:w9.cell? ⟨g5,1,none⟩=some (.slice none 0 0):=(Zap hbox 1).trans rfl;have mh:=Za2 hbox 0;have mi:=Za2 hbox 1;have BV:=Za.mk (Zaf (mvB (Below.refl wr.heap.size wr)) hb);have HG5:Za (wr.heap.size≤g5):=⟨by rw[hg5];exact(mvB (Below.refl wr.heap.size wr)).size⟩;have HM5:Za (wb.heap.size≠g5):=⟨by rw[hg5];exact Nat.ne_of_lt (Nat.lt_of_lt_of_le HMB.out (mvB (Below.refl wr.heap.size wr)).size)⟩;have HS9:=Za.mk (SetN.below (SetN.below HS.out (mvB (Below.refl wr.heap.size wr))) hb);clear hbox hb hg5)|(go_at_call 77;go_loud (refine(Zd8.calls x.f0 _ _ HN.out).mono ?_;rintro e w12 ⟨rfl,hb⟩;have BX2:=Za.mk (Zci (mvK (Za4 (cs':=#[.string x.f0,.slice A5 x.f1.length c5]) (Za4 (cs':=#[.string x.f0,.slice none 0 0]) BX.out 0 (.string x.f0) rfl) 1 (.slice A5 x.f1.length c5) rfl)) hb);have BV2:=Za.mk (Zaf (mvB (show Below wr.heap.size wr ((w9.setCell ⟨g5,0,none⟩ (.string x.f0)).setCell ⟨g5,1,none⟩ (.slice A5 x.f1.length c5))from Zbd (Zbd BV.out HG5.out) HG5.out)) hb);have HS2:=Za.mk (SetN.below (SetN.below (show SetN ((w9.setCell ⟨g5,0,none⟩ (.string x.f0)).setCell ⟨g5,1,none⟩ (.slice A5 x.f1.length c5)) _ _ from SetN.far HS9.out HM5.out) (mvB (Below.refl ((w9.setCell ⟨g5,0,none⟩ (.string x.f0)).setCell ⟨g5,1,none⟩ (.slice A5 x.f1.length c5)).heap.size ((w9.setCell ⟨g5,0,none⟩ (.string x.f0)).setCell ⟨g5,1,none⟩ (.slice A5 x.f1.length c5))))) hb);have hcy0:w12.cell? ⟨g5,0,none⟩=some (.string x.f0):=(Zap BX2.out 0).trans rfl;have hcy1:w12.cell? ⟨g5,1,none⟩=some (.slice A5 x.f1.length c5):=(Zap BX2.out 1).trans rfl;clear hb))|(refine Ze0 rfl (.tmp 34) (.tmp 36) rfl rfl HS2.out rfl HSZ.out ?_;rw[HD.out]))
          go_ret;exact⟨rfl,Zaf HWR.out (mvB BV2.out)⟩
        rw[if_neg hl0]at HA2;obtain⟨e,he,HA3⟩:=Option.bind_eq_some_iff.1 HA2;have HE:=Za.mk he;clear HA2 he;have dl1:((x.f1.length:Int)==0)=false:=beq_eq_false_iff_ne.2 (by omega);have dl2:decide ((x.f1.length:Int)=0)=false:=decide_eq_false (by omega);have dl3:decide (x.f1.length=0)=false:=decide_eq_false hl0;have dl4:(x.f1.length==0)=false:=beq_eq_false_iff_ne.2 hl0;clear hl0;by_cases he0:e=0;rotate_left
        · rw [if_neg he0] at HA3
          obtain rfl:=Option.some.inj HA3;have h4:=H2.out;rw[if_neg (by decide)]at h4;obtain rfl:=Option.some.inj h4;clear h4 HA3;have de1:(e==0)=false:=beq_eq_false_iff_ne.2 he0;have de2:(e !=0)=true:=by simp only[bne,de1,Bool.not_false]
          have de3:decide (e=0)=false:=decide_eq_false he0;clear he0
          go_wp2_with (first|((with_reducible refine Zao (N:=5) rfl ?_);refine Zdh ?hg (N:=5) ?hd (cs:=#[.string (⟨#[]⟩:ByteArray),.slice none 0 0]) (t:=55) ?hr ?_;(case hd=>rfl);(case hg=>rfl);(case hr=>first|(go_simp;done)|(go_simp;rfl));intro g5 hg5 w9 hbox hb;have BX:=Za.mk hbox;have mg:w9.cell? ⟨g5,0,none⟩=some (.string (⟨#[]⟩:ByteArray)):=(Zap hbox 0).trans rfl;have l6:w9.cell? ⟨g5,1,none⟩=some (.slice none 0 0):=(Zap hbox 1).trans rfl;have mh:=Za2 hbox 0;have mi:=Za2 hbox 1;have BV:=Za.mk (Zaf (mvB (Below.refl wr.heap.size wr)) hb);have HG5:Za (wr.heap.size≤g5):=⟨by rw[hg5];exact(mvB (Below.refl wr.heap.size wr)).size⟩;have HM5:Za (wb.heap.size≠g5):=⟨by rw[hg5];exact Nat.ne_of_lt (Nat.lt_of_lt_of_le HMB.out (mvB (Below.refl wr.heap.size wr)).size)⟩;have HS9:=Za.mk (SetN.below (SetN.below HS.out (mvB (Below.refl wr.heap.size wr))) hb);clear hbox hb hg5)|(go_at_call 77;go_loud (refine(Zd8.calls x.f0 _ _ HN.out).mono ?_;rintro e w12 ⟨rfl,hb⟩;have BX2:=Za.mk (Zci (mvK (Za4 (cs':=#[.string x.f0,.slice A5 x.f1.length c5]) (Za4 (cs':=#[.string x.f0,.slice none 0 0]) BX.out 0 (.string x.f0) rfl) 1 (.slice A5 x.f1.length c5) rfl)) hb);have BV2:=Za.mk (Zaf (mvB (show Below wr.heap.size wr ((w9.setCell ⟨g5,0,none⟩ (.string x.f0)).setCell ⟨g5,1,none⟩ (.slice A5 x.f1.length c5))from Zbd (Zbd BV.out HG5.out) HG5.out)) hb);have HS2:=Za.mk (SetN.below (SetN.below (show SetN ((w9.setCell ⟨g5,0,none⟩ (.string x.f0)).setCell ⟨g5,1,none⟩ (.slice A5 x.f1.length c5)) _ _ from SetN.far HS9.out HM5.out) (mvB (Below.refl ((w9.setCell ⟨g5,0,none⟩ (.string x.f0)).setCell ⟨g5,1,none⟩ (.slice A5 x.f1.length c5)).heap.size ((w9.setCell ⟨g5,0,none⟩ (.string x.f0)).setCell ⟨g5,1,none⟩ (.slice A5 x.f1.length c5))))) hb);have hcy0:w12.cell? ⟨g5,0,none⟩=some (.string x.f0):=(Zap BX2.out 0).trans rfl;have hcy1:w12.cell? ⟨g5,1,none⟩=some (.slice A5 x.f1.length c5):=(Zap BX2.out 1).trans rfl;clear hb))|(refine Ze0 rfl (.tmp 34) (.tmp 36) rfl rfl HS2.out rfl HSZ.out ?_;rw[HD.out])|(go_at_call 78;go_loud (refine(Zea.calls k A5 c5 x.f1 _ _ (Kd.Zab HI1.out (mvB BV2.out)) HL1.out HE.out).mono ?_;rintro e_ w13 ⟨rfl,hb⟩;have BV3:=Za.mk (Zaf (mvB BV2.out) hb);have HS3:=Za.mk (SetN.below (SetN.below HS2.out (mvB (Below.refl w12.heap.size w12))) hb);have hcw0:w13.cell? ⟨g5,0,none⟩=some (.string x.f0):=(Zap (Zci (mvK BX2.out) hb) 0).trans rfl;have hcw1:w13.cell? ⟨g5,1,none⟩=some (.slice A5 x.f1.length c5):=(Zap (Zci (mvK BX2.out) hb) 1).trans rfl;clear hb)))
          go_ret;exact⟨rfl,Zaf HWR.out (mvB BV3.out)⟩
        subst he0;rw[if_pos rfl]at HA3;have HLN:Za (((vars.take i).map (·.f0)).length<maxLen):=⟨Nat.lt_of_le_of_lt (Nat.le_trans (by simp;omega) L64.out) (by decide)⟩
        go_wp2_with (first|((with_reducible refine Zao (N:=5) rfl ?_);refine Zdh ?hg (N:=5) ?hd (cs:=#[.string (⟨#[]⟩:ByteArray),.slice none 0 0]) (t:=55) ?hr ?_;(case hd=>rfl);(case hg=>rfl);(case hr=>first|(go_simp;done)|(go_simp;rfl));intro g5 hg5 w9 hbox hb;have BX:=Za.mk hbox;have mg:w9.cell? ⟨g5,0,none⟩=some (.string (⟨#[]⟩:ByteArray)):=(Zap hbox 0).trans rfl;have l6:w9.cell? ⟨g5,1,none⟩=some (.slice none 0 0):=(Zap hbox 1).trans rfl;have mh:=Za2 hbox 0;have mi:=Za2 hbox 1;have BV:=Za.mk (Zaf (mvB (Below.refl wr.heap.size wr)) hb);have HG5:Za (wr.heap.size≤g5):=⟨by rw[hg5];exact(mvB (Below.refl wr.heap.size wr)).size⟩;have HM5:Za (wb.heap.size≠g5):=⟨by rw[hg5];exact Nat.ne_of_lt (Nat.lt_of_lt_of_le HMB.out (mvB (Below.refl wr.heap.size wr)).size)⟩;have HS9:=Za.mk (SetN.below (SetN.below HS.out (mvB (Below.refl wr.heap.size wr))) hb);clear hbox hb hg5)|(go_at_call 77;go_loud (refine(Zd8.calls x.f0 _ _ HN.out).mono ?_;rintro e w12 ⟨rfl,hb⟩;have BX2:=Za.mk (Zci (mvK (Za4 (cs':=#[.string x.f0,.slice A5 x.f1.length c5]) (Za4 (cs':=#[.string x.f0,.slice none 0 0]) BX.out 0 (.string x.f0) rfl) 1 (.slice A5 x.f1.length c5) rfl)) hb);have BV2:=Za.mk (Zaf (mvB (show Below wr.heap.size wr ((w9.setCell ⟨g5,0,none⟩ (.string x.f0)).setCell ⟨g5,1,none⟩ (.slice A5 x.f1.length c5))from Zbd (Zbd BV.out HG5.out) HG5.out)) hb);have HS2:=Za.mk (SetN.below (SetN.below (show SetN ((w9.setCell ⟨g5,0,none⟩ (.string x.f0)).setCell ⟨g5,1,none⟩ (.slice A5 x.f1.length c5)) _ _ from SetN.far HS9.out HM5.out) (mvB (Below.refl ((w9.setCell ⟨g5,0,none⟩ (.string x.f0)).setCell ⟨g5,1,none⟩ (.slice A5 x.f1.length c5)).heap.size ((w9.setCell ⟨g5,0,none⟩ (.string x.f0)).setCell ⟨g5,1,none⟩ (.slice A5 x.f1.length c5))))) hb);have hcy0:w12.cell? ⟨g5,0,none⟩=some (.string x.f0):=(Zap BX2.out 0).trans rfl;have hcy1:w12.cell? ⟨g5,1,none⟩=some (.slice A5 x.f1.length c5):=(Zap BX2.out 1).trans rfl;clear hb))|(refine Ze0 rfl (.tmp 34) (.tmp 36) rfl rfl HS2.out rfl HSZ.out ?_;rw[HD.out])|(go_at_call 78;go_loud (refine(Zea.calls k A5 c5 x.f1 _ _ (Kd.Zab HI1.out (mvB BV2.out)) HL1.out HE.out).mono ?_;rintro e_ w13 ⟨rfl,hb⟩;have BV3:=Za.mk (Zaf (mvB BV2.out) hb);have HS3:=Za.mk (SetN.below (SetN.below HS2.out (mvB (Below.refl w12.heap.size w12))) hb);have hcw0:w13.cell? ⟨g5,0,none⟩=some (.string x.f0):=(Zap (Zci (mvK BX2.out) hb) 0).trans rfl;have hcw1:w13.cell? ⟨g5,1,none⟩=some (.slice A5 x.f1.length c5):=(Zap (Zci (mvK BX2.out) hb) 1).trans rfl;clear hb))|(refine wpList_putN rfl (.tmp 49) (.tmp 51) (.const (.bool true)) rfl rfl HS3.out rfl rfl HSZ.out HLN.out ?_;intro w14 hm14 hg14;have HS4:=Za.mk hm14;have BV4:=Za.mk (hg14.size);have BW4:=Za.mk ((Zaf BW.out (mvB BV3.out)).grown hg14 (Nat.le_trans HGB.out (mvB BV3.out).size) (fun k_ e_=>by injection e_ with e_;rw[←e_];exact Nat.le_refl _));clear hm14 hg14))
        have h64_:=L64.out
        go_roundg (vars.length - (i+1))
        case measure=>omega
        case rel=>exact⟨i+1,(by rw[show wrap64 ((i:Int)+1)=((i+1:Nat):Int)from by unfold wrap64;omega]),by omega,Nat.le_refl _,⟨mvB BW4.out⟩,⟨by rw[HTK.out];exact SetN.below HS4.out (mvB (Below.refl w14.heap.size w14))⟩,⟨by rw[HTK.out];exact HA3⟩⟩
end Go.Proofs.YtdpieallpbllkaaGreat.P
namespace Go.Proofs.YtdpieallpbllkaaGreat.P
open Go.RowKit Go.Proofs.YtdpieallpbllkaaGreatW.PrintWords Go.Proofs.YtdpieallpbllkaaGreatW.PrintLast Go.Proofs.YtdpieallpbllkaaGreatW.PrintMore
attribute [local go_sem] Zcv Zcx Zdi Zdj Zcm Zcn Zcw Zcy
def Zbf.f (a0:Int):Option (Bool):=if a0≥(-1048576)then(some (decide (a0≤1048576)))else(some false)
set_option maxRecDepth 100000 in
theorem Zbf.calls (a0 : Int) (r : Bool) (w : World) (h : Zbf.f a0 = some r) :
  Calls Tryz.prog 73 #[.int .i64 a0] w fun e w'=>e= .returned (.bool r)∧Zar w w':=by
 have H:(if a0≥(-1048576)then(some (decide (a0≤1048576)))else(some false))=some r:=h;clear h;by_cases c2:a0≥(-1048576)
 case pos=>
  rw[if_pos c2]at H;have jE:decide ((-1048576)≤a0)=true:=decide_eq_true c2;clear c2;obtain rfl:=sj H;go_enter Tryz.func73,Tryz.ntmps73;go_wp2;go_ret;exact⟨eS,by repeat(first|exact Zar.refl _|apply Zar.step)⟩
 rw[if_neg c2]at H;have jE:decide ((-1048576)≤a0)=false:=decide_eq_false c2;clear c2;obtain rfl:=sj H;go_enter Tryz.func73,Tryz.ntmps73;go_wp2;go_ret;exact⟨eS,by repeat(first|exact Zar.refl _|apply Zar.step)⟩
end Go.Proofs.YtdpieallpbllkaaGreat.P
/- secateur/secateurref02.Check: over a list of ranges. -/
namespace Go.Proofs.YtdpieallpbllkaaGreat.P
open Go.RowKit Go.Proofs.YtdpieallpbllkaaGreatW.PrintWords Go.Proofs.YtdpieallpbllkaaGreatW.PrintLast Go.Proofs.YtdpieallpbllkaaGreatW.PrintMore
def Zbb.l0 : Nat → List (S82) → Int → Int → Option (Int)
 | 0, _, _, _ => none
 |k+1,x0,x3,x4=>if x4<(x0.length:Int)then(if 0≤x4 then((Zbf.f ((Zbr x0 x4).f0)).bind fun ta=>(if ta=true then((Zbf.f ((Zbr x0 x4).f1)).bind fun tb=>(if tb=true then(if((Zbr x0 x4).f0)>((Zbr x0 x4).f1)then(some 20)else(if x4>0 then(if 0≤(wrap64 (x4 - 1))then(if(wrap64 (x4 - 1))<(x0.length:Int)then(if(wrap64 (((Zbr x0 x4).f0) - ((Zbr x0 (wrap64 (x4 - 1))).f1)))<2 then(some 20)else(Zbb.l0 k x0 (wrap64 (x3+(wrap64 ((wrap64 (((Zbr x0 x4).f1) - ((Zbr x0 x4).f0)))+1)))) (wrap64 (x4+1))))else(none))else(none))else(Zbb.l0 k x0 (wrap64 (x3+(wrap64 ((wrap64 (((Zbr x0 x4).f1) - ((Zbr x0 x4).f0)))+1)))) (wrap64 (x4+1)))))else(some 20)))else(some 20)))else(none))else(if x3>4096 then(some 2)else(some 0))
def Zbb.f (k:Nat) (l0:List (S82)):Option (Int):=Zbb.l0 k l0 0 0
set_option maxRecDepth 100000 in
theorem Zbb.calls (k : Nat) (A0 : Option Addr) (c0 : Nat) (l0 : List (S82)) (r : Int) (w : World) (hr0 : Kd.C k82 w A0 l0.length l0) (hc0 : l0.length ≤ c0) (h : Zbb.f k l0 = some r) :
  Calls Tryz.prog 54 #[.slice A0 l0.length c0] w fun e w'=>e= .returned (.int .i64 r)∧Below w.heap.size w w':=by
 have HR0:=Za.mk hr0;clear hr0 hc0;have HB:=Za.mk (Below.refl w.heap.size w);have H':=Za.mk (show Zbb.l0 k l0 0 0=some r from h);clear h;go_enter Tryz.func54,Tryz.ntmps54;go_wp2
 go_loopg [3,4] k (fun kq v3 v4 w'=>∃(s x:Int),v3= .int .i64 s∧v4= .int .i64 x∧Za (Zbb.l0 kq l0 s x=some r)∧Za (kq≤k)∧Za (Below w.heap.size w w'))
 case atStart=>exact⟨0,0,rfl,rfl,H',⟨Nat.le_refl _⟩,⟨mvB HB.out⟩⟩
 case round=>
  clear H' HB;obtain⟨s,x,rfl,rfl,HA,HK1,HB⟩:=hrel
  cases gk with
  | zero => exact absurd HA.out (by simp [Zbb.l0])
  |succ k1=>
   have H:=HA.out;clear HA;simp only[Zbb.l0]at H;by_cases c2:x<(l0.length:Int);rotate_left
   ·rw [if_neg c2] at H
    have p1_:decide (x<(l0.length:Int))=false:=decide_eq_false c2;clear c2;by_cases c4:s>4096
    ·rw [if_pos c4] at H
     have d4_:decide (4096<s)=true:=decide_eq_true c4;clear c4;obtain rfl:=Option.some.inj H;clear H;go_wp2;go_ret;exact⟨rfl,mvB HB.out⟩
    rw[if_neg c4]at H;have d4_:decide (4096<s)=false:=decide_eq_false c4;clear c4;obtain rfl:=Option.some.inj H;clear H;go_wp2;go_ret;exact⟨rfl,mvB HB.out⟩
   rw[if_pos c2]at H;have p1_:decide (x<(l0.length:Int))=true:=decide_eq_true c2;by_cases c3:0≤x;rotate_left
   ·rw [if_neg c3] at H
    exact absurd H (by simp)
   rw[if_pos c3]at H;have p2_:decide (0≤x)=true:=decide_eq_true c3;obtain⟨ad,e_,hx0,hx1⟩:=Zen (Kd.Zab HR0.out HB.out) x c3 c2;cases e_;replace c2:=eq_true c2;replace c3:=eq_true c3
   generalize (Zbr l0 x).f0=a at hx0 H
   generalize (Zbr l0 x).f1=b at hx1 H
   obtain⟨va,hva,H2_⟩:=Option.bind_eq_some_iff.1 H;clear H;have H:=H2_;clear H2_;have HVa:=Za.mk hva;clear hva
   cases va with
   |false=>
    rw[if_neg Bool.false_ne_true]at H;obtain rfl:=Option.some.inj H;clear H;go_wp2;have HCa:Za (∀n,Calls Tryz.prog 73 #[.int .i64 a] (wr.drewN n) fun e w''=>e= .returned (.bool false)∧∃m,w''=wr.drewN m):=⟨fun n=>Calls.quiet_of ((Zbf.calls a _ _ HVa.out).mono fun e w' h_=>⟨h_.1,h_.2.out⟩)⟩
    go_quiet (with_reducible exact HCa.out _)
    go_wp2;go_ret;exact⟨rfl,mvB HB.out⟩
   |true=>
    rw[if_pos rfl]at H;obtain⟨vb,hvb,H2_⟩:=Option.bind_eq_some_iff.1 H;clear H;have H:=H2_;clear H2_;have HVb:=Za.mk hvb;clear hvb
    cases vb with
    |false=>
     rw[if_neg Bool.false_ne_true]at H;obtain rfl:=Option.some.inj H;clear H;go_wp2;have HCa:Za (∀n,Calls Tryz.prog 73 #[.int .i64 a] (wr.drewN n) fun e w''=>e= .returned (.bool true)∧∃m,w''=wr.drewN m):=⟨fun n=>Calls.quiet_of ((Zbf.calls a _ _ HVa.out).mono fun e w' h_=>⟨h_.1,h_.2.out⟩)⟩;have HCb:Za (∀n,Calls Tryz.prog 73 #[.int .i64 b] (wr.drewN n) fun e w''=>e= .returned (.bool false)∧∃m,w''=wr.drewN m):=⟨fun n=>Calls.quiet_of ((Zbf.calls b _ _ HVb.out).mono fun e w' h_=>⟨h_.1,h_.2.out⟩)⟩
     go_quiet (first|with_reducible exact HCa.out _|with_reducible exact HCb.out _)
     go_wp2;go_ret;exact⟨rfl,mvB HB.out⟩
    |true=>
     rw[if_pos rfl]at H;by_cases c9:a>b
     ·rw [if_pos c9] at H
      have d9_:decide (b<a)=true:=decide_eq_true c9;clear c9;obtain rfl:=Option.some.inj H;clear H;go_wp2;have HCa:Za (∀n,Calls Tryz.prog 73 #[.int .i64 a] (wr.drewN n) fun e w''=>e= .returned (.bool true)∧∃m,w''=wr.drewN m):=⟨fun n=>Calls.quiet_of ((Zbf.calls a _ _ HVa.out).mono fun e w' h_=>⟨h_.1,h_.2.out⟩)⟩;have HCb:Za (∀n,Calls Tryz.prog 73 #[.int .i64 b] (wr.drewN n) fun e w''=>e= .returned (.bool true)∧∃m,w''=wr.drewN m):=⟨fun n=>Calls.quiet_of ((Zbf.calls b _ _ HVb.out).mono fun e w' h_=>⟨h_.1,h_.2.out⟩)⟩
      go_quiet (first|with_reducible exact HCa.out _|with_reducible exact HCb.out _)
      go_wp2;go_ret;exact⟨rfl,mvB HB.out⟩
     rw[if_neg c9]at H;have d9_:decide (b<a)=false:=decide_eq_false c9;clear c9;by_cases c10:x>0;rotate_left
     ·rw [if_neg c10] at H
      have d10_:decide (0<x)=false:=decide_eq_false c10;clear c10;have H':=Za.mk H;clear H;go_wp2;have HCa:Za (∀n,Calls Tryz.prog 73 #[.int .i64 a] (wr.drewN n) fun e w''=>e= .returned (.bool true)∧∃m,w''=wr.drewN m):=⟨fun n=>Calls.quiet_of ((Zbf.calls a _ _ HVa.out).mono fun e w' h_=>⟨h_.1,h_.2.out⟩)⟩;have HCb:Za (∀n,Calls Tryz.prog 73 #[.int .i64 b] (wr.drewN n) fun e w''=>e= .returned (.bool true)∧∃m,w''=wr.drewN m):=⟨fun n=>Calls.quiet_of ((Zbf.calls b _ _ HVb.out).mono fun e w' h_=>⟨h_.1,h_.2.out⟩)⟩
      go_quiet (first|with_reducible exact HCa.out _|with_reducible exact HCb.out _)
      go_wp2
      go_quiet (fail)
      go_wp2
      go_roundg k1
      case measure=>exact Nat.lt_succ_self _
      case rel=>exact⟨_,_,(by first|rfl|(simp;done)|(simp[*];done)),(by first|rfl|(simp;done)|(simp[*];done)),H',⟨by have:=HK1.out;omega⟩,⟨mvB HB.out⟩⟩
     rw[if_pos c10]at H;have d10_:decide (0<x)=true:=decide_eq_true c10;clear c10;obtain⟨j,hj⟩:∃j_:Int,wrap64 (x - 1)=j_:=⟨_,rfl⟩;rw[hj]at H;have hjw:IntKind.i64.wrap (x - 1)=j:=(Zd0 _).trans hj;clear hj;by_cases c11:0≤j;case neg=>rw[if_neg c11]at H;exact absurd H (by simp)
     rw[if_pos c11]at H;by_cases c12:j<(l0.length:Int);case neg=>rw[if_neg c12]at H;exact absurd H (by simp)
     rw[if_pos c12]at H;obtain⟨ad2,e2_,hy0,hy1⟩:=Zen (Kd.Zab HR0.out HB.out) j c11 c12;obtain rfl:ad=ad2:=(by injection e2_);clear e2_;have d11_:decide (0≤j)=true:=decide_eq_true c11;have d12_:decide (j<(l0.length:Int))=true:=decide_eq_true c12;replace c11:=eq_true c11;replace c12:=eq_true c12
     generalize (Zbr l0 j).f1=q at hy1 H
     obtain⟨g,hg⟩:∃g_:Int,wrap64 (a - q)=g_:=⟨_,rfl⟩;rw[hg]at H;have hgw:IntKind.i64.wrap (a - q)=g:=(Zd0 _).trans hg;clear hg;by_cases c13:g<2
     ·rw [if_pos c13] at H
      have d13_:decide (g<2)=true:=decide_eq_true c13;clear c13;obtain rfl:=Option.some.inj H;clear H;go_wp2;have HCa:Za (∀n,Calls Tryz.prog 73 #[.int .i64 a] (wr.drewN n) fun e w''=>e= .returned (.bool true)∧∃m,w''=wr.drewN m):=⟨fun n=>Calls.quiet_of ((Zbf.calls a _ _ HVa.out).mono fun e w' h_=>⟨h_.1,h_.2.out⟩)⟩;have HCb:Za (∀n,Calls Tryz.prog 73 #[.int .i64 b] (wr.drewN n) fun e w''=>e= .returned (.bool true)∧∃m,w''=wr.drewN m):=⟨fun n=>Calls.quiet_of ((Zbf.calls b _ _ HVb.out).mono fun e w' h_=>⟨h_.1,h_.2.out⟩)⟩
      go_quiet (first|with_reducible exact HCa.out _|with_reducible exact HCb.out _)
      go_wp2;go_ret;exact⟨rfl,mvB HB.out⟩
     rw[if_neg c13]at H;have d13_:decide (g<2)=false:=decide_eq_false c13;clear c13;have H':=Za.mk H;clear H;go_wp2;have HCa:Za (∀n,Calls Tryz.prog 73 #[.int .i64 a] (wr.drewN n) fun e w''=>e= .returned (.bool true)∧∃m,w''=wr.drewN m):=⟨fun n=>Calls.quiet_of ((Zbf.calls a _ _ HVa.out).mono fun e w' h_=>⟨h_.1,h_.2.out⟩)⟩;have HCb:Za (∀n,Calls Tryz.prog 73 #[.int .i64 b] (wr.drewN n) fun e w''=>e= .returned (.bool true)∧∃m,w''=wr.drewN m):=⟨fun n=>Calls.quiet_of ((Zbf.calls b _ _ HVb.out).mono fun e w' h_=>⟨h_.1,h_.2.out⟩)⟩
     go_quiet (first|with_reducible exact HCa.out _|with_reducible exact HCb.out _)
     go_wp2
     go_quiet (fail)
     go_wp2
     go_roundg k1
     case measure=>exact Nat.lt_succ_self _
     case rel=>exact⟨_,_,(by first|rfl|(simp;done)|(simp[*];done)),(by first|rfl|(simp;done)|(simp[*];done)),H',⟨by have:=HK1.out;omega⟩,⟨mvB HB.out⟩⟩
end Go.Proofs.YtdpieallpbllkaaGreat.P
/- Whether ranges are a domain: the program's answer and the document's. -/
namespace Go.Proofs.YtdpieallpbllkaaGreat.P
open Go.RowKit Go.Proofs.YtdpieallpbllkaaGreatW.PrintWords Go.Proofs.YtdpieallpbllkaaGreatW.PrintLast Go.Proofs.YtdpieallpbllkaaGreatW.PrintMore
def isVal (v:Int):Bool:=decide (-1048576≤v) && decide (v≤1048576)
theorem Zg9 (x:Int):isVal x=true↔ -1048576≤x∧x≤1048576:=by simp[isVal]
theorem Zdr (x:Int):Zbf.f x=some (isVal x):=by
  unfold Zbf.f isVal;by_cases h:x≥ -1048576
  · rw[if_pos h];simp[decide_eq_true h]
  rw[if_neg h];have:decide (-1048576≤x)=false:=decide_eq_false h;simp[this]
def rb : Int → List Rg → Bool
  | _, [] => true
  |b,x::d=>isVal x.f0 && isVal x.f1 && decide (x.f0≤x.f1) && decide (b≤x.f0) && rb (x.f1+2) d
theorem rb_good : ∀ {b : Int} {d : List Rg}, rb b d = true → Gd 1048576 b d
  | _, [], _ => trivial
  |b,x::d,h=>by
    simp only[rb,Bool.and_eq_true,decide_eq_true_iff]at h;obtain⟨⟨⟨⟨h1,h2⟩,h3⟩,h4⟩,h5⟩:=h;exact⟨h4,h3,((Zg9 _).1 h2).2,rb_good h5⟩
theorem Zhn : ∀ d e : List Rg, vals (d ++ e) = vals d ++ vals e
  | [], e => rfl
  |x::d,e=>by rw[List.cons_append,vals,vals,Zhn d e,List.append_assoc]
def checkSpec (d:List Rg):Int:=if rb (-1048576) d=true then(if(vals d).length>4096 then 2 else 0)else 20
theorem endB_take (d:List Rg) (n:Nat) (hn:n<d.length):endB (-1048576) (d.take (n+1))=d[n].f1+2:=by rw[List.take_succ_eq_append_getElem hn,Zf2]
theorem ref_Check_l0 (d : List Rg) (hl : d.length < 4611686018427387904) : ∀ (m n : Nat) (s : Int), n + m = d.length → Gd 1048576 (-1048576) (d.take n) → s = (vals (d.take n)).length →
    Ev (fun k=>Zbb.l0 k d s (n:Int)) (if rb (endB (-1048576) (d.take n)) (d.drop n)=true then(if(vals d).length>4096 then 2 else 0)else 20):=by
  intro m
  induction m with
  |zero=>
    intro n s h hg hs;rw[drop_nil' h,rb,if_pos rfl];rw[List.take_of_length_le (by omega)]at hs;subst hs;refine Ev.step (fun k=>by rw[Zbb.l0,if_neg (by omega)]) ?_;by_cases h2:(vals d).length>4096
    · rw[if_pos h2];exact Ev.Zas (by omega) (Ev.pure _)
    rw[if_neg h2];exact Ev.Za5 (c:=((vals d).length:Int)>4096) (by omega) (Ev.pure _)
  |succ m ih=>
    intro n s h hg hs;have hn:n<d.length:=by omega
    rw[List.drop_eq_getElem_cons hn,rb];have hat:=show Zbr d (n:Int)=d[n]from Zgq d n hn
    have hvl:=Zd5 hg
    cases h0:isVal d[n].f0 with
    | false => exact Ev.step (G := fun _ => some 20) (fun k => by rw [Zbb.l0, if_pos (by omega), if_pos (by omega), hat, Zdr, Option.bind_some, if_neg (by rw [h0]; simp)]) (Ev.const (by simp))
    |true=>
      cases h1:isVal d[n].f1 with
      | false => exact Ev.step (G := fun _ => some 20) (fun k => by rw [Zbb.l0, if_pos (by omega), if_pos (by omega), hat, Zdr, Option.bind_some, if_pos h0, Zdr, Option.bind_some, if_neg (by rw [h1]; simp)]) (Ev.const (by simp))
      |true=>
        have b0:=(Zg9 _).1 h0;have b1:=(Zg9 _).1 h1;by_cases h2:d[n].f0>d[n].f1
        · have hnle : ¬ d[n].f0 ≤ d[n].f1 := by omega
          exact Ev.step (G:=fun _=>some 20) (fun k=>by rw[Zbb.l0,if_pos (by omega),if_pos (by omega),hat,Zdr,Option.bind_some,if_pos h0,Zdr,Option.bind_some,if_pos h1,if_pos h2]) (Ev.const (by simp[hnle]))
        have hle:d[n].f0≤d[n].f1:=by omega
        have e:∀b,((true && true && decide (d[n].f0≤d[n].f1) && decide (b≤d[n].f0) && rb (d[n].f1+2) (d.drop (n+1))))=(decide (b≤d[n].f0) && rb (d[n].f1+2) (d.drop (n+1))):=fun b=>by simp[hle]
        rw[e];have hul:=Zgy (d[n].f1+1 - d[n].f0).toNat d[n].f0 d[n].f1
        have hv1:((vals (d.take (n+1))).length:Int)=(vals (d.take n)).length+(d[n].f1 - d[n].f0+1):=by
          rw[List.take_succ_eq_append_getElem hn,Zhn,List.length_append];simp only[vals,List.append_nil]
          omega
        have w2:wrap64 (s+wrap64 (wrap64 (d[n].f1 - d[n].f0)+1))=((vals (d.take (n+1))).length:Int):=by
          rw[w64 (n:=d[n].f1 - d[n].f0) (by omega) (by omega),w64 (n:=d[n].f1 - d[n].f0+1) (by omega) (by omega),w64 (n:=s+_) (by omega) (by omega)]
          omega
        have hnext:endB (-1048576) (d.take n)≤d[n].f0→_:=fun hh=>ih (n+1) ((vals (d.take (n+1))).length:Int) (by omega) (by rw[List.take_succ_eq_append_getElem hn];exact Gd_snoc.2 ⟨hg,hh,hle,b1.2⟩) rfl
        rw[endB_take d n hn]at hnext
        rcases Nat.eq_zero_or_pos n with rfl|hpos
        · have hh : endB (-1048576) (d.take 0) ≤ d[0].f0 := by simp [endB]; omega
          rw[decide_eq_true hh,Bool.true_and];exact Ev.step (fun k=>by rw[Zbb.l0,if_pos (by omega),if_pos (by omega),hat,Zdr,Option.bind_some,if_pos h0,Zdr,Option.bind_some,if_pos h1,if_neg h2,if_neg (by omega),w2,w1 (by omega)]) (hnext hh)
        have hn1:n - 1<d.length:=by omega
        have e3:endB (-1048576) (d.take n)=d[n - 1].f1+2:=by have:=endB_take d (n - 1) hn1;rwa [show n - 1+1=n by omega]at this
        have hprev: -1048576≤d[n - 1].f1∧d[n - 1].f1≤1048576:=by
          have:d.take n=d.take (n - 1)++ [d[n - 1]]:=by have:=List.take_succ_eq_append_getElem hn1;rwa [show n - 1+1=n by omega]at this
          rw[this]at hg;obtain⟨g1,g2,g3,g4⟩:=Gd_snoc.1 hg;have:=g1.end_ge
          omega
        have e4:wrap64 ((n:Int) - 1)=((n - 1:Nat):Int):=by rw[w64 (by omega) (by omega)];omega
        have hat1:=show Zbr d ((n - 1:Nat):Int)=d[n - 1]from Zgq d (n - 1) hn1
        rw[e3]at hnext ⊢;by_cases h3:d[n].f0 - d[n - 1].f1<2;rotate_left
        · rw [decide_eq_true (show d[n - 1].f1 + 2 ≤ d[n].f0 by omega), Bool.true_and]
          exact Ev.step (fun k=>by rw[Zbb.l0,if_pos (by omega),if_pos (by omega),hat,Zdr,Option.bind_some,if_pos h0,Zdr,Option.bind_some,if_pos h1,if_neg h2,if_pos (by omega),e4,if_pos (by omega),if_pos (by omega),hat1,w64 (n:=d[n].f0 - d[n - 1].f1) (by omega) (by omega),if_neg h3,w2,w1 (by omega)]) (hnext (by omega))
        rw[decide_eq_false (show ¬d[n - 1].f1+2≤d[n].f0 by omega),Bool.false_and];exact Ev.step (G:=fun _=>some 20) (fun k=>by rw[Zbb.l0,if_pos (by omega),if_pos (by omega),hat,Zdr,Option.bind_some,if_pos h0,Zdr,Option.bind_some,if_pos h1,if_neg h2,if_pos (by omega),e4,if_pos (by omega),if_pos (by omega),hat1,w64 (n:=d[n].f0 - d[n - 1].f1) (by omega) (by omega),if_pos h3]) (Ev.const (by simp))
theorem ref_Check_ev (d:List Rg) (hl:d.length<4611686018427387904):Ev (fun k=>Zbb.f k d) (checkSpec d):=by
  have:=ref_Check_l0 d hl d.length 0 0 (by omega) trivial rfl;exact this
end Go.Proofs.YtdpieallpbllkaaGreat.P
/- May a model be: model.Check in plain words. -/
namespace Go.Proofs.YtdpieallpbllkaaGreat.P
open Go.RowKit Go.Proofs.YtdpieallpbllkaaGreatW.PrintWords Go.Proofs.YtdpieallpbllkaaGreatW.PrintLast Go.Proofs.YtdpieallpbllkaaGreatW.PrintMore
def nameB (s:ByteArray):Bool:= !decide (s.size=0) && (decide (s.size≤16) && nameGo s s.size 0)
def chkV : List S55 → List ByteArray → Int
  | [], _ => 0
  |v::vs,had=>if nameB v.f0=false then 40 else if hasN had v.f0=true then 41 else if v.f1.length=0 then 42 else if checkSpec v.f1=0 then chkV vs (had++ [v.f0])else 42
theorem Zgn {d:List Rg} (h:checkSpec d=0):Gd 1048576 (-1048576) d:=by
  unfold checkSpec at h;by_cases q:rb (-1048576) d=true
  · exact rb_good q
  rw[if_neg q]at h;exact absurd h (by decide)
theorem chkV_ok : ∀ (vs : List S55) (had : List ByteArray), chkV vs had = 0 → ∀ v ∈ vs, Gd 1048576 (-1048576) v.f1 ∧ v.f1 ≠ []
  | [], _, _, v, hv => absurd hv List.not_mem_nil
  |x::vs,had,h,v,hv=>by
    unfold chkV at h;by_cases q1:nameB x.f0=false
    · rw[if_pos q1]at h;exact absurd h (by decide)
    rw[if_neg q1]at h;by_cases q2:hasN had x.f0=true
    · rw[if_pos q2]at h;exact absurd h (by decide)
    rw[if_neg q2]at h;by_cases q3:x.f1.length=0
    · rw[if_pos q3]at h;exact absurd h (by decide)
    rw[if_neg q3]at h;by_cases q4:checkSpec x.f1=0;rotate_left
    · rw[if_neg q4]at h;exact absurd h (by decide)
    rw[if_pos q4]at h
    rcases List.mem_cons.1 hv with e|hv
    · subst e
      exact⟨Zgn q4,fun e=>q3 (by rw[e];rfl)⟩
    exact chkV_ok vs _ h v hv
def domsOf (vars:List S55):List (List Rg):=vars.map fun v=>v.f1
def okC (c:S36):Prop:=c.f1.length≤1000000∧c.f2.length≤1000000∧(∀x ∈ c.f2,-9223372036854775808≤x)∧ -9223372036854775808≤c.f4
def conC (d:List (List Rg)) (c:S36):Int:=conE d c.f0 c.f1 c.f2 c.f3 c.f4 c.f5 c.f6
def chkC (d : List (List Rg)) : List S36 → Int
  | [] => 0
  |c::cs=>if conC d c=0 then chkC d cs else conC d c
theorem chkC_ok {d : List (List Rg)} : ∀ {cs : List S36}, chkC d cs = 0 → ∀ c ∈ cs, conC d c = 0
  | [], _, c, hc => absurd hc List.not_mem_nil
  |x::cs,h,c,hc=>by
    unfold chkC at h;by_cases q:conC d x=0;rotate_left
    · rw [if_neg q] at h
      exact absurd h q
    rw[if_pos q]at h
    rcases List.mem_cons.1 hc with e|hc
    · subst e;exact q
    exact chkC_ok h c hc
def goalE (d:List (List Rg)) (gk:Int) (gv gc:List Int):Int:=
  if gk=0 then if 0<gv.length then 44 else if 0<gc.length then 44 else 0
  else if gk=1∨gk=2 then conE d 0 gv gc 0 0 [] 0 else 44
def chkE (vars:List S55) (cons:List S36) (gk:Int) (gv gc:List Int):Int:=
  if 64<vars.length∨256<cons.length then 2
  else if chkV vars []=0 then if chkC (domsOf vars) cons=0 then goalE (domsOf vars) gk gv gc else chkC (domsOf vars) cons
  else chkV vars []
theorem chkE_ok {vars:List S55} {cons:List S36} {gk:Int} {gv gc:List Int} (h:chkE vars cons gk gv gc=0):∀c ∈ cons,conC (domsOf vars) c=0:=by
  unfold chkE at h
  split at h
  · exact absurd h (by decide)
  split at h
  · split at h
    · rename_i q;exact chkC_ok q
    rename_i q;exact absurd h q
  rename_i q;exact absurd h q
end Go.Proofs.YtdpieallpbllkaaGreat.P
namespace Go.Proofs.YtdpieallpbllkaaGreat.P
open Go.RowKit Go.Proofs.YtdpieallpbllkaaGreatW.PrintWords Go.Proofs.YtdpieallpbllkaaGreatW.PrintLast Go.Proofs.YtdpieallpbllkaaGreatW.PrintMore
attribute [local go_sem] Zcv Zcx Zdi Zdj Zcm Zcn Zcw Zcy
def Zbl.l0 : Nat → List (List Int) → List (List Int) → Int → Option ((List (List Int)))
 | 0, _, _, _ => none
 |k+1,x0,x3,x4=>if x4<(x0.length:Int)then((some (([]:List Int):List Int)).bind fun y104=>(if 0≤x4 then(if y104.length+(Zco x0 x4).length<17592186044416 then(if x3.length<5864062014805 then(Zbl.l0 k x0 (x3++ [(y104++(Zco x0 x4))]) (wrap64 (x4+1)))else(none))else(none))else(none)))else(some x3)
def Zbl.f (k:Nat) (l0:List (List Int)):Option ((List (List Int))):=Zbl.l0 k l0 (([]:List (List Int))) 0
set_option maxRecDepth 100000 in
theorem Zbl.calls (k : Nat) (A0 : Option Addr) (c0 : Nat) (l0 : List (List Int)) (r : List (List Int)) (w : World) (hr0 : Kd.C (Kd.slice 3 (Kd.int .i64)) w A0 l0.length l0) (hc0 : l0.length ≤ c0) (h : Zbl.f k l0 = some r) :
  Calls Tryz.prog 72 #[.slice A0 l0.length c0] w fun e w'=>∃v0_:Value,e= .returned (v0_)∧Kd.S (Kd.slice 3 (Kd.int .i64)) 24 w' w.heap.size (fun _=>True) v0_ r∧Below w.heap.size w w':=by
 have HR0:=Za.mk hr0;have HC0:=Za.mk hc0;clear hr0 hc0;have HB:=Za.mk (Below.refl w.heap.size w);have H:(Zbl.l0 k l0 (([]:List (List Int))) 0)=some r:=h;clear h;obtain⟨y101,hy101⟩:∃y_:List (List Int),y_=(([]:List (List Int))):=⟨_,rfl⟩;replace H:(Zbl.l0 k l0 y101 0)=some r:=by first|(rw[hy101];with_reducible exact H)|(have H2_:=(Option.bind_some _ _).symm.trans H;rw[hy101];with_reducible exact H2_)|(have H2_:=(Option.bind_some _ _).symm.trans H;with_reducible exact H2_)|with_reducible exact H|(rw[hy101];exact H)|exact H
 have Vj:=Za.mk hy101;clear hy101;have H':=Za.mk H;clear H;go_enter Tryz.func72,Tryz.ntmps72
 go_wp2_with (first|((with_reducible refine Zao (N:=5) rfl ?_);refine Kd.S_lit (Kd.slice 3 (Kd.int .i64)) _ 24 ?hg (N:=5) ?hd (xs:=([]:List (List Int))) (inner:= []) (ok:=fun _=>True) (okp:=fun _=>True) ?hr ?hp (fun _ hk=>hk) trivial (Below.refl _ _) (Nat.le_refl _) (by simp) ?_;(case hd=>rfl);(case hg=>rfl);(case hr=>first|(go_simp;done)|(go_simp;rfl));(case hp=>exact(Reps.none _ _));intro vEa w2 ho3 hb hg_ hnew_;clear hg_ hnew_;(first|rw[←Vj.out]at ho3|(simp only[Int.reduceToNat]at ho3;rw[←Vj.out]at ho3));have cba:=Za.mk (Kd.Zg1 ho3 (Zad (bM HB.out)));replace HB:=Za.mk (bS HB.out hb);clear hb ho3))
 go_loopg [3,4] k (fun kq v3 v4 w'=>∃(af:List (List Int)) (ai:Int),v4= .int .i64 ai∧Za (Zbl.l0 kq l0 af ai=some r)∧Za (kq≤k)∧Za (Kd.S (Kd.slice 3 (Kd.int .i64)) 24 w' w.heap.size (fun _=>True) v3 af)∧Za (Below w.heap.size w w'))
 case atStart=>exact⟨(y101),(0),eS,H',⟨Nat.le_refl _⟩,⟨sM cba.out⟩,⟨bM HB.out⟩⟩
 case round=>
  clear H';try clear p2
  obtain⟨af,ai,rfl,HA,HK1,aX,HB⟩:=hrel
  cases gk with
  | zero => exact absurd HA.out (by simp [Zbl.l0])
  |succ k1=>
   have H:=HA.out;clear HA;simp only[Zbl.l0]at H;by_cases c4:ai<(l0.length:Int)
   case neg=>
    rw[if_neg c4]at H;have bQ:decide (ai<(l0.length:Int))=false:=decide_eq_false c4;clear c4;obtain rfl:=sj H;go_wp2;go_ret;exact⟨_,eR,sM aX.out,bM HB.out⟩
   rw[if_pos c4]at H;have bQ:decide (ai<(l0.length:Int))=true:=decide_eq_true c4;clear c4;obtain⟨y104,hy104⟩:∃y_:List Int,y_=(([]:List Int)):=⟨_,rfl⟩;replace H:(if 0≤ai then(if y104.length+(Zco l0 ai).length<17592186044416 then(if af.length<5864062014805 then(Zbl.l0 k1 l0 (af++ [(y104++(Zco l0 ai))]) (wrap64 (ai+1)))else(none))else(none))else(none))=some r:=by first|(rw[hy104];with_reducible exact H)|(have H2_:=(Option.bind_some _ _).symm.trans H;rw[hy104];with_reducible exact H2_)|(have H2_:=(Option.bind_some _ _).symm.trans H;with_reducible exact H2_)|with_reducible exact H|(rw[hy104];exact H)|exact H
   have Vk:=Za.mk hy104;clear hy104;obtain⟨bU,H⟩:=ifT H;obtain⟨c6,H⟩:=ifP H;have Sw:=Za.mk c6;clear c6;obtain⟨LY,Fu⟩:∃y_:List Int,y_=(y104++(Zco l0 ai)):=⟨_,rfl⟩;replace H:(if af.length<5864062014805 then(Zbl.l0 k1 l0 (af++ [LY]) (wrap64 (ai+1)))else(none))=some r:=by first|(rw[Fu];with_reducible exact H)|(have H2_:=(Option.bind_some _ _).symm.trans H;rw[Fu];with_reducible exact H2_)|(have H2_:=(Option.bind_some _ _).symm.trans H;with_reducible exact H2_)|with_reducible exact H|(rw[Fu];exact H)|exact H
   have c8a:=Za.mk Fu;clear Fu;obtain⟨c7,H⟩:=ifP H;have Cn:=Za.mk c7;clear c7;obtain⟨bva,Fv⟩:∃y_:List (List Int),y_=(af++ [LY]):=⟨_,rfl⟩;replace H:(Zbl.l0 k1 l0 bva (wrap64 (ai+1)))=some r:=by first|(rw[Fv];with_reducible exact H)|(have H2_:=(Option.bind_some _ _).symm.trans H;rw[Fv];with_reducible exact H2_)|(have H2_:=(Option.bind_some _ _).symm.trans H;with_reducible exact H2_)|with_reducible exact H|(rw[Fv];exact H)|exact H
   have c9a:=Za.mk Fv;clear Fv;have H':=Za.mk H;clear H
   go_wp2_with (first|((with_reducible refine Zao (N:=13) rfl ?_);refine Kd.Zdg (Kd.int .i64) _ 3 ?hg (N:=13) ?hd (xs:=([]:List Int)) (inner:= []) (ok:=fun _=>True) (okp:=fun _=>True) ?hr ?hp (fun _ hk=>hk) trivial (Below.refl _ _) (Nat.le_refl _) (by simp) ?_;(case hd=>rfl);(case hg=>rfl);(case hr=>first|(go_simp;done)|(go_simp;rfl));(case hp=>exact(Reps.none _ _));intro v105 w8 ho9 hb hg_ hnew_;clear hg_ hnew_;(first|rw[←Vk.out]at ho9|(simp only[Int.reduceToNat]at ho9;rw[←Vk.out]at ho9));replace aX:=Za.mk (Kd.Zgv (sM aX.out) (Kd.Zc7 ho9) hb);have UY:=Za.mk (Kd.Zbm ho9 (Zad (bM HB.out)));replace HB:=Za.mk (bS HB.out hb);clear hb ho9;have Tq:0≤(ai:Int):=odt;have TH:ai<(l0.length:Int):=odt;obtain⟨mua,jHa,jMa,hSa,MV,MG,Mw⟩:=Zfj HR0.out ai Tq TH;cases hSa;replace MV:=hB HB.out MV;have Yh:=Za.mk Mw;have j5a:=Za.mk MG;clear Mw MG;replace Tq:=eq_true Tq;replace TH:=eq_true TH)|((with_reducible refine Zbu (b:= .append) (xs:=#[.tmp 13,.tmp 17]) rfl ?_);at_builtin;refine Kd.Zdf (Kd.int .i64) (w0:=w) w.heap.size rfl (.tmp 13) (.tmp 17) 24 3 (.int .i64 0) 8 rfl Tryz.underlying24 info3 rfl (by decide) (by omega) v105 y104 (Zco l0 ai) _ _ _ (fun _=>True) (fun _=>False) rfl rfl ?aO ?aR (fun _ _ h=>h) (fun _ h=>h.elim) ?aF ?aB ?aS ?aL ?_;(case aR=>repeat(first|exact(Kd.Zab Yh.out HB.out)|(with_reducible refine Kd.C_alloc ?_ _)|(with_reducible refine Kd.Zbo ?_ _)|(with_reducible refine Kd.Zb3 ?_)));(case aB=>exact(bM HB.out));(case aF=>exact(fun _ _=>trivial));(case aO=>exact(rM UY.out));(case aS=>exact(Zad (bM HB.out)));(case aL=>have:=Sw.out;omega);intro v109 w10 ho hb hg hat;rw[←c8a.out]at ho;replace aX:=Za.mk (Kd.S_after (ok:=(fun _=>True)) (sM aX.out) hg hat);replace HB:=Za.mk (hb);have Jz:=Za.mk (ho);clear UY;clear ho hb hg hat;obtain⟨eu,eD,nW⟩:=Kd.Za8 Jz.out;subst nW)|((with_reducible refine Zbu (b:= .append) (xs:=#[.tmp 12,.tmp 19]) rfl ?_);at_builtin;refine Kd.S_append (Kd.slice 3 (Kd.int .i64)) (w0:=w) w.heap.size rfl (.tmp 12) (.tmp 19) 34 24 (.slice none 0 0) 24 rfl Tryz.underlying34 Zh0 rfl (by decide) (by omega) u3 af LY [.slice eu LY.length eD] (fun _=>True) (fun k_=>some k_=(.slice eu LY.length eD:Value).ownBlock) rfl rfl ?aP (fun k_ hk_=>((Kd.Zba (ok':=fun k_=>((fun _=>True)) k_∧some k_≠(u3:Value).ownBlock) (Kd.Zdp (Jz.out) (Kd.Zec aX.out) (by decide)) (fun k_ hk=>⟨trivial,hk.2⟩))).1 k_ hk_.symm) ?aF ?aO ?aB ?aS ?aL ?_;(case aP=>exact Kd.M_row (Kd.Zba (Kd.Zgd rfl (Kd.Zba (ok':=fun k_=>((fun _=>True)) k_∧some k_≠(u3:Value).ownBlock) (Kd.Zdp (Jz.out) (Kd.Zec aX.out) (by decide)) (fun k_ hk=>⟨trivial,hk.2⟩))) (fun _ h_=>h_)));(case aB=>exact(bM HB.out));(case aF=>exact(fun _ _=>trivial));(case aO=>exact(sM (Kd.Ze aX.out (fun k_ hk=>⟨trivial,fun e_=>hk.2 e_⟩))));(case aS=>exact(Zad (bM HB.out)));(case aL=>have:=Cn.out;omega);intro vFa w11 ho hb hg hat;rw[←c9a.out]at ho;replace HB:=Za.mk (hb);have cca:=Za.mk (ho);clear aX Jz;clear ho hb hg hat))
   go_roundg k1
   case measure=>have:=HK1.out;omega
   case rel=>exact⟨(bva),(wrap64 (ai+1)),eS,H',⟨by have:=HK1.out;omega⟩,⟨sM cca.out⟩,⟨bM HB.out⟩⟩
end Go.Proofs.YtdpieallpbllkaaGreat.P
