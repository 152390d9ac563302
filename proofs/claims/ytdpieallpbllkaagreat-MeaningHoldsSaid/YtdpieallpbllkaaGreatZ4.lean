/- Proved: what each function of the program that the statements of this seat reach comes to, for whatever memory and arguments it is called with (on condition that its plain text tells a result). -/
import Derived.Test.YtdpieallpbllkaaGreatZ1
import Derived.Test.YtdpieallpbllkaaGreatZ3
import Derived.Test.YtdpieallpbllkaaGreatZ2
set_option linter.unusedSimpArgs false
set_option linter.unusedVariables false
set_option maxHeartbeats 8000000
namespace Go.Proofs.YtdpieallpbllkaaGreat.P
open Go.RowKit Go.Proofs.YtdpieallpbllkaaGreatW.PrintWords Go.Proofs.YtdpieallpbllkaaGreatW.PrintLast Go.Proofs.YtdpieallpbllkaaGreatW.PrintMore
attribute [local go_sem] Zcv Zcx Zdi Zdj Zcm Zcn Zcw Zcy
def Zcq.f (k:Nat) (ay:Int) (aa:List Int) (aj:List Int) (aW:Int) (bi:Int) (aA:List (List Int)) (bg:Int):Option (Int × List Int × List Int × Int × Int × (List (List Int)) × Int):=(some (([]:List Int):List Int)).bind fun uU=>(if uU.length+aa.length<17592186044416 then((some (([]:List Int):List Int)).bind fun oh=>(if oh.length+aj.length<17592186044416 then((Zbl.f k aA).bind fun jH=>(some (ay,(uU++aa),(oh++aj),aW,bi,jH,bg)))else(none)))else(none))
set_option maxRecDepth 100000 in
theorem Zcq.calls (k : Nat) (ay : Int) (aQ : Option Addr) (aM : Nat) (aa : List Int) (bN : Option Addr) (bP : Nat) (aj : List Int) (aW : Int) (bi : Int) (dD : Option Addr) (dC : Nat) (aA : List (List Int)) (bg : Int) (r1 : Int) (r2 : List Int) (r3 : List Int) (r4 : Int) (r5 : Int) (r6 : List (List Int)) (r7 : Int) (w : World) (dB : Kd.C (Kd.int .i64) w aQ aa.length aa) (dA : aa.length ≤ aM) (fH : Kd.C (Kd.int .i64) w bN aj.length aj) (fG : aj.length ≤ bP) (iq : Kd.C (Kd.slice 3 (Kd.int .i64)) w dD aA.length aA) (il : aA.length ≤ dC) (h : Zcq.f k ay aa aj aW bi aA bg = some (r1, r2, r3, r4, r5, r6, r7)) :
  Calls Tryz.prog 52 #[.agg #[.int .i64 ay,.slice aQ aa.length aM,.slice bN aj.length bP,.int .i64 aW,.int .i64 bi,.slice dD aA.length dC,.int .i64 bg]] w fun e w'=>∃v1_ v2_ v5_:Value,e= .returned (.agg #[.int .i64 r1,v1_,v2_,.int .i64 r4,.int .i64 r5,v5_,.int .i64 r7])∧Kd.R (Kd.int .i64) 3 w' w.heap.size (fun k_=>some k_≠(v2_:Value).ownBlock) v1_ r2∧Kd.R (Kd.int .i64) 3 w' w.heap.size (fun k_=>some k_≠(v1_:Value).ownBlock) v2_ r3∧Kd.S (Kd.slice 3 (Kd.int .i64)) 24 w' w.heap.size (fun k_=>some k_≠(v1_:Value).ownBlock∧some k_≠(v2_:Value).ownBlock) v5_ r6∧Below w.heap.size w w':=by
 have hu36:=Tryz.underlying36;have dM:=Za.mk dB;have eH:=Za.mk dA;clear dB dA;have fo:=Za.mk fH;have jf:=Za.mk fG;clear fH fG;have jg:=Za.mk iq;have o5:=Za.mk il;clear iq il;have HB:=Za.mk (Below.refl w.heap.size w);have H:((some (([]:List Int):List Int)).bind fun uU=>(if uU.length+aa.length<17592186044416 then((some (([]:List Int):List Int)).bind fun oh=>(if oh.length+aj.length<17592186044416 then((Zbl.f k aA).bind fun jH=>(some (ay,(uU++aa),(oh++aj),aW,bi,jH,bg)))else(none)))else(none)))=some (r1,r2,r3,r4,r5,r6,r7):=h;clear h;obtain⟨uU,Fw⟩:∃y_:List Int,y_=(([]:List Int)):=⟨_,rfl⟩;replace H:(if uU.length+aa.length<17592186044416 then((some (([]:List Int):List Int)).bind fun oh=>(if oh.length+aj.length<17592186044416 then((Zbl.f k aA).bind fun jH=>(some (ay,(uU++aa),(oh++aj),aW,bi,jH,bg)))else(none)))else(none))=some (r1,r2,r3,r4,r5,r6,r7):=by first|(rw[Fw];with_reducible exact H)|(have H2_:=(Option.bind_some _ _).symm.trans H;rw[Fw];with_reducible exact H2_)|(have H2_:=(Option.bind_some _ _).symm.trans H;with_reducible exact H2_)|with_reducible exact H|(rw[Fw];exact H)|exact H
 have Vl:=Za.mk Fw;clear Fw;by_cases c2:uU.length+aa.length<17592186044416
 case neg=>
  rw[if_neg c2]at H;exact absurd H (by simp)
 rw[if_pos c2]at H;have OJ:=Za.mk c2;clear c2;obtain⟨lG,sU⟩:∃y_:List Int,y_=(uU++aa):=⟨_,rfl⟩;replace H:((some (([]:List Int):List Int)).bind fun oh=>(if oh.length+aj.length<17592186044416 then((Zbl.f k aA).bind fun jH=>(some (ay,lG,(oh++aj),aW,bi,jH,bg)))else(none)))=some (r1,r2,r3,r4,r5,r6,r7):=by first|(rw[sU];with_reducible exact H)|(have H2_:=(Option.bind_some _ _).symm.trans H;rw[sU];with_reducible exact H2_)|(have H2_:=(Option.bind_some _ _).symm.trans H;with_reducible exact H2_)|with_reducible exact H|(rw[sU];exact H)|exact H
 have cAa:=Za.mk sU;clear sU;obtain⟨oh,Fx⟩:∃y_:List Int,y_=(([]:List Int)):=⟨_,rfl⟩;replace H:(if oh.length+aj.length<17592186044416 then((Zbl.f k aA).bind fun jH=>(some (ay,lG,(oh++aj),aW,bi,jH,bg)))else(none))=some (r1,r2,r3,r4,r5,r6,r7):=by first|(rw[Fx];with_reducible exact H)|(have H2_:=(Option.bind_some _ _).symm.trans H;rw[Fx];with_reducible exact H2_)|(have H2_:=(Option.bind_some _ _).symm.trans H;with_reducible exact H2_)|with_reducible exact H|(rw[Fx];exact H)|exact H
 have Vm:=Za.mk Fx;clear Fx;obtain⟨c3,H⟩:=ifP H;have hFa:=Za.mk c3;clear c3;obtain⟨oL,Fy⟩:∃y_:List Int,y_=(oh++aj):=⟨_,rfl⟩;replace H:((Zbl.f k aA).bind fun jH=>(some (ay,lG,oL,aW,bi,jH,bg)))=some (r1,r2,r3,r4,r5,r6,r7):=by first|(rw[Fy];with_reducible exact H)|(have H2_:=(Option.bind_some _ _).symm.trans H;rw[Fy];with_reducible exact H2_)|(have H2_:=(Option.bind_some _ _).symm.trans H;with_reducible exact H2_)|with_reducible exact H|(rw[Fy];exact H)|exact H
 have cBa:=Za.mk Fy;clear Fy;obtain⟨jH,A4,H⟩:=bnd H;replace H:(some (ay,lG,oL,aW,bi,jH,bg))=some (r1,r2,r3,r4,r5,r6,r7):=H;simp only[Option.some.injEq,Prod.mk.injEq]at H;obtain⟨rfl,rfl,rfl,rfl,rfl,rfl,rfl⟩:=H;go_enter Tryz.func52,Tryz.ntmps52
 go_wp2_with (first|((with_reducible refine Zao (N:=1) rfl ?_);refine bx 1 #[.int .i64 ay,.slice aQ aa.length aM,.slice bN aj.length bP,.int .i64 aW,.int .i64 bi,.slice dD aA.length dC,.int .i64 bg] 36 ?_;intro mP hg w5 hbox hb;have fQ:=Za.mk (hbox);have mba:=Za.mk ((gE hg HB.out:w.heap.size≤mP));replace HB:=Za.mk (bS HB.out hb);clear hb hbox hg)|((with_reducible refine Zao (N:=2) rfl ?_);refine bx 2 #[.int .i64 0,.slice none 0 0,.slice none 0 0,.int .i64 0,.int .i64 0,.slice none 0 0,.int .i64 0] 36 ?_;intro gU hg w6 hbox hb;have jL:=Za.mk (hbox);have mca:=Za.mk ((gE hg HB.out:w.heap.size≤gU));replace HB:=Za.mk (bS HB.out hb);have RB:=Za.mk ((by rw[hg];exact Nat.ne_of_lt (Zc9 (kM fQ.out)):mP≠gU));have vG:=Za.mk ((by rw[hg];exact Nat.ne_of_gt (Zc9 (kM fQ.out)):gU≠mP));replace fQ:=Za.mk (kB fQ.out hb);clear hb hbox hg)|((with_reducible refine Zao (N:=3) rfl ?_);refine Kd.Zdg (Kd.int .i64) _ 3 ?hg (N:=3) ?hd (xs:=([]:List Int)) (inner:= []) (ok:=fun _=>True) (okp:=fun _=>True) ?hr ?hp (fun _ hk=>hk) trivial (Below.refl _ _) (Nat.le_refl _) (by simp) ?_;(case hd=>rfl);(case hg=>rfl);(case hr=>first|(go_simp;done)|(go_simp;rfl));(case hp=>exact(Reps.none _ _));intro v117 w7 ho8 hb hg_ hnew_;clear hg_ hnew_;(first|rw[←Vl.out]at ho8|(simp only[Int.reduceToNat]at ho8;rw[←Vl.out]at ho8));have J2:=Za.mk (Kd.Zbm ho8 (Zad (bM HB.out)));replace fQ:=Za.mk (kB fQ.out hb);replace jL:=Za.mk (kB jL.out hb);replace HB:=Za.mk (bS HB.out hb);clear hb ho8;have iFa:=RB.out;have iGa:=vG.out;obtain⟨kz,kC,kD,lJ,lK,wh,wu,kv,kw,ky,lD,lF,vS,vT⟩:=cz7 fQ.out)|((with_reducible refine Zbu (b:= .append) (xs:=#[.tmp 3,.tmp 5]) rfl ?_);at_builtin;refine Kd.Zdf (Kd.int .i64) (w0:=w) w.heap.size rfl (.tmp 3) (.tmp 5) 24 3 (.int .i64 0) 8 rfl Tryz.underlying24 info3 rfl (by decide) (by omega) v117 uU aa _ _ _ (fun _=>True) (fun _=>False) rfl rfl ?aO ?aR (fun _ _ h=>h) (fun _ h=>h.elim) ?aF ?aB ?aS ?aL ?_;(case aR=>repeat(first|exact(Kd.Zab dM.out HB.out)|(with_reducible refine Kd.C_alloc ?_ _)|(with_reducible refine Kd.Zbo ?_ _)|(with_reducible refine Kd.Zb3 ?_)));(case aB=>exact(bM HB.out));(case aF=>exact(fun _ _=>trivial));(case aO=>exact(rM J2.out));(case aS=>exact(Zad (bM HB.out)));(case aL=>have:=OJ.out;omega);intro vGa w11 ho hb hg hat;rw[←cAa.out]at ho;replace fQ:=Za.mk (kG fQ.out hg (Kd.R_ne J2.out fQ.out (by decide)));replace jL:=Za.mk (kG jL.out hg (Kd.R_ne J2.out jL.out (by decide)));replace HB:=Za.mk (hb);have pG:=Za.mk (ho);clear J2;clear ho hb hg hat;obtain⟨eu,eD,nW⟩:=Kd.Za8 pG.out;subst nW;obtain⟨fDa,fEa,fFa,fGa,fHa,fIa,fJa,dWa,dXa,dYa,eaa,eba,eca,eda⟩:=cz7 fQ.out)|((with_reducible refine Zao (N:=8) rfl ?_);refine Kd.Zdg (Kd.int .i64) _ 3 ?hg (N:=8) ?hd (xs:=([]:List Int)) (inner:= []) (ok:=fun _=>True) (okp:=fun _=>True) ?hr ?hp (fun _ hk=>hk) trivial (Below.refl _ _) (Nat.le_refl _) (by simp) ?_;(case hd=>rfl);(case hg=>rfl);(case hr=>first|(go_simp;done)|(go_simp;rfl));(case hp=>exact(Reps.none _ _));intro jla w14 IM hb hg_ hnew_;clear hg_ hnew_;(first|rw[←Vm.out]at IM|(simp only[Int.reduceToNat]at IM;rw[←Vm.out]at IM));have J3:=Za.mk (Kd.Zbm (Kd.Zeu IM (Kd.R_lt (rM (Kd.Zba (Kd.Zb2 (p:=⟨mP,1,none⟩) (Kd.Zcg pG.out fQ.out (by decide)) (fun _ hk=>hk.2) (.slice eu lG.length eD)) (fun _ h_=>h_.1))))) (Zad (bM HB.out)));replace pG:=Za.mk (Kd.Zdz (rM (Kd.Zba (Kd.Zb2 (p:=⟨mP,1,none⟩) (Kd.Zcg pG.out fQ.out (by decide)) (fun _ hk=>hk.2) (.slice eu lG.length eD)) (fun _ h_=>h_.1))) (Kd.Zc7 IM) hb);replace fQ:=Za.mk (Zci (g:=mP) (o:= .cells #[.int .i64 ay,.slice eu lG.length eD,.slice bN aj.length bP,.int .i64 aW,.int .i64 bi,.slice dD aA.length dC,.int .i64 bg] 36 (0,0)) (by(with_reducible repeat(first|refine Zag ?_ _|refine Zai ?_|refine Zae ?_ _));refine Za4 (cs:=#[.int .i64 ay,.slice aQ aa.length aM,.slice bN aj.length bP,.int .i64 aW,.int .i64 bi,.slice dD aA.length dC,.int .i64 bg]) ?_ 1 _ rfl;(with_reducible repeat(first|refine Zag ?_ _|refine Zai ?_|refine Zae ?_ _));exact fQ.out) hb);replace jL:=Za.mk (Zci (g:=gU) (o:= .cells #[.int .i64 0,.slice none 0 0,.slice none 0 0,.int .i64 0,.int .i64 0,.slice none 0 0,.int .i64 0] 36 (0,0)) (by(with_reducible repeat(first|exact jL.out|refine Zcu ?_ vG.out _|refine Zae ?_ _|refine Zai ?_|refine Zag ?_ _))) hb);replace HB:=Za.mk (bS HB.out hb);clear hb IM;obtain⟨wz,wB,wC,zM,zN,zO,zP,vW,vX,vY,zy,zz,z8,zA⟩:=cz7 fQ.out)|((with_reducible refine Zbu (b:= .append) (xs:=#[.tmp 8,.tmp 10]) rfl ?_);at_builtin;refine Kd.Zdf (Kd.int .i64) (w0:=w) w.heap.size rfl (.tmp 8) (.tmp 10) 24 3 (.int .i64 0) 8 rfl Tryz.underlying24 info3 rfl (by decide) (by omega) jla oh aj _ _ _ (fun k_=>some k_≠(.slice eu lG.length eD:Value).ownBlock) (fun _=>False) rfl rfl ?aO ?aR (fun _ _ h=>h) (fun _ h=>h.elim) ?aF ?aB ?aS ?aL ?_;(case aR=>repeat(first|exact(Kd.Zab fo.out HB.out)|(with_reducible refine Kd.C_alloc ?_ _)|(with_reducible refine Kd.Zbo ?_ _)|(with_reducible refine Kd.Zb3 ?_)));(case aB=>exact(bM HB.out));(case aF=>exact(fun k_ hk=>Kd.fresh' (Kd.R_lt (rM pG.out)) k_ hk));(case aO=>exact(rM (Kd.Zba J3.out (fun _ hk=>hk.2))));(case aS=>exact(Zad (bM HB.out)));(case aL=>have:=hFa.out;omega);intro vHa w17 ho hb hg hat;rw[←cBa.out]at ho;replace fQ:=Za.mk (kG fQ.out hg (Kd.R_ne J3.out fQ.out (by decide)));replace jL:=Za.mk (kG jL.out hg (Kd.R_ne J3.out jL.out (by decide)));replace pG:=Za.mk (Kd.Zdy (ok:=(fun _=>True)) (rM pG.out) hg hat);replace HB:=Za.mk (hb);have Et:=Za.mk (ho);clear J3;clear ho hb hg hat;obtain⟨nR,nU,KO⟩:=Kd.Za8 Et.out;subst KO;obtain⟨Rc,Re,Rf,Rh,Ri,fLa,fMa,Qz,Q0,Q8,Q9,QA,efa,ega⟩:=cz7 fQ.out)|((with_reducible refine Zak (f:=72) rfl ?_);refine gl 15 Tryz.func72 #[.slice dD aA.length dC] ?_;(with_reducible refine(Zbl.calls k _ _ aA jH _ (Kd.Zab jg.out (bM HB.out)) o5.out A4.out).mono ?_);rintro e w20 ⟨vIa,rfl,ho0,hb⟩;refine⟨_,rfl,?_⟩;have Vb:=Za.mk (Kd.Zg1 (Kd.S_new' (Kd.S_new' ho0 (Kd.R_lt (rM (Kd.Zba (Kd.Zb2 (p:=⟨mP,2,none⟩) (Kd.Zcg pG.out fQ.out (by decide)) (fun _ hk=>hk.2) (.slice nR oL.length nU)) (fun _ h_=>h_.1))))) (Kd.R_lt (rM (Kd.Zba (Kd.Zb2 (p:=⟨mP,2,none⟩) (Kd.Zcg Et.out fQ.out (by decide)) (fun _ hk=>hk.2) (.slice nR oL.length nU)) (fun _ h_=>h_.1))))) (Zad (bM HB.out)));replace pG:=Za.mk (Kd.Zb8 (rM (Kd.Zba (Kd.Zb2 (p:=⟨mP,2,none⟩) (Kd.Zcg pG.out fQ.out (by decide)) (fun _ hk=>hk.2) (.slice nR oL.length nU)) (fun _ h_=>h_.1))) hb);replace Et:=Za.mk (Kd.Zb8 (rM (Kd.Zba (Kd.Zb2 (p:=⟨mP,2,none⟩) (Kd.Zcg Et.out fQ.out (by decide)) (fun _ hk=>hk.2) (.slice nR oL.length nU)) (fun _ h_=>h_.1))) hb);replace fQ:=Za.mk (Zci (g:=mP) (o:= .cells #[.int .i64 ay,.slice eu lG.length eD,.slice nR oL.length nU,.int .i64 aW,.int .i64 bi,.slice dD aA.length dC,.int .i64 bg] 36 (0,0)) (by(with_reducible repeat(first|refine Zag ?_ _|refine Zai ?_|refine Zae ?_ _));refine Za4 (cs:=#[.int .i64 ay,.slice eu lG.length eD,.slice bN aj.length bP,.int .i64 aW,.int .i64 bi,.slice dD aA.length dC,.int .i64 bg]) ?_ 2 _ rfl;(with_reducible repeat(first|refine Zag ?_ _|refine Zai ?_|refine Zae ?_ _));exact fQ.out) hb);replace jL:=Za.mk (Zci (g:=gU) (o:= .cells #[.int .i64 0,.slice none 0 0,.slice none 0 0,.int .i64 0,.int .i64 0,.slice none 0 0,.int .i64 0] 36 (0,0)) (by(with_reducible repeat(first|exact jL.out|refine Zcu ?_ vG.out _|refine Zae ?_ _|refine Zai ?_|refine Zag ?_ _))) hb);replace HB:=Za.mk (bS HB.out hb);(try clear hb);(try clear hb2);(try clear hk);(try clear hi);(try clear ho0);obtain⟨mX,nk,Tc⟩:=Kd.S_slice Vb.out;subst Tc;obtain⟨Rj,Rk,Rl,Rm,Rn,Xv,Xw,QB,QC,QD,QE,QF,WH,WI⟩:=cz7 fQ.out;obtain⟨Xx,Xy,Xz,fPa,fQa,rqa,rra,WJ,WK,WL,eja,eka,nNa,nOa⟩:=cz7 jL.out))
 refine bodyPost_ret (results_cell_row rfl _ _ gU 36 #[.int .i64 ay,.slice eu lG.length eD,.slice nR oL.length nU,.int .i64 aW,.int .i64 bi,.slice mX jH.length nk,.int .i64 bg] (0,0) _ rfl (by(with_reducible repeat(first|refine Zag ?_ _|refine Zai ?_|refine Zae ?_ _));refine Za4 (cs:=#[.int .i64 ay,.slice eu lG.length eD,.slice nR oL.length nU,.int .i64 aW,.int .i64 bi,.slice mX jH.length nk,.int .i64 0]) ?_ 6 _ rfl;(with_reducible repeat(first|refine Zag ?_ _|refine Zai ?_|refine Zae ?_ _));refine Za4 (cs:=#[.int .i64 ay,.slice eu lG.length eD,.slice nR oL.length nU,.int .i64 aW,.int .i64 bi,.slice none 0 0,.int .i64 0]) ?_ 5 _ rfl;(with_reducible repeat(first|refine Zag ?_ _|refine Zai ?_|refine Zae ?_ _));refine Za4 (cs:=#[.int .i64 ay,.slice eu lG.length eD,.slice nR oL.length nU,.int .i64 aW,.int .i64 0,.slice none 0 0,.int .i64 0]) ?_ 4 _ rfl;(with_reducible repeat(first|refine Zag ?_ _|refine Zai ?_|refine Zae ?_ _));refine Za4 (cs:=#[.int .i64 ay,.slice eu lG.length eD,.slice nR oL.length nU,.int .i64 0,.int .i64 0,.slice none 0 0,.int .i64 0]) ?_ 3 _ rfl;(with_reducible repeat(first|refine Zag ?_ _|refine Zai ?_|refine Zae ?_ _));refine Za4 (cs:=#[.int .i64 ay,.slice eu lG.length eD,.slice none 0 0,.int .i64 0,.int .i64 0,.slice none 0 0,.int .i64 0]) ?_ 2 _ rfl;(with_reducible repeat(first|refine Zag ?_ _|refine Zai ?_|refine Zae ?_ _));refine Za4 (cs:=#[.int .i64 ay,.slice none 0 0,.slice none 0 0,.int .i64 0,.int .i64 0,.slice none 0 0,.int .i64 0]) ?_ 1 _ rfl;(with_reducible repeat(first|refine Zag ?_ _|refine Zai ?_|refine Zae ?_ _));refine Za4 (cs:=#[.int .i64 0,.slice none 0 0,.slice none 0 0,.int .i64 0,.int .i64 0,.slice none 0 0,.int .i64 0]) ?_ 0 _ rfl;(with_reducible repeat(first|refine Zag ?_ _|refine Zai ?_|refine Zae ?_ _));refine Zcu ?_ vG.out _;(with_reducible repeat(first|refine Zag ?_ _|refine Zai ?_|refine Zae ?_ _));exact jL.out) Tryz.underlying36 rfl (by kernel_rfl)) rfl ?_;exact⟨_,_,_,eR,rM (Kd.Zba (Kd.Zb2 (p:=⟨gU,6,none⟩) (Kd.Zb2 (p:=⟨gU,5,none⟩) (Kd.Zb2 (p:=⟨gU,4,none⟩) (Kd.Zb2 (p:=⟨gU,3,none⟩) (Kd.Zb2 (p:=⟨gU,2,none⟩) (Kd.Zb2 (p:=⟨gU,1,none⟩) (Kd.Zb2 (p:=⟨gU,0,none⟩) (Kd.Zb2 (p:=⟨mP,5,none⟩) (Kd.Zcg (Kd.Zcg pG.out fQ.out (by decide)) jL.out (by decide)) (fun _ hk=>hk.1.2) (.slice mX jH.length nk)) (fun _ hk=>hk.2) (.int .i64 ay)) (fun _ hk=>hk.2) (.slice eu lG.length eD)) (fun _ hk=>hk.2) (.slice nR oL.length nU)) (fun _ hk=>hk.2) (.int .i64 aW)) (fun _ hk=>hk.2) (.int .i64 bi)) (fun _ hk=>hk.2) (.slice mX jH.length nk)) (fun _ hk=>hk.2) (.int .i64 bg)) (fun _ hk=>hk.1.1.2)),rM (Kd.Zba (Kd.Zb2 (p:=⟨gU,6,none⟩) (Kd.Zb2 (p:=⟨gU,5,none⟩) (Kd.Zb2 (p:=⟨gU,4,none⟩) (Kd.Zb2 (p:=⟨gU,3,none⟩) (Kd.Zb2 (p:=⟨gU,2,none⟩) (Kd.Zb2 (p:=⟨gU,1,none⟩) (Kd.Zb2 (p:=⟨gU,0,none⟩) (Kd.Zb2 (p:=⟨mP,5,none⟩) (Kd.Zcg (Kd.Zcg Et.out fQ.out (by decide)) jL.out (by decide)) (fun _ hk=>hk.1.2) (.slice mX jH.length nk)) (fun _ hk=>hk.2) (.int .i64 ay)) (fun _ hk=>hk.2) (.slice eu lG.length eD)) (fun _ hk=>hk.2) (.slice nR oL.length nU)) (fun _ hk=>hk.2) (.int .i64 aW)) (fun _ hk=>hk.2) (.int .i64 bi)) (fun _ hk=>hk.2) (.slice mX jH.length nk)) (fun _ hk=>hk.2) (.int .i64 bg)) (fun _ hk=>hk.1.1)),sM (Kd.Ze (Kd.Zdv (p:=⟨gU,6,none⟩) (Kd.Zdv (p:=⟨gU,5,none⟩) (Kd.Zdv (p:=⟨gU,4,none⟩) (Kd.Zdv (p:=⟨gU,3,none⟩) (Kd.Zdv (p:=⟨gU,2,none⟩) (Kd.Zdv (p:=⟨gU,1,none⟩) (Kd.Zdv (p:=⟨gU,0,none⟩) (Kd.Zdv (p:=⟨mP,5,none⟩) (Kd.Zes (Kd.Zes Vb.out fQ.out (by decide)) jL.out (by decide)) (fun _ hk=>hk.1.2) (.slice mX jH.length nk)) (fun _ hk=>hk.2) (.int .i64 ay)) (fun _ hk=>hk.2) (.slice eu lG.length eD)) (fun _ hk=>hk.2) (.slice nR oL.length nU)) (fun _ hk=>hk.2) (.int .i64 aW)) (fun _ hk=>hk.2) (.int .i64 bi)) (fun _ hk=>hk.2) (.slice mX jH.length nk)) (fun _ hk=>hk.2) (.int .i64 bg)) (fun _ hk=>⟨hk.1.1.1.2,hk.1.1.2⟩)),bM HB.out⟩
def cutR (l:List (List Int)):List (List Int):=(l.take 20).map fun r=>r.take 14
def bRows.f (l:List (List Int)):Option (List (List Int)):=some (cutR l)
mutual
def Zac.j1 : Nat → List (S55) → List (S36) → Int → List Int → List Int → List (S55) → Int → List Int → List Int → Option ((List (S55)) × (List (S36)) × Int × List Int × List Int)
 | 0, _, _, _, _, _, _, _, _, _ => none
 |k+1,fU,eQ,lU,iN,iO,jJ,kS,lV,lW=>Zac.l1 k 0 fU eQ lU iN iO jJ ([]:List (S36)) kS lV lW
def Zac.l1 : Nat → Int → List (S55) → List (S36) → Int → List Int → List Int → List (S55) → List (S36) → Int → List Int → List Int → Option ((List (S55)) × (List (S36)) × Int × List Int × List Int)
 | 0, _, _, _, _, _, _, _, _, _, _, _ => none
 |k+1,x6,fU,eQ,lU,iN,iO,jJ,tV,kS,lV,lW=>if x6<(eQ.length:Int)then(Zac.j3 k x6 (decide (x6<16)) fU eQ lU iN iO jJ tV kS lV lW)else(Zac.j3 k x6 false fU eQ lU iN iO jJ tV kS lV lW)
def Zac.j3 : Nat → Int → Bool → List (S55) → List (S36) → Int → List Int → List Int → List (S55) → List (S36) → Int → List Int → List Int → Option ((List (S55)) × (List (S36)) × Int × List Int × List Int)
 | 0, _, _, _, _, _, _, _, _, _, _, _, _ => none
 |k+1,x6,x59,fU,eQ,lU,iN,iO,jJ,tV,kS,lV,lW=>if x59=true then(if 0≤x6 then(if x6<(eQ.length:Int)then(if 0≤(mn (((Zaa eQ x6).f1).length:Int) 14)then(if(mn (((Zaa eQ x6).f1).length:Int) 14)≤(((Zaa eQ x6).f1).length:Int)then(if 0≤(mn (((Zaa eQ x6).f2).length:Int) 14)then(if(mn (((Zaa eQ x6).f2).length:Int) 14)≤(((Zaa eQ x6).f2).length:Int)then((bRows.f ((Zaa eQ x6).f5)).bind fun t167=>((Zcq.f k ((Zaa eQ x6).f0) (((Zaa eQ x6).f1).take ((mn (((Zaa eQ x6).f1).length:Int) 14):Int).toNat) (((Zaa eQ x6).f2).take ((mn (((Zaa eQ x6).f2).length:Int) 14):Int).toNat) ((Zaa eQ x6).f3) ((Zaa eQ x6).f4) t167 ((Zaa eQ x6).f6)).bind fun eP=>(if tV.length<1353245080339 then(Zac.l1 k (wrap64 (x6+1)) fU eQ lU iN iO jJ (tV++ [(⟨eP.1,eP.2.1,eP.2.2.1,eP.2.2.2.1,eP.2.2.2.2.1,eP.2.2.2.2.2.1,eP.2.2.2.2.2.2⟩:S36)]) kS lV lW)else(none))))else(none))else(none))else(none))else(none))else(none))else(none))else((some (([]:List Int):List Int)).bind fun zw=>(if 0≤(mn (iN.length:Int) 14)then(if(mn (iN.length:Int) 14)≤(iN.length:Int)then(if zw.length+(iN.take ((mn (iN.length:Int) 14):Int).toNat).length<17592186044416 then((some (([]:List Int):List Int)).bind fun mr=>(if 0≤(mn (iO.length:Int) 14)then(if(mn (iO.length:Int) 14)≤(iO.length:Int)then(if mr.length+(iO.take ((mn (iO.length:Int) 14):Int).toNat).length<17592186044416 then(some (jJ,tV,kS,(zw++(iN.take ((mn (iN.length:Int) 14):Int).toNat)),(mr++(iO.take ((mn (iO.length:Int) 14):Int).toNat))))else(none))else(none))else(none)))else(none))else(none))else(none)))
def Zac.l0 : Nat → Int → List (S55) → List (S36) → Int → List Int → List Int → List (S55) → Int → List Int → List Int → Option ((List (S55)) × (List (S36)) × Int × List Int × List Int)
 | 0, _, _, _, _, _, _, _, _, _, _ => none
 |k+1,x4,fU,eQ,lU,iN,iO,jJ,kS,lV,lW=>if x4<(fU.length:Int)then(if x4<10 then(if 0≤x4 then(if 0≤(mn (((Za9 fU x4).f0).size:Int) 20)then(if(mn (((Za9 fU x4).f0).size:Int) 20)≤(((Za9 fU x4).f0).size:Int)then((some (([]:List (S82)):List (S82))).bind fun qc=>(if 0≤(mn (((Za9 fU x4).f1).length:Int) 12)then(if(mn (((Za9 fU x4).f1).length:Int) 12)≤(((Za9 fU x4).f1).length:Int)then((some (((Za9 fU x4).f1).take ((mn (((Za9 fU x4).f1).length:Int) 12):Int).toNat:List (S82))).bind fun mq=>(if qc.length+mq.length<8796093022208 then(if jJ.length<3518437208883 then(Zac.l0 k (wrap64 (x4+1)) fU eQ lU iN iO (jJ++ [(⟨((Za9 fU x4).f0).extract 0 ((mn (((Za9 fU x4).f0).size:Int) 20):Int).toNat,(qc++mq)⟩:S55)]) kS lV lW)else(none))else(none)))else(none))else(none)))else(none))else(none))else(none))else(Zac.j1 k fU eQ lU iN iO jJ kS lV lW))else(Zac.j1 k fU eQ lU iN iO jJ kS lV lW)
end
def Zac.f (k:Nat) (ag:List (S55)) (aa:List (S36)) (az:Int) (au:List Int) (ak:List Int):Option ((List (S55)) × (List (S36)) × Int × List Int × List Int):=Zac.l0 k 0 ag aa az au ak ([]:List (S55)) az au ak
def Zac.T6:Bool × List (List Nat × List Nat):=(true,[([],[]),([0],[0]),([],[]),([2],[2]),([],[]),([4],[4]),([5],[5]),([6],[6]),([3,7],[3,7]),([],[]),([],[]),([10],[10]),([],[]),([12],[12]),([13],[13]),([14],[14]),([11,15],[11,15]),([9,16],[9,16]),([8,17],[8,17]),([18],[18]),([1,19,17],[1,19]),([0,1,2,3,4,5,6,7,8,9,10,11,12,13,14,15,16,17,18,19,20],[]),([21,20,20,0,1,2,3,4,5,6,7,8,9,10,11,12,13,14,15,16,17,18,19,20],[20,21])])
def Zac.B6:List Nat:= [0,1,0,4,0,16,48,112,252,0,0,1024,0,4096,12288,28672,64512,130560,262140,524284,1048575,2097151,4194303]
theorem Zac.tab6:rtab .any (opsOf Tryz.f19 6)=Zac.T6:=by kernel_rfl
theorem Zac.bits6:waitsOk Zac.T6.2 Zac.B6=true:=by kernel_rfl
def Zac.T17:Bool × List (List Nat × List Nat):=(true,[([],[]),([],[]),([1],[1]),([],[]),([2,3],[2,3]),([4],[4]),([],[]),([6],[6]),([],[]),([7,8],[7,8]),([9],[9]),([10],[10]),([11],[11]),([5,12],[5,12]),([13],[13]),([0,14],[0,14]),([15,15,0,1,2,3,4,5,6,7,8,9,10,11,12,13,14,15],[0,15])])
def Zac.B17:List Nat:= [0,0,2,0,14,30,0,64,0,448,960,1984,4032,8190,16382,32767,65535]
theorem Zac.tab17:rtab .any (opsOf Tryz.f19 17)=Zac.T17:=by kernel_rfl
theorem Zac.bits17:waitsOk Zac.T17.2 Zac.B17=true:=by kernel_rfl
def Zac.T19:Bool × List (List Nat × List Nat):=(true,[([],[]),([0],[0]),([],[]),([2],[2]),([3],[3]),([1,4,3],[1,4]),([0,1,2,3,4,5],[]),([6,5,5,0,1,2,3,4,5],[5,6])])
def Zac.B19:List Nat:= [0,1,0,4,12,31,63,127]
theorem Zac.tab19:rtab .any (opsOf Tryz.f19 19)=Zac.T19:=by kernel_rfl
theorem Zac.bits19:waitsOk Zac.T19.2 Zac.B19=true:=by kernel_rfl
set_option maxRecDepth 100000 in
theorem Zac.calls (k : Nat) (dV : Option Addr) (dL : Nat) (ag : List (S55)) (aQ : Option Addr) (aM : Nat) (aa : List (S36)) (az : Int) (bJ : Option Addr) (bK : Nat) (au : List Int) (bE : Option Addr) (bF : Nat) (ak : List Int) (r1 : List (S55)) (r2 : List (S36)) (r3 : Int) (r4 : List Int) (r5 : List Int) (w : World) (jY : Kd.C k55 w dV ag.length ag) (jX : ag.length ≤ dL) (dB : Kd.C k36 w aQ aa.length aa) (dA : aa.length ≤ aM) (jo : Kd.C (Kd.int .i64) w bJ au.length au) (jl : au.length ≤ bK) (jq : Kd.C (Kd.int .i64) w bE ak.length ak) (jm : ak.length ≤ bF) (h : Zac.f k ag aa az au ak = some (r1, r2, r3, r4, r5)) :
  Calls Tryz.prog 19 #[.agg #[.slice dV ag.length dL,.slice aQ aa.length aM,.int .i64 az,.slice bJ au.length bK,.slice bE ak.length bF]] w fun e w'=>∃v0_ v1_ v3_ v4_:Value,e= .returned (.agg #[v0_,v1_,.int .i64 r3,v3_,v4_])∧Kd.S k55 55 w' w.heap.size (fun _=>True) v0_ r1∧Kd.R k36 36 w' w.heap.size (fun k_=>some k_≠(v3_:Value).ownBlock∧some k_≠(v4_:Value).ownBlock) v1_ r2∧Kd.R (Kd.int .i64) 3 w' w.heap.size (fun k_=>some k_≠(v4_:Value).ownBlock) v3_ r4∧Kd.R (Kd.int .i64) 3 w' w.heap.size (fun k_=>some k_≠(v3_:Value).ownBlock) v4_ r5∧Below w.heap.size w w':=by
 have hu28:=Tryz.underlying28;have hu26:=Tryz.underlying26;have hu55:=Tryz.underlying55;have hu36:=Tryz.underlying36;have gT:=Za.mk jY;have oz:=Za.mk jX;clear jY jX;have dM:=Za.mk dB;have eH:=Za.mk dA;clear dB dA;have jS:=Za.mk jo;have jN:=Za.mk jl;clear jo jl;have jT:=Za.mk jq;have jO:=Za.mk jm;clear jq jm;have HB:=Za.mk (Below.refl w.heap.size w);have H:(Zac.l0 k 0 ag aa az au ak ([]:List (S55)) az au ak)=some (r1,r2,r3,r4,r5):=h;clear h;have HC2:=Za.mk H;clear H;go_enter Tryz.func19,Tryz.ntmps19
 go_upto_block 0 with (first|((with_reducible refine Zao (N:=1) rfl ?_);refine bx 1 #[.slice dV ag.length dL,.slice aQ aa.length aM,.int .i64 az,.slice bJ au.length bK,.slice bE ak.length bF] 28 ?_;intro iX hg w3 hbox hb;have bD:=Za.mk (hbox);have GW131:=Za.mk ((gE hg HB.out:w.heap.size≤iX));have bNa:=Za.mk ((gE hg HB.out:w.heap.size≤iX));replace HB:=Za.mk (bS HB.out hb);clear hb hbox hg)|((with_reducible refine Zao (N:=2) rfl ?_);refine bx 2 #[.slice none 0 0,.slice none 0 0,.int .i64 0,.slice none 0 0,.slice none 0 0] 28 ?_;intro dX hg w4 hbox hb;have bG:=Za.mk (hbox);have GW132:=Za.mk ((gE hg HB.out:w.heap.size≤dX));have bOa:=Za.mk ((gE hg HB.out:w.heap.size≤dX));replace HB:=Za.mk (bS HB.out hb);have lh:=Za.mk ((by rw[hg];exact Nat.ne_of_lt (Zc9 (kM bD.out)):iX≠dX));have ll:=Za.mk ((by rw[hg];exact Nat.ne_of_gt (Zc9 (kM bD.out)):dX≠iX));replace bD:=Za.mk (kB bD.out hb);clear hb hbox hg;have v1a:=lh.out;have v3a:=ll.out;obtain⟨lc,lg,lL,oo,oq,kX,kY,lI,ol,om⟩:=cz5 bD.out)|((with_reducible refine Zao (N:=3) rfl ?_);refine bx 3 #[.slice none 0 0,.slice none 0 0,.int .i64 0,.slice none 0 0,.slice none 0 0] 28 ?_;intro dU hg w7 hbox hb;have aI:=Za.mk (hbox);have GW133:=Za.mk ((gE hg HB.out:w.heap.size≤dU));have bPa:=Za.mk ((gE hg HB.out:w.heap.size≤dU));replace HB:=Za.mk (bS HB.out hb);have ig:=Za.mk ((by rw[hg];exact Nat.ne_of_lt (Zc9 (kM bD.out)):iX≠dU));have j4:=Za.mk ((by rw[hg];exact Nat.ne_of_gt (Zc9 (kM bD.out)):dU≠iX));replace bD:=Za.mk (kB bD.out hb);have jV:=Za.mk ((by rw[hg];exact Nat.ne_of_lt (Zc9 (kM bG.out)):dX≠dU));have vJ:=Za.mk ((by rw[hg];exact Nat.ne_of_gt (Zc9 (kM bG.out)):dU≠dX));replace bG:=Za.mk (kB bG.out hb);clear hb hbox hg;have v2a:=j4.out;have v4a:=ig.out;have iFa:=vJ.out;have iGa:=jV.out;obtain⟨kz,kC,kD,lJ,lK,kv,kw,ky,lD,lF⟩:=cz5 aI.out))
 (try simp only[Act.put,List.setIfInBounds_toArray,List.set_cons_zero,List.set_cons_succ])
 go_cut [] (fun wc=>∃(kq:Nat) (bv:List (S55)) (dS:Value),Za (Zac.j1 kq ag aa az au ak bv az au ak=some (r1,r2,r3,r4,r5))∧Za (kq≤k)∧Za (Kd.S k55 55 wc w.heap.size (fun _=>True) dS bv)∧Za (wc.heap[iX]? =some (.cells #[(.slice dV ag.length dL),(.slice aQ aa.length aM),.int .i64 az,(.slice bJ au.length bK),(.slice bE ak.length bF)] 28 (0,0)))∧Za (wc.heap[dX]? =some (.cells #[(.slice none 0 0),(.slice none 0 0),.int .i64 0,(.slice none 0 0),(.slice none 0 0)] 28 (0,0)))∧Za (wc.heap[dU]? =some (.cells #[dS,(.slice none 0 0),.int .i64 az,(.slice bJ au.length bK),(.slice bE ak.length bF)] 28 (0,0)))∧Za (Below w.heap.size w wc))
 case first=>
  have H:=HC2.out;clear HC2;have H':=Za.mk H;clear H;go_wp2
  go_loopg [4] k (fun kq v4 w'=>∃(ai:Int) (bv:List (S55)) (dS:Value),v4= .int .i64 ai∧Za (Zac.l0 kq ai ag aa az au ak bv az au ak=some (r1,r2,r3,r4,r5))∧Za (kq≤k)∧Za (Kd.S k55 55 w' w.heap.size (fun _=>True) dS bv)∧Za (w'.heap[iX]? =some (.cells #[(.slice dV ag.length dL),(.slice aQ aa.length aM),.int .i64 az,(.slice bJ au.length bK),(.slice bE ak.length bF)] 28 (0,0)))∧Za (w'.heap[dX]? =some (.cells #[(.slice none 0 0),(.slice none 0 0),.int .i64 0,(.slice none 0 0),(.slice none 0 0)] 28 (0,0)))∧Za (w'.heap[dU]? =some (.cells #[dS,(.slice none 0 0),.int .i64 az,(.slice bJ au.length bK),(.slice bE ak.length bF)] 28 (0,0)))∧Za (Below w.heap.size w w'))
  case atStart=>exact⟨(0),(([]:List (S55))),(.slice none 0 0),eS,H',⟨Nat.le_refl _⟩,⟨by first|exact Kd.S_nil _ _ _ _ _|exact Kd.N_nil _ _ _ _ _|exact Kd.V_nil _ _ _ _ _|exact Kd.Q_nil _ _ _ _ _|exact Kd.R_nil _ _ _ _ _⟩,⟨by(with_reducible repeat(first|exact bD.out|refine Zcu ?_ ig.out _|refine Zae ?_ _|refine Zai ?_|refine Zag ?_ _))⟩,⟨by(with_reducible repeat(first|exact bG.out|refine Zcu ?_ jV.out _|refine Zae ?_ _|refine Zai ?_|refine Zag ?_ _))⟩,⟨by(with_reducible repeat(first|refine Zag ?_ _|refine Zai ?_|refine Zae ?_ _));refine Za4 (cs:=#[.slice none 0 0,.slice none 0 0,.int .i64 az,.slice bJ au.length bK,.slice none 0 0]) ?_ 4 _ rfl;(with_reducible repeat(first|refine Zag ?_ _|refine Zai ?_|refine Zae ?_ _));refine Za4 (cs:=#[.slice none 0 0,.slice none 0 0,.int .i64 az,.slice none 0 0,.slice none 0 0]) ?_ 3 _ rfl;(with_reducible repeat(first|refine Zag ?_ _|refine Zai ?_|refine Zae ?_ _));refine Za4 (cs:=#[.slice none 0 0,.slice none 0 0,.int .i64 0,.slice none 0 0,.slice none 0 0]) ?_ 2 _ rfl;(with_reducible repeat(first|refine Zag ?_ _|refine Zai ?_|refine Zae ?_ _));refine Za4 (cs:=#[.slice none 0 0,.slice none 0 0,.int .i64 0,.slice none 0 0,.slice none 0 0]) ?_ 1 _ rfl;(with_reducible repeat(first|refine Zag ?_ _|refine Zai ?_|refine Zae ?_ _));refine Za4 (cs:=#[.slice none 0 0,.slice none 0 0,.int .i64 0,.slice none 0 0,.slice none 0 0]) ?_ 0 _ rfl;(with_reducible repeat(first|refine Zag ?_ _|refine Zai ?_|refine Zae ?_ _));exact aI.out⟩,⟨bM HB.out⟩⟩
  case round=>
   clear H';try clear c1
   try clear p2
   try clear c5
   try clear c8
   try clear c9
   try clear kz kC kD lJ lK kv kw ky lD lF
   try clear lc lg lL oo oq kX kY lI ol om
   obtain⟨ai,bv,dS,rfl,HA,HK1,aY,bD,bG,aI,HB⟩:=hrel
   cases gk with
   | zero => exact absurd HA.out (by simp [Zac.l0])
   |succ k1=>
    have H:=HA.out;clear HA;simp only[Zac.l0]at H;by_cases c11:ai<(ag.length:Int)
    case neg=>
     rw[if_neg c11]at H;have jA:decide (ai<(ag.length:Int))=false:=decide_eq_false c11;clear c11
     (first|rw[jA]|(simp only[Zd0,Zek];rw[jA])|skip)
     have H':=Za.mk H;clear H;have nia:=lh.out;have n6a:=ll.out;have nja:=ig.out;have n7a:=j4.out;obtain⟨Ch,Ci,Cj,Ck,Cm,BQ,BR,BS,BU,Ca⟩:=cz5 bD.out;go_wp2
     go_meet
     case rel=>exact⟨_,(bv),(dS),H',⟨by have:=HK1.out;first|omega|exact Nat.le_refl _⟩,⟨sM aY.out⟩,⟨by(with_reducible repeat(first|refine Zag ?_ _|refine Zai ?_|refine Zae ?_ _));exact bD.out⟩,⟨by(with_reducible repeat(first|refine Zag ?_ _|refine Zai ?_|refine Zae ?_ _));exact bG.out⟩,⟨by(with_reducible repeat(first|refine Zag ?_ _|refine Zai ?_|refine Zae ?_ _));exact aI.out⟩,⟨bM HB.out⟩⟩
    rw[if_pos c11]at H;have jA:decide (ai<(ag.length:Int))=true:=decide_eq_true c11;clear c11
    (first|rw[jA]|(simp only[Zd0,Zek];rw[jA])|skip)
    by_cases c12:ai<10
    case neg=>
     rw[if_neg c12]at H;have iH:decide (ai<10)=false:=decide_eq_false c12;clear c12;have H':=Za.mk H;clear H;have nga:=lh.out;have n4a:=ll.out;have nha:=ig.out;have n5a:=j4.out;obtain⟨Il,Im,Io,Ip,Iq,Hq,Hr,Ht,Hu,Hw⟩:=cz5 bD.out;go_wp2
     go_meet
     case rel=>exact⟨_,(bv),(dS),H',⟨by have:=HK1.out;first|omega|exact Nat.le_refl _⟩,⟨sM aY.out⟩,⟨by(with_reducible repeat(first|refine Zag ?_ _|refine Zai ?_|refine Zae ?_ _));exact bD.out⟩,⟨by(with_reducible repeat(first|refine Zag ?_ _|refine Zai ?_|refine Zae ?_ _));exact bG.out⟩,⟨by(with_reducible repeat(first|refine Zag ?_ _|refine Zai ?_|refine Zae ?_ _));exact aI.out⟩,⟨bM HB.out⟩⟩
    rw[if_pos c12]at H;have iH:decide (ai<10)=true:=decide_eq_true c12;clear c12;obtain⟨o7,H⟩:=ifT H;obtain⟨jG,hji14⟩:∃j_:Int,(mn (((Za9 ag ai).f0).size:Int) 20)=j_:=⟨_,rfl⟩;replace H:(if 0≤(jG)then(if(jG)≤(((Za9 ag ai).f0).size:Int)then((some (([]:List (S82)):List (S82))).bind fun qc=>(if 0≤(mn (((Za9 ag ai).f1).length:Int) 12)then(if(mn (((Za9 ag ai).f1).length:Int) 12)≤(((Za9 ag ai).f1).length:Int)then((some (((Za9 ag ai).f1).take ((mn (((Za9 ag ai).f1).length:Int) 12):Int).toNat:List (S82))).bind fun mq=>(if qc.length+mq.length<8796093022208 then(if bv.length<3518437208883 then(Zac.l0 k1 (wrap64 (ai+1)) ag aa az au ak (bv++ [(⟨((Za9 ag ai).f0).extract 0 ((jG):Int).toNat,(qc++mq)⟩:S55)]) az au ak)else(none))else(none)))else(none))else(none)))else(none))else(none))=some (r1,r2,r3,r4,r5):=by first|(rw[hji14]at H;exact H)|(simp only[hji14]at H ⊢;exact H)
    have hji14_:(if 20<(((Za9 ag ai).f0).size:Int)then 20 else(((Za9 ag ai).f0).size:Int))=jG:=hji14;obtain⟨c15,H⟩:=ifP H;have jh:=eq_true c15;have zb:decide (0≤(jG))=true:=decide_eq_true c15;clear c15;obtain⟨c16,H⟩:=ifP H;have sP:=eq_true c16;have P6:decide ((jG)≤(((Za9 ag ai).f0).size:Int))=true:=decide_eq_true c16;clear c16;obtain⟨qc,Fz⟩:∃y_:List (S82),y_=(([]:List (S82))):=⟨_,rfl⟩;replace H:(if 0≤(mn (((Za9 ag ai).f1).length:Int) 12)then(if(mn (((Za9 ag ai).f1).length:Int) 12)≤(((Za9 ag ai).f1).length:Int)then((some (((Za9 ag ai).f1).take ((mn (((Za9 ag ai).f1).length:Int) 12):Int).toNat:List (S82))).bind fun mq=>(if qc.length+mq.length<8796093022208 then(if bv.length<3518437208883 then(Zac.l0 k1 (wrap64 (ai+1)) ag aa az au ak (bv++ [(⟨((Za9 ag ai).f0).extract 0 ((jG):Int).toNat,(qc++mq)⟩:S55)]) az au ak)else(none))else(none)))else(none))else(none))=some (r1,r2,r3,r4,r5):=by first|(rw[Fz];with_reducible exact H)|(have H2_:=(Option.bind_some _ _).symm.trans H;rw[Fz];with_reducible exact H2_)|(have H2_:=(Option.bind_some _ _).symm.trans H;with_reducible exact H2_)|with_reducible exact H|(rw[Fz];exact H)|exact H
    have Vn:=Za.mk Fz;clear Fz;obtain⟨uq,hji17⟩:∃j_:Int,(mn (((Za9 ag ai).f1).length:Int) 12)=j_:=⟨_,rfl⟩;replace H:(if 0≤(uq)then(if(uq)≤(((Za9 ag ai).f1).length:Int)then((some (((Za9 ag ai).f1).take ((uq):Int).toNat:List (S82))).bind fun mq=>(if qc.length+mq.length<8796093022208 then(if bv.length<3518437208883 then(Zac.l0 k1 (wrap64 (ai+1)) ag aa az au ak (bv++ [(⟨((Za9 ag ai).f0).extract 0 ((jG):Int).toNat,(qc++mq)⟩:S55)]) az au ak)else(none))else(none)))else(none))else(none))=some (r1,r2,r3,r4,r5):=by first|(rw[hji17]at H;exact H)|(simp only[hji17]at H ⊢;exact H)
    have hji17_:(if 12<(((Za9 ag ai).f1).length:Int)then 12 else(((Za9 ag ai).f1).length:Int))=uq:=hji17;obtain⟨c18,H⟩:=ifP H;have jB:=eq_true c18;have rf:decide (0≤(uq))=true:=decide_eq_true c18;clear c18;obtain⟨c19,H⟩:=ifP H;have ze:=eq_true c19;have JK:decide ((uq)≤(((Za9 ag ai).f1).length:Int))=true:=decide_eq_true c19;clear c19;obtain⟨mq,F3⟩:∃y_:List (S82),y_=(((Za9 ag ai).f1).take ((uq):Int).toNat):=⟨_,rfl⟩;replace H:(if qc.length+mq.length<8796093022208 then(if bv.length<3518437208883 then(Zac.l0 k1 (wrap64 (ai+1)) ag aa az au ak (bv++ [(⟨((Za9 ag ai).f0).extract 0 ((jG):Int).toNat,(qc++mq)⟩:S55)]) az au ak)else(none))else(none))=some (r1,r2,r3,r4,r5):=by first|(rw[F3];with_reducible exact H)|(have H2_:=(Option.bind_some _ _).symm.trans H;rw[F3];with_reducible exact H2_)|(have H2_:=(Option.bind_some _ _).symm.trans H;with_reducible exact H2_)|with_reducible exact H|(rw[F3];exact H)|exact H
    have Vo:=Za.mk F3;clear F3;obtain⟨c20,H⟩:=ifP H;have EL:=Za.mk c20;clear c20;obtain⟨Jm,F4⟩:∃y_:List (S82),y_=(qc++mq):=⟨_,rfl⟩;replace H:(if bv.length<3518437208883 then(Zac.l0 k1 (wrap64 (ai+1)) ag aa az au ak (bv++ [(⟨((Za9 ag ai).f0).extract 0 ((jG):Int).toNat,Jm⟩:S55)]) az au ak)else(none))=some (r1,r2,r3,r4,r5):=by first|(rw[F4];with_reducible exact H)|(have H2_:=(Option.bind_some _ _).symm.trans H;rw[F4];with_reducible exact H2_)|(have H2_:=(Option.bind_some _ _).symm.trans H;with_reducible exact H2_)|with_reducible exact H|(rw[F4];exact H)|exact H
    have cCa:=Za.mk F4;clear F4;obtain⟨c21,H⟩:=ifP H;have c2a:=Za.mk c21;clear c21;obtain⟨Qv,F5⟩:∃y_:List (S55),y_=(bv++ [(⟨((Za9 ag ai).f0).extract 0 ((jG):Int).toNat,Jm⟩:S55)]):=⟨_,rfl⟩;replace H:(Zac.l0 k1 (wrap64 (ai+1)) ag aa az au ak Qv az au ak)=some (r1,r2,r3,r4,r5):=by first|(rw[F5];with_reducible exact H)|(have H2_:=(Option.bind_some _ _).symm.trans H;rw[F5];with_reducible exact H2_)|(have H2_:=(Option.bind_some _ _).symm.trans H;with_reducible exact H2_)|with_reducible exact H|(rw[F5];exact H)|exact H
    have cDa:=Za.mk F5;clear F5;have H':=Za.mk H;clear H;have naa:=lh.out;have nya:=ll.out;have nba:=ig.out;have nza:=j4.out;obtain⟨rD,rE,rF,rG,rH,rq,ru,ry,rz,r9⟩:=cz5 bD.out;have Tt:(0≤(ai:Int))=True:=teq;have TK:(ai<(ag.length:Int))=True:=teq;obtain⟨cRa,lM,kE,rfl,xO,xP,MH,Mx⟩:=Zem gT.out ai odt odt;replace xO:=hB HB.out xO;replace xP:=hB HB.out xP;have Yi:=Za.mk Mx;have XQ:=Za.mk MH;clear Mx MH;try go_wp2_with (first|((with_reducible refine Zao (N:=5) rfl ?_);refine bx 5 #[.string (⟨#[]⟩:ByteArray),.slice none 0 0] 55 ?_;intro fw hg w25 hbox hb;replace aY:=Za.mk (Kd.Ze1 (Kd.S_elderB (sM aY.out) fw (Nat.le_of_eq hg.symm)) hb);have gQ:=Za.mk (hbox);have mda:=Za.mk ((gE hg HB.out:w.heap.size≤fw));replace HB:=Za.mk (bS HB.out hb);have Jt:=Za.mk ((by rw[hg];exact Nat.ne_of_lt (Zc9 (kM bD.out)):iX≠fw));have RD:=Za.mk ((by rw[hg];exact Nat.ne_of_gt (Zc9 (kM bD.out)):fw≠iX));replace bD:=Za.mk (kB bD.out hb);have Ju:=Za.mk ((by rw[hg];exact Nat.ne_of_lt (Zc9 (kM bG.out)):dX≠fw));have RF:=Za.mk ((by rw[hg];exact Nat.ne_of_gt (Zc9 (kM bG.out)):fw≠dX));replace bG:=Za.mk (kB bG.out hb);have Aa:=Za.mk ((by rw[hg];exact Nat.ne_of_lt (Zc9 (kM aI.out)):dU≠fw));have Jv:=Za.mk ((by rw[hg];exact Nat.ne_of_gt (Zc9 (kM aI.out)):fw≠dU));replace aI:=Za.mk (kB aI.out hb);clear hb hbox hg;have nda:=RD.out;have n1a:=Jt.out;have nea:=RF.out;have n2a:=Ju.out;have nfa:=Jv.out;have n3a:=Aa.out;obtain⟨rJ,rO,rA,rC⟩:=cz2 gQ.out))
    have n0_:Za (Kd.S k55 55 ((w25.setCell ⟨fw,0,none⟩ (.string ((Za9 ag ai).f0))).setCell ⟨fw,1,none⟩ (.slice lM ((Za9 ag ai).f1).length kE)) w.heap.size (fun k_=>k_≠fw) dS bv):=⟨sM (Kd.Ze (Kd.Zdv (p:=⟨fw,1,none⟩) (Kd.Zdv (p:=⟨fw,0,none⟩) (Kd.Ze aY.out (fun k_ hk=>(⟨hk,hk.2⟩:_∧k_≠fw))) (fun _ hk=>hk.2) (.string ((Za9 ag ai).f0))) (fun _ hk=>hk.2) (.slice lM ((Za9 ag ai).f1).length kE)) (fun _ hk=>hk.1.2))⟩;have n1_:Za (((w25.setCell ⟨fw,0,none⟩ (.string ((Za9 ag ai).f0))).setCell ⟨fw,1,none⟩ (.slice lM ((Za9 ag ai).f1).length kE)).heap[iX]? =some (.cells #[.slice (some cRa) ag.length dL,.slice aQ aa.length aM,.int .i64 az,.slice bJ au.length bK,.slice bE ak.length bF] 28 (0,0))):=⟨by(with_reducible repeat(first|exact bD.out|refine Zcu ?_ Jt.out _|refine Zae ?_ _|refine Zai ?_|refine Zag ?_ _))⟩;have n2_:Za (((w25.setCell ⟨fw,0,none⟩ (.string ((Za9 ag ai).f0))).setCell ⟨fw,1,none⟩ (.slice lM ((Za9 ag ai).f1).length kE)).heap[dX]? =some (.cells #[.slice none 0 0,.slice none 0 0,.int .i64 0,.slice none 0 0,.slice none 0 0] 28 (0,0))):=⟨by(with_reducible repeat(first|exact bG.out|refine Zcu ?_ Ju.out _|refine Zae ?_ _|refine Zai ?_|refine Zag ?_ _))⟩;have n3_:Za (((w25.setCell ⟨fw,0,none⟩ (.string ((Za9 ag ai).f0))).setCell ⟨fw,1,none⟩ (.slice lM ((Za9 ag ai).f1).length kE)).heap[dU]? =some (.cells #[dS,.slice none 0 0,.int .i64 az,.slice bJ au.length bK,.slice bE ak.length bF] 28 (0,0))):=⟨by(with_reducible repeat(first|exact aI.out|refine Zcu ?_ Aa.out _|refine Zae ?_ _|refine Zai ?_|refine Zag ?_ _))⟩;have n4_:Za (((w25.setCell ⟨fw,0,none⟩ (.string ((Za9 ag ai).f0))).setCell ⟨fw,1,none⟩ (.slice lM ((Za9 ag ai).f1).length kE)).heap[fw]? =some (.cells #[.string ((Za9 ag ai).f0),.slice lM ((Za9 ag ai).f1).length kE] 55 (0,0))):=⟨by(with_reducible repeat(first|refine Zag ?_ _|refine Zai ?_|refine Zae ?_ _));refine Za4 (cs:=#[.string ((Za9 ag ai).f0),.slice none 0 0]) ?_ 1 _ rfl;(with_reducible repeat(first|refine Zag ?_ _|refine Zai ?_|refine Zae ?_ _));refine Za4 (cs:=#[.string (⟨#[]⟩:ByteArray),.slice none 0 0]) ?_ 0 _ rfl;(with_reducible repeat(first|refine Zag ?_ _|refine Zai ?_|refine Zae ?_ _));exact gQ.out⟩;have n5_:Za (Below w.heap.size w ((w25.setCell ⟨fw,0,none⟩ (.string ((Za9 ag ai).f0))).setCell ⟨fw,1,none⟩ (.slice lM ((Za9 ag ai).f1).length kE))):=⟨bM HB.out⟩
    (try clear aY)
    (try clear bD)
    (try clear bG)
    (try clear aI)
    (try clear gQ)
    (try clear HB)
    generalize ((w25.setCell ⟨fw,0,none⟩ (.string ((Za9 ag ai).f0))).setCell ⟨fw,1,none⟩ (.slice lM ((Za9 ag ai).f1).length kE))=w30 at n0_ n1_ n2_ n3_ n4_ n5_ ⊢
    have aY:=n0_;have bD:=n1_;have bG:=n2_;have aI:=n3_;have gQ:=n4_;have HB:=n5_;clear n0_ n1_ n2_ n3_ n4_ n5_;replace aY:=Za.mk (Kd.S_drew aY.out);replace bD:=Za.mk (Zai bD.out);replace bG:=Za.mk (Zai bG.out);replace aI:=Za.mk (Zai aI.out);replace gQ:=Za.mk (Zai gQ.out);replace HB:=Za.mk (Zcr HB.out);have q32:((uq):Int)≤((((Za9 ag ai).f1).length:Int):Int):=odt;obtain⟨i032,Wv,_,hsz32,_⟩:=info_parts Zh1;have hroom32:((Za9 ag ai).f1).length≤kE:=XQ.out;have hC32:Kd.C k82 _ lM ((Za9 ag ai).f1).length ((Za9 ag ai).f1):=Yi.out;have hcut32:=cut_to (P:=Tryz.prog) 53 82 .i64 Tryz.underlying53 Wv lM ((Za9 ag ai).f1).length kE (uq) (of_decide_eq_true (by first|(with_reducible assumption)|assumption)) q32 hroom32;have Tp:=Kd.C_take (m:=((uq):Int).toNat) hC32 (by omega);have hy32:mq.length=((uq):Int).toNat:=(by rw[Vo.out,List.length_take];omega);rw[←Vo.out]at Tp;rw[←hy32]at hcut32;have Vi:=Za.mk Tp;have mra:=Za.mk (show mq.length≤kE from by omega);clear Tp hC32 hroom32 Wv hsz32;have KY32:=Za.mk hy32;clear hy32;replace q32:=eq_true q32;refine Ze3 (n:=23) (S:=fun w'=>w'.cell? ⟨dU,0,none⟩=some (dS)∧w'.cell? ⟨dU,1,none⟩=some (.slice none 0 0)∧w'.cell? ⟨dU,2,none⟩=some (.int .i64 az)∧w'.cell? ⟨dU,3,none⟩=some (.slice bJ au.length bK)∧w'.cell? ⟨dU,4,none⟩=some (.slice bE ak.length bF)∧w'.cell? ⟨fw,0,none⟩=some (.string ((Za9 ag ai).f0))∧w'.cell? ⟨fw,1,none⟩=some (.slice lM ((Za9 ag ai).f1).length kE)) (ds:= [22]) #[false,false,false,false,false,false,false,false,false,false,false,false,false,false,false,false,false,false,false,false,false,false,false] (by kernel_rfl) rfl rfl ⟨bc aI.out 0,bc aI.out 1,bc aI.out 2,bc aI.out 3,bc aI.out 4,bc gQ.out 0,bc gQ.out 1⟩ (fun hHeld=> ?_);refine Zdx Zac.tab6 Zac.bits6 (fun HT_ HW_=> ?_)
    generalize w30.drew=w31 at aY bD bG aI gQ HB Vi hHeld ⊢
    refine pu HT_ 0 29 ?_;refine pu HT_ 2 31 ?_;refine pu HT_ 4 33 ?_;refine pu HT_ 10 39 ?_;refine pu HT_ 12 41 ?_;refine tk HT_ HW_ hHeld 1 30 ?_;refine tk HT_ HW_ hHeld 3 32 ?_;refine tk HT_ HW_ hHeld 5 34 ?_;refine pu HT_ 6 35 ?_;refine pu HT_ 7 36 ?_;refine pu HT_ 8 37 ?_;refine tk HT_ HW_ hHeld 11 40 ?_;refine tk HT_ HW_ hHeld 13 42 ?_;refine pu HT_ 14 43 ?_;refine pu HT_ 15 44 ?_;refine pu HT_ 16 45 ?_;refine on1 HT_ 9 38 (fun K hK=> ?_);refine Kd.R_lit_step k82 _ 82 ?hg (N:=38) ?hd (xs:=([]:List (S82))) (inner:= []) (ok:=fun _=>True) (okp:=fun _=>True) ?hr ?hp (fun _ hk=>hk) trivial (Below.refl _ _) (Nat.le_refl _) (by simp) ?_;(case hd=>rfl);(case hg=>rfl);(case hr=>first|(go_simp;done)|(go_simp;rfl));(case hp=>exact(Reps.none _ _));intro jma w33 IP hb hg_ hnew_;clear hg_ hnew_
    (first|rw[←Vn.out]at IP|(simp only[Int.reduceToNat]at IP;rw[←Vn.out]at IP))
    replace aY:=Za.mk (Kd.Zgv (sM aY.out) (Kd.Zc7 IP) hb);have AR:=Za.mk (Kd.Zbm IP (Zad (bM HB.out)));replace bD:=Za.mk (kB bD.out hb);replace bG:=Za.mk (kB bG.out hb);replace aI:=Za.mk (kB aI.out hb);replace gQ:=Za.mk (kB gQ.out hb);replace HB:=Za.mk (bS HB.out hb);clear hb IP;refine hK.out _ _ ⟨bc aI.out 0,bc aI.out 1,bc aI.out 2,bc aI.out 3,bc aI.out 4,bc gQ.out 0,bc gQ.out 1⟩ (fun hHeld=> ?_);clear hK K;refine nmp 38 ?_;refine on1 HT_ 17 46 (fun K hK=> ?_);refine Kd.Zfs k82 (w0:=w) w.heap.size (by rfl) (.tmp 38) (.tmp 45) 53 82 (.agg #[(.int .i64 0),(.int .i64 0)]) 16 rfl Tryz.underlying53 Zh1 rfl (by decide) (by omega) jma qc mq _ _ _ (fun _=>True) (fun _=>False) rfl rfl ?aO ?aR (fun _ _ h=>h) (fun _ h=>h.elim) ?aF ?aB ?aS ?aL ?_
    (case aR=>repeat(first|exact(Kd.Zab Vi.out HB.out)|(with_reducible refine Kd.C_alloc ?_ _)|(with_reducible refine Kd.Zbo ?_ _)|(with_reducible refine Kd.Zb3 ?_)))
    (case aB=>exact(bM HB.out))
    (case aF=>exact(fun _ _=>trivial))
    (case aO=>exact(rM AR.out))
    (case aS=>exact(Zad (bM HB.out)))
    (case aL=>have:=EL.out;omega)
    intro vJa w35 ho hb hg hat;rw[←cCa.out]at ho;replace aY:=Za.mk (Kd.S_after (ok:=(fun k_=>k_≠fw)) (sM aY.out) hg hat);replace bD:=Za.mk (kG bD.out hg (Kd.R_ne AR.out bD.out (by decide)));replace bG:=Za.mk (kG bG.out hg (Kd.R_ne AR.out bG.out (by decide)));replace aI:=Za.mk (kG aI.out hg (Kd.R_ne AR.out aI.out (by decide)));replace gQ:=Za.mk (kG gQ.out hg (Kd.R_ne AR.out gQ.out (by decide)));replace HB:=Za.mk (hb);have J4:=Za.mk (ho);clear AR ho hb hg hat;obtain⟨fM,fO,IJ⟩:=Kd.Za8 J4.out
    (first|subst IJ|(injection IJ with f1_ f2_ f3_;have f4_:=f1_.symm;have f5_:=f3_.symm;clear f1_ f2_ f3_;subst f4_;subst f5_))
    refine hK.out _ _ ⟨bc aI.out 0,bc aI.out 1,bc aI.out 2,bc aI.out 3,bc aI.out 4,bc gQ.out 0,bc gQ.out 1⟩ (fun hHeld=> ?_);clear hK K;refine nmp 46 ?_;refine pu HT_ 18 47 ?_;refine on1 HT_ 19 48 (fun K hK=> ?_);refine value_ (w1:=?_) (v:=?_) (by rfl) rfl ?_ ?_;rotate_left 2
    ·go_simp
     constructor
     ·rfl
     rfl
    refine hK.out _ _ ⟨(Zap (Zae aI.out _) 0).trans rfl,(Zap (Zae aI.out _) 1).trans rfl,(Zap (Zae aI.out _) 2).trans rfl,(Zap (Zae aI.out _) 3).trans rfl,(Zap (Zae aI.out _) 4).trans rfl,(Zap (Zae gQ.out _) 0).trans rfl,(Zap (Zae gQ.out _) 1).trans rfl⟩ (fun hHeld=> ?_);clear hK K;refine nmp 48 ?_;refine on1 HT_ 20 49 (fun K hK=> ?_);refine Kd.S_append_step k55 (w0:=w) w.heap.size (by rfl) (.tmp 30) (.tmp 48) 22 55 (.agg #[(.string ⟨#[]⟩),(.slice none 0 0)]) 40 rfl Tryz.underlying22 info55 rfl (by decide) (by omega) dS bv (⟨((Za9 ag ai).f0).extract 0 ((jG):Int).toNat,Jm⟩:S55) [.string (((Za9 ag ai).f0).extract 0 ((jG):Int).toNat),.slice fM Jm.length fO] (fun k_=>k_≠fw) (fun k_=>some k_=(.slice fM Jm.length fO:Value).ownBlock) rfl rfl ?aP (fun k_ hk_=>((Kd.Zba (ok':=fun k_=>((fun k_=>k_≠fw)) k_∧some k_≠(dS:Value).ownBlock) (Kd.Zcg (Kd.Zdp (J4.out) (Kd.Zec aY.out) (by decide)) gQ.out (by decide)) (fun k_ hk=>⟨hk.2,hk.1.2⟩))).1 k_ hk_.symm) ?aF ?aO ?aB ?aS ?aL ?_
    (case aP=>exact k55_mkM _ _ _ (⟨((Za9 ag ai).f0).extract 0 ((jG):Int).toNat,Jm⟩:S55) (Kd.Zba (Kd.Zgd rfl (Kd.Zba (ok':=fun k_=>((fun k_=>k_≠fw)) k_∧some k_≠(dS:Value).ownBlock) (Kd.Zcg (Kd.Zdp (J4.out) (Kd.Zec aY.out) (by decide)) gQ.out (by decide)) (fun k_ hk=>⟨hk.2,hk.1.2⟩))) (fun _ h_=>h_)))
    (case aB=>exact(bM HB.out))
    (case aF=>exact(fun k_ hk=>Kd.freshB (kM gQ.out) k_ hk))
    (case aO=>exact(sM (Kd.Ze aY.out (fun k_ hk=>⟨hk.1,fun e_=>hk.2 e_⟩))))
    (case aS=>exact(Zad (bM HB.out)))
    (case aL=>have:=c2a.out;omega)
    intro vKa w37 ho hb hg hat;rw[←cDa.out]at ho;replace bD:=Za.mk (kG bD.out hg (Kd.S_ne aY.out bD.out (by decide)));replace bG:=Za.mk (kG bG.out hg (Kd.S_ne aY.out bG.out (by decide)));replace aI:=Za.mk (kG aI.out hg (Kd.S_ne aY.out aI.out (by decide)));replace gQ:=Za.mk (kG gQ.out hg (Kd.S_away aY.out (fun _ hk=>hk.1)));replace HB:=Za.mk (hb);have Vd:=Za.mk (ho);clear aY J4 ho hb hg hat;obtain⟨iR,iU,IK⟩:=Kd.S_slice Vd.out
    (first|subst IK|(injection IK with f1_ f2_ f3_;have f4_:=f1_.symm;have f5_:=f3_.symm;clear f1_ f2_ f3_;subst f4_;subst f5_))
    refine hK.out _ _ ⟨bc aI.out 0,bc aI.out 1,bc aI.out 2,bc aI.out 3,bc aI.out 4,bc gQ.out 0,bc gQ.out 1⟩ (fun hHeld=> ?_);clear hK K;refine nmp 49 ?_;refine pu HT_ 21 50 ?_;refine last_ (i:=22) (N:=none) #[true,true,true,true,true,true,true,true,true,true,true,true,true,true,true,true,true,true,true,true,true,true,true] rfl rfl (Zh5 HT_.out (by kernel_rfl)) (by decide) (fun K hK=> ?_);have hs39:w37.cell? ⟨dU,0,none⟩=some (dS):=(Zap aI.out 0).trans rfl;have hfs39:=Za2 aI.out 0;have hns39_0:=ig.out;have hns39_1:=jV.out;have hns39_3:=Jv.out;have hms39_0:=j4.out;have hms39_1:=vJ.out;have hms39_3:=Aa.out;refine skip_ (w1:=?_) (by rfl) rfl ?_ ?_;rotate_left
    ·go_simp
     rfl
    refine hK.out _ _ ?_;clear hK K;refine Zgh (Zep HT_.out (by kernel_rfl)) ?_;try go_wp2
    go_roundg k1
    case measure=>have:=HK1.out;omega
    case rel=>exact⟨(wrap64 (ai+1)),(Qv),(.slice iR Qv.length iU),eS,H',⟨by have:=HK1.out;omega⟩,⟨sM (Kd.Ze (Kd.Zdv (p:=⟨dU,0,none⟩) (Kd.Zes Vd.out aI.out (by decide)) (fun _ hk=>hk.2) (.slice iR Qv.length iU)) (fun _ hk=>trivial))⟩,⟨by(with_reducible repeat(first|exact bD.out|refine Zcu ?_ ig.out _|refine Zae ?_ _|refine Zai ?_|refine Zag ?_ _))⟩,⟨by(with_reducible repeat(first|exact bG.out|refine Zcu ?_ jV.out _|refine Zae ?_ _|refine Zai ?_|refine Zag ?_ _))⟩,⟨by(with_reducible repeat(first|refine Zag ?_ _|refine Zai ?_|refine Zae ?_ _));refine Za4 (cs:=#[dS,.slice none 0 0,.int .i64 az,.slice bJ au.length bK,.slice bE ak.length bF]) ?_ 0 _ rfl;(with_reducible repeat(first|refine Zag ?_ _|refine Zai ?_|refine Zae ?_ _));exact aI.out⟩,⟨bM HB.out⟩⟩
 case rest=>
  clear HC2;try clear c1
  try clear p1
  try clear q1
  try clear hx1
  try clear c2
  try clear p2
  try clear q3
  try clear c4
  try clear c5
  try clear p6
  try clear c8
  try clear c9
  try clear c11
  try clear jA
  try clear c12
  try clear iH
  try clear c13
  try clear o7
  try clear p13
  try clear q13
  try clear Qd
  try clear c15
  try clear jh
  try clear zb
  try clear c16
  try clear sP
  try clear P6
  try clear c18
  try clear jB
  try clear rf
  try clear c19
  try clear ze
  try clear JK
  try clear c20
  try clear c21
  try clear c22
  try clear c23
  try clear c26
  try clear c27
  try clear c28
  try clear q32
  try clear c40
  try clear c41
  try clear c43
  try clear c44
  try clear kz kC kD lJ lK kv kw ky lD lF
  try clear rD rE rF rG rH rq ru ry rz r9
  try clear rJ rO rA rC
  try clear Il Im Io Ip Iq Hq Hr Ht Hu Hw
  try clear Ch Ci Cj Ck Cm BQ BR BS BU Ca
  try clear lc lg lL oo oq kX kY lI ol om
  try clear xO
  try clear xP
  try clear Tt
  try clear p2
  try clear TK
  try clear q32
  obtain⟨kq,bv,dS,HA,HJ1,aY,bD,bG,aI,HB⟩:=hcut
  cases kq with
  | zero => exact absurd HA.out (by simp [Zac.j1])
  |succ kj1=>
   have H:=HA.out;clear HA;simp only[Zac.j1]at H;have H':=Za.mk H;clear H;go_wp2
   go_loopg [6] kj1 (fun kq v6 w'=>∃(ae:Int) (bX:List (S36)) (iw:Value),v6= .int .i64 ae∧Za (Zac.l1 kq ae ag aa az au ak bv bX az au ak=some (r1,r2,r3,r4,r5))∧Za (kq≤kj1)∧Za (Kd.S k55 55 w' w.heap.size (fun _=>True) dS bv)∧Za (Kd.R k36 36 w' w.heap.size (fun _=>True) iw bX)∧Za (w'.heap[iX]? =some (.cells #[(.slice dV ag.length dL),(.slice aQ aa.length aM),.int .i64 az,(.slice bJ au.length bK),(.slice bE ak.length bF)] 28 (0,0)))∧Za (w'.heap[dX]? =some (.cells #[(.slice none 0 0),(.slice none 0 0),.int .i64 0,(.slice none 0 0),(.slice none 0 0)] 28 (0,0)))∧Za (w'.heap[dU]? =some (.cells #[dS,iw,.int .i64 az,(.slice bJ au.length bK),(.slice bE ak.length bF)] 28 (0,0)))∧Za (Below w.heap.size w w'))
   case atStart=>exact⟨(0),(([]:List (S36))),(.slice none 0 0),eS,H',⟨Nat.le_refl _⟩,⟨sM aY.out⟩,⟨by first|exact Kd.R_nil _ _ _ _ _|exact Kd.N_nil _ _ _ _ _|exact Kd.V_nil _ _ _ _ _|exact Kd.Q_nil _ _ _ _ _|exact Kd.S_nil _ _ _ _ _⟩,⟨by(with_reducible repeat(first|refine Zag ?_ _|refine Zai ?_|refine Zae ?_ _));exact bD.out⟩,⟨by(with_reducible repeat(first|refine Zag ?_ _|refine Zai ?_|refine Zae ?_ _));exact bG.out⟩,⟨by(with_reducible repeat(first|refine Zag ?_ _|refine Zai ?_|refine Zae ?_ _));exact aI.out⟩,⟨bM HB.out⟩⟩
   case round=>
    clear H';try clear c1
    try clear p1
    try clear q1
    try clear hx1
    try clear c2
    try clear p2
    try clear q3
    try clear c4
    try clear c5
    try clear p6
    try clear c8
    try clear c9
    try clear c11
    try clear jA
    try clear c12
    try clear iH
    try clear c13
    try clear o7
    try clear p13
    try clear q13
    try clear Qd
    try clear c15
    try clear jh
    try clear zb
    try clear c16
    try clear sP
    try clear P6
    try clear c18
    try clear jB
    try clear rf
    try clear c19
    try clear ze
    try clear JK
    try clear c20
    try clear c21
    try clear c22
    try clear c23
    try clear c26
    try clear c27
    try clear c28
    try clear q32
    try clear c40
    try clear c41
    try clear c43
    try clear c44
    try clear kz kC kD lJ lK kv kw ky lD lF
    try clear rD rE rF rG rH rq ru ry rz r9
    try clear rJ rO rA rC
    try clear Il Im Io Ip Iq Hq Hr Ht Hu Hw
    try clear Ch Ci Cj Ck Cm BQ BR BS BU Ca
    try clear lc lg lL oo oq kX kY lI ol om
    try clear xO
    try clear xP
    try clear p1
    try clear p13
    try clear Tt
    try clear p2
    try clear p6
    try clear q1
    try clear q13
    try clear TK
    try clear q3
    try clear q32
    obtain⟨ae,bX,iw,rfl,HA,HK2,aY,bH,bD,bG,aI,HB⟩:=hrel
    cases gk with
    | zero => exact absurd HA.out (by simp [Zac.l1])
    |succ k2=>
     have H:=HA.out;clear HA;simp only[Zac.l1]at H;have Sm:=Za.mk H;clear H
     go_upto_region 8 with (fail)
     go_cut [59] (fun v59 wc=>∃(kq:Nat) (GM:Bool),v59= .bool GM∧Za (Zac.j3 kq ae GM ag aa az au ak bv bX az au ak=some (r1,r2,r3,r4,r5))∧Za (kq≤k2)∧Za (Kd.S k55 55 wc w.heap.size (fun _=>True) dS bv)∧Za (Kd.R k36 36 wc w.heap.size (fun _=>True) iw bX)∧Za (wc.heap[iX]? =some (.cells #[(.slice dV ag.length dL),(.slice aQ aa.length aM),.int .i64 az,(.slice bJ au.length bK),(.slice bE ak.length bF)] 28 (0,0)))∧Za (wc.heap[dX]? =some (.cells #[(.slice none 0 0),(.slice none 0 0),.int .i64 0,(.slice none 0 0),(.slice none 0 0)] 28 (0,0)))∧Za (wc.heap[dU]? =some (.cells #[dS,iw,.int .i64 az,(.slice bJ au.length bK),(.slice bE ak.length bF)] 28 (0,0)))∧Za (Below w.heap.size w wc))
     case first=>
      have H:=Sm.out;clear Sm;by_cases c47:ae<(aa.length:Int)
      case neg=>
       rw[if_neg c47]at H;have Bi:decide (ae<(aa.length:Int))=false:=decide_eq_false c47;clear c47
       (first|rw[Bi]|(simp only[Zd0,Zek];rw[Bi])|skip)
       have H':=Za.mk H;clear H;have nma:=lh.out;have nAa:=ll.out;have nna:=ig.out;have nBa:=j4.out;obtain⟨R3,R4,R5,R6,R7,QR,QS,QT,QU,QV⟩:=cz5 bD.out;go_wp2
       go_meet
       case rel=>exact⟨_,(false),eS,H',⟨by have:=HJ1.out;have:=HK2.out;first|omega|exact Nat.le_refl _⟩,⟨sM aY.out⟩,⟨rM bH.out⟩,⟨by(with_reducible repeat(first|refine Zag ?_ _|refine Zai ?_|refine Zae ?_ _));exact bD.out⟩,⟨by(with_reducible repeat(first|refine Zag ?_ _|refine Zai ?_|refine Zae ?_ _));exact bG.out⟩,⟨by(with_reducible repeat(first|refine Zag ?_ _|refine Zai ?_|refine Zae ?_ _));exact aI.out⟩,⟨bM HB.out⟩⟩
      rw[if_pos c47]at H;have Bi:decide (ae<(aa.length:Int))=true:=decide_eq_true c47;clear c47
      (first|rw[Bi]|(simp only[Zd0,Zek];rw[Bi])|skip)
      have H':=Za.mk H;clear H;have nka:=lh.out;have n8a:=ll.out;have nla:=ig.out;have n9a:=j4.out;obtain⟨XE,XF,XG,XH,XI,WY,Xa,Xb,Xc,Xd⟩:=cz5 bD.out;go_wp2
      go_meet
      case rel=>exact⟨_,(decide (ae<16)),eS,H',⟨by have:=HJ1.out;have:=HK2.out;first|omega|exact Nat.le_refl _⟩,⟨sM aY.out⟩,⟨rM bH.out⟩,⟨by(with_reducible repeat(first|refine Zag ?_ _|refine Zai ?_|refine Zae ?_ _));exact bD.out⟩,⟨by(with_reducible repeat(first|refine Zag ?_ _|refine Zai ?_|refine Zae ?_ _));exact bG.out⟩,⟨by(with_reducible repeat(first|refine Zag ?_ _|refine Zai ?_|refine Zae ?_ _));exact aI.out⟩,⟨bM HB.out⟩⟩
     case rest=>
      clear Sm;try clear c1
      try clear p1
      try clear q1
      try clear hx1
      try clear c2
      try clear p2
      try clear q3
      try clear c4
      try clear c5
      try clear p6
      try clear c8
      try clear c9
      try clear c11
      try clear jA
      try clear c12
      try clear iH
      try clear c13
      try clear o7
      try clear p13
      try clear q13
      try clear Qd
      try clear c15
      try clear jh
      try clear zb
      try clear c16
      try clear sP
      try clear P6
      try clear c18
      try clear jB
      try clear rf
      try clear c19
      try clear ze
      try clear JK
      try clear c20
      try clear c21
      try clear c22
      try clear c23
      try clear c26
      try clear c27
      try clear c28
      try clear q32
      try clear c40
      try clear c41
      try clear c43
      try clear c44
      try clear c47
      try clear Bi
      try clear c48
      try clear c49
      try clear c51
      try clear c52
      try clear kz kC kD lJ lK kv kw ky lD lF
      try clear rD rE rF rG rH rq ru ry rz r9
      try clear rJ rO rA rC
      try clear Il Im Io Ip Iq Hq Hr Ht Hu Hw
      try clear Ch Ci Cj Ck Cm BQ BR BS BU Ca
      try clear XE XF XG XH XI WY Xa Xb Xc Xd
      try clear R3 R4 R5 R6 R7 QR QS QT QU QV
      try clear lc lg lL oo oq kX kY lI ol om
      try clear xO
      try clear xP
      try clear p1
      try clear p13
      try clear Tt
      try clear p2
      try clear p6
      try clear q1
      try clear q13
      try clear TK
      try clear q3
      try clear q32
      obtain⟨kq,GM,rfl,HA,HJ45,aY,bH,bD,bG,aI,HB⟩:=hcut
      cases kq with
      | zero => exact absurd HA.out (by simp [Zac.j3])
      |succ kj45=>
       have H:=HA.out;clear HA;simp only[Zac.j3]at H;by_cases c54:GM=true
       case neg=>
        replace c54:=Bool.eq_false_iff.mpr c54;subst c54;replace H:=ifF H;obtain⟨zw,F6⟩:∃y_:List Int,y_=(([]:List Int)):=⟨_,rfl⟩;replace H:(if 0≤(mn (au.length:Int) 14)then(if(mn (au.length:Int) 14)≤(au.length:Int)then(if zw.length+(au.take ((mn (au.length:Int) 14):Int).toNat).length<17592186044416 then((some (([]:List Int):List Int)).bind fun mr=>(if 0≤(mn (ak.length:Int) 14)then(if(mn (ak.length:Int) 14)≤(ak.length:Int)then(if mr.length+(ak.take ((mn (ak.length:Int) 14):Int).toNat).length<17592186044416 then(some (bv,bX,az,(zw++(au.take ((mn (au.length:Int) 14):Int).toNat)),(mr++(ak.take ((mn (ak.length:Int) 14):Int).toNat))))else(none))else(none))else(none)))else(none))else(none))else(none))=some (r1,r2,r3,r4,r5):=by first|(rw[F6];with_reducible exact H)|(have H2_:=(Option.bind_some _ _).symm.trans H;rw[F6];with_reducible exact H2_)|(have H2_:=(Option.bind_some _ _).symm.trans H;with_reducible exact H2_)|with_reducible exact H|(rw[F6];exact H)|exact H
        have Vp:=Za.mk F6;clear F6;obtain⟨kR,hji88⟩:∃j_:Int,(mn (au.length:Int) 14)=j_:=⟨_,rfl⟩;replace H:(if 0≤(kR)then(if(kR)≤(au.length:Int)then(if zw.length+(au.take ((kR):Int).toNat).length<17592186044416 then((some (([]:List Int):List Int)).bind fun mr=>(if 0≤(mn (ak.length:Int) 14)then(if(mn (ak.length:Int) 14)≤(ak.length:Int)then(if mr.length+(ak.take ((mn (ak.length:Int) 14):Int).toNat).length<17592186044416 then(some (bv,bX,az,(zw++(au.take ((kR):Int).toNat)),(mr++(ak.take ((mn (ak.length:Int) 14):Int).toNat))))else(none))else(none))else(none)))else(none))else(none))else(none))=some (r1,r2,r3,r4,r5):=by first|(rw[hji88]at H;exact H)|(simp only[hji88]at H ⊢;exact H)
        have hji88_:(if 14<(au.length:Int)then 14 else(au.length:Int))=kR:=hji88;by_cases c89:0≤(kR)
        case neg=>
         rw[if_neg c89]at H;exact absurd H (by simp)
        rw[if_pos c89]at H;have mMa:=eq_true c89;have mNa:decide (0≤(kR))=true:=decide_eq_true c89;clear c89;obtain⟨c90,H⟩:=ifP H;have mOa:=eq_true c90;have mPa:decide ((kR)≤(au.length:Int))=true:=decide_eq_true c90;clear c90;obtain⟨c91,H⟩:=ifP H;have c6a:=Za.mk c91;clear c91;obtain⟨y153,hy153⟩:∃y_:List Int,y_=(zw++(au.take ((kR):Int).toNat)):=⟨_,rfl⟩;replace H:((some (([]:List Int):List Int)).bind fun mr=>(if 0≤(mn (ak.length:Int) 14)then(if(mn (ak.length:Int) 14)≤(ak.length:Int)then(if mr.length+(ak.take ((mn (ak.length:Int) 14):Int).toNat).length<17592186044416 then(some (bv,bX,az,y153,(mr++(ak.take ((mn (ak.length:Int) 14):Int).toNat))))else(none))else(none))else(none)))=some (r1,r2,r3,r4,r5):=by first|(rw[hy153];with_reducible exact H)|(have H2_:=(Option.bind_some _ _).symm.trans H;rw[hy153];with_reducible exact H2_)|(have H2_:=(Option.bind_some _ _).symm.trans H;with_reducible exact H2_)|with_reducible exact H|(rw[hy153];exact H)|exact H
        have cEa:=Za.mk hy153;clear hy153;obtain⟨mr,F7⟩:∃y_:List Int,y_=(([]:List Int)):=⟨_,rfl⟩;replace H:(if 0≤(mn (ak.length:Int) 14)then(if(mn (ak.length:Int) 14)≤(ak.length:Int)then(if mr.length+(ak.take ((mn (ak.length:Int) 14):Int).toNat).length<17592186044416 then(some (bv,bX,az,y153,(mr++(ak.take ((mn (ak.length:Int) 14):Int).toNat))))else(none))else(none))else(none))=some (r1,r2,r3,r4,r5):=by first|(rw[F7];with_reducible exact H)|(have H2_:=(Option.bind_some _ _).symm.trans H;rw[F7];with_reducible exact H2_)|(have H2_:=(Option.bind_some _ _).symm.trans H;with_reducible exact H2_)|with_reducible exact H|(rw[F7];exact H)|exact H
        have Vq:=Za.mk F7;clear F7;obtain⟨l7,hji92⟩:∃j_:Int,(mn (ak.length:Int) 14)=j_:=⟨_,rfl⟩;replace H:(if 0≤(l7)then(if(l7)≤(ak.length:Int)then(if mr.length+(ak.take ((l7):Int).toNat).length<17592186044416 then(some (bv,bX,az,y153,(mr++(ak.take ((l7):Int).toNat))))else(none))else(none))else(none))=some (r1,r2,r3,r4,r5):=by first|(rw[hji92]at H;exact H)|(simp only[hji92]at H ⊢;exact H)
        have hji92_:(if 14<(ak.length:Int)then 14 else(ak.length:Int))=l7:=hji92;obtain⟨c93,H⟩:=ifP H;have mRa:=eq_true c93;have mSa:decide (0≤(l7))=true:=decide_eq_true c93;clear c93;obtain⟨c94,H⟩:=ifP H;have Wp:=eq_true c94;have Ws:decide ((l7)≤(ak.length:Int))=true:=decide_eq_true c94;clear c94;obtain⟨c95,H⟩:=ifP H;have c7a:=Za.mk c95;clear c95;obtain⟨y160,hy160⟩:∃y_:List Int,y_=(mr++(ak.take ((l7):Int).toNat)):=⟨_,rfl⟩;replace H:(some (bv,bX,az,y153,y160))=some (r1,r2,r3,r4,r5):=by first|(rw[hy160];with_reducible exact H)|(have H2_:=(Option.bind_some _ _).symm.trans H;rw[hy160];with_reducible exact H2_)|(have H2_:=(Option.bind_some _ _).symm.trans H;with_reducible exact H2_)|with_reducible exact H|(rw[hy160];exact H)|exact H
        have cFa:=Za.mk hy160;clear hy160;simp only[Option.some.injEq,Prod.mk.injEq]at H;obtain⟨rfl,rfl,rfl,rfl,rfl⟩:=H
        go_wp2_with (first|((with_reducible refine Zao (N:=120) rfl ?_);refine Kd.Zdg (Kd.int .i64) _ 3 ?hg (N:=120) ?hd (xs:=([]:List Int)) (inner:= []) (ok:=fun _=>True) (okp:=fun _=>True) ?hr ?hp (fun _ hk=>hk) trivial (Below.refl _ _) (Nat.le_refl _) (by simp) ?_;(case hd=>rfl);(case hg=>rfl);(case hr=>first|(go_simp;done)|(go_simp;rfl));(case hp=>exact(Reps.none _ _));intro jna w96 IQ hb hg_ hnew_;clear hg_ hnew_;(first|rw[←Vp.out]at IQ|(simp only[Int.reduceToNat]at IQ;rw[←Vp.out]at IQ));replace aY:=Za.mk (Kd.Ze1 (sM aY.out) hb);replace bH:=Za.mk (Kd.Zdz (rM bH.out) (Kd.Zc7 IQ) hb);have AU:=Za.mk (Kd.Zbm IQ (Zad (bM HB.out)));replace bD:=Za.mk (kB bD.out hb);replace bG:=Za.mk (kB bG.out hb);replace aI:=Za.mk (kB aI.out hb);replace HB:=Za.mk (bS HB.out hb);clear hb IQ;have nta:=lh.out;have nHa:=ll.out;have nua:=ig.out;have nIa:=j4.out;obtain⟨kYa,laa,lba,lca,lda,kaa,kba,kca,kda,kea⟩:=cz5 bD.out;obtain⟨i0101,RP,_,hsz101,_⟩:=info_parts info3;obtain⟨hcut101,hA101,hC101⟩:=Zd9 (P:=Tryz.prog) (Value.int .i64) 0 24 3 .i64 Tryz.underlying24 RP hsz101 bJ bK au (kR) (of_decide_eq_true (by first|(with_reducible assumption)|assumption)) (of_decide_eq_true (by first|(with_reducible assumption)|assumption)) jN.out;have O5:=Za.mk (Kd.Zed (h1:=fun _=>rfl) (hA101 _ (Kd.Zef jS.out)));have msa:=Za.mk hC101;clear hA101 hC101 RP hsz101)|((with_reducible refine Zbu (b:= .append) (xs:=#[.tmp 120,.tmp 129]) rfl ?_);at_builtin;refine Kd.Zdf (Kd.int .i64) (w0:=w) w.heap.size rfl (.tmp 120) (.tmp 129) 24 3 (.int .i64 0) 8 rfl Tryz.underlying24 info3 rfl (by decide) (by omega) jna zw (au.take ((kR):Int).toNat) _ _ _ (fun _=>True) (fun _=>False) rfl rfl ?aO ?aR (fun _ _ h=>h) (fun _ h=>h.elim) ?aF ?aB ?aS ?aL ?_;(case aR=>first|(have q_:=(Kd.Zab O5.out HB.out);rw[show(au.take ((kR):Int).toNat).length=(kR).toNat from(by rw[List.length_take];have h_:((kR):Int)≤(au.length:Int):=(by first|exact odt|(have h2_:=hji88_;split at h2_<;>omega));omega)]at q_;exact q_)|(rw[←show(au.take ((kR):Int).toNat).length=(kR).toNat from(by rw[List.length_take];have h_:((kR):Int)≤(au.length:Int):=(by first|exact odt|(have h2_:=hji88_;split at h2_<;>omega));omega)];repeat(first|exact(Kd.Zab O5.out HB.out)|(with_reducible refine Kd.C_alloc ?_ _)|(with_reducible refine Kd.Zbo ?_ _)|(with_reducible refine Kd.Zb3 ?_)))|(repeat(first|exact(Kd.Zab O5.out HB.out)|(with_reducible refine Kd.C_alloc ?_ _)|(with_reducible refine Kd.Zbo ?_ _)|(with_reducible refine Kd.Zb3 ?_))));(case aB=>exact(bM HB.out));(case aF=>exact(fun _ _=>trivial));(case aO=>exact(rM AU.out));(case aS=>exact(Zad (bM HB.out)));(case aL=>have:=c6a.out;have hlx_:=(show(au.take ((kR):Int).toNat).length=(kR).toNat from(by rw[List.length_take];have h_:((kR):Int)≤(au.length:Int):=(by first|exact odt|(have h2_:=hji88_;split at h2_<;>omega));omega));omega);intro v154 wMa ho hb hg hat;rw[←cEa.out]at ho;replace aY:=Za.mk (Kd.S_over' (sM aY.out) (Kd.Zei (rM AU.out)) (by decide) hg);replace bH:=Za.mk (Kd.Zdy (ok:=(fun _=>True)) (rM bH.out) hg hat);replace bD:=Za.mk (kG bD.out hg (Kd.R_ne AU.out bD.out (by decide)));replace bG:=Za.mk (kG bG.out hg (Kd.R_ne AU.out bG.out (by decide)));replace aI:=Za.mk (kG aI.out hg (Kd.R_ne AU.out aI.out (by decide)));replace HB:=Za.mk (hb);have vz:=Za.mk (ho);clear AU;clear ho hb hg hat;obtain⟨mD,mO,PP⟩:=Kd.Za8 vz.out;subst PP;have jXa:=vJ.out;have jYa:=jV.out;obtain⟨lsa,lta,lua,lva,lwa,kta,kua,kva,kwa,kxa⟩:=cz5 aI.out)|((with_reducible refine Zao (N:=133) rfl ?_);refine Kd.Zdg (Kd.int .i64) _ 3 ?hg (N:=133) ?hd (xs:=([]:List Int)) (inner:= []) (ok:=fun _=>True) (okp:=fun _=>True) ?hr ?hp (fun _ hk=>hk) trivial (Below.refl _ _) (Nat.le_refl _) (by simp) ?_;(case hd=>rfl);(case hg=>rfl);(case hr=>first|(go_simp;done)|(go_simp;rfl));(case hp=>exact(Reps.none _ _));intro v157 wNa zm hb hg_ hnew_;clear hg_ hnew_;(first|rw[←Vq.out]at zm|(simp only[Int.reduceToNat]at zm;rw[←Vq.out]at zm));replace aY:=Za.mk (Kd.Ze1 (sM (Kd.Ze (Kd.Zdv (p:=⟨dU,3,none⟩) (Kd.Zes aY.out aI.out (by decide)) (fun _ hk=>hk.2) (.slice mD y153.length mO)) (fun _ h_=>h_.1))) hb);replace bH:=Za.mk (Kd.Zdz (rM (Kd.Zba (Kd.Zb2 (p:=⟨dU,3,none⟩) (Kd.Zcg bH.out aI.out (by decide)) (fun _ hk=>hk.2) (.slice mD y153.length mO)) (fun _ h_=>h_.1))) (Kd.Zc7 zm) hb);have Eu:=Za.mk (Kd.Zbm (Kd.Zeu zm (Kd.R_lt (rM (Kd.Zba (Kd.Zb2 (p:=⟨dU,3,none⟩) (Kd.Zcg vz.out aI.out (by decide)) (fun _ hk=>hk.2) (.slice mD y153.length mO)) (fun _ h_=>h_.1))))) (Zad (bM HB.out)));replace vz:=Za.mk (Kd.Zdz (rM (Kd.Zba (Kd.Zb2 (p:=⟨dU,3,none⟩) (Kd.Zcg vz.out aI.out (by decide)) (fun _ hk=>hk.2) (.slice mD y153.length mO)) (fun _ h_=>h_.1))) (Kd.Zc7 zm) hb);replace bD:=Za.mk (Zci (g:=iX) (o:= .cells #[.slice dV ag.length dL,.slice aQ aa.length aM,.int .i64 az,.slice bJ au.length bK,.slice bE ak.length bF] 28 (0,0)) (by(with_reducible repeat(first|exact bD.out|refine Zcu ?_ ig.out _|refine Zae ?_ _|refine Zai ?_|refine Zag ?_ _))) hb);replace bG:=Za.mk (Zci (g:=dX) (o:= .cells #[.slice none 0 0,.slice none 0 0,.int .i64 0,.slice none 0 0,.slice none 0 0] 28 (0,0)) (by(with_reducible repeat(first|exact bG.out|refine Zcu ?_ jV.out _|refine Zae ?_ _|refine Zai ?_|refine Zag ?_ _))) hb);replace aI:=Za.mk (Zci (g:=dU) (o:= .cells #[dS,iw,.int .i64 az,.slice mD y153.length mO,.slice bE ak.length bF] 28 (0,0)) (by(with_reducible repeat(first|refine Zag ?_ _|refine Zai ?_|refine Zae ?_ _));refine Za4 (cs:=#[dS,iw,.int .i64 az,.slice bJ au.length bK,.slice bE ak.length bF]) ?_ 3 _ rfl;(with_reducible repeat(first|refine Zag ?_ _|refine Zai ?_|refine Zae ?_ _));exact aI.out) hb);replace HB:=Za.mk (bS HB.out hb);clear hb zm;obtain⟨l4a,l5a,l6a,l7a,l8a,k5a,k6a,k7a,k8a,k9a⟩:=cz5 bD.out;obtain⟨i0109,RQ,_,hsz109,_⟩:=info_parts info3;obtain⟨hcut109,hA109,hC109⟩:=Zd9 (P:=Tryz.prog) (Value.int .i64) 0 24 3 .i64 Tryz.underlying24 RQ hsz109 bE bF ak (l7) (of_decide_eq_true (by first|(with_reducible assumption)|assumption)) (of_decide_eq_true (by first|(with_reducible assumption)|assumption)) jO.out;have O6:=Za.mk (Kd.Zed (h1:=fun _=>rfl) (hA109 _ (Kd.Zef jT.out)));have mta:=Za.mk hC109;clear hA109 hC109 RQ hsz109)|((with_reducible refine Zbu (b:= .append) (xs:=#[.tmp 133,.tmp 142]) rfl ?_);at_builtin;refine Kd.Zdf (Kd.int .i64) (w0:=w) w.heap.size rfl (.tmp 133) (.tmp 142) 24 3 (.int .i64 0) 8 rfl Tryz.underlying24 info3 rfl (by decide) (by omega) v157 mr (ak.take ((l7):Int).toNat) _ _ _ (fun k_=>some k_≠(.slice mD y153.length mO:Value).ownBlock) (fun _=>False) rfl rfl ?aO ?aR (fun _ _ h=>h) (fun _ h=>h.elim) ?aF ?aB ?aS ?aL ?_;(case aR=>first|(have q_:=(Kd.Zab O6.out HB.out);rw[show(ak.take ((l7):Int).toNat).length=(l7).toNat from(by rw[List.length_take];have h_:((l7):Int)≤(ak.length:Int):=(by first|exact odt|(have h2_:=hji92_;split at h2_<;>omega));omega)]at q_;exact q_)|(rw[←show(ak.take ((l7):Int).toNat).length=(l7).toNat from(by rw[List.length_take];have h_:((l7):Int)≤(ak.length:Int):=(by first|exact odt|(have h2_:=hji92_;split at h2_<;>omega));omega)];repeat(first|exact(Kd.Zab O6.out HB.out)|(with_reducible refine Kd.C_alloc ?_ _)|(with_reducible refine Kd.Zbo ?_ _)|(with_reducible refine Kd.Zb3 ?_)))|(repeat(first|exact(Kd.Zab O6.out HB.out)|(with_reducible refine Kd.C_alloc ?_ _)|(with_reducible refine Kd.Zbo ?_ _)|(with_reducible refine Kd.Zb3 ?_))));(case aB=>exact(bM HB.out));(case aF=>exact(fun k_ hk=>Kd.fresh' (Kd.R_lt (rM vz.out)) k_ hk));(case aO=>exact(rM (Kd.Zba Eu.out (fun _ hk=>hk.2))));(case aS=>exact(Zad (bM HB.out)));(case aL=>have:=c7a.out;have hlx_:=(show(ak.take ((l7):Int).toNat).length=(l7).toNat from(by rw[List.length_take];have h_:((l7):Int)≤(ak.length:Int):=(by first|exact odt|(have h2_:=hji92_;split at h2_<;>omega));omega));omega);intro vLa wOa ho hb hg hat;rw[←cFa.out]at ho;replace aY:=Za.mk (Kd.S_over' (sM aY.out) (Kd.Zei (rM Eu.out)) (by decide) hg);replace bH:=Za.mk (Kd.Zdy (ok:=(fun k_=>some k_≠(.slice mD y153.length mO:Value).ownBlock)) (rM (Kd.Zba bH.out (fun _ hk=>⟨hk.1.2,hk.2⟩))) hg hat);replace bG:=Za.mk (kG bG.out hg (Kd.R_ne Eu.out bG.out (by decide)));replace aI:=Za.mk (kG aI.out hg (Kd.R_ne Eu.out aI.out (by decide)));replace vz:=Za.mk (Kd.Zdy (ok:=(fun _=>True)) (rM vz.out) hg hat);replace HB:=Za.mk (hb);have Ve:=Za.mk (ho);clear bD Eu;clear ho hb hg hat;obtain⟨sJ,sQ,dKa⟩:=Kd.Za8 Ve.out;subst dKa;obtain⟨l9a,lAa,lBa,lCa,lDa,kAa,kBa,kCa,kDa,kEa⟩:=cz5 aI.out;obtain⟨sK,sS,dLa⟩:=Kd.S_slice aY.out;subst dLa;obtain⟨lEa,lFa,lGa,lHa,lIa,kFa,kGa,kHa,kIa,kJa⟩:=cz5 bG.out;obtain⟨vw,vO,dMa⟩:=Kd.Za8 bH.out;subst dMa))
        refine bodyPost_ret (results_cell_row rfl _ _ dX 28 #[.slice sK bv.length sS,.slice vw bX.length vO,.int .i64 az,.slice mD y153.length mO,.slice sJ y160.length sQ] (0,0) _ rfl (by(with_reducible repeat(first|refine Zag ?_ _|refine Zai ?_|refine Zae ?_ _));refine Za4 (cs:=#[.slice sK bv.length sS,.slice vw bX.length vO,.int .i64 az,.slice mD y153.length mO,.slice none 0 0]) ?_ 4 _ rfl;(with_reducible repeat(first|refine Zag ?_ _|refine Zai ?_|refine Zae ?_ _));refine Za4 (cs:=#[.slice sK bv.length sS,.slice vw bX.length vO,.int .i64 az,.slice none 0 0,.slice none 0 0]) ?_ 3 _ rfl;(with_reducible repeat(first|refine Zag ?_ _|refine Zai ?_|refine Zae ?_ _));refine Za4 (cs:=#[.slice sK bv.length sS,.slice vw bX.length vO,.int .i64 0,.slice none 0 0,.slice none 0 0]) ?_ 2 _ rfl;(with_reducible repeat(first|refine Zag ?_ _|refine Zai ?_|refine Zae ?_ _));refine Za4 (cs:=#[.slice sK bv.length sS,.slice none 0 0,.int .i64 0,.slice none 0 0,.slice none 0 0]) ?_ 1 _ rfl;(with_reducible repeat(first|refine Zag ?_ _|refine Zai ?_|refine Zae ?_ _));refine Za4 (cs:=#[.slice none 0 0,.slice none 0 0,.int .i64 0,.slice none 0 0,.slice none 0 0]) ?_ 0 _ rfl;(with_reducible repeat(first|refine Zag ?_ _|refine Zai ?_|refine Zae ?_ _));refine Zcu ?_ jV.out _;(with_reducible repeat(first|refine Zag ?_ _|refine Zai ?_|refine Zae ?_ _));exact bG.out) Tryz.underlying28 rfl (by kernel_rfl)) rfl ?_;exact⟨_,_,_,_,by first|rfl|(simp[Zc3,Zc4]<;>rfl)|(simp only[←hji88,←hji92];first|rfl|(simp[Zc3,Zc4]<;>rfl))|(simp[*,Zc3,Zc4]<;>rfl),sM (Kd.Ze (Kd.Zdv (p:=⟨dX,4,none⟩) (Kd.Zdv (p:=⟨dX,3,none⟩) (Kd.Zdv (p:=⟨dX,2,none⟩) (Kd.Zdv (p:=⟨dX,1,none⟩) (Kd.Zdv (p:=⟨dX,0,none⟩) (Kd.Zdv (p:=⟨dU,4,none⟩) (Kd.Zes (Kd.Zes aY.out aI.out (by decide)) bG.out (by decide)) (fun _ hk=>hk.1.2) (.slice sJ y160.length sQ)) (fun _ hk=>hk.2) (.slice sK bv.length sS)) (fun _ hk=>hk.2) (.slice vw bX.length vO)) (fun _ hk=>hk.2) (.int .i64 az)) (fun _ hk=>hk.2) (.slice mD y153.length mO)) (fun _ hk=>hk.2) (.slice sJ y160.length sQ)) (fun _ hk=>trivial)),rM (Kd.Zba (Kd.Zb2 (p:=⟨dX,4,none⟩) (Kd.Zb2 (p:=⟨dX,3,none⟩) (Kd.Zb2 (p:=⟨dX,2,none⟩) (Kd.Zb2 (p:=⟨dX,1,none⟩) (Kd.Zb2 (p:=⟨dX,0,none⟩) (Kd.Zb2 (p:=⟨dU,4,none⟩) (Kd.Zcg (Kd.Zcg bH.out aI.out (by decide)) bG.out (by decide)) (fun _ hk=>hk.1.2) (.slice sJ y160.length sQ)) (fun _ hk=>hk.2) (.slice sK bv.length sS)) (fun _ hk=>hk.2) (.slice vw bX.length vO)) (fun _ hk=>hk.2) (.int .i64 az)) (fun _ hk=>hk.2) (.slice mD y153.length mO)) (fun _ hk=>hk.2) (.slice sJ y160.length sQ)) (fun _ hk=>⟨hk.1.1.1,hk.1.1.2⟩)),rM (Kd.Zba (Kd.Zb2 (p:=⟨dX,4,none⟩) (Kd.Zb2 (p:=⟨dX,3,none⟩) (Kd.Zb2 (p:=⟨dX,2,none⟩) (Kd.Zb2 (p:=⟨dX,1,none⟩) (Kd.Zb2 (p:=⟨dX,0,none⟩) (Kd.Zb2 (p:=⟨dU,4,none⟩) (Kd.Zcg (Kd.Zcg vz.out aI.out (by decide)) bG.out (by decide)) (fun _ hk=>hk.1.2) (.slice sJ y160.length sQ)) (fun _ hk=>hk.2) (.slice sK bv.length sS)) (fun _ hk=>hk.2) (.slice vw bX.length vO)) (fun _ hk=>hk.2) (.int .i64 az)) (fun _ hk=>hk.2) (.slice mD y153.length mO)) (fun _ hk=>hk.2) (.slice sJ y160.length sQ)) (fun _ hk=>hk.1.1.2)),rM (Kd.Zba (Kd.Zb2 (p:=⟨dX,4,none⟩) (Kd.Zb2 (p:=⟨dX,3,none⟩) (Kd.Zb2 (p:=⟨dX,2,none⟩) (Kd.Zb2 (p:=⟨dX,1,none⟩) (Kd.Zb2 (p:=⟨dX,0,none⟩) (Kd.Zb2 (p:=⟨dU,4,none⟩) (Kd.Zcg (Kd.Zcg Ve.out aI.out (by decide)) bG.out (by decide)) (fun _ hk=>hk.1.2) (.slice sJ y160.length sQ)) (fun _ hk=>hk.2) (.slice sK bv.length sS)) (fun _ hk=>hk.2) (.slice vw bX.length vO)) (fun _ hk=>hk.2) (.int .i64 az)) (fun _ hk=>hk.2) (.slice mD y153.length mO)) (fun _ hk=>hk.2) (.slice sJ y160.length sQ)) (fun _ hk=>hk.1.1)),bM HB.out⟩
       subst c54;have H1:(if 0≤ae then(if ae<(aa.length:Int)then(if 0≤(mn (((Zaa aa ae).f1).length:Int) 14)then(if(mn (((Zaa aa ae).f1).length:Int) 14)≤(((Zaa aa ae).f1).length:Int)then(if 0≤(mn (((Zaa aa ae).f2).length:Int) 14)then(if(mn (((Zaa aa ae).f2).length:Int) 14)≤(((Zaa aa ae).f2).length:Int)then((bRows.f ((Zaa aa ae).f5)).bind fun t167=>((Zcq.f kj45 ((Zaa aa ae).f0) (((Zaa aa ae).f1).take ((mn (((Zaa aa ae).f1).length:Int) 14):Int).toNat) (((Zaa aa ae).f2).take ((mn (((Zaa aa ae).f2).length:Int) 14):Int).toNat) ((Zaa aa ae).f3) ((Zaa aa ae).f4) t167 ((Zaa aa ae).f6)).bind fun eP=>(if bX.length<1353245080339 then(Zac.l1 kj45 (wrap64 (ae+1)) ag aa az au ak bv (bX++ [(⟨eP.1,eP.2.1,eP.2.2.1,eP.2.2.2.1,eP.2.2.2.2.1,eP.2.2.2.2.2.1,eP.2.2.2.2.2.2⟩:S36)]) az au ak)else(none))))else(none))else(none))else(none))else(none))else(none))else(none))=some (r1,r2,r3,r4,r5):=by rw[if_pos rfl]at H;exact H
       clear H;have H:=H1;clear H1;obtain⟨mBa,H⟩:=ifT H;obtain⟨mCa,H⟩:=ifT H;obtain⟨gu,hji57⟩:∃j_:Int,(mn (((Zaa aa ae).f1).length:Int) 14)=j_:=⟨_,rfl⟩;replace H:(if 0≤(gu)then(if(gu)≤(((Zaa aa ae).f1).length:Int)then(if 0≤(mn (((Zaa aa ae).f2).length:Int) 14)then(if(mn (((Zaa aa ae).f2).length:Int) 14)≤(((Zaa aa ae).f2).length:Int)then((bRows.f ((Zaa aa ae).f5)).bind fun t167=>((Zcq.f kj45 ((Zaa aa ae).f0) (((Zaa aa ae).f1).take ((gu):Int).toNat) (((Zaa aa ae).f2).take ((mn (((Zaa aa ae).f2).length:Int) 14):Int).toNat) ((Zaa aa ae).f3) ((Zaa aa ae).f4) t167 ((Zaa aa ae).f6)).bind fun eP=>(if bX.length<1353245080339 then(Zac.l1 kj45 (wrap64 (ae+1)) ag aa az au ak bv (bX++ [(⟨eP.1,eP.2.1,eP.2.2.1,eP.2.2.2.1,eP.2.2.2.2.1,eP.2.2.2.2.2.1,eP.2.2.2.2.2.2⟩:S36)]) az au ak)else(none))))else(none))else(none))else(none))else(none))=some (r1,r2,r3,r4,r5):=by first|(rw[hji57]at H;exact H)|(simp only[hji57]at H ⊢;exact H)
       have hji57_:(if 14<(((Zaa aa ae).f1).length:Int)then 14 else(((Zaa aa ae).f1).length:Int))=gu:=hji57;obtain⟨c58,H⟩:=ifP H;have Wl:=eq_true c58;have Wm:decide (0≤(gu))=true:=decide_eq_true c58;clear c58;obtain⟨c59,H⟩:=ifP H;have mEa:=eq_true c59;have mFa:decide ((gu)≤(((Zaa aa ae).f1).length:Int))=true:=decide_eq_true c59;clear c59;obtain⟨iE,hji60⟩:∃j_:Int,(mn (((Zaa aa ae).f2).length:Int) 14)=j_:=⟨_,rfl⟩;replace H:(if 0≤(iE)then(if(iE)≤(((Zaa aa ae).f2).length:Int)then((bRows.f ((Zaa aa ae).f5)).bind fun t167=>((Zcq.f kj45 ((Zaa aa ae).f0) (((Zaa aa ae).f1).take ((gu):Int).toNat) (((Zaa aa ae).f2).take ((iE):Int).toNat) ((Zaa aa ae).f3) ((Zaa aa ae).f4) t167 ((Zaa aa ae).f6)).bind fun eP=>(if bX.length<1353245080339 then(Zac.l1 kj45 (wrap64 (ae+1)) ag aa az au ak bv (bX++ [(⟨eP.1,eP.2.1,eP.2.2.1,eP.2.2.2.1,eP.2.2.2.2.1,eP.2.2.2.2.2.1,eP.2.2.2.2.2.2⟩:S36)]) az au ak)else(none))))else(none))else(none))=some (r1,r2,r3,r4,r5):=by first|(rw[hji60]at H;exact H)|(simp only[hji60]at H ⊢;exact H)
       have hji60_:(if 14<(((Zaa aa ae).f2).length:Int)then 14 else(((Zaa aa ae).f2).length:Int))=iE:=hji60;obtain⟨c61,H⟩:=ifP H;have mGa:=eq_true c61;have mHa:decide (0≤(iE))=true:=decide_eq_true c61;clear c61;obtain⟨c62,H⟩:=ifP H;have JQ:=eq_true c62;have PL:decide ((iE)≤(((Zaa aa ae).f2).length:Int))=true:=decide_eq_true c62;clear c62;obtain⟨t167,A63,H⟩:=bnd H;replace H:((Zcq.f kj45 ((Zaa aa ae).f0) (((Zaa aa ae).f1).take ((gu):Int).toNat) (((Zaa aa ae).f2).take ((iE):Int).toNat) ((Zaa aa ae).f3) ((Zaa aa ae).f4) t167 ((Zaa aa ae).f6)).bind fun eP=>(if bX.length<1353245080339 then(Zac.l1 kj45 (wrap64 (ae+1)) ag aa az au ak bv (bX++ [(⟨eP.1,eP.2.1,eP.2.2.1,eP.2.2.2.1,eP.2.2.2.2.1,eP.2.2.2.2.2.1,eP.2.2.2.2.2.2⟩:S36)]) az au ak)else(none)))=some (r1,r2,r3,r4,r5):=H;obtain⟨⟨Je,t171,Dy,Jf,Jg,Dz,t182⟩,A64,H⟩:=bnd H;replace H:(if bX.length<1353245080339 then(Zac.l1 kj45 (wrap64 (ae+1)) ag aa az au ak bv (bX++ [(⟨Je,t171,Dy,Jf,Jg,Dz,t182⟩:S36)]) az au ak)else(none))=some (r1,r2,r3,r4,r5):=H;obtain⟨c65,H⟩:=ifP H;have c5a:=Za.mk c65;clear c65;obtain⟨Ma,F8⟩:∃y_:List (S36),y_=(bX++ [(⟨Je,t171,Dy,Jf,Jg,Dz,t182⟩:S36)]):=⟨_,rfl⟩;replace H:(Zac.l1 kj45 (wrap64 (ae+1)) ag aa az au ak bv Ma az au ak)=some (r1,r2,r3,r4,r5):=by first|(rw[F8];with_reducible exact H)|(have H2_:=(Option.bind_some _ _).symm.trans H;rw[F8];with_reducible exact H2_)|(have H2_:=(Option.bind_some _ _).symm.trans H;with_reducible exact H2_)|with_reducible exact H|(rw[F8];exact H)|exact H
       have cGa:=Za.mk F8;clear F8;have H':=Za.mk H;clear H;have noa:=lh.out;have nCa:=ll.out;have npa:=ig.out;have nDa:=j4.out;obtain⟨sSa,sTa,sUa,sVa,sWa,pya,pza,p0a,p1a,p2a⟩:=cz5 bD.out;have v8a:(0≤(ae:Int))=True:=teq;have vBa:(ae<(aa.length:Int))=True:=teq;obtain⟨OV,dI,dJ,dN,dO,iM,iC,rfl,MW,MX,Na,Nb,Nc,Nf,Ng,MI,M0,MJ,M3,MK,M4⟩:=Zfw dM.out ae odt odt;replace MW:=hB HB.out MW;replace MX:=hB HB.out MX;replace Na:=hB HB.out Na;replace Nb:=hB HB.out Nb;replace Nc:=hB HB.out Nc;replace Nf:=hB HB.out Nf;replace Ng:=hB HB.out Ng;have Yj:=Za.mk M0;have XR:=Za.mk MI;clear M0 MI;have Yk:=Za.mk M3;have XT:=Za.mk MJ;clear M3 MJ;have Yl:=Za.mk M4;have j6a:=Za.mk MK;clear M4 MK;have WB164:=Za.mk (Below.refl w.heap.size w)
       go_upto_region 13 with (first|((with_reducible refine Zao (N:=7) rfl ?_);refine bx 7 #[.int .i64 0,.slice none 0 0,.slice none 0 0,.int .i64 0,.int .i64 0,.slice none 0 0,.int .i64 0] 36 ?_;intro bf hg w69 hbox hb;replace aY:=Za.mk (Kd.Ze1 (sM aY.out) hb);replace bH:=Za.mk (Kd.Zb8 (Kd.R_elderB (rM bH.out) bf (Nat.le_of_eq hg.symm)) hb);have dF:=Za.mk (hbox);have GW164:=Za.mk ((gE hg HB.out:w.heap.size≤bf));have bQa:=Za.mk ((gE hg HB.out:w.heap.size≤bf));replace HB:=Za.mk (bS HB.out hb);have vH:=Za.mk ((by rw[hg];exact Nat.ne_of_lt (Zc9 (kM bD.out)):iX≠bf));have RG:=Za.mk ((by rw[hg];exact Nat.ne_of_gt (Zc9 (kM bD.out)):bf≠iX));replace bD:=Za.mk (kB bD.out hb);have vI:=Za.mk ((by rw[hg];exact Nat.ne_of_lt (Zc9 (kM bG.out)):dX≠bf));have RH:=Za.mk ((by rw[hg];exact Nat.ne_of_gt (Zc9 (kM bG.out)):bf≠dX));replace bG:=Za.mk (kB bG.out hb);have rP:=Za.mk ((by rw[hg];exact Nat.ne_of_lt (Zc9 (kM aI.out)):dU≠bf));have Jw:=Za.mk ((by rw[hg];exact Nat.ne_of_gt (Zc9 (kM aI.out)):bf≠dU));replace aI:=Za.mk (kB aI.out hb);clear hb hbox hg;have nqa:=RG.out;have nEa:=vH.out;have nra:=RH.out;have nFa:=vI.out;have nsa:=Jw.out;have nGa:=rP.out;obtain⟨XJ,XK,XL,XM,XN,XO,XP,Xe,Xf,Xg,Xh,Xi,Xj,Xk⟩:=cz7 dF.out;obtain⟨i074,Ww,_,hsz74,_⟩:=info_parts info3;obtain⟨hcut74,hA74,hC74⟩:=Zd9 (P:=Tryz.prog) (Value.int .i64) 0 24 3 .i64 Tryz.underlying24 Ww hsz74 dI dJ ((Zaa aa ae).f1) (gu) (of_decide_eq_true (by first|(with_reducible assumption)|assumption)) (of_decide_eq_true (by first|(with_reducible assumption)|assumption)) XR.out;have cya:=Za.mk (Kd.Zed (h1:=fun _=>rfl) (hA74 _ (Kd.Zef Yj.out)));have bYa:=Za.mk hC74;clear hA74 hC74 Ww hsz74;obtain⟨i075,Wx,_,hsz75,_⟩:=info_parts info3;obtain⟨hcut75,hA75,hC75⟩:=Zd9 (P:=Tryz.prog) (Value.int .i64) 0 24 3 .i64 Tryz.underlying24 Wx hsz75 dN dO ((Zaa aa ae).f2) (iE) (of_decide_eq_true (by first|(with_reducible assumption)|assumption)) (of_decide_eq_true (by first|(with_reducible assumption)|assumption)) XT.out;have cza:=Za.mk (Kd.Zed (h1:=fun _=>rfl) (hA75 _ (Kd.Zef Yk.out)));have caa:=Za.mk hC75;clear hA75 hC75 Wx hsz75))
       obtain⟨wX,hX⟩:∃x_:World,x_=(((((((((w69.setCell ⟨bf,0,none⟩ (.int .i64 ((Zaa aa ae).f0))).setCell ⟨bf,1,none⟩ (.slice dI ((Zaa aa ae).f1).length dJ)).setCell ⟨bf,2,none⟩ (.slice dN ((Zaa aa ae).f2).length dO)).setCell ⟨bf,3,none⟩ (.int .i64 ((Zaa aa ae).f3))).setCell ⟨bf,4,none⟩ (.int .i64 ((Zaa aa ae).f4))).setCell ⟨bf,5,none⟩ (.slice iM ((Zaa aa ae).f5).length iC)).setCell ⟨bf,6,none⟩ (.int .i64 ((Zaa aa ae).f6))).setCell ⟨bf,1,none⟩ (.slice dI (((Zaa aa ae).f1).take ((gu):Int).toNat).length dJ)).setCell ⟨bf,2,none⟩ (.slice dN (((Zaa aa ae).f2).take ((iE):Int).toNat).length dO)):=⟨_,rfl⟩;have BX:Za (wX.heap[bf]? =some (.cells #[.int .i64 ((Zaa aa ae).f0),.slice dI (((Zaa aa ae).f1).take ((gu):Int).toNat).length dJ,.slice dN (((Zaa aa ae).f2).take ((iE):Int).toNat).length dO,.int .i64 ((Zaa aa ae).f3),.int .i64 ((Zaa aa ae).f4),.slice iM ((Zaa aa ae).f5).length iC,.int .i64 ((Zaa aa ae).f6)] 36 (0,0))):=⟨by rw[hX];(with_reducible repeat(first|refine Zag ?_ _|refine Zai ?_|refine Zae ?_ _));refine Za4 (cs:=#[.int .i64 ((Zaa aa ae).f0),.slice dI (((Zaa aa ae).f1).take ((gu):Int).toNat).length dJ,.slice dN ((Zaa aa ae).f2).length dO,.int .i64 ((Zaa aa ae).f3),.int .i64 ((Zaa aa ae).f4),.slice iM ((Zaa aa ae).f5).length iC,.int .i64 ((Zaa aa ae).f6)]) ?_ 2 _ rfl;(with_reducible repeat(first|refine Zag ?_ _|refine Zai ?_|refine Zae ?_ _));refine Za4 (cs:=#[.int .i64 ((Zaa aa ae).f0),.slice dI ((Zaa aa ae).f1).length dJ,.slice dN ((Zaa aa ae).f2).length dO,.int .i64 ((Zaa aa ae).f3),.int .i64 ((Zaa aa ae).f4),.slice iM ((Zaa aa ae).f5).length iC,.int .i64 ((Zaa aa ae).f6)]) ?_ 1 _ rfl;(with_reducible repeat(first|refine Zag ?_ _|refine Zai ?_|refine Zae ?_ _));refine Za4 (cs:=#[.int .i64 ((Zaa aa ae).f0),.slice dI ((Zaa aa ae).f1).length dJ,.slice dN ((Zaa aa ae).f2).length dO,.int .i64 ((Zaa aa ae).f3),.int .i64 ((Zaa aa ae).f4),.slice iM ((Zaa aa ae).f5).length iC,.int .i64 0]) ?_ 6 _ rfl;(with_reducible repeat(first|refine Zag ?_ _|refine Zai ?_|refine Zae ?_ _));refine Za4 (cs:=#[.int .i64 ((Zaa aa ae).f0),.slice dI ((Zaa aa ae).f1).length dJ,.slice dN ((Zaa aa ae).f2).length dO,.int .i64 ((Zaa aa ae).f3),.int .i64 ((Zaa aa ae).f4),.slice none 0 0,.int .i64 0]) ?_ 5 _ rfl;(with_reducible repeat(first|refine Zag ?_ _|refine Zai ?_|refine Zae ?_ _));refine Za4 (cs:=#[.int .i64 ((Zaa aa ae).f0),.slice dI ((Zaa aa ae).f1).length dJ,.slice dN ((Zaa aa ae).f2).length dO,.int .i64 ((Zaa aa ae).f3),.int .i64 0,.slice none 0 0,.int .i64 0]) ?_ 4 _ rfl;(with_reducible repeat(first|refine Zag ?_ _|refine Zai ?_|refine Zae ?_ _));refine Za4 (cs:=#[.int .i64 ((Zaa aa ae).f0),.slice dI ((Zaa aa ae).f1).length dJ,.slice dN ((Zaa aa ae).f2).length dO,.int .i64 0,.int .i64 0,.slice none 0 0,.int .i64 0]) ?_ 3 _ rfl;(with_reducible repeat(first|refine Zag ?_ _|refine Zai ?_|refine Zae ?_ _));refine Za4 (cs:=#[.int .i64 ((Zaa aa ae).f0),.slice dI ((Zaa aa ae).f1).length dJ,.slice none 0 0,.int .i64 0,.int .i64 0,.slice none 0 0,.int .i64 0]) ?_ 2 _ rfl;(with_reducible repeat(first|refine Zag ?_ _|refine Zai ?_|refine Zae ?_ _));refine Za4 (cs:=#[.int .i64 ((Zaa aa ae).f0),.slice none 0 0,.slice none 0 0,.int .i64 0,.int .i64 0,.slice none 0 0,.int .i64 0]) ?_ 1 _ rfl;(with_reducible repeat(first|refine Zag ?_ _|refine Zai ?_|refine Zae ?_ _));refine Za4 (cs:=#[.int .i64 0,.slice none 0 0,.slice none 0 0,.int .i64 0,.int .i64 0,.slice none 0 0,.int .i64 0]) ?_ 0 _ rfl;(with_reducible repeat(first|refine Zag ?_ _|refine Zai ?_|refine Zae ?_ _));exact dF.out⟩;have HBW:Za (Below w.heap.size w wX):=⟨by rw[hX];repeat(first|(with_reducible first|exact HB.out|apply Zbn|apply Zcf|apply Zcr|refine Zbd ?_ bNa.out|refine Zbd ?_ bOa.out|refine Zbd ?_ bPa.out|refine Zbd ?_ bQa.out)|exact HB.out)⟩;have eL1:(((Zaa aa ae).f1).take (gu:Int).toNat).length=(gu:Int).toNat:=by(have h_:(gu:Int)≤(((Zaa aa ae).f1).length:Int):=of_decide_eq_true (by first|(with_reducible assumption)|assumption));rw[List.length_take];omega
       have eL2:(((Zaa aa ae).f2).take (iE:Int).toNat).length=(iE:Int).toNat:=by(have h_:(iE:Int)≤(((Zaa aa ae).f2).length:Int):=of_decide_eq_true (by first|(with_reducible assumption)|assumption));rw[List.length_take];omega
       have eT:(((((((((w69.setCell ⟨bf,0,none⟩ (.int .i64 ((Zaa aa ae).f0))).setCell ⟨bf,1,none⟩ (.slice dI ((Zaa aa ae).f1).length dJ)).setCell ⟨bf,2,none⟩ (.slice dN ((Zaa aa ae).f2).length dO)).setCell ⟨bf,3,none⟩ (.int .i64 ((Zaa aa ae).f3))).setCell ⟨bf,4,none⟩ (.int .i64 ((Zaa aa ae).f4))).setCell ⟨bf,5,none⟩ (.slice iM ((Zaa aa ae).f5).length iC)).setCell ⟨bf,6,none⟩ (.int .i64 ((Zaa aa ae).f6))).setCell ⟨bf,1,none⟩ (.slice dI (gu:Int).toNat dJ)).setCell ⟨bf,2,none⟩ (.slice dN (iE:Int).toNat dO))=wX:=by rw[hX,eL1,eL2]
       rw[eT];clear eT eL1 eL2;have HX:=Za.mk hX;clear hX
       go_upto_block 4 with (first|((with_reducible refine Zao (N:=83) rfl ?_);refine Kd.S_lit (Kd.slice 3 (Kd.int .i64)) _ 24 ?hg (N:=83) ?hd (xs:=([]:List (List Int))) (inner:= []) (ok:=fun _=>True) (okp:=fun _=>True) ?hr ?hp (fun _ hk=>hk) trivial (Below.refl _ _) (Nat.le_refl _) (by simp) ?_;(case hd=>rfl);(case hg=>rfl);(case hr=>first|(go_simp;done)|(go_simp;rfl));(case hp=>exact(Reps.none _ _));intro vL wL hoL hb hg_ hnew_;clear hg_ hnew_;have HL:=Za.mk (Kd.Zck (ok':=fun k_=>k_<w.heap.size∨wX.heap.size≤k_) (Kd.S_N (Kd.Ze9 hoL)) (fun k_ hk_=> .inr hk_.2.1));have HBL:=Za.mk hb;clear hb hoL))
       (try simp only[Act.put,List.setIfInBounds_toArray,List.set_cons_zero,List.set_cons_succ])
       go_cut [8] (fun v8 wc=>∃vr:Value,vr=v8∧Za (Kd.N (Kd.slice 3 (Kd.int .i64)) 24 wc wX.heap.size (fun k_=>k_<w.heap.size∨wX.heap.size≤k_) vr t167)∧Za (Below wX.heap.size wX wc))
       case first=>
        obtain rfl:cutR (Zaa aa ae).f5=t167:=Option.some.inj A63.out;clear A63;go_wp2
        go_loopg [8,9] 21 (fun kq v8 v9 w'=>∃(n:Nat) (x:Int),v9= .int .i64 x∧Za (x=(n:Int))∧Za (n+kq=21)∧Za (n≤((Zaa aa ae).f5).length∧n≤20)∧Za (Kd.N (Kd.slice 3 (Kd.int .i64)) 24 w' wX.heap.size (fun k_=>k_<w.heap.size∨wX.heap.size≤k_) v8 ((((Zaa aa ae).f5).take n).map fun r=>r.take 14))∧Za (Below wX.heap.size wX w'))
        case atStart=>exact⟨0,0,rfl,⟨rfl⟩,⟨rfl⟩,⟨Nat.zero_le _,Nat.zero_le _⟩,⟨nM HL.out⟩,⟨bM HBL.out⟩⟩
        case round=>
         clear HL HBL;obtain⟨n,x,rfl,HE,HK,HN,HO8,HBL⟩:=hrel
         cases gk with
         | zero => exact absurd HK.out (by have := HN.out.2; omega)
         |succ kI=>
          have BXr:=Za.mk (Zci (g:=bf) (o:= .cells #[.int .i64 ((Zaa aa ae).f0),.slice dI (((Zaa aa ae).f1).take ((gu):Int).toNat).length dJ,.slice dN (((Zaa aa ae).f2).take ((iE):Int).toNat).length dO,.int .i64 ((Zaa aa ae).f3),.int .i64 ((Zaa aa ae).f4),.slice iM ((Zaa aa ae).f5).length iC,.int .i64 ((Zaa aa ae).f6)] 36 (0,0)) BX.out HBL.out);obtain⟨hczI_0,hczI_1,hczI_2,hczI_3,hczI_4,hczI_5,hczI_6,hfzI_0,hfzI_1,hfzI_2,hfzI_3,hfzI_4,hfzI_5,hfzI_6⟩:=cz7 BXr.out;by_cases c1:n<((Zaa aa ae).f5).length
          case neg=>
           have d1:decide (x<(((Zaa aa ae).f5).length:Int))=false:=decide_eq_false (by have:=HE.out;omega);have d1p:¬(x<(((Zaa aa ae).f5).length:Int)):=by have:=HE.out;omega
           have HOF:Za (Kd.N (Kd.slice 3 (Kd.int .i64)) 24 wr wX.heap.size (fun k_=>k_<w.heap.size∨wX.heap.size≤k_) u8 (cutR (Zaa aa ae).f5)):=⟨by have e_:cutR (Zaa aa ae).f5=(((Zaa aa ae).f5).take n).map fun r=>r.take 14:=(by have h1_:=HN.out;unfold cutR;rw[List.take_of_length_le (by omega:((Zaa aa ae).f5).length≤n),List.take_of_length_le (by omega:((Zaa aa ae).f5).length≤20)]);rw[e_];exact HO8.out⟩;clear c1;go_wp2
           go_meet
           case rel=>exact⟨_,rfl,⟨nM HOF.out⟩,⟨bM HBL.out⟩⟩
          have d1:decide (x<(((Zaa aa ae).f5).length:Int))=true:=decide_eq_true (by have:=HE.out;omega);by_cases c2:n<20
          case neg=>
           have d2:decide (x<20)=false:=decide_eq_false (by have:=HE.out;omega);have d2p:¬(x<20):=by have:=HE.out;omega
           have HOF:Za (Kd.N (Kd.slice 3 (Kd.int .i64)) 24 wr wX.heap.size (fun k_=>k_<w.heap.size∨wX.heap.size≤k_) u8 (cutR (Zaa aa ae).f5)):=⟨by have e_:cutR (Zaa aa ae).f5=(((Zaa aa ae).f5).take n).map fun r=>r.take 14:=(by have h1_:=HN.out;unfold cutR;rw[show n=20 by omega]);rw[e_];exact HO8.out⟩;clear c1 c2;go_wp2
           go_meet
           case rel=>exact⟨_,rfl,⟨nM HOF.out⟩,⟨bM HBL.out⟩⟩
          have d2:decide (x<20)=true:=decide_eq_true (by have:=HE.out;omega);obtain⟨HK1,HN1,LMI,HEW,JI,JJ⟩:Za (n+1+kI=21)∧Za (n+1≤((Zaa aa ae).f5).length∧n+1≤20)∧Za (((((Zaa aa ae).f5).take n).map fun r=>r.take 14).length<5864062014805)∧Za (wrap64 (x+1)=((n+1:Nat):Int))∧Za ((0:Int)≤x)∧Za (x<(((Zaa aa ae).f5).length:Int)):=⟨⟨by have:=HK.out;omega⟩,⟨by omega,by omega⟩,⟨by rw[List.length_map,List.length_take];omega⟩,⟨by rw[HE.out];unfold wrap64;omega⟩,⟨by have:=HE.out;omega⟩,⟨by have:=HE.out;omega⟩⟩;have RE:Za (((((Zaa aa ae).f5).take n).map fun r=>r.take 14)++ [(Zco ((Zaa aa ae).f5) x).take 14]=(((Zaa aa ae).f5).take (n+1)).map fun r=>r.take 14):=⟨by rw[List.take_succ_eq_append_getElem c1,List.map_append,HE.out];simp[Zco,List.getD_eq_getElem?_getD,List.getElem?_eq_getElem c1]⟩;clear c1 c2;obtain⟨adI,AI,cI,eI,hxI,hlI,hiI⟩:=Zfj Yl.out x JI.out JJ.out;cases eI;have HBwr:=Za.mk (Zaf HBW.out HBL.out);replace hxI:=Za.mk hxI;obtain⟨jI,hjI⟩:∃j_:Int,(mn ((Zco ((Zaa aa ae).f5) x).length:Int) 14)=j_:=⟨_,rfl⟩;have hjI_:(if 14<((Zco ((Zaa aa ae).f5) x).length:Int)then 14 else((Zco ((Zaa aa ae).f5) x).length:Int))=jI:=hjI;have hj0:0≤jI:=by rw[←hjI_];split<;>omega
          have hj1:jI≤((Zco ((Zaa aa ae).f5) x).length:Int):=by rw[←hjI_];split<;>omega
          have RJ:Za ((Zco ((Zaa aa ae).f5) x).take jI.toNat=(Zco ((Zaa aa ae).f5) x).take 14):=⟨by rw[←hjI_];split<;>(first|rfl|(rw[List.take_of_length_le (by omega),List.take_of_length_le (by omega)]))⟩;have eLI:=Za.mk (show((Zco ((Zaa aa ae).f5) x).take jI.toNat).length=jI.toNat by rw[List.length_take];omega);obtain⟨i0I,hi0I,_,hszI,_⟩:=info_parts info3;obtain⟨hcutI,hAI,hCI⟩:=Zd9 (P:=Tryz.prog) (Value.int .i64) 0 24 3 .i64 Tryz.underlying24 hi0I hszI AI cI (Zco ((Zaa aa ae).f5) x) jI hj0 hj1 hlI;have HIT:=Za.mk (Kd.Zed (h1:=fun _=>rfl) (hAI _ (Kd.Zef hiI)));have HCI:=Za.mk hCI;clear hAI hCI hi0I hszI hiI;have j0b:decide (0≤jI)=true:=decide_eq_true hj0;have j1b:decide (jI≤((Zco ((Zaa aa ae).f5) x).length:Int))=true:=decide_eq_true hj1;replace hj0:=eq_true hj0;replace hj1:=eq_true hj1;have x0:decide (0≤x)=true:=decide_eq_true JI.out;have p0:=eq_true JI.out;have q0:=eq_true JJ.out;have FKI:∀W:World,Below w.heap.size w W→Kd.FK (Kd.slice 3 (Kd.int .i64)) W (fun k_=>(k_<w.heap.size∨wX.heap.size≤k_)∧some k_≠(u8:Value).ownBlock) ((Zco ((Zaa aa ae).f5) x).take jI.toNat) [.slice AI ((Zco ((Zaa aa ae).f5) x).take jI.toNat).length cI]:=fun W hW=>Kd.Ze4 HCI.out (Kd.Zhu (Kd.Zgb (Kd.C_F (Kd.heap_int .i64) HIT.out) hW) (fun k_ hk_=>⟨.inl hk_,fun e_=>by have h1_:=Kd.N_base HO8.out k_ e_.symm;have h2_:=Zad HBW.out;omega⟩))
          have FKA:=Za.mk FKI;clear FKI;try go_wp2_with (fail)
          clear hczI_0 hfzI_0 hczI_1 hfzI_1 hczI_2 hfzI_2 hczI_3 hfzI_3 hczI_4 hfzI_4 hczI_5 hfzI_5 hczI_6 hfzI_6;have HO8d:=Za.mk (Kd.Ze8 HO8.out);replace BXr:=Za.mk (Zai BXr.out);replace HBL:=Za.mk (Zcr HBL.out);replace HBwr:=Za.mk (Zcr HBwr.out);refine Ze3 (n:=17) (S:=fun w'=>w'.cell? ⟨bf,5,none⟩=some (.slice (some adI) ((Zaa aa ae).f5).length iC)∧w'.cell? (adI.add (x:Int).toNat)=some (.slice AI (Zco ((Zaa aa ae).f5) x).length cI)) (ds:= [15]) #[false,false,false,false,false,false,false,false,false,false,false,false,false,false,false,false,false] (by kernel_rfl) rfl rfl ⟨bc BXr.out 5,(HBwr.out.cell (World.block_lt_of_cell? w _ hxI.out)).trans hxI.out⟩ (fun hHeld=> ?_);refine Zdx Zac.tab17 Zac.bits17 (fun HT_ HW_=> ?_)
          generalize wr.drew=wd at HO8d BXr HBL HBwr hHeld ⊢
          refine pu HT_ 0 95 ?_;refine pu HT_ 1 96 ?_;refine tk HT_ HW_ hHeld 2 97 ?_;refine pu HT_ 3 98 ?_;refine pu HT_ 4 99 ?_;refine tk HT_ HW_ hHeld 5 100 ?_;refine pu HT_ 6 101 ?_;refine tk HT_ HW_ hHeld 7 102 ?_;refine pu HT_ 8 103 ?_;refine pu HT_ 9 104 ?_;refine tk HT_ HW_ hHeld 10 105 ?_;refine pu HT_ 11 106 ?_;refine pu HT_ 12 107 ?_;refine pu HT_ 13 108 ?_;refine on1 HT_ 14 109 (fun K hK=> ?_);refine value_ (w1:=?_) (v:=?_) (by rfl) rfl ?_ ?_;rotate_left 2
          ·go_simp
           constructor
           ·rfl
           rfl
          refine hK.out _ _ ⟨(Zap (Zae BXr.out _) 5).trans rfl,((Zaf HBwr.out (Zbn (Below.refl _ _) _)).cell (World.block_lt_of_cell? w _ hxI.out)).trans hxI.out⟩ (fun hHeld=> ?_);clear hK K;refine nmp 109 ?_;refine last_ (i:=15) (N:=some 110) #[true,true,true,true,true,true,true,true,true,true,true,true,true,true,true,true,false] rfl rfl (Zh5 HT_.out (by kernel_rfl)) (by decide) (fun K hK=> ?_);refine Kd.N_append_step (Kd.slice 3 (Kd.int .i64)) (w0:=wX) wX.heap.size (by rfl) (.tmp 95) (.tmp 109) 34 24 (.slice none 0 0) 24 rfl Tryz.underlying34 Zh0 rfl (by decide) (by omega) u8 ((((Zaa aa ae).f5).take n).map fun r=>r.take 14) ((Zco ((Zaa aa ae).f5) x).take jI.toNat) [.slice AI (jI:Int).toNat cI] (fun k_=>k_<w.heap.size∨wX.heap.size≤k_) (fun k_=>(k_<w.heap.size∨wX.heap.size≤k_)∧some k_≠(u8:Value).ownBlock) rfl rfl ?aP (fun _ hk=>hk) (fun k_ hk=> .inr (Nat.le_trans (Zad HBL.out) hk)) HO8d.out HBL.out (Zad HBL.out) (by have:=LMI.out;omega) ?_
          (case aP=>have hq_:=FKA.out _ HBwr.out;rw[eLI.out]at hq_;exact hq_)
          intro vN wN ho hb hg hat;have HON:=Za.mk ho;have HBN:=Za.mk hb;clear ho hb hg hat;refine hK.out _ _ ?_;clear hK K;refine nmp 110 ?_;refine pu HT_ 16 8 ?_;refine Zgh (Zep HT_.out (by kernel_rfl)) ?_;try go_wp2
          go_roundg kI
          case measure=>omega
          case rel=>exact⟨n+1,_,rfl,HEW,HK1,HN1,⟨by rw[←RE.out,←RJ.out];(with_reducible repeat(first|apply Kd.N_alloc|apply Kd.N_drewN|apply Kd.Ze8));exact HON.out⟩,⟨bM HBN.out⟩⟩
       case rest=>
        obtain⟨v168,rfl,HN,HBL⟩:=hcut;obtain⟨w76,rfl⟩:∃w_:World,w_=wc:=⟨_,rfl⟩;have hX:=HX.out;clear HX BX HBW;subst hX;have hb:=HBL.out;have nA:Za (Kd.V (Kd.slice 3 (Kd.int .i64)) 24 w76 w.heap.size (fun k_=>some k_≠(dS:Value).ownBlock∧some k_≠(iw:Value).ownBlock∧k_≠iX∧k_≠dX∧k_≠dU∧k_≠bf) v168 t167):=⟨Kd.Zf (Kd.N_V HN.out) (fun k_ hk_=>hk_.elim (fun hk_=>⟨fun e_=>Nat.not_le.2 hk_ (Kd.Zhw aY.out k_ e_.symm),fun e_=>Nat.not_le.2 hk_ (Kd.Zc7 bH.out k_ e_.symm),fun e_=>Nat.not_le.2 hk_ (by rw[e_];exact GW131.out),fun e_=>Nat.not_le.2 hk_ (by rw[e_];exact GW132.out),fun e_=>Nat.not_le.2 hk_ (by rw[e_];exact GW133.out),fun e_=>Nat.not_le.2 hk_ (by rw[e_];exact GW164.out)⟩) (fun hk_=>⟨(Kd.fresh' (Kd.S_lt (sM (Kd.Ze (Kd.Zdv (p:=⟨bf,2,none⟩) (Kd.Zdv (p:=⟨bf,1,none⟩) (Kd.Zdv (p:=⟨bf,6,none⟩) (Kd.Zdv (p:=⟨bf,5,none⟩) (Kd.Zdv (p:=⟨bf,4,none⟩) (Kd.Zdv (p:=⟨bf,3,none⟩) (Kd.Zdv (p:=⟨bf,2,none⟩) (Kd.Zdv (p:=⟨bf,1,none⟩) (Kd.Zdv (p:=⟨bf,0,none⟩) (Kd.Zes aY.out dF.out (by decide)) (fun _ hk=>hk.2) (.int .i64 ((Zaa aa ae).f0))) (fun _ hk=>hk.2) (.slice dI ((Zaa aa ae).f1).length dJ)) (fun _ hk=>hk.2) (.slice dN ((Zaa aa ae).f2).length dO)) (fun _ hk=>hk.2) (.int .i64 ((Zaa aa ae).f3))) (fun _ hk=>hk.2) (.int .i64 ((Zaa aa ae).f4))) (fun _ hk=>hk.2) (.slice iM ((Zaa aa ae).f5).length iC)) (fun _ hk=>hk.2) (.int .i64 ((Zaa aa ae).f6))) (fun _ hk=>hk.2) (.slice dI (((Zaa aa ae).f1).take ((gu):Int).toNat).length dJ)) (fun _ hk=>hk.2) (.slice dN (((Zaa aa ae).f2).take ((iE):Int).toNat).length dO)) (fun _ h_=>h_.1)))) k_ hk_),(Kd.fresh' (Kd.R_lt (rM (Kd.Zba (Kd.Zb2 (p:=⟨bf,2,none⟩) (Kd.Zb2 (p:=⟨bf,1,none⟩) (Kd.Zb2 (p:=⟨bf,6,none⟩) (Kd.Zb2 (p:=⟨bf,5,none⟩) (Kd.Zb2 (p:=⟨bf,4,none⟩) (Kd.Zb2 (p:=⟨bf,3,none⟩) (Kd.Zb2 (p:=⟨bf,2,none⟩) (Kd.Zb2 (p:=⟨bf,1,none⟩) (Kd.Zb2 (p:=⟨bf,0,none⟩) (Kd.Zba bH.out (fun k_ hk=>(⟨hk,hk.2⟩:_∧k_≠bf))) (fun _ hk=>hk.2) (.int .i64 ((Zaa aa ae).f0))) (fun _ hk=>hk.2) (.slice dI ((Zaa aa ae).f1).length dJ)) (fun _ hk=>hk.2) (.slice dN ((Zaa aa ae).f2).length dO)) (fun _ hk=>hk.2) (.int .i64 ((Zaa aa ae).f3))) (fun _ hk=>hk.2) (.int .i64 ((Zaa aa ae).f4))) (fun _ hk=>hk.2) (.slice iM ((Zaa aa ae).f5).length iC)) (fun _ hk=>hk.2) (.int .i64 ((Zaa aa ae).f6))) (fun _ hk=>hk.2) (.slice dI (((Zaa aa ae).f1).take ((gu):Int).toNat).length dJ)) (fun _ hk=>hk.2) (.slice dN (((Zaa aa ae).f2).take ((iE):Int).toNat).length dO)) (fun _ h_=>h_.1)))) k_ hk_),(Kd.freshB (g:=iX) (o:= .cells #[.slice dV ag.length dL,.slice (some OV) aa.length aM,.int .i64 az,.slice bJ au.length bK,.slice bE ak.length bF] 28 (0,0)) (by(with_reducible repeat(first|exact bD.out|refine Zcu ?_ vH.out _|refine Zae ?_ _|refine Zai ?_|refine Zag ?_ _))) k_ hk_),(Kd.freshB (g:=dX) (o:= .cells #[.slice none 0 0,.slice none 0 0,.int .i64 0,.slice none 0 0,.slice none 0 0] 28 (0,0)) (by(with_reducible repeat(first|exact bG.out|refine Zcu ?_ vI.out _|refine Zae ?_ _|refine Zai ?_|refine Zag ?_ _))) k_ hk_),(Kd.freshB (g:=dU) (o:= .cells #[dS,iw,.int .i64 az,.slice bJ au.length bK,.slice bE ak.length bF] 28 (0,0)) (by(with_reducible repeat(first|exact aI.out|refine Zcu ?_ rP.out _|refine Zae ?_ _|refine Zai ?_|refine Zag ?_ _))) k_ hk_),(Kd.freshB (g:=bf) (o:= .cells #[.int .i64 ((Zaa aa ae).f0),.slice dI (((Zaa aa ae).f1).take ((gu):Int).toNat).length dJ,.slice dN (((Zaa aa ae).f2).take ((iE):Int).toNat).length dO,.int .i64 ((Zaa aa ae).f3),.int .i64 ((Zaa aa ae).f4),.slice iM ((Zaa aa ae).f5).length iC,.int .i64 ((Zaa aa ae).f6)] 36 (0,0)) (by(with_reducible repeat(first|refine Zag ?_ _|refine Zai ?_|refine Zae ?_ _));refine Za4 (cs:=#[.int .i64 ((Zaa aa ae).f0),.slice dI (((Zaa aa ae).f1).take ((gu):Int).toNat).length dJ,.slice dN ((Zaa aa ae).f2).length dO,.int .i64 ((Zaa aa ae).f3),.int .i64 ((Zaa aa ae).f4),.slice iM ((Zaa aa ae).f5).length iC,.int .i64 ((Zaa aa ae).f6)]) ?_ 2 _ rfl;(with_reducible repeat(first|refine Zag ?_ _|refine Zai ?_|refine Zae ?_ _));refine Za4 (cs:=#[.int .i64 ((Zaa aa ae).f0),.slice dI ((Zaa aa ae).f1).length dJ,.slice dN ((Zaa aa ae).f2).length dO,.int .i64 ((Zaa aa ae).f3),.int .i64 ((Zaa aa ae).f4),.slice iM ((Zaa aa ae).f5).length iC,.int .i64 ((Zaa aa ae).f6)]) ?_ 1 _ rfl;(with_reducible repeat(first|refine Zag ?_ _|refine Zai ?_|refine Zae ?_ _));refine Za4 (cs:=#[.int .i64 ((Zaa aa ae).f0),.slice dI ((Zaa aa ae).f1).length dJ,.slice dN ((Zaa aa ae).f2).length dO,.int .i64 ((Zaa aa ae).f3),.int .i64 ((Zaa aa ae).f4),.slice iM ((Zaa aa ae).f5).length iC,.int .i64 0]) ?_ 6 _ rfl;(with_reducible repeat(first|refine Zag ?_ _|refine Zai ?_|refine Zae ?_ _));refine Za4 (cs:=#[.int .i64 ((Zaa aa ae).f0),.slice dI ((Zaa aa ae).f1).length dJ,.slice dN ((Zaa aa ae).f2).length dO,.int .i64 ((Zaa aa ae).f3),.int .i64 ((Zaa aa ae).f4),.slice none 0 0,.int .i64 0]) ?_ 5 _ rfl;(with_reducible repeat(first|refine Zag ?_ _|refine Zai ?_|refine Zae ?_ _));refine Za4 (cs:=#[.int .i64 ((Zaa aa ae).f0),.slice dI ((Zaa aa ae).f1).length dJ,.slice dN ((Zaa aa ae).f2).length dO,.int .i64 ((Zaa aa ae).f3),.int .i64 0,.slice none 0 0,.int .i64 0]) ?_ 4 _ rfl;(with_reducible repeat(first|refine Zag ?_ _|refine Zai ?_|refine Zae ?_ _));refine Za4 (cs:=#[.int .i64 ((Zaa aa ae).f0),.slice dI ((Zaa aa ae).f1).length dJ,.slice dN ((Zaa aa ae).f2).length dO,.int .i64 0,.int .i64 0,.slice none 0 0,.int .i64 0]) ?_ 3 _ rfl;(with_reducible repeat(first|refine Zag ?_ _|refine Zai ?_|refine Zae ?_ _));refine Za4 (cs:=#[.int .i64 ((Zaa aa ae).f0),.slice dI ((Zaa aa ae).f1).length dJ,.slice none 0 0,.int .i64 0,.int .i64 0,.slice none 0 0,.int .i64 0]) ?_ 2 _ rfl;(with_reducible repeat(first|refine Zag ?_ _|refine Zai ?_|refine Zae ?_ _));refine Za4 (cs:=#[.int .i64 ((Zaa aa ae).f0),.slice none 0 0,.slice none 0 0,.int .i64 0,.int .i64 0,.slice none 0 0,.int .i64 0]) ?_ 1 _ rfl;(with_reducible repeat(first|refine Zag ?_ _|refine Zai ?_|refine Zae ?_ _));refine Za4 (cs:=#[.int .i64 0,.slice none 0 0,.slice none 0 0,.int .i64 0,.int .i64 0,.slice none 0 0,.int .i64 0]) ?_ 0 _ rfl;(with_reducible repeat(first|refine Zag ?_ _|refine Zai ?_|refine Zae ?_ _));exact dF.out) k_ hk_)⟩))⟩;replace aY:=Za.mk (Kd.Ze1 (sM (Kd.Ze (Kd.Zdv (p:=⟨bf,2,none⟩) (Kd.Zdv (p:=⟨bf,1,none⟩) (Kd.Zdv (p:=⟨bf,6,none⟩) (Kd.Zdv (p:=⟨bf,5,none⟩) (Kd.Zdv (p:=⟨bf,4,none⟩) (Kd.Zdv (p:=⟨bf,3,none⟩) (Kd.Zdv (p:=⟨bf,2,none⟩) (Kd.Zdv (p:=⟨bf,1,none⟩) (Kd.Zdv (p:=⟨bf,0,none⟩) (Kd.Zes aY.out dF.out (by decide)) (fun _ hk=>hk.2) (.int .i64 ((Zaa aa ae).f0))) (fun _ hk=>hk.2) (.slice dI ((Zaa aa ae).f1).length dJ)) (fun _ hk=>hk.2) (.slice dN ((Zaa aa ae).f2).length dO)) (fun _ hk=>hk.2) (.int .i64 ((Zaa aa ae).f3))) (fun _ hk=>hk.2) (.int .i64 ((Zaa aa ae).f4))) (fun _ hk=>hk.2) (.slice iM ((Zaa aa ae).f5).length iC)) (fun _ hk=>hk.2) (.int .i64 ((Zaa aa ae).f6))) (fun _ hk=>hk.2) (.slice dI (((Zaa aa ae).f1).take ((gu):Int).toNat).length dJ)) (fun _ hk=>hk.2) (.slice dN (((Zaa aa ae).f2).take ((iE):Int).toNat).length dO)) (fun _ h_=>h_.1))) hb);replace bH:=Za.mk (Kd.Zb8 (rM (Kd.Zba (Kd.Zb2 (p:=⟨bf,2,none⟩) (Kd.Zb2 (p:=⟨bf,1,none⟩) (Kd.Zb2 (p:=⟨bf,6,none⟩) (Kd.Zb2 (p:=⟨bf,5,none⟩) (Kd.Zb2 (p:=⟨bf,4,none⟩) (Kd.Zb2 (p:=⟨bf,3,none⟩) (Kd.Zb2 (p:=⟨bf,2,none⟩) (Kd.Zb2 (p:=⟨bf,1,none⟩) (Kd.Zb2 (p:=⟨bf,0,none⟩) (Kd.Zba bH.out (fun k_ hk=>(⟨hk,hk.2⟩:_∧k_≠bf))) (fun _ hk=>hk.2) (.int .i64 ((Zaa aa ae).f0))) (fun _ hk=>hk.2) (.slice dI ((Zaa aa ae).f1).length dJ)) (fun _ hk=>hk.2) (.slice dN ((Zaa aa ae).f2).length dO)) (fun _ hk=>hk.2) (.int .i64 ((Zaa aa ae).f3))) (fun _ hk=>hk.2) (.int .i64 ((Zaa aa ae).f4))) (fun _ hk=>hk.2) (.slice iM ((Zaa aa ae).f5).length iC)) (fun _ hk=>hk.2) (.int .i64 ((Zaa aa ae).f6))) (fun _ hk=>hk.2) (.slice dI (((Zaa aa ae).f1).take ((gu):Int).toNat).length dJ)) (fun _ hk=>hk.2) (.slice dN (((Zaa aa ae).f2).take ((iE):Int).toNat).length dO)) (fun _ h_=>h_.1))) hb);replace bD:=Za.mk (Zci (g:=iX) (o:= .cells #[.slice dV ag.length dL,.slice (some OV) aa.length aM,.int .i64 az,.slice bJ au.length bK,.slice bE ak.length bF] 28 (0,0)) (by(with_reducible repeat(first|exact bD.out|refine Zcu ?_ vH.out _|refine Zae ?_ _|refine Zai ?_|refine Zag ?_ _))) hb);replace bG:=Za.mk (Zci (g:=dX) (o:= .cells #[.slice none 0 0,.slice none 0 0,.int .i64 0,.slice none 0 0,.slice none 0 0] 28 (0,0)) (by(with_reducible repeat(first|exact bG.out|refine Zcu ?_ vI.out _|refine Zae ?_ _|refine Zai ?_|refine Zag ?_ _))) hb);replace aI:=Za.mk (Zci (g:=dU) (o:= .cells #[dS,iw,.int .i64 az,.slice bJ au.length bK,.slice bE ak.length bF] 28 (0,0)) (by(with_reducible repeat(first|exact aI.out|refine Zcu ?_ rP.out _|refine Zae ?_ _|refine Zai ?_|refine Zag ?_ _))) hb);replace dF:=Za.mk (Zci (g:=bf) (o:= .cells #[.int .i64 ((Zaa aa ae).f0),.slice dI (((Zaa aa ae).f1).take ((gu):Int).toNat).length dJ,.slice dN (((Zaa aa ae).f2).take ((iE):Int).toNat).length dO,.int .i64 ((Zaa aa ae).f3),.int .i64 ((Zaa aa ae).f4),.slice iM ((Zaa aa ae).f5).length iC,.int .i64 ((Zaa aa ae).f6)] 36 (0,0)) (by(with_reducible repeat(first|refine Zag ?_ _|refine Zai ?_|refine Zae ?_ _));refine Za4 (cs:=#[.int .i64 ((Zaa aa ae).f0),.slice dI (((Zaa aa ae).f1).take ((gu):Int).toNat).length dJ,.slice dN ((Zaa aa ae).f2).length dO,.int .i64 ((Zaa aa ae).f3),.int .i64 ((Zaa aa ae).f4),.slice iM ((Zaa aa ae).f5).length iC,.int .i64 ((Zaa aa ae).f6)]) ?_ 2 _ rfl;(with_reducible repeat(first|refine Zag ?_ _|refine Zai ?_|refine Zae ?_ _));refine Za4 (cs:=#[.int .i64 ((Zaa aa ae).f0),.slice dI ((Zaa aa ae).f1).length dJ,.slice dN ((Zaa aa ae).f2).length dO,.int .i64 ((Zaa aa ae).f3),.int .i64 ((Zaa aa ae).f4),.slice iM ((Zaa aa ae).f5).length iC,.int .i64 ((Zaa aa ae).f6)]) ?_ 1 _ rfl;(with_reducible repeat(first|refine Zag ?_ _|refine Zai ?_|refine Zae ?_ _));refine Za4 (cs:=#[.int .i64 ((Zaa aa ae).f0),.slice dI ((Zaa aa ae).f1).length dJ,.slice dN ((Zaa aa ae).f2).length dO,.int .i64 ((Zaa aa ae).f3),.int .i64 ((Zaa aa ae).f4),.slice iM ((Zaa aa ae).f5).length iC,.int .i64 0]) ?_ 6 _ rfl;(with_reducible repeat(first|refine Zag ?_ _|refine Zai ?_|refine Zae ?_ _));refine Za4 (cs:=#[.int .i64 ((Zaa aa ae).f0),.slice dI ((Zaa aa ae).f1).length dJ,.slice dN ((Zaa aa ae).f2).length dO,.int .i64 ((Zaa aa ae).f3),.int .i64 ((Zaa aa ae).f4),.slice none 0 0,.int .i64 0]) ?_ 5 _ rfl;(with_reducible repeat(first|refine Zag ?_ _|refine Zai ?_|refine Zae ?_ _));refine Za4 (cs:=#[.int .i64 ((Zaa aa ae).f0),.slice dI ((Zaa aa ae).f1).length dJ,.slice dN ((Zaa aa ae).f2).length dO,.int .i64 ((Zaa aa ae).f3),.int .i64 0,.slice none 0 0,.int .i64 0]) ?_ 4 _ rfl;(with_reducible repeat(first|refine Zag ?_ _|refine Zai ?_|refine Zae ?_ _));refine Za4 (cs:=#[.int .i64 ((Zaa aa ae).f0),.slice dI ((Zaa aa ae).f1).length dJ,.slice dN ((Zaa aa ae).f2).length dO,.int .i64 0,.int .i64 0,.slice none 0 0,.int .i64 0]) ?_ 3 _ rfl;(with_reducible repeat(first|refine Zag ?_ _|refine Zai ?_|refine Zae ?_ _));refine Za4 (cs:=#[.int .i64 ((Zaa aa ae).f0),.slice dI ((Zaa aa ae).f1).length dJ,.slice none 0 0,.int .i64 0,.int .i64 0,.slice none 0 0,.int .i64 0]) ?_ 2 _ rfl;(with_reducible repeat(first|refine Zag ?_ _|refine Zai ?_|refine Zae ?_ _));refine Za4 (cs:=#[.int .i64 ((Zaa aa ae).f0),.slice none 0 0,.slice none 0 0,.int .i64 0,.int .i64 0,.slice none 0 0,.int .i64 0]) ?_ 1 _ rfl;(with_reducible repeat(first|refine Zag ?_ _|refine Zai ?_|refine Zae ?_ _));refine Za4 (cs:=#[.int .i64 0,.slice none 0 0,.slice none 0 0,.int .i64 0,.int .i64 0,.slice none 0 0,.int .i64 0]) ?_ 0 _ rfl;(with_reducible repeat(first|refine Zag ?_ _|refine Zai ?_|refine Zae ?_ _));exact dF.out) hb);replace HB:=Za.mk (bS HB.out hb)
        (try clear hb)
        (try clear hb2)
        (try clear hk)
        (try clear hi)
        (try clear ho0)
        obtain⟨nS,nV,iwa⟩:=Kd.V_slice nA.out;subst iwa;obtain⟨gNa,gOa,gPa,gQa,gRa,gSa,gTa,fga,fha,fia,fja,fka,fla,fna⟩:=cz7 dF.out;try go_wp2_with (fail)
        have n0_:Za (Kd.S k55 55 (w76.setCell ⟨bf,5,none⟩ (.slice nS t167.length nV)) w.heap.size (fun _=>True) dS bv):=⟨sM (Kd.Ze (Kd.Zdv (p:=⟨bf,5,none⟩) (Kd.Zes aY.out dF.out (by decide)) (fun _ hk=>hk.2) (.slice nS t167.length nV)) (fun _ hk=>trivial))⟩;have n1_:Za (Kd.R k36 36 (w76.setCell ⟨bf,5,none⟩ (.slice nS t167.length nV)) w.heap.size (fun k_=>k_≠bf) iw bX):=⟨rM (Kd.Zba (Kd.Zb2 (p:=⟨bf,5,none⟩) (Kd.Zba bH.out (fun k_ hk=>(⟨hk,hk.2⟩:_∧k_≠bf))) (fun _ hk=>hk.2) (.slice nS t167.length nV)) (fun _ hk=>hk.1.2))⟩;have n2_:Za (Kd.V (Kd.slice 3 (Kd.int .i64)) 24 (w76.setCell ⟨bf,5,none⟩ (.slice nS t167.length nV)) w.heap.size (fun k_=>some k_≠(dS:Value).ownBlock∧some k_≠(iw:Value).ownBlock∧k_≠iX∧k_≠dX∧k_≠dU∧k_≠bf) (.slice nS t167.length nV) t167):=⟨vM (Kd.Zf (Kd.V_far (p:=⟨bf,5,none⟩) (Kd.Zf nA.out (fun k_ hk=>(⟨hk,hk.2.2.2.2.2⟩:_∧k_≠bf))) (fun _ hk=>hk.2) (.slice nS t167.length nV)) (fun _ hk=>⟨hk.1.1,⟨hk.1.2.1,⟨hk.1.2.2.1,⟨hk.1.2.2.2.1,⟨hk.1.2.2.2.2.1,hk.1.2.2.2.2.2⟩⟩⟩⟩⟩))⟩;have n3_:Za ((w76.setCell ⟨bf,5,none⟩ (.slice nS t167.length nV)).heap[iX]? =some (.cells #[.slice dV ag.length dL,.slice (some OV) aa.length aM,.int .i64 az,.slice bJ au.length bK,.slice bE ak.length bF] 28 (0,0))):=⟨by(with_reducible repeat(first|exact bD.out|refine Zcu ?_ vH.out _|refine Zae ?_ _|refine Zai ?_|refine Zag ?_ _))⟩;have n4_:Za ((w76.setCell ⟨bf,5,none⟩ (.slice nS t167.length nV)).heap[dX]? =some (.cells #[.slice none 0 0,.slice none 0 0,.int .i64 0,.slice none 0 0,.slice none 0 0] 28 (0,0))):=⟨by(with_reducible repeat(first|exact bG.out|refine Zcu ?_ vI.out _|refine Zae ?_ _|refine Zai ?_|refine Zag ?_ _))⟩;have n5_:Za ((w76.setCell ⟨bf,5,none⟩ (.slice nS t167.length nV)).heap[dU]? =some (.cells #[dS,iw,.int .i64 az,.slice bJ au.length bK,.slice bE ak.length bF] 28 (0,0))):=⟨by(with_reducible repeat(first|exact aI.out|refine Zcu ?_ rP.out _|refine Zae ?_ _|refine Zai ?_|refine Zag ?_ _))⟩;have n6_:Za ((w76.setCell ⟨bf,5,none⟩ (.slice nS t167.length nV)).heap[bf]? =some (.cells #[.int .i64 ((Zaa aa ae).f0),.slice dI (((Zaa aa ae).f1).take ((gu):Int).toNat).length dJ,.slice dN (((Zaa aa ae).f2).take ((iE):Int).toNat).length dO,.int .i64 ((Zaa aa ae).f3),.int .i64 ((Zaa aa ae).f4),.slice nS t167.length nV,.int .i64 ((Zaa aa ae).f6)] 36 (0,0))):=⟨by(with_reducible repeat(first|refine Zag ?_ _|refine Zai ?_|refine Zae ?_ _));refine Za4 (cs:=#[.int .i64 ((Zaa aa ae).f0),.slice dI (((Zaa aa ae).f1).take ((gu):Int).toNat).length dJ,.slice dN (((Zaa aa ae).f2).take ((iE):Int).toNat).length dO,.int .i64 ((Zaa aa ae).f3),.int .i64 ((Zaa aa ae).f4),.slice iM ((Zaa aa ae).f5).length iC,.int .i64 ((Zaa aa ae).f6)]) ?_ 5 _ rfl;(with_reducible repeat(first|refine Zag ?_ _|refine Zai ?_|refine Zae ?_ _));exact dF.out⟩;have n7_:Za (Below w.heap.size w (w76.setCell ⟨bf,5,none⟩ (.slice nS t167.length nV))):=⟨bM HB.out⟩
        (try clear aY)
        (try clear bH)
        (try clear nA)
        (try clear bD)
        (try clear bG)
        (try clear aI)
        (try clear dF)
        (try clear HB)
        generalize (w76.setCell ⟨bf,5,none⟩ (.slice nS t167.length nV))=w79 at n0_ n1_ n2_ n3_ n4_ n5_ n6_ n7_ ⊢
        have aY:=n0_;have bH:=n1_;have nA:=n2_;have bD:=n3_;have bG:=n4_;have aI:=n5_;have dF:=n6_;have HB:=n7_;clear n0_ n1_ n2_ n3_ n4_ n5_ n6_ n7_;replace aY:=Za.mk (Kd.S_drew aY.out);replace bH:=Za.mk (Kd.Ze7 bH.out);replace nA:=Za.mk (Kd.V_drew nA.out);replace bD:=Za.mk (Zai bD.out);replace bG:=Za.mk (Zai bG.out);replace aI:=Za.mk (Zai aI.out);replace dF:=Za.mk (Zai dF.out);replace HB:=Za.mk (Zcr HB.out);refine Ze3 (n:=8) (S:=fun w'=>w'.cell? ⟨dU,0,none⟩=some (dS)∧w'.cell? ⟨dU,1,none⟩=some (iw)∧w'.cell? ⟨dU,2,none⟩=some (.int .i64 az)∧w'.cell? ⟨dU,3,none⟩=some (.slice bJ au.length bK)∧w'.cell? ⟨dU,4,none⟩=some (.slice bE ak.length bF)∧w'.cell? ⟨bf,0,none⟩=some (.int .i64 ((Zaa aa ae).f0))∧w'.cell? ⟨bf,1,none⟩=some (.slice dI (((Zaa aa ae).f1).take ((gu):Int).toNat).length dJ)∧w'.cell? ⟨bf,2,none⟩=some (.slice dN (((Zaa aa ae).f2).take ((iE):Int).toNat).length dO)∧w'.cell? ⟨bf,3,none⟩=some (.int .i64 ((Zaa aa ae).f3))∧w'.cell? ⟨bf,4,none⟩=some (.int .i64 ((Zaa aa ae).f4))∧w'.cell? ⟨bf,5,none⟩=some (.slice nS t167.length nV)∧w'.cell? ⟨bf,6,none⟩=some (.int .i64 ((Zaa aa ae).f6))) (ds:= [7]) #[false,false,false,false,false,false,false,false] (by kernel_rfl) rfl rfl ⟨bc aI.out 0,bc aI.out 1,bc aI.out 2,bc aI.out 3,bc aI.out 4,bc dF.out 0,bc dF.out 1,bc dF.out 2,bc dF.out 3,bc dF.out 4,bc dF.out 5,bc dF.out 6⟩ (fun hHeld=> ?_);refine Zdx Zac.tab19 Zac.bits19 (fun HT_ HW_=> ?_)
        generalize w79.drew=w80 at aY bH nA bD bG aI dF HB hHeld ⊢
        refine pu HT_ 0 113 ?_;refine tk HT_ HW_ hHeld 1 114 ?_;refine tk HT_ HW_ hHeld 2 115 ?_;refine on1 HT_ 3 116 (fun K hK=> ?_);refine goes_ Tryz.func52 (by kernel_rfl) rfl #[.agg #[.int .i64 ((Zaa aa ae).f0),.slice dI (((Zaa aa ae).f1).take ((gu):Int).toNat).length dJ,.slice dN (((Zaa aa ae).f2).take ((iE):Int).toNat).length dO,.int .i64 ((Zaa aa ae).f3),.int .i64 ((Zaa aa ae).f4),.slice nS t167.length nV,.int .i64 ((Zaa aa ae).f6)]] (by rfl) rfl rfl (by(try simp only[List.map_toArray,List.map_cons,List.map_nil]);first|done|(rw[show(((Zaa aa ae).f1).take ((gu):Int).toNat).length=(gu).toNat from(by rw[List.length_take];have h_:((gu):Int)≤(((Zaa aa ae).f1).length:Int):=odt;omega),show(((Zaa aa ae).f2).take ((iE):Int).toNat).length=(iE).toNat from(by rw[List.length_take];have h_:((iE):Int)≤(((Zaa aa ae).f2).length:Int):=odt;omega)]<;>rfl)|(rw[show(((Zaa aa ae).f1).take ((gu):Int).toNat).length=(gu).toNat from(by rw[List.length_take];have h_:((gu):Int)≤(((Zaa aa ae).f1).length:Int):=odt;omega)]<;>rfl)|(rw[show(((Zaa aa ae).f2).take ((iE):Int).toNat).length=(iE).toNat from(by rw[List.length_take];have h_:((iE):Int)≤(((Zaa aa ae).f2).length:Int):=odt;omega)]<;>rfl)|(simp only[hji57,hji60];rfl)|rfl|(simp only[List.length_drop,List.length_take];rfl)) ?_
        with_reducible refine(Zcq.calls kj45 ((Zaa aa ae).f0) _ _ (((Zaa aa ae).f1).take ((gu):Int).toNat) _ _ (((Zaa aa ae).f2).take ((iE):Int).toNat) ((Zaa aa ae).f3) ((Zaa aa ae).f4) _ _ t167 ((Zaa aa ae).f6) Je t171 Dy Jf Jg Dz t182 _ ?side1 ?side2 ?side3 ?side4 ?side5 ?side6 A64.out).mono ?_
        (case side1=>repeat(first|exact(Kd.Zab cya.out HB.out)|(with_reducible refine Kd.C_alloc ?_ _)|(with_reducible refine Kd.Zbo ?_ _)|(with_reducible refine Kd.Zb3 ?_)))
        (case side2=>exact bYa.out)
        (case side3=>repeat(first|exact(Kd.Zab cza.out HB.out)|(with_reducible refine Kd.C_alloc ?_ _)|(with_reducible refine Kd.Zbo ?_ _)|(with_reducible refine Kd.Zb3 ?_)))
        (case side4=>exact caa.out)
        (case side5=>repeat(first|exact(Kd.Zfu nA.out).2.2|(with_reducible refine Kd.C_alloc ?_ _)|(with_reducible refine Kd.Zbo ?_ _)|(with_reducible refine Kd.Zb3 ?_)))
        (case side6=>exact(Kd.Zfu nA.out).2.1)
        rintro e w81 ⟨vMa,v175,vNa,rfl,ho0,ho1,ho2,hb⟩;refine⟨_,rfl,?_⟩;replace aY:=Za.mk (Kd.Ze1 (sM aY.out) hb);replace bH:=Za.mk (Kd.Zba (Kd.R_told (Kd.R_told (Kd.R_told (Kd.R_old (rM bH.out) hb) (Kd.Zc7 ho0)) (Kd.Zc7 ho1)) (Kd.Zhw ho2)) (fun _ h_=>h_.1));replace nA:=Za.mk (Kd.Zf (Kd.V_told (Kd.V_told (Kd.V_told (Kd.V_old (vM nA.out) hb) (Kd.Zc7 ho0)) (Kd.Zc7 ho1)) (Kd.Zhw ho2)) (fun _ h_=>h_.1));have Oa:=Za.mk (Kd.Zbm ho0 (Zad (bM HB.out)));have Ob:=Za.mk (Kd.Zbm ho1 (Zad (bM HB.out)));have Oc:=Za.mk (Kd.Zg1 ho2 (Zad (bM HB.out)));replace bD:=Za.mk (kB bD.out hb);replace bG:=Za.mk (kB bG.out hb);replace aI:=Za.mk (kB aI.out hb);replace dF:=Za.mk (kB dF.out hb);replace HB:=Za.mk (bS HB.out hb)
        (try clear hb)
        (try clear hb2)
        (try clear hk)
        (try clear hi)
        (try clear ho0)
        (try clear ho1)
        (try clear ho2)
        obtain⟨Sb,SE,PS⟩:=Kd.Za8 Oa.out
        (first|subst PS|(injection PS with f1_ f2_ f3_;have f4_:=f1_.symm;have f5_:=f3_.symm;clear f1_ f2_ f3_;subst f4_;subst f5_))
        obtain⟨Sc,SF,PT⟩:=Kd.Za8 Ob.out
        (first|subst PT|(injection PT with f1_ f2_ f3_;have f4_:=f1_.symm;have f5_:=f3_.symm;clear f1_ f2_ f3_;subst f4_;subst f5_))
        obtain⟨Sd,SG,PU⟩:=Kd.S_slice Oc.out
        (first|subst PU|(injection PU with f1_ f2_ f3_;have f4_:=f1_.symm;have f5_:=f3_.symm;clear f1_ f2_ f3_;subst f4_;subst f5_))
        refine hK.out _ _ ⟨bc aI.out 0,bc aI.out 1,bc aI.out 2,bc aI.out 3,bc aI.out 4,bc dF.out 0,bc dF.out 1,bc dF.out 2,bc dF.out 3,bc dF.out 4,bc dF.out 5,bc dF.out 6⟩ (fun hHeld=> ?_);clear hK K;refine nmp 116 ?_;refine on1 HT_ 4 117 (fun K hK=> ?_);refine value_ (w1:=?_) (v:=?_) (by rfl) rfl ?_ ?_;rotate_left 2
        ·go_simp
         constructor
         ·rfl
         rfl
        refine hK.out _ _ ⟨(Zap (Zae aI.out _) 0).trans rfl,(Zap (Zae aI.out _) 1).trans rfl,(Zap (Zae aI.out _) 2).trans rfl,(Zap (Zae aI.out _) 3).trans rfl,(Zap (Zae aI.out _) 4).trans rfl,(Zap (Zae dF.out _) 0).trans rfl,(Zap (Zae dF.out _) 1).trans rfl,(Zap (Zae dF.out _) 2).trans rfl,(Zap (Zae dF.out _) 3).trans rfl,(Zap (Zae dF.out _) 4).trans rfl,(Zap (Zae dF.out _) 5).trans rfl,(Zap (Zae dF.out _) 6).trans rfl⟩ (fun hHeld=> ?_);clear hK K;refine nmp 117 ?_;refine on1 HT_ 5 118 (fun K hK=> ?_);refine Kd.Ze5 k36 (w0:=w) w.heap.size (by rfl) (.tmp 114) (.tmp 117) 23 36 (.agg #[(.int .i64 0),(.slice none 0 0),(.slice none 0 0),(.int .i64 0),(.int .i64 0),(.slice none 0 0),(.int .i64 0)]) 104 rfl Tryz.underlying23 info36 rfl (by decide) (by omega) iw bX (⟨Je,t171,Dy,Jf,Jg,Dz,t182⟩:S36) [.int .i64 Je,.slice Sb t171.length SE,.slice Sc Dy.length SF,.int .i64 Jf,.int .i64 Jg,.slice Sd Dz.length SG,.int .i64 t182] (fun k_=>k_≠bf) (fun k_=>((fun k_=>k_≠bf)) k_∧some k_≠(iw:Value).ownBlock) rfl rfl ?aP (fun _ hk=>hk) ?aF ?aO ?aB ?aS ?aL ?_
        (case aP=>exact k36_mkM _ _ _ (⟨Je,t171,Dy,Jf,Jg,Dz,t182⟩:S36) (Kd.Zba (Kd.Zcg (Kd.Zdp (Oa.out) (Kd.Zei bH.out) (by decide)) dF.out (by decide)) (fun k_ hk=>⟨hk.2,hk.1.2⟩)) (Kd.Zba (Kd.Zcg (Kd.Zdp (Ob.out) (Kd.Zei bH.out) (by decide)) dF.out (by decide)) (fun k_ hk=>⟨hk.2,hk.1.2⟩)) (Kd.Zba (Kd.Zcg (Kd.Zdp ((Kd.S_R Oc.out)) (Kd.Zei bH.out) (by decide)) dF.out (by decide)) (fun k_ hk=>⟨hk.2,hk.1.2⟩)))
        (case aB=>exact(bM HB.out))
        (case aF=>exact(fun k_ hk=>Kd.freshB (kM dF.out) k_ hk))
        (case aO=>exact(rM (Kd.Zba bH.out (fun _ hk=>hk.1.1.1))))
        (case aS=>exact(Zad (bM HB.out)))
        (case aL=>have:=c5a.out;omega)
        intro vOa w82 ho hb hg hat;rw[←cGa.out]at ho;replace aY:=Za.mk (Kd.S_over' (sM aY.out) (Kd.Zei (rM bH.out)) (by decide) hg);replace bD:=Za.mk (kG bD.out hg (Kd.R_ne bH.out bD.out (by decide)));replace bG:=Za.mk (kG bG.out hg (Kd.R_ne bH.out bG.out (by decide)));replace aI:=Za.mk (kG aI.out hg (Kd.R_ne bH.out aI.out (by decide)));replace dF:=Za.mk (kG dF.out hg (Kd.R_away bH.out (fun _ hk=>hk.1.1.1)));replace nA:=Za.mk (Kd.V_afterv (ok:=(fun k_=>some k_≠(dS:Value).ownBlock∧some k_≠(.slice Sb t171.length SE:Value).ownBlock∧some k_≠(.slice Sc Dy.length SF:Value).ownBlock∧some k_≠(.slice Sd Dz.length SG:Value).ownBlock∧k_≠iX∧k_≠dX∧k_≠dU∧k_≠bf)) (vM (Kd.Zf nA.out (fun _ hk=>⟨⟨hk.1.1.1.1,⟨hk.1.1.2,⟨hk.1.2,⟨hk.2,⟨hk.1.1.1.2.2.1,⟨hk.1.1.1.2.2.2.1,⟨hk.1.1.1.2.2.2.2.1,hk.1.1.1.2.2.2.2.2⟩⟩⟩⟩⟩⟩⟩,hk.1.1.1.2.1⟩))) hg hat);replace HB:=Za.mk (hb);have Vf:=Za.mk (ho);clear bH Oa Ob Oc ho hb hg hat;obtain⟨Sg,SH,a1a⟩:=Kd.Za8 Vf.out
        (first|subst a1a|(injection a1a with f1_ f2_ f3_;have f4_:=f1_.symm;have f5_:=f3_.symm;clear f1_ f2_ f3_;subst f4_;subst f5_))
        refine hK.out _ _ ⟨bc aI.out 0,bc aI.out 1,bc aI.out 2,bc aI.out 3,bc aI.out 4,bc dF.out 0,bc dF.out 1,bc dF.out 2,bc dF.out 3,bc dF.out 4,bc dF.out 5,bc dF.out 6⟩ (fun hHeld=> ?_);clear hK K;refine nmp 118 ?_;refine pu HT_ 6 119 ?_;refine last_ (i:=7) (N:=none) #[true,true,true,true,true,true,true,true] rfl rfl (Zh5 HT_.out (by kernel_rfl)) (by decide) (fun K hK=> ?_);have hs87:w82.cell? ⟨dU,1,none⟩=some (iw):=(Zap aI.out 1).trans rfl;have hfs87:=Za2 aI.out 1;have hns87_0:=ig.out;have hns87_1:=jV.out;have hns87_3:=Jw.out;have hms87_0:=j4.out;have hms87_1:=vJ.out;have hms87_3:=rP.out;refine skip_ (w1:=?_) (by rfl) rfl ?_ ?_;rotate_left
        ·go_simp
         rfl
        refine hK.out _ _ ?_;clear hK K;refine Zgh (Zep HT_.out (by kernel_rfl)) ?_;try go_wp2
        go_roundg kj45
        case measure=>have:=HJ1.out;have:=HK2.out;have:=HJ45.out;omega
        case rel=>exact⟨(wrap64 (ae+1)),(Ma),(.slice Sg Ma.length SH),eS,H',⟨by have:=HJ1.out;have:=HK2.out;have:=HJ45.out;omega⟩,⟨sM (Kd.Ze (Kd.Zdv (p:=⟨dU,1,none⟩) (Kd.Zes aY.out aI.out (by decide)) (fun _ hk=>hk.2) (.slice Sg Ma.length SH)) (fun _ hk=>trivial))⟩,⟨rM (Kd.Zba (Kd.Zb2 (p:=⟨dU,1,none⟩) (Kd.Zcg Vf.out aI.out (by decide)) (fun _ hk=>hk.2) (.slice Sg Ma.length SH)) (fun _ hk=>trivial))⟩,⟨by(with_reducible repeat(first|exact bD.out|refine Zcu ?_ ig.out _|refine Zae ?_ _|refine Zai ?_|refine Zag ?_ _))⟩,⟨by(with_reducible repeat(first|exact bG.out|refine Zcu ?_ jV.out _|refine Zae ?_ _|refine Zai ?_|refine Zag ?_ _))⟩,⟨by(with_reducible repeat(first|refine Zag ?_ _|refine Zai ?_|refine Zae ?_ _));refine Za4 (cs:=#[dS,iw,.int .i64 az,.slice bJ au.length bK,.slice bE ak.length bF]) ?_ 1 _ rfl;(with_reducible repeat(first|refine Zag ?_ _|refine Zai ?_|refine Zae ?_ _));exact aI.out⟩,⟨bM HB.out⟩⟩
end Go.Proofs.YtdpieallpbllkaaGreat.P
/- A model no larger than a statement can hold, in plain words. -/
namespace Go.Proofs.YtdpieallpbllkaaGreat.P
open Go.RowKit Go.Proofs.YtdpieallpbllkaaGreatW.PrintWords Go.Proofs.YtdpieallpbllkaaGreatW.PrintLast Go.Proofs.YtdpieallpbllkaaGreatW.PrintMore
theorem Zhb (a:Nat) (b:Int) (c:Nat) (h:b=c):mn (a:Int) b=((min a c:Nat):Int):=by
  subst h;unfold mn
  split<;>omega
theorem Zhc {α:Type} (l:List α) (b:Int) (c:Nat) (h:b=c):l.take (mn (l.length:Int) b).toNat=l.take c:=by
  rw[Zhb _ _ _ h,Int.toNat_natCast];by_cases q:l.length≤c;rotate_left
  · rw[Nat.min_eq_right (by omega)]
  rw[Nat.min_eq_left q,List.take_length,List.take_of_length_le q]
theorem Zfo (l : List (List Int)) (hl : l.length ≤ 1000000) (hr : ∀ r ∈ l, r.length ≤ 1000000) : ∀ (d n : Nat) (acc : List (List Int)), n + d = l.length → acc.length ≤ n → Ev (fun k => Zbl.l0 k l acc (n : Int)) (acc ++ l.drop n)
  |0,n,acc,h,ha=>by
    obtain rfl:n=l.length:=by omega
    rw[List.drop_length,List.append_nil];exact Ev.step (G:=fun _=>some acc) (fun k=>by rw[Zbl.l0,if_neg (by omega)]) (Ev.const rfl)
  |d+1,n,acc,h,ha=>by
    have hn:n<l.length:=by omega
    have hw:wrap64 ((n:Int)+1)=((n+1:Nat):Int):=w1 (by omega);have hrd:Zco l (n:Int)=l[n]:=by simp[Zco,List.getD_eq_getElem?_getD,List.getElem?_eq_getElem hn]
    have hq:=hr _ (List.getElem_mem hn);have ih:=Zfo l hl hr d (n+1) (acc++ [l[n]]) (by omega) (by simp;omega);rw[List.append_assoc,List.singleton_append,←List.drop_eq_getElem_cons hn]at ih;refine Ev.step (fun k=>by rw[Zbl.l0,if_pos (by omega),hrd]) (Ev.bind (a:=([]:List Int)) (Ev.const rfl) ?_);rw[hw,List.nil_append];refine Ev.Zas (Int.natCast_nonneg n) ?_;refine Ev.Zas ?_ ?_
    · show 0 + l[n].length < _
      omega
    refine Ev.Zas ?_ ih
    omega
theorem ref_nums4 (l:List (List Int)) (hl:l.length≤1000000) (hr:∀r ∈ l,r.length≤1000000):Ev (fun k=>Zbl.f k l) l:=Zfo l hl hr l.length 0 [] (by omega) (by simp)
theorem ref_own4 (a0:Int) (l1 l2:List Int) (a3 a4:Int) (l5:List (List Int)) (a6:Int) (h1:l1.length≤1000000) (h2:l2.length≤1000000) (hl:l5.length≤1000000) (hr:∀r ∈ l5,r.length≤1000000):Ev (fun k=>Zcq.f k a0 l1 l2 a3 a4 l5 a6) (a0,l1,l2,a3,a4,l5,a6):=by
  unfold Zcq.f;refine Ev.bind (a:=([]:List Int)) (Ev.const rfl) (Ev.Zas (by simp;omega) (Ev.bind (a:=([]:List Int)) (Ev.const rfl) (Ev.Zas (by simp;omega) (Ev.bind (ref_nums4 l5 hl hr) (Ev.const ?_)))))
  simp
def bV1 (v:S55):S55:=⟨v.f0.extract 0 (min v.f0.size 20),v.f1.take 12⟩
def bC1 (c:S36):S36:=⟨c.f0,c.f1.take 14,c.f2.take 14,c.f3,c.f4,cutR c.f5,c.f6⟩
def bV (l:List S55):List S55:=(l.take 10).map bV1
def bC (l:List S36):List S36:=(l.take 16).map bC1
theorem cutR_len (l:List (List Int)):(cutR l).length≤20:=by
  unfold cutR;rw[List.length_map,List.length_take]
  omega
theorem cutR_row (l:List (List Int)):∀r ∈ cutR l,r.length≤14:=by
  intro r hr;unfold cutR at hr;obtain⟨x,_,rfl⟩:=List.mem_map.1 hr;rw[List.length_take]
  omega
section
variable (vars:List S55) (cons:List S36) (gk:Int) (gv gc:List Int) (V:List S55)
theorem bound_end (x:Int) (acc:List S36):Ev (fun k=>Zac.j3 k x false vars cons gk gv gc V acc gk gv gc) (V,acc,gk,gv.take 14,gc.take 14):=by
  have e1:=Zhc gv 14 14 rfl;have e2:=Zhc gc 14 14 rfl;have m1:=Zhb gv.length 14 14 rfl;have m2:=Zhb gc.length 14 14 rfl;refine Ev.step (fun k=>by rw[Zac.j3,if_neg (by simp)]) ?_;rw[e1,e2];refine Ev.bind (a:=([]:List Int)) (Ev.const rfl) (Ev.Zas (by omega) (Ev.Zas (by omega) (Ev.Zas (by simp[List.length_take];omega) ?_)));refine Ev.bind (a:=([]:List Int)) (Ev.const rfl) (Ev.Zas (by omega) (Ev.Zas (by omega) (Ev.Zas (by simp[List.length_take];omega) (Ev.const rfl))))
theorem bound_l1 : ∀ (d n : Nat) (acc : List S36), n + d = min 16 cons.length → acc.length ≤ n → Ev (fun k => Zac.l1 k (n : Int) vars cons gk gv gc V acc gk gv gc) (V, acc ++ ((cons.take 16).drop n).map bC1, gk, gv.take 14, gc.take 14)
  |0,n,acc,h,ha=>by
    have e:(cons.take 16).drop n= []:=List.drop_eq_nil_of_le (by rw[List.length_take];omega);rw[e,List.map_nil,List.append_nil];by_cases q:n<cons.length;rotate_left
    · exact Ev.step (fun k=>by rw[Zac.l1,if_neg (by omega)]) (bound_end vars cons gk gv gc V _ _)
    have d1:decide ((n:Int)<16)=false:=decide_eq_false (by omega);exact Ev.step (fun k=>by rw[Zac.l1,if_pos (by omega),d1]) (bound_end vars cons gk gv gc V _ _)
  |d+1,n,acc,h,ha=>by
    have hn:n<cons.length:=by omega
    have h16:n<16:=by omega
    have d1:decide ((n:Int)<16)=true:=decide_eq_true (by omega);have hw:wrap64 ((n:Int)+1)=((n+1:Nat):Int):=w1 (by omega);have hrd:Zaa cons (n:Int)=cons[n]:=by simp[Zaa,List.getD_eq_getElem?_getD,List.getElem?_eq_getElem hn]
    have ih:=bound_l1 d (n+1) (acc++ [bC1 cons[n]]) (by omega) (by simp;omega)
    have hd:(cons.take 16).drop n=cons[n]::(cons.take 16).drop (n+1):=by
      rw[List.drop_eq_getElem_cons (by rw[List.length_take];omega),List.getElem_take]
    rw[hd,List.map_cons];rw[List.append_assoc,List.singleton_append]at ih;have m1:=Zhb cons[n].f1.length 14 14 rfl;have m2:=Zhb cons[n].f2.length 14 14 rfl;refine Ev.step (fun k=>by rw[Zac.l1,if_pos (by omega),d1]) (Ev.step (fun k=>by rw[Zac.j3,if_pos rfl,hrd]) ?_);rw[Zhc cons[n].f1 14 14 rfl,Zhc cons[n].f2 14 14 rfl];refine Ev.Zas (by omega) (Ev.Zas (by omega) (Ev.Zas (by omega) (Ev.Zas (by omega) (Ev.Zas (by omega) (Ev.Zas (by omega) ?_)))));refine Ev.bind (a:=cutR cons[n].f5) (Ev.const rfl) (Ev.bind (ref_own4 _ _ _ _ _ _ _ (by rw[List.length_take];omega) (by rw[List.length_take];omega) (by have:=cutR_len cons[n].f5;omega) (fun r hr=>by have:=cutR_row _ r hr;omega)) (Ev.Zas (by omega) ?_));rw[hw];exact ih
theorem bound_j1:Ev (fun k=>Zac.j1 k vars cons gk gv gc V gk gv gc) (V,bC cons,gk,gv.take 14,gc.take 14):=
  Ev.step (fun k=>by rw[Zac.j1];rfl) (bound_l1 vars cons gk gv gc V (min 16 cons.length) 0 [] (by omega) (by simp))
end
theorem bound_l0 (vars : List S55) (cons : List S36) (gk : Int) (gv gc : List Int) : ∀ (d n : Nat) (acc : List S55), n + d = min 10 vars.length → acc.length ≤ n → Ev (fun k => Zac.l0 k (n : Int) vars cons gk gv gc acc gk gv gc) (acc ++ ((vars.take 10).drop n).map bV1, bC cons, gk, gv.take 14, gc.take 14)
  |0,n,acc,h,ha=>by
    have e:(vars.take 10).drop n= []:=List.drop_eq_nil_of_le (by rw[List.length_take];omega);rw[e,List.map_nil,List.append_nil];by_cases q:n<vars.length;rotate_left
    · exact Ev.step (fun k=>by rw[Zac.l0,if_neg (by omega)]) (bound_j1 vars cons gk gv gc _)
    exact Ev.step (fun k=>by rw[Zac.l0,if_pos (by omega),if_neg (by omega)]) (bound_j1 vars cons gk gv gc _)
  |d+1,n,acc,h,ha=>by
    have hn:n<vars.length:=by omega
    have hw:wrap64 ((n:Int)+1)=((n+1:Nat):Int):=w1 (by omega);have hrd:Za9 vars (n:Int)=vars[n]:=by simp[Za9,List.getD_eq_getElem?_getD,List.getElem?_eq_getElem hn]
    have ih:=bound_l0 vars cons gk gv gc d (n+1) (acc++ [bV1 vars[n]]) (by omega) (by simp;omega)
    have hd:(vars.take 10).drop n=vars[n]::(vars.take 10).drop (n+1):=by
      rw[List.drop_eq_getElem_cons (by rw[List.length_take];omega),List.getElem_take]
    rw[hd,List.map_cons];rw[List.append_assoc,List.singleton_append]at ih;have m1:=Zhb vars[n].f0.size 20 20 rfl;have m2:=Zhb vars[n].f1.length 12 12 rfl;refine Ev.step (fun k=>by rw[Zac.l0,if_pos (by omega),if_pos (by omega),hrd]) ?_;rw[Zhc vars[n].f1 12 12 rfl];refine Ev.Zas (by omega) (Ev.Zas (by omega) (Ev.Zas (by omega) ?_));refine Ev.bind (a:=([]:List S82)) (Ev.const rfl) (Ev.Zas (by omega) (Ev.Zas (by omega) (Ev.bind (a:=vars[n].f1.take 12) (Ev.const rfl) (Ev.Zas (by simp[List.length_take];omega) (Ev.Zas (by omega) ?_)))));rw[hw,m1,Int.toNat_natCast,List.nil_append];exact ih
theorem bound_ev (vars:List S55) (cons:List S36) (gk:Int) (gv gc:List Int):Ev (fun k=>Zac.f k vars cons gk gv gc) (bV vars,bC cons,gk,gv.take 14,gc.take 14):=bound_l0 vars cons gk gv gc (min 10 vars.length) 0 [] (by omega) (by simp)
end Go.Proofs.YtdpieallpbllkaaGreat.P
/- What comes in, within its bounds: what Bound makes of it is small. -/
namespace Go.Proofs.YtdpieallpbllkaaGreat.P
open Go.RowKit Go.Proofs.YtdpieallpbllkaaGreatW.PrintWords Go.Proofs.YtdpieallpbllkaaGreatW.PrintLast Go.Proofs.YtdpieallpbllkaaGreatW.PrintMore
def VarOk (v:S55):Prop:=ByteArray.size v.f0≤maxLen∧(List.length v.f1*16≤140737488351232∧∀y2_ ∈ v.f1,((Lit.int .i64 (y2_).f0).wf=true∧(Lit.int .i64 (y2_).f1).wf=true))
def ConOk (c:S36):Prop:=(Lit.int .i64 c.f0).wf=true∧(List.length c.f1*8≤140737488351232∧∀y2_ ∈ c.f1,(Lit.int .i64 y2_).wf=true)∧(List.length c.f2*8≤140737488351232∧∀y2_ ∈ c.f2,(Lit.int .i64 y2_).wf=true)∧(Lit.int .i64 c.f3).wf=true∧(Lit.int .i64 c.f4).wf=true∧(List.length c.f5*24≤140737488351232∧∀y2_ ∈ c.f5,(List.length y2_*8≤140737488351232∧∀y3_ ∈ y2_,(Lit.int .i64 y3_).wf=true))∧(Lit.int .i64 c.f6).wf=true
theorem bV_mem {vars:List S55} {v:S55} (h:v ∈ bV vars):∃x ∈ vars,v=bV1 x:=by
  obtain⟨x,hx,e⟩:=List.mem_map.1 h;exact⟨x,List.mem_of_mem_take hx,e.symm⟩
theorem bC_mem {cons:List S36} {c:S36} (h:c ∈ bC cons):∃x ∈ cons,c=bC1 x:=by
  obtain⟨x,hx,e⟩:=List.mem_map.1 h;exact⟨x,List.mem_of_mem_take hx,e.symm⟩
theorem bV_length (vars:List S55):(bV vars).length≤10:=by
  unfold bV;rw[List.length_map,List.length_take]
  omega
theorem bC_length (cons:List S36):(bC cons).length≤16:=by
  unfold bC;rw[List.length_map,List.length_take]
  omega
theorem bV_dom {vars:List S55} :∀v ∈ bV vars,v.f1.length≤12:=by
  intro v h;obtain⟨x,_,rfl⟩:=bV_mem h
  show(x.f1.take 12).length≤12
  rw[List.length_take]
  omega
theorem bC_small {cons:List S36} :∀c ∈ bC cons,c.f1.length≤14∧c.f2.length≤14∧c.f5.length≤20∧∀r ∈ c.f5,r.length≤14:=by
  intro c h;obtain⟨x,_,rfl⟩:=bC_mem h;exact⟨by show(x.f1.take 14).length≤14;rw[List.length_take];omega,by show(x.f2.take 14).length≤14;rw[List.length_take];omega,cutR_len x.f5,cutR_row x.f5⟩
theorem okC_bC {cons:List S36} (h:∀c ∈ cons,ConOk c):∀c ∈ bC cons,okC c:=by
  intro c hc;obtain⟨s1,s2,_,_⟩:=bC_small c hc;obtain⟨x,hx,rfl⟩:=bC_mem hc;obtain⟨_,_,⟨_,h2⟩,_,h4,_,_⟩:=h x hx;exact⟨by omega,by omega,fun y hy=>(wf64 (h2 y (List.mem_of_mem_take hy))).1,(wf64 h4).1⟩
theorem bV_dom6 {vars:List S55} :∀v ∈ bV vars,v.f1.length≤1000000:=fun v h=>by have:=bV_dom v h;omega
theorem take14 (l:List Int):(l.take 14).length≤1000000:=by rw[List.length_take];omega
theorem take14w {l:List Int} (h:∀y ∈ l,(Lit.int .i64 y).wf=true):∀c ∈ l.take 14,-9223372036854775808≤c:=fun y hy=>(wf64 (h y (List.mem_of_mem_take hy))).1
end Go.Proofs.YtdpieallpbllkaaGreat.P
namespace Go.Proofs.YtdpieallpbllkaaGreat.P
open Go.RowKit Go.Proofs.YtdpieallpbllkaaGreatW.PrintWords Go.Proofs.YtdpieallpbllkaaGreatW.PrintLast Go.Proofs.YtdpieallpbllkaaGreatW.PrintMore
attribute [local go_sem] Zcv Zcx Zdi Zdj Zcm Zcn Zcw Zcy
def Zdk.f (k:Nat) (ay:Int) (aa:List Int) (aj:List Int) (aW:Int) (bi:Int) (aA:List (List Int)) (bg:Int):Option (List Int):=(some (([]:List Int):List Int)).bind fun su=>(if su.length+aa.length<17592186044416 then((some (su++aa:List Int)).bind fun lH=>(if ay=4 then(if lH.length<17592186044416 then((Zaj.f k (lH++ [bg])).bind fun uR=>(some uR))else(none))else((Zaj.f k lH).bind fun zn=>(some zn))))else(none))
set_option maxRecDepth 100000 in
theorem Zdk.calls (k : Nat) (ay : Int) (aQ : Option Addr) (aM : Nat) (aa : List Int) (bN : Option Addr) (bP : Nat) (aj : List Int) (aW : Int) (bi : Int) (dD : Option Addr) (dC : Nat) (aA : List (List Int)) (bg : Int) (r : List Int) (w : World) (dB : Kd.C (Kd.int .i64) w aQ aa.length aa) (dA : aa.length ≤ aM) (fH : Kd.C (Kd.int .i64) w bN aj.length aj) (fG : aj.length ≤ bP) (iq : Kd.C (Kd.slice 3 (Kd.int .i64)) w dD aA.length aA) (il : aA.length ≤ dC) (h : Zdk.f k ay aa aj aW bi aA bg = some r) :
  Calls Tryz.prog 74 #[.agg #[.int .i64 ay,.slice aQ aa.length aM,.slice bN aj.length bP,.int .i64 aW,.int .i64 bi,.slice dD aA.length dC,.int .i64 bg]] w fun e w'=>∃v0_:Value,e= .returned (v0_)∧Kd.R (Kd.int .i64) 3 w' w.heap.size (fun _=>True) v0_ r∧Below w.heap.size w w':=by
 have hu36:=Tryz.underlying36;have dM:=Za.mk dB;have eH:=Za.mk dA;clear dB dA;have fo:=Za.mk fH;have jf:=Za.mk fG;clear fH fG;have jg:=Za.mk iq;have o5:=Za.mk il;clear iq il;have HB:=Za.mk (Below.refl w.heap.size w);have H:((some (([]:List Int):List Int)).bind fun su=>(if su.length+aa.length<17592186044416 then((some (su++aa:List Int)).bind fun lH=>(if ay=4 then(if lH.length<17592186044416 then((Zaj.f k (lH++ [bg])).bind fun uR=>(some uR))else(none))else((Zaj.f k lH).bind fun zn=>(some zn))))else(none)))=some r:=h;clear h;obtain⟨su,FQ⟩:∃y_:List Int,y_=(([]:List Int)):=⟨_,rfl⟩;replace H:(if su.length+aa.length<17592186044416 then((some (su++aa:List Int)).bind fun lH=>(if ay=4 then(if lH.length<17592186044416 then((Zaj.f k (lH++ [bg])).bind fun uR=>(some uR))else(none))else((Zaj.f k lH).bind fun zn=>(some zn))))else(none))=some r:=by first|(rw[FQ];with_reducible exact H)|(have H2_:=(Option.bind_some _ _).symm.trans H;rw[FQ];with_reducible exact H2_)|(have H2_:=(Option.bind_some _ _).symm.trans H;with_reducible exact H2_)|with_reducible exact H|(rw[FQ];exact H)|exact H
 have J9:=Za.mk FQ;clear FQ;by_cases c2:su.length+aa.length<17592186044416
 case neg=>
  rw[if_neg c2]at H;exact absurd H (by simp)
 rw[if_pos c2]at H;have OJ:=Za.mk c2;clear c2;obtain⟨lH,FR⟩:∃y_:List Int,y_=(su++aa):=⟨_,rfl⟩;replace H:(if ay=4 then(if lH.length<17592186044416 then((Zaj.f k (lH++ [bg])).bind fun uR=>(some uR))else(none))else((Zaj.f k lH).bind fun zn=>(some zn)))=some r:=by first|(rw[FR];with_reducible exact H)|(have H2_:=(Option.bind_some _ _).symm.trans H;rw[FR];with_reducible exact H2_)|(have H2_:=(Option.bind_some _ _).symm.trans H;with_reducible exact H2_)|with_reducible exact H|(rw[FR];exact H)|exact H
 have Vu:=Za.mk FR;clear FR;by_cases c3:ay=4
 case neg=>
  rw[if_neg c3]at H;have eB:(ay==4)=false:=beq_eq_false_iff_ne.mpr c3;have iY:(ay !=4)=true:=bne_iff_ne.mpr c3;obtain⟨zn,A15,H⟩:=bnd H;try dsimp only at H
  obtain rfl:=sj H;go_enter Tryz.func74,Tryz.ntmps74
  go_wp2_with (first|((with_reducible refine Zao (N:=1) rfl ?_);refine bx 1 #[.int .i64 ay,.slice aQ aa.length aM,.slice bN aj.length bP,.int .i64 aW,.int .i64 bi,.slice dD aA.length dC,.int .i64 bg] 36 ?_;intro PV hg w16 hbox hb;have jM:=Za.mk (hbox);have bRa:=Za.mk ((gE hg HB.out:w.heap.size≤PV));replace HB:=Za.mk (bS HB.out hb);clear hb hbox hg)|((with_reducible refine Zao (N:=4) rfl ?_);refine Kd.Zdg (Kd.int .i64) _ 3 ?hg (N:=4) ?hd (xs:=([]:List Int)) (inner:= []) (ok:=fun _=>True) (okp:=fun _=>True) ?hr ?hp (fun _ hk=>hk) trivial (Below.refl _ _) (Nat.le_refl _) (by simp) ?_;(case hd=>rfl);(case hg=>rfl);(case hr=>first|(go_simp;done)|(go_simp;rfl));(case hp=>exact(Reps.none _ _));intro UG w17 pM hb hg_ hnew_;clear hg_ hnew_;(first|rw[←J9.out]at pM|(simp only[Int.reduceToNat]at pM;rw[←J9.out]at pM));have yO:=Za.mk (Kd.Zbm pM (Zad (bM HB.out)));replace jM:=Za.mk (kB jM.out hb);replace HB:=Za.mk (bS HB.out hb);clear hb pM;obtain⟨Rc,Re,Rf,Rh,Ri,fLa,fMa,Qz,Q0,Q8,Q9,QA,efa,ega⟩:=cz7 jM.out)|((with_reducible refine Zbu (b:= .append) (xs:=#[.tmp 4,.tmp 6]) rfl ?_);at_builtin;refine Kd.Zdf (Kd.int .i64) (w0:=w) w.heap.size rfl (.tmp 4) (.tmp 6) 24 3 (.int .i64 0) 8 rfl Tryz.underlying24 info3 rfl (by decide) (by omega) UG su aa _ _ _ (fun _=>True) (fun _=>False) rfl rfl ?aO ?aR (fun _ _ h=>h) (fun _ h=>h.elim) ?aF ?aB ?aS ?aL ?_;(case aR=>repeat(first|exact(Kd.Zab dM.out HB.out)|(with_reducible refine Kd.C_alloc ?_ _)|(with_reducible refine Kd.Zbo ?_ _)|(with_reducible refine Kd.Zb3 ?_)));(case aB=>exact(bM HB.out));(case aF=>exact(fun _ _=>trivial));(case aO=>exact(rM yO.out));(case aS=>exact(Zad (bM HB.out)));(case aL=>have:=OJ.out;omega);intro bra w20 ho hb hg hat;rw[←Vu.out]at ho;replace jM:=Za.mk (kG jM.out hg (Kd.R_ne yO.out jM.out (by decide)));replace HB:=Za.mk (hb);have vC:=Za.mk (ho);clear yO;clear ho hb hg hat;obtain⟨Kv,Kw,Xp,Xq,Xr,Xt,Xu,Kh,Ki,WB,WC,WE,WF,WG⟩:=cz7 jM.out;obtain⟨ma,mf,rT⟩:=Kd.Za8 vC.out;subst rT)|((with_reducible refine Zak (f:=43) rfl ?_);refine gl 17 Tryz.func43 #[.slice ma lH.length mf] ?_;(with_reducible refine(Zaj.calls k _ _ lH zn _ (cM ((Kd.Zah vC.out).2.2)) ((Kd.Zah vC.out).2.1) A15.out).mono ?_);rintro e w23 ⟨vUa,rfl,ho0,hb⟩;refine⟨_,rfl,?_⟩;have cja:=Za.mk (Kd.Zbm (Kd.Zeu ho0 (Kd.R_lt (rM vC.out))) (Zad (bM HB.out)));replace HB:=Za.mk (bS HB.out hb);clear vC jM;(try clear hb);(try clear hb2);(try clear hk);(try clear hi);(try clear ho0)))
  go_ret;exact⟨_,eR,rM (Kd.Zba cja.out (fun _ hk=>trivial)),bM HB.out⟩
 rw[if_pos c3]at H;have eB:(ay==4)=true:=beq_iff_eq.mpr c3;have iY:(ay !=4)=false:=bne_eq_false_iff_eq.mpr c3;clear c3;obtain⟨c4,H⟩:=ifP H;have hGa:=Za.mk c4;clear c4;obtain⟨UM,FT⟩:∃y_:List Int,y_=(lH++ [bg]):=⟨_,rfl⟩;replace H:((Zaj.f k UM).bind fun uR=>(some uR))=some r:=by first|(rw[FT];with_reducible exact H)|(have H2_:=(Option.bind_some _ _).symm.trans H;rw[FT];with_reducible exact H2_)|(have H2_:=(Option.bind_some _ _).symm.trans H;with_reducible exact H2_)|with_reducible exact H|(rw[FT];exact H)|exact H
 have cKa:=Za.mk FT;clear FT;obtain⟨uR,A5,H⟩:=bnd H;try dsimp only at H
 obtain rfl:=sj H;go_enter Tryz.func74,Tryz.ntmps74
 go_wp2_with (first|((with_reducible refine Zao (N:=1) rfl ?_);refine bx 1 #[.int .i64 ay,.slice aQ aa.length aM,.slice bN aj.length bP,.int .i64 aW,.int .i64 bi,.slice dD aA.length dC,.int .i64 bg] 36 ?_;intro PV hg w6 hbox hb;have jM:=Za.mk (hbox);have bRa:=Za.mk ((gE hg HB.out:w.heap.size≤PV));replace HB:=Za.mk (bS HB.out hb);clear hb hbox hg)|((with_reducible refine Zao (N:=4) rfl ?_);refine Kd.Zdg (Kd.int .i64) _ 3 ?hg (N:=4) ?hd (xs:=([]:List Int)) (inner:= []) (ok:=fun _=>True) (okp:=fun _=>True) ?hr ?hp (fun _ hk=>hk) trivial (Below.refl _ _) (Nat.le_refl _) (by simp) ?_;(case hd=>rfl);(case hg=>rfl);(case hr=>first|(go_simp;done)|(go_simp;rfl));(case hp=>exact(Reps.none _ _));intro UG w7 ho8 hb hg_ hnew_;clear hg_ hnew_;(first|rw[←J9.out]at ho8|(simp only[Int.reduceToNat]at ho8;rw[←J9.out]at ho8));have yO:=Za.mk (Kd.Zbm ho8 (Zad (bM HB.out)));replace jM:=Za.mk (kB jM.out hb);replace HB:=Za.mk (bS HB.out hb);clear hb ho8;obtain⟨Ej,El,Em,Mk,Ml,Mm,Mo,Ec,Ed,Ee,Mg,Mh,Mi,Mj⟩:=cz7 jM.out)|((with_reducible refine Zbu (b:= .append) (xs:=#[.tmp 4,.tmp 6]) rfl ?_);at_builtin;refine Kd.Zdf (Kd.int .i64) (w0:=w) w.heap.size rfl (.tmp 4) (.tmp 6) 24 3 (.int .i64 0) 8 rfl Tryz.underlying24 info3 rfl (by decide) (by omega) UG su aa _ _ _ (fun _=>True) (fun _=>False) rfl rfl ?aO ?aR (fun _ _ h=>h) (fun _ h=>h.elim) ?aF ?aB ?aS ?aL ?_;(case aR=>repeat(first|exact(Kd.Zab dM.out HB.out)|(with_reducible refine Kd.C_alloc ?_ _)|(with_reducible refine Kd.Zbo ?_ _)|(with_reducible refine Kd.Zb3 ?_)));(case aB=>exact(bM HB.out));(case aF=>exact(fun _ _=>trivial));(case aO=>exact(rM yO.out));(case aS=>exact(Zad (bM HB.out)));(case aL=>have:=OJ.out;omega);intro bra w10 ho hb hg hat;rw[←Vu.out]at ho;replace jM:=Za.mk (kG jM.out hg (Kd.R_ne yO.out jM.out (by decide)));replace HB:=Za.mk (hb);have vC:=Za.mk (ho);clear yO;clear ho hb hg hat;obtain⟨Hy,Hz,Kr,QW,QX,fBa,fCa,GQ,GR,Kb,Qt,Qu,dUa,dVa⟩:=cz7 jM.out)|((with_reducible refine Zbu (b:= .append) (xs:=#[.tmp 11,.tmp 14]) rfl ?_);at_builtin;refine Kd.Zc5 (Kd.int .i64) (w0:=w) w.heap.size rfl (.tmp 11) (.tmp 14) 24 3 (.int .i64 0) 8 rfl Tryz.underlying24 info3 rfl (by decide) (by omega) bra lH bg [.int .i64 bg] (fun _=>True) (fun _=>False) rfl rfl ?aP (fun _ hk=>hk.elim) ?aF ?aO ?aB ?aS ?aL ?_;(case aP=>exact rfl);(case aB=>exact(bM HB.out));(case aF=>exact(fun _ _=>trivial));(case aO=>exact(rM vC.out));(case aS=>exact(Zad (bM HB.out)));(case aL=>have:=hGa.out;omega);intro vSa w12 ho hb hg hat;rw[←cKa.out]at ho;replace HB:=Za.mk (hb);have Ew:=Za.mk (ho);clear jM vC;clear ho hb hg hat;obtain⟨dY,ek,KN⟩:=Kd.Za8 Ew.out;subst KN)|((with_reducible refine Zak (f:=43) rfl ?_);refine gl 17 Tryz.func43 #[.slice dY UM.length ek] ?_;(with_reducible refine(Zaj.calls k _ _ UM uR _ (cM ((Kd.Zah Ew.out).2.2)) ((Kd.Zah Ew.out).2.1) A5.out).mono ?_);rintro e w14 ⟨vTa,rfl,ho0,hb⟩;refine⟨_,rfl,?_⟩;have cia:=Za.mk (Kd.Zbm (Kd.Zeu ho0 (Kd.R_lt (rM Ew.out))) (Zad (bM HB.out)));replace HB:=Za.mk (bS HB.out hb);clear Ew;(try clear hb);(try clear hb2);(try clear hk);(try clear hi);(try clear ho0)))
 go_ret;exact⟨_,eR,rM (Kd.Zba cia.out (fun _ hk=>trivial)),bM HB.out⟩
mutual
def Zay.l0 : Nat → List Int → Int → Option (Bool)
 | 0, _, _ => none
 |k+1,x0,x3=>if x3<(x0.length:Int)then(Zay.l1 k x0 x3 0)else(some true)
def Zay.l1 : Nat → List Int → Int → Int → Option (Bool)
 | 0, _, _, _ => none
 |k+1,x0,x3,x4=>if x4<x3 then(if 0≤x3 then(if x3<(x0.length:Int)then(if 0≤x4 then(if x4<(x0.length:Int)then(if(rd x0 x3)=(rd x0 x4)then(some false)else(Zay.l1 k x0 x3 (wrap64 (x4+1))))else(none))else(none))else(none))else(none))else(Zay.l0 k x0 (wrap64 (x3+1)))
end
def Zay.f (k:Nat) (l0:List Int):Option (Bool):=Zay.l0 k l0 0
set_option maxRecDepth 100000 in
theorem Zay.calls (k : Nat) (A0 : Option Addr) (c0 : Nat) (l0 : List Int) (r : Bool) (w : World) (hr0 : Kd.C (Kd.int .i64) w A0 l0.length l0) (hc0 : l0.length ≤ c0) (h : Zay.f k l0 = some r) :
  Calls Tryz.prog 102 #[.slice A0 l0.length c0] w fun e w'=>e= .returned (.bool r)∧Zar w w':=by
 have HR0:=Za.mk hr0;have HC0:=Za.mk hc0;clear hr0 hc0;have H:(Zay.l0 k l0 0)=some r:=h;clear h;have H':=Za.mk H;clear H;go_enter Tryz.func102,Tryz.ntmps102;go_wp2
 repeat(go_quiet (fail);try go_wp2)
 go_loopg [3] k (fun kq v3 w'=>∃(af:Int),v3= .int .i64 af∧Za (Zay.l0 kq l0 af=some r)∧Za (kq≤k)∧Zar w w')
 case atStart=>exact⟨(0),eS,H',⟨Nat.le_refl _⟩,by repeat(first|exact Zar.refl _|apply Zar.step)⟩
 case round=>
  clear H';try clear c1
  obtain⟨af,rfl,HA,HK1,⟨m1,rfl⟩⟩:=hrel
  cases gk with
  | zero => exact absurd HA.out (by simp [Zay.l0])
  |succ k1=>
   have H:=HA.out;clear HA;simp only[Zay.l0]at H;by_cases c2:af<(l0.length:Int)
   case neg=>
    rw[if_neg c2]at H;have jE:decide (af<(l0.length:Int))=false:=decide_eq_false c2;clear c2;obtain rfl:=sj H;go_wp2
    repeat(go_quiet (fail);try go_wp2)
    go_ret;exact⟨eS,by repeat(first|exact Zar.refl _|apply Zar.step)⟩
   rw[if_pos c2]at H;have jE:decide (af<(l0.length:Int))=true:=decide_eq_true c2;clear c2;have H':=Za.mk H;clear H;go_wp2
   repeat(go_quiet (fail);try go_wp2)
   go_loopg [4] k1 (fun kq v4 w'=>∃(fP:Int),v4= .int .i64 fP∧Za (Zay.l1 kq l0 af fP=some r)∧Za (kq≤k1)∧Zar w w')
   case atStart=>exact⟨(0),eS,H',⟨Nat.le_refl _⟩,by repeat(first|exact Zar.refl _|apply Zar.step)⟩
   case round=>
    clear H';try clear c1
    try clear c2
    try clear jE
    try clear p2
    obtain⟨fP,rfl,HA,HK2,⟨m2,rfl⟩⟩:=hrel
    cases gk with
    | zero => exact absurd HA.out (by simp [Zay.l1])
    |succ k2=>
     have H:=HA.out;clear HA;simp only[Zay.l1]at H;by_cases c3:fP<af
     case neg=>
      rw[if_neg c3]at H;have eB:decide (fP<af)=false:=decide_eq_false c3;clear c3;have H':=Za.mk H;clear H;go_wp2
      repeat(go_quiet (fail);try go_wp2)
      go_roundg k2
      case measure=>have:=HK1.out;have:=HK2.out;omega
      case rel=>exact⟨(wrap64 (af+1)),eS,H',⟨by have:=HK1.out;have:=HK2.out;omega⟩,by repeat(first|exact Zar.refl _|apply Zar.step)⟩
     rw[if_pos c3]at H;have eB:decide (fP<af)=true:=decide_eq_true c3;clear c3;obtain⟨bQ,H⟩:=ifT H;obtain⟨bU,H⟩:=ifT H;obtain⟨fK,H⟩:=ifT H;obtain⟨kF,H⟩:=ifT H;by_cases c8:(rd l0 af)=(rd l0 fP)
     case pos=>
      rw[if_pos c8]at H;have kH:((rd l0 af)==(rd l0 fP))=true:=beq_iff_eq.mpr c8;have KH:((rd l0 af) !=(rd l0 fP))=false:=bne_eq_false_iff_eq.mpr c8;clear c8;obtain rfl:=sj H;have Cu:0≤(af:Int):=odt;have Dc:af<(l0.length:Int):=odt;obtain⟨OY,rfl,Yw⟩:=Kd.Zbh HR0.out af Cu Dc;replace Cu:=eq_true Cu;replace Dc:=eq_true Dc;have Cv:0≤(fP:Int):=odt;have De:fP<(l0.length:Int):=odt;obtain⟨Pb,e258,Yx⟩:=Kd.Zbh HR0.out fP Cv De;obtain rfl:OY=Pb:=(by injection e258);replace Cv:=eq_true Cv;replace De:=eq_true De;go_wp2
      repeat(go_quiet (fail);try go_wp2)
      go_ret;exact⟨eS,by repeat(first|exact Zar.refl _|apply Zar.step)⟩
     rw[if_neg c8]at H;have kH:((rd l0 af)==(rd l0 fP))=false:=beq_eq_false_iff_ne.mpr c8;have KH:((rd l0 af) !=(rd l0 fP))=true:=bne_iff_ne.mpr c8;have H':=Za.mk H;clear H;have Cu:0≤(af:Int):=odt;have Dc:af<(l0.length:Int):=odt;obtain⟨OY,rfl,Yw⟩:=Kd.Zbh HR0.out af Cu Dc;replace Cu:=eq_true Cu;replace Dc:=eq_true Dc;have Cv:0≤(fP:Int):=odt;have De:fP<(l0.length:Int):=odt;obtain⟨Pb,e258,Yx⟩:=Kd.Zbh HR0.out fP Cv De;obtain rfl:OY=Pb:=(by injection e258);replace Cv:=eq_true Cv;replace De:=eq_true De;go_wp2
     repeat(go_quiet (fail);try go_wp2)
     go_roundg k2
     case measure=>have:=HK1.out;have:=HK2.out;omega
     case rel=>exact⟨(wrap64 (fP+1)),eS,H',⟨by have:=HK1.out;have:=HK2.out;omega⟩,by repeat(first|exact Zar.refl _|apply Zar.step)⟩
def Zb9.f (k:Nat) (ay:Int) (aa:List Int) (aj:List Int) (aW:Int) (bi:Int) (aA:List (List Int)) (bg:Int):Option (Bool):=(Zay.f k aa).bind fun L6=>(if L6=true then(if(aa.length:Int)>0 then(if(aa.length:Int)=(aj.length:Int)then((Zbg.f k aj 0).bind fun L8=>(some (!L8)))else(some false))else(some false))else(some false))
set_option maxRecDepth 100000 in
theorem Zb9.calls (k : Nat) (ay : Int) (aQ : Option Addr) (aM : Nat) (aa : List Int) (bN : Option Addr) (bP : Nat) (aj : List Int) (aW : Int) (bi : Int) (dD : Option Addr) (dC : Nat) (aA : List (List Int)) (bg : Int) (r : Bool) (w : World) (dB : Kd.C (Kd.int .i64) w aQ aa.length aa) (dA : aa.length ≤ aM) (fH : Kd.C (Kd.int .i64) w bN aj.length aj) (fG : aj.length ≤ bP) (iq : Kd.C (Kd.slice 3 (Kd.int .i64)) w dD aA.length aA) (il : aA.length ≤ dC) (h : Zb9.f k ay aa aj aW bi aA bg = some r) :
  Calls Tryz.prog 103 #[.agg #[.int .i64 ay,.slice aQ aa.length aM,.slice bN aj.length bP,.int .i64 aW,.int .i64 bi,.slice dD aA.length dC,.int .i64 bg]] w fun e w'=>e= .returned (.bool r)∧Below w.heap.size w w':=by
 have hu36:=Tryz.underlying36;have dM:=Za.mk dB;have eH:=Za.mk dA;clear dB dA;have fo:=Za.mk fH;have jf:=Za.mk fG;clear fH fG;have jg:=Za.mk iq;have o5:=Za.mk il;clear iq il;have HB:=Za.mk (Below.refl w.heap.size w);have H:((Zay.f k aa).bind fun L6=>(if L6=true then(if(aa.length:Int)>0 then(if(aa.length:Int)=(aj.length:Int)then((Zbg.f k aj 0).bind fun L8=>(some (!L8)))else(some false))else(some false))else(some false)))=some r:=h;clear h;obtain⟨L6,A2,H⟩:=bnd H;try dsimp only at H
 by_cases c3:L6=true
 case neg=>
  replace c3:=Bool.eq_false_iff.mpr c3;subst c3;replace H:=ifF H;obtain rfl:=sj H;go_enter Tryz.func103,Tryz.ntmps103
  go_wp2_with (first|((with_reducible refine Zao (N:=1) rfl ?_);(try(refine Zb7 (by rfl) ?_;dsimp only));refine bx 1 #[.int .i64 ay,.slice aQ aa.length aM,.slice bN aj.length bP,.int .i64 aW,.int .i64 bi,.slice dD aA.length dC,.int .i64 bg] 36 ?_;intro zg hg w13 hbox hb;have yM:=Za.mk (hbox);have NT:=Za.mk ((gE hg HB.out:w.heap.size≤zg));replace HB:=Za.mk (bS HB.out hb);clear hb hbox hg;obtain⟨tu,tC,zL,Cb,Cc,H7,H8,sW,tq,zx,BJ,BM,GU,GV⟩:=cz7 yM.out)|((with_reducible refine Zak (f:=102) rfl ?_);refine gl 5 Tryz.func102 #[.slice aQ aa.length aM] ?_;(with_reducible refine(Zay.calls k _ _ aa false _ (cM (Kd.Zab dM.out HB.out)) eH.out A2.out).mono ?_);rintro e w' ⟨rfl,⟨nd,rfl⟩⟩;refine⟨_,rfl,?_⟩))
  go_ret;exact⟨eR,bM HB.out⟩
 subst c3;rw[if_pos rfl]at H;by_cases c4:(aa.length:Int)>0
 case neg=>
  rw[if_neg c4]at H;have bQ:decide (0<(aa.length:Int))=false:=decide_eq_false c4;have qK:decide (0<aa.length)=false:=decide_eq_false (by omega);clear c4;obtain rfl:=sj H;go_enter Tryz.func103,Tryz.ntmps103
  go_wp2_with (first|((with_reducible refine Zao (N:=1) rfl ?_);(try(refine Zb7 (by rfl) ?_;dsimp only));refine bx 1 #[.int .i64 ay,.slice aQ aa.length aM,.slice bN aj.length bP,.int .i64 aW,.int .i64 bi,.slice dD aA.length dC,.int .i64 bg] 36 ?_;intro zg hg w11 hbox hb;have yM:=Za.mk (hbox);have NT:=Za.mk ((gE hg HB.out:w.heap.size≤zg));replace HB:=Za.mk (bS HB.out hb);clear hb hbox hg;obtain⟨qg,qh,qi,qj,ql,ww,wy,pU,pV,pW,pX,pY,vU,vV⟩:=cz7 yM.out)|((with_reducible refine Zak (f:=102) rfl ?_);refine gl 5 Tryz.func102 #[.slice aQ aa.length aM] ?_;(with_reducible refine(Zay.calls k _ _ aa true _ (cM (Kd.Zab dM.out HB.out)) eH.out A2.out).mono ?_);rintro e w' ⟨rfl,⟨nd,rfl⟩⟩;refine⟨_,rfl,?_⟩))
  go_ret;exact⟨eR,bM HB.out⟩
 rw[if_pos c4]at H;have bQ:decide (0<(aa.length:Int))=true:=decide_eq_true c4;have qK:decide (0<aa.length)=true:=decide_eq_true (by omega);clear c4;by_cases c5:(aa.length:Int)=(aj.length:Int)
 case neg=>
  rw[if_neg c5]at H;have bU:((aa.length:Int)==(aj.length:Int))=false:=beq_eq_false_iff_ne.mpr c5;have lu:((aa.length:Int) !=(aj.length:Int))=true:=bne_iff_ne.mpr c5;have PK:(aa.length==aj.length)=false:=by first|simpa using c5|(simp at c5 ⊢;omega)
  obtain rfl:=sj H;go_enter Tryz.func103,Tryz.ntmps103
  go_wp2_with (first|((with_reducible refine Zao (N:=1) rfl ?_);(try(refine Zb7 (by rfl) ?_;dsimp only));refine bx 1 #[.int .i64 ay,.slice aQ aa.length aM,.slice bN aj.length bP,.int .i64 aW,.int .i64 bi,.slice dD aA.length dC,.int .i64 bg] 36 ?_;intro zg hg w9 hbox hb;have yM:=Za.mk (hbox);have NT:=Za.mk ((gE hg HB.out:w.heap.size≤zg));replace HB:=Za.mk (bS HB.out hb);clear hb hbox hg;obtain⟨kz,kC,kD,lJ,lK,wh,wu,kv,kw,ky,lD,lF,vS,vT⟩:=cz7 yM.out)|((with_reducible refine Zak (f:=102) rfl ?_);refine gl 5 Tryz.func102 #[.slice aQ aa.length aM] ?_;(with_reducible refine(Zay.calls k _ _ aa true _ (cM (Kd.Zab dM.out HB.out)) eH.out A2.out).mono ?_);rintro e w' ⟨rfl,⟨nd,rfl⟩⟩;refine⟨_,rfl,?_⟩))
  go_ret;exact⟨eR,bM HB.out⟩
 rw[if_pos c5]at H;have bU:((aa.length:Int)==(aj.length:Int))=true:=beq_iff_eq.mpr c5;have lu:((aa.length:Int) !=(aj.length:Int))=false:=bne_eq_false_iff_eq.mpr c5;have PK:(aa.length==aj.length)=true:=by first|simpa using c5|(simp at c5 ⊢;omega)
 clear c5;obtain⟨L8,A6,H⟩:=bnd H;try dsimp only at H
 obtain rfl:=sj H;go_enter Tryz.func103,Tryz.ntmps103
 go_wp2_with (first|((with_reducible refine Zao (N:=1) rfl ?_);(try(refine Zb7 (by rfl) ?_;dsimp only));refine bx 1 #[.int .i64 ay,.slice aQ aa.length aM,.slice bN aj.length bP,.int .i64 aW,.int .i64 bi,.slice dD aA.length dC,.int .i64 bg] 36 ?_;intro zg hg w7 hbox hb;have yM:=Za.mk (hbox);have NT:=Za.mk ((gE hg HB.out:w.heap.size≤zg));replace HB:=Za.mk (bS HB.out hb);clear hb hbox hg;obtain⟨sG,sH,sI,vo,vv,wI,wJ,sw,sD,sF,uX,uY,wG,wH⟩:=cz7 yM.out)|((with_reducible refine Zak (f:=102) rfl ?_);refine gl 5 Tryz.func102 #[.slice aQ aa.length aM] ?_;(with_reducible refine(Zay.calls k _ _ aa true _ (cM (Kd.Zab dM.out HB.out)) eH.out A2.out).mono ?_);rintro e w' ⟨rfl,⟨nd,rfl⟩⟩;refine⟨_,rfl,?_⟩)|(go_at_call 49;(with_reducible refine(Zbg.calls k _ _ aj 0 L8 _ (cM (Kd.Zab fo.out (bM HB.out))) jf.out A6.out).mono ?_);rintro e w' ⟨rfl,⟨nd,rfl⟩⟩))
 go_ret;exact⟨eR,bM HB.out⟩
mutual
def Zbi.l0 : Nat → Int → Int → List Int → List Int → Int → Int → List (List Int) → Int → Option (Bool)
 | 0, _, _, _, _, _, _, _, _ => none
 |k+1,x3,Bw,yC,Bz,BA,BB,lX,BC=>if x3<(lX.length:Int)then(if 0≤x3 then(if((Zco lX x3).length:Int)=(yC.length:Int)then(Zbi.l1 k x3 0 Bw yC Bz BA BB lX BC)else(some false))else(none))else(some (decide ((lX.length:Int)≤1024)))
def Zbi.l1 : Nat → Int → Int → Int → List Int → List Int → Int → Int → List (List Int) → Int → Option (Bool)
 | 0, _, _, _, _, _, _, _, _, _ => none
 |k+1,x3,x4,Bw,yC,Bz,BA,BB,lX,BC=>if 0≤x3 then(if x3<(lX.length:Int)then(if x4<((Zco lX x3).length:Int)then(if 0≤x4 then((Zbf.f (rd (Zco lX x3) x4)).bind fun Ud=>(if Ud=true then(Zbi.l1 k x3 (wrap64 (x4+1)) Bw yC Bz BA BB lX BC)else(some false)))else(none))else(Zbi.l0 k (wrap64 (x3+1)) Bw yC Bz BA BB lX BC))else(none))else(none)
end
def Zbi.f (k:Nat) (ay:Int) (aa:List Int) (aj:List Int) (aW:Int) (bi:Int) (aA:List (List Int)) (bg:Int):Option (Bool):=Zbi.l0 k 0 ay aa aj aW bi aA bg
set_option maxRecDepth 100000 in
theorem Zbi.calls (k : Nat) (ay : Int) (aQ : Option Addr) (aM : Nat) (aa : List Int) (bN : Option Addr) (bP : Nat) (aj : List Int) (aW : Int) (bi : Int) (dD : Option Addr) (dC : Nat) (aA : List (List Int)) (bg : Int) (r : Bool) (w : World) (dB : Kd.C (Kd.int .i64) w aQ aa.length aa) (dA : aa.length ≤ aM) (fH : Kd.C (Kd.int .i64) w bN aj.length aj) (fG : aj.length ≤ bP) (iq : Kd.C (Kd.slice 3 (Kd.int .i64)) w dD aA.length aA) (il : aA.length ≤ dC) (h : Zbi.f k ay aa aj aW bi aA bg = some r) :
  Calls Tryz.prog 104 #[.agg #[.int .i64 ay,.slice aQ aa.length aM,.slice bN aj.length bP,.int .i64 aW,.int .i64 bi,.slice dD aA.length dC,.int .i64 bg]] w fun e w'=>e= .returned (.bool r)∧Below w.heap.size w w':=by
 have hu36:=Tryz.underlying36;have dM:=Za.mk dB;have eH:=Za.mk dA;clear dB dA;have fo:=Za.mk fH;have jf:=Za.mk fG;clear fH fG;have jg:=Za.mk iq;have o5:=Za.mk il;clear iq il;have HB:=Za.mk (Below.refl w.heap.size w);have H:(Zbi.l0 k 0 ay aa aj aW bi aA bg)=some r:=h;clear h;have H':=Za.mk H;clear H;go_enter Tryz.func104,Tryz.ntmps104
 go_wp2_with (first|((with_reducible refine Zao (N:=1) rfl ?_);refine bx 1 #[.int .i64 ay,.slice aQ aa.length aM,.slice bN aj.length bP,.int .i64 aW,.int .i64 bi,.slice dD aA.length dC,.int .i64 bg] 36 ?_;intro zh hg w2 hbox hb;have mF:=Za.mk (hbox);have UU:=Za.mk ((gE hg HB.out:w.heap.size≤zh));replace HB:=Za.mk (bS HB.out hb);clear hb hbox hg))
 repeat(go_quiet (first|((with_reducible refine Zao (N:=1) rfl ?_);refine bx 1 #[.int .i64 ay,.slice aQ aa.length aM,.slice bN aj.length bP,.int .i64 aW,.int .i64 bi,.slice dD aA.length dC,.int .i64 bg] 36 ?_;intro zh hg w2 hbox hb;have mF:=Za.mk (hbox);have UU:=Za.mk ((gE hg HB.out:w.heap.size≤zh));replace HB:=Za.mk (bS HB.out hb);clear hb hbox hg));try go_wp2_with (first|((with_reducible refine Zao (N:=1) rfl ?_);refine bx 1 #[.int .i64 ay,.slice aQ aa.length aM,.slice bN aj.length bP,.int .i64 aW,.int .i64 bi,.slice dD aA.length dC,.int .i64 bg] 36 ?_;intro zh hg w2 hbox hb;have mF:=Za.mk (hbox);have UU:=Za.mk ((gE hg HB.out:w.heap.size≤zh));replace HB:=Za.mk (bS HB.out hb);clear hb hbox hg)))
 go_loopg [3] k (fun kq v3 w'=>∃(af:Int),v3= .int .i64 af∧Za (Zbi.l0 kq af ay aa aj aW bi aA bg=some r)∧Za (kq≤k)∧Za (w'.heap[zh]? =some (.cells #[.int .i64 ay,(.slice aQ aa.length aM),(.slice bN aj.length bP),.int .i64 aW,.int .i64 bi,(.slice dD aA.length dC),.int .i64 bg] 36 (0,0)))∧Za (Below w.heap.size w w'))
 case atStart=>exact⟨(0),eS,H',⟨Nat.le_refl _⟩,⟨kM mF.out⟩,⟨bM HB.out⟩⟩
 case round=>
  clear H';try clear c1
  try clear p2
  obtain⟨af,rfl,HA,HK1,mF,HB⟩:=hrel
  cases gk with
  | zero => exact absurd HA.out (by simp [Zbi.l0])
  |succ k1=>
   have H:=HA.out;clear HA;simp only[Zbi.l0]at H;by_cases c3:af<(aA.length:Int)
   case neg=>
    rw[if_neg c3]at H;have eB:decide (af<(aA.length:Int))=false:=decide_eq_false c3;clear c3;obtain rfl:=sj H;obtain⟨Ie,Ig,QY,Xl,Xm,Xn,Xo,He,Hf,Qw,Wy,Wz,W9,WA⟩:=cz7 mF.out;go_wp2
    repeat(go_quiet (fail);try go_wp2)
    go_ret;exact⟨eR,bM HB.out⟩
   rw[if_pos c3]at H;have eB:decide (af<(aA.length:Int))=true:=decide_eq_true c3;clear c3;obtain⟨bQ,H⟩:=ifT H;by_cases c5:((Zco aA af).length:Int)=(aa.length:Int)
   case neg=>
    rw[if_neg c5]at H;have bU:(((Zco aA af).length:Int)==(aa.length:Int))=false:=beq_eq_false_iff_ne.mpr c5;have lu:(((Zco aA af).length:Int) !=(aa.length:Int))=true:=bne_iff_ne.mpr c5;have PK:((Zco aA af).length==aa.length)=false:=by first|simpa using c5|(simp at c5 ⊢;omega)
    obtain rfl:=sj H;obtain⟨wz,wB,wC,zM,zN,zO,zP,vW,vX,vY,zy,zz,z8,zA⟩:=cz7 mF.out;have a9a:(0≤(af:Int))=True:=teq;have aIa:(af<(aA.length:Int))=True:=teq;obtain⟨yV,YK,aia,rfl,tF,xu,wM⟩:=Zfj jg.out af odt odt;replace tF:=hB HB.out tF;have Yn:=Za.mk wM;have XU:=Za.mk xu;clear wM xu;go_wp2
    repeat(go_quiet (fail);try go_wp2)
    go_ret;exact⟨eR,bM HB.out⟩
   rw[if_pos c5]at H;have bU:(((Zco aA af).length:Int)==(aa.length:Int))=true:=beq_iff_eq.mpr c5;have lu:(((Zco aA af).length:Int) !=(aa.length:Int))=false:=bne_eq_false_iff_eq.mpr c5;have PK:((Zco aA af).length==aa.length)=true:=by first|simpa using c5|(simp at c5 ⊢;omega)
   clear c5;have H':=Za.mk H;clear H;obtain⟨lc,lg,lL,oo,oq,Jr,Js,kX,kY,lI,ol,om,Jp,Jq⟩:=cz7 mF.out;have a9a:(0≤(af:Int))=True:=teq;have aIa:(af<(aA.length:Int))=True:=teq;obtain⟨yV,YK,aia,rfl,tF,xu,wM⟩:=Zfj jg.out af odt odt;replace tF:=hB HB.out tF;have Yn:=Za.mk wM;have XU:=Za.mk xu;clear wM xu;go_wp2
   repeat(go_quiet (fail);try go_wp2)
   go_loopg [4] k1 (fun kq v4 w'=>∃(fP:Int),v4= .int .i64 fP∧Za (Zbi.l1 kq af fP ay aa aj aW bi aA bg=some r)∧Za (kq≤k1)∧Za (w'.heap[zh]? =some (.cells #[.int .i64 ay,(.slice aQ aa.length aM),(.slice bN aj.length bP),.int .i64 aW,.int .i64 bi,(.slice (some yV) aA.length dC),.int .i64 bg] 36 (0,0)))∧Za (Below w.heap.size w w'))
   case atStart=>exact⟨(0),eS,H',⟨Nat.le_refl _⟩,⟨kM mF.out⟩,⟨bM HB.out⟩⟩
   case round=>
    clear H';try clear c1
    try clear c2
    try clear p2
    try clear q2
    try clear hx2
    try clear c3
    try clear eB
    try clear c4
    try clear bQ
    try clear c5
    try clear bU
    try clear lu
    try clear PK
    try clear lc lg lL oo oq Jr Js kX kY lI ol om Jp Jq
    try clear tF
    try clear p2
    try clear a9a
    try clear aIa
    obtain⟨fP,rfl,HA,HK2,mF,HB⟩:=hrel
    cases gk with
    | zero => exact absurd HA.out (by simp [Zbi.l1])
    |succ k2=>
     have H:=HA.out;clear HA;simp only[Zbi.l1]at H;obtain⟨kF,H⟩:=ifT H;obtain⟨kH,H⟩:=ifT H;by_cases c9:fP<((Zco aA af).length:Int)
     case neg=>
      rw[if_neg c9]at H;have nT:decide (fP<((Zco aA af).length:Int))=false:=decide_eq_false c9;clear c9;have H':=Za.mk H;clear H;obtain⟨Ce,Cf,Cg,H9,Ia,Ib,Ic,BN,BO,BP,GX,GY,Ha,Hd⟩:=cz7 mF.out;have aAa:(0≤(af:Int))=True:=teq;have aJa:(af<(aA.length:Int))=True:=teq;obtain⟨EN,R8,RL,e264,lN,oP,oN⟩:=Zfj jg.out af odt odt;obtain rfl:yV=EN:=(by injection e264);replace lN:=hB HB.out lN;have Ms:=Za.mk oN;have Mq:=Za.mk oP;clear oN oP;go_wp2
      repeat(go_quiet (fail);try go_wp2)
      go_roundg k2
      case measure=>have:=HK1.out;have:=HK2.out;omega
      case rel=>exact⟨(wrap64 (af+1)),eS,H',⟨by have:=HK1.out;have:=HK2.out;omega⟩,⟨kM mF.out⟩,⟨bM HB.out⟩⟩
     rw[if_pos c9]at H;have nT:decide (fP<((Zco aA af).length:Int))=true:=decide_eq_true c9;clear c9;obtain⟨kr,H⟩:=ifT H;obtain⟨Ud,A11,H⟩:=bnd H;try dsimp only at H
     by_cases c12:Ud=true
     case pos=>
      subst c12;rw[if_pos rfl]at H;have H':=Za.mk H;clear H;obtain⟨fDa,fEa,fFa,fGa,fHa,fIa,fJa,dWa,dXa,dYa,eaa,eba,eca,eda⟩:=cz7 mF.out;have aAa:(0≤(af:Int))=True:=teq;have aJa:(af<(aA.length:Int))=True:=teq;obtain⟨EN,R8,RL,e264,lN,oP,oN⟩:=Zfj jg.out af odt odt;obtain rfl:yV=EN:=(by injection e264);replace lN:=hB HB.out lN;have Ms:=Za.mk oN;have Mq:=Za.mk oP;clear oN oP;have iIa:(0≤(af:Int))=True:=teq;have iSa:(af<(aA.length:Int))=True:=teq;obtain⟨Pd,YL,aja,SI,qQ,xw,wO⟩:=Zfj jg.out af odt odt;obtain rfl:yV=Pd:=(by injection SI);replace qQ:=hB HB.out qQ;have I6:=Za.mk wO;have XV:=Za.mk xw;clear wO xw;have ea_:=Option.some.inj (lN.symm.trans qQ)
      injection ea_ with ea_ en_ ec_
      subst ea_;subst ec_;clear en_;have Cw:0≤(fP:Int):=odt;have Df:fP<((Zco aA af).length:Int):=odt;obtain⟨cWa,rfl,xR⟩:=Kd.Zbh I6.out fP Cw Df;replace xR:=hB HB.out xR;replace Cw:=eq_true Cw;replace Df:=eq_true Df
      go_wp2_with (first|(go_at_call 73;(with_reducible refine(Zbf.calls (rd (Zco aA af) fP) true _ A11.out).mono ?_);rintro e w' ⟨rfl,⟨nd,rfl⟩⟩;(try first|exact⟨rfl,_,World.drewN_drewN _ _ _⟩|exact⟨rfl,_,Eq.trans (World.drewN_drewN _ _ _) (congrArg (World.drewN _) (Nat.add_assoc _ _ _))⟩)))
      repeat(go_quiet (first|(go_at_call 73;(with_reducible refine(Zbf.calls (rd (Zco aA af) fP) true _ A11.out).mono ?_);rintro e w' ⟨rfl,⟨nd,rfl⟩⟩;(try first|exact⟨rfl,_,World.drewN_drewN _ _ _⟩|exact⟨rfl,_,Eq.trans (World.drewN_drewN _ _ _) (congrArg (World.drewN _) (Nat.add_assoc _ _ _))⟩)));try go_wp2_with (first|(go_at_call 73;(with_reducible refine(Zbf.calls (rd (Zco aA af) fP) true _ A11.out).mono ?_);rintro e w' ⟨rfl,⟨nd,rfl⟩⟩;(try first|exact⟨rfl,_,World.drewN_drewN _ _ _⟩|exact⟨rfl,_,Eq.trans (World.drewN_drewN _ _ _) (congrArg (World.drewN _) (Nat.add_assoc _ _ _))⟩))))
      go_roundg k2
      case measure=>have:=HK1.out;have:=HK2.out;omega
      case rel=>exact⟨(wrap64 (fP+1)),eS,H',⟨by have:=HK1.out;have:=HK2.out;omega⟩,⟨kM mF.out⟩,⟨bM HB.out⟩⟩
     replace c12:=Bool.eq_false_iff.mpr c12;subst c12;replace H:=ifF H;obtain rfl:=sj H;obtain⟨tu,tC,zL,Cb,Cc,H7,H8,sW,tq,zx,BJ,BM,GU,GV⟩:=cz7 mF.out;have aAa:(0≤(af:Int))=True:=teq;have aJa:(af<(aA.length:Int))=True:=teq;obtain⟨EN,R8,RL,e264,lN,oP,oN⟩:=Zfj jg.out af odt odt;obtain rfl:yV=EN:=(by injection e264);replace lN:=hB HB.out lN;have Ms:=Za.mk oN;have Mq:=Za.mk oP;clear oN oP;have iIa:(0≤(af:Int))=True:=teq;have iSa:(af<(aA.length:Int))=True:=teq;obtain⟨Pd,YL,aja,SI,qQ,xw,wO⟩:=Zfj jg.out af odt odt;obtain rfl:yV=Pd:=(by injection SI);replace qQ:=hB HB.out qQ;have I6:=Za.mk wO;have XV:=Za.mk xw;clear wO xw;have ea_:=Option.some.inj (lN.symm.trans qQ)
     injection ea_ with ea_ en_ ec_
     subst ea_;subst ec_;clear en_;have Cw:0≤(fP:Int):=odt;have Df:fP<((Zco aA af).length:Int):=odt;obtain⟨cWa,rfl,xR⟩:=Kd.Zbh I6.out fP Cw Df;replace xR:=hB HB.out xR;replace Cw:=eq_true Cw;replace Df:=eq_true Df
     go_wp2_with (first|(go_at_call 73;(with_reducible refine(Zbf.calls (rd (Zco aA af) fP) false _ A11.out).mono ?_);rintro e w' ⟨rfl,⟨nd,rfl⟩⟩;(try first|exact⟨rfl,_,World.drewN_drewN _ _ _⟩|exact⟨rfl,_,Eq.trans (World.drewN_drewN _ _ _) (congrArg (World.drewN _) (Nat.add_assoc _ _ _))⟩)))
     repeat(go_quiet (first|(go_at_call 73;(with_reducible refine(Zbf.calls (rd (Zco aA af) fP) false _ A11.out).mono ?_);rintro e w' ⟨rfl,⟨nd,rfl⟩⟩;(try first|exact⟨rfl,_,World.drewN_drewN _ _ _⟩|exact⟨rfl,_,Eq.trans (World.drewN_drewN _ _ _) (congrArg (World.drewN _) (Nat.add_assoc _ _ _))⟩)));try go_wp2_with (first|(go_at_call 73;(with_reducible refine(Zbf.calls (rd (Zco aA af) fP) false _ A11.out).mono ?_);rintro e w' ⟨rfl,⟨nd,rfl⟩⟩;(try first|exact⟨rfl,_,World.drewN_drewN _ _ _⟩|exact⟨rfl,_,Eq.trans (World.drewN_drewN _ _ _) (congrArg (World.drewN _) (Nat.add_assoc _ _ _))⟩))))
     go_ret;exact⟨eR,bM HB.out⟩
def Zbj.l0 : Nat → List (S82) → Int → Option (Bool)
 | 0, _, _ => none
 |k+1,x0,x3=>if x3<(x0.length:Int)then(if 0≤x3 then(if((Zbr x0 x3).f0)<0 then(some false)else(if((Zbr x0 x3).f1)>1 then(some false)else(Zbj.l0 k x0 (wrap64 (x3+1)))))else(none))else(some true)
def Zbj.f (k:Nat) (l0:List (S82)):Option (Bool):=Zbj.l0 k l0 0
set_option maxRecDepth 100000 in
theorem Zbj.calls (k : Nat) (A0 : Option Addr) (c0 : Nat) (l0 : List (S82)) (r : Bool) (w : World) (hr0 : Kd.C k82 w A0 l0.length l0) (hc0 : l0.length ≤ c0) (h : Zbj.f k l0 = some r) :
  Calls Tryz.prog 105 #[.slice A0 l0.length c0] w fun e w'=>e= .returned (.bool r)∧Zar w w':=by
 have HR0:=Za.mk hr0;have HC0:=Za.mk hc0;clear hr0 hc0;have H:(Zbj.l0 k l0 0)=some r:=h;clear h;have H':=Za.mk H;clear H;go_enter Tryz.func105,Tryz.ntmps105;go_wp2
 go_loopg [3] k (fun kq v3 w'=>∃(af:Int),v3= .int .i64 af∧Za (Zbj.l0 kq l0 af=some r)∧Za (kq≤k)∧Zar w w')
 case atStart=>exact⟨(0),eS,H',⟨Nat.le_refl _⟩,by repeat(first|exact Zar.refl _|apply Zar.step)⟩
 case round=>
  clear H';try clear c1
  obtain⟨af,rfl,HA,HK1,⟨m1,rfl⟩⟩:=hrel
  cases gk with
  | zero => exact absurd HA.out (by simp [Zbj.l0])
  |succ k1=>
   have H:=HA.out;clear HA;simp only[Zbj.l0]at H;by_cases c2:af<(l0.length:Int)
   case neg=>
    rw[if_neg c2]at H;have jE:decide (af<(l0.length:Int))=false:=decide_eq_false c2;clear c2;obtain rfl:=sj H;go_wp2;go_ret;exact⟨eS,by repeat(first|exact Zar.refl _|apply Zar.step)⟩
   rw[if_pos c2]at H;have jE:decide (af<(l0.length:Int))=true:=decide_eq_true c2;clear c2;obtain⟨eB,H⟩:=ifT H;by_cases c4:((Zbr l0 af).f0)<0
   case pos=>
    rw[if_pos c4]at H;have bQ:decide (((Zbr l0 af).f0)<0)=true:=decide_eq_true c4;clear c4;obtain rfl:=sj H;have aBa:(0≤(af:Int))=True:=teq;have aKa:(af<(l0.length:Int))=True:=teq;obtain⟨JD,rfl,Nl,Nn⟩:=Zen HR0.out af odt odt;go_wp2;go_ret;exact⟨eS,by repeat(first|exact Zar.refl _|apply Zar.step)⟩
   rw[if_neg c4]at H;have bQ:decide (((Zbr l0 af).f0)<0)=false:=decide_eq_false c4;clear c4;by_cases c5:((Zbr l0 af).f1)>1
   case pos=>
    rw[if_pos c5]at H;have bU:decide (1<((Zbr l0 af).f1))=true:=decide_eq_true c5;clear c5;obtain rfl:=sj H;have aBa:(0≤(af:Int))=True:=teq;have aKa:(af<(l0.length:Int))=True:=teq;obtain⟨JD,rfl,Nl,Nn⟩:=Zen HR0.out af odt odt;have iJa:(0≤(af:Int))=True:=teq;have iTa:(af<(l0.length:Int))=True:=teq;obtain⟨Pe,e269,Yy,Yz⟩:=Zen HR0.out af odt odt;obtain rfl:JD=Pe:=(by injection e269);go_wp2;go_ret;exact⟨eS,by repeat(first|exact Zar.refl _|apply Zar.step)⟩
   rw[if_neg c5]at H;have bU:decide (1<((Zbr l0 af).f1))=false:=decide_eq_false c5;clear c5;have H':=Za.mk H;clear H;have aBa:(0≤(af:Int))=True:=teq;have aKa:(af<(l0.length:Int))=True:=teq;obtain⟨JD,rfl,Nl,Nn⟩:=Zen HR0.out af odt odt;have iJa:(0≤(af:Int))=True:=teq;have iTa:(af<(l0.length:Int))=True:=teq;obtain⟨Pe,e269,Yy,Yz⟩:=Zen HR0.out af odt odt;obtain rfl:JD=Pe:=(by injection e269);go_wp2
   go_roundg k1
   case measure=>have:=HK1.out;omega
   case rel=>exact⟨(wrap64 (af+1)),eS,H',⟨by have:=HK1.out;omega⟩,by repeat(first|exact Zar.refl _|apply Zar.step)⟩
def Zb4.l0 : Nat → List (List (S82)) → Int → Int → List Int → List Int → Int → Int → List (List Int) → Int → Option (Bool)
 | 0, _, _, _, _, _, _, _, _, _ => none
 |k+1,x0,x5,NH,tX,yD,NI,NJ,NK,NL=>if x5<(tX.length:Int)then(if 0≤x5 then(if 0≤(rd tX x5)then(if(rd tX x5)<(x0.length:Int)then((Zbj.f k (Zdl x0 (rd tX x5))).bind fun Ue=>(if Ue=true then(if x5<(yD.length:Int)then(if(rd yD x5)=1 then(Zb4.l0 k x0 (wrap64 (x5+1)) NH tX yD NI NJ NK NL)else(if(rd yD x5)=(-1)then(Zb4.l0 k x0 (wrap64 (x5+1)) NH tX yD NI NJ NK NL)else(some false)))else(none))else(some false)))else(none))else(none))else(none))else(some true)
def Zb4.f (k:Nat) (l0:List (List (S82))) (aH:Int) (aD:List Int) (aU:List Int) (df:Int) (dh:Int) (bA:List (List Int)) (cu:Int):Option (Bool):=Zb4.l0 k l0 0 aH aD aU df dh bA cu
set_option maxRecDepth 100000 in
theorem Zb4.calls (k : Nat) (A0 : Option Addr) (c0 : Nat) (l0 : List (List (S82))) (aH : Int) (fI : Option Addr) (fJ : Nat) (aD : List Int) (fB : Option Addr) (fC : Nat) (aU : List Int) (df : Int) (dh : Int) (jC : Option Addr) (jD : Nat) (bA : List (List Int)) (cu : Int) (r : Bool) (w : World) (hr0 : Kd.C (Kd.slice 82 k82) w A0 l0.length l0) (hc0 : l0.length ≤ c0) (mV : Kd.C (Kd.int .i64) w fI aD.length aD) (mR : aD.length ≤ fJ) (mW : Kd.C (Kd.int .i64) w fB aU.length aU) (mU : aU.length ≤ fC) (vR : Kd.C (Kd.slice 3 (Kd.int .i64)) w jC bA.length bA) (vQ : bA.length ≤ jD) (h : Zb4.f k l0 aH aD aU df dh bA cu = some r) :
  Calls Tryz.prog 106 #[.slice A0 l0.length c0,.agg #[.int .i64 aH,.slice fI aD.length fJ,.slice fB aU.length fC,.int .i64 df,.int .i64 dh,.slice jC bA.length jD,.int .i64 cu]] w fun e w'=>e= .returned (.bool r)∧Below w.heap.size w w':=by
 have hu36:=Tryz.underlying36;have HR0:=Za.mk hr0;have HC0:=Za.mk hc0;clear hr0 hc0;have gI:=Za.mk mV;have iP:=Za.mk mR;clear mV mR;have gp:=Za.mk mW;have iQ:=Za.mk mU;clear mW mU;have jU:=Za.mk vR;have jP:=Za.mk vQ;clear vR vQ;have HB:=Za.mk (Below.refl w.heap.size w);have H:(Zb4.l0 k l0 0 aH aD aU df dh bA cu)=some r:=h;clear h;have H':=Za.mk H;clear H;go_enter Tryz.func106,Tryz.ntmps106
 go_wp2_with (first|((with_reducible refine Zao (N:=3) rfl ?_);refine bx 3 #[.int .i64 aH,.slice fI aD.length fJ,.slice fB aU.length fC,.int .i64 df,.int .i64 dh,.slice jC bA.length jD,.int .i64 cu] 36 ?_;intro Wt hg w3 hbox hb;have sN:=Za.mk (hbox);have mfa:=Za.mk ((gE hg HB.out:w.heap.size≤Wt));replace HB:=Za.mk (bS HB.out hb);clear hb hbox hg))
 go_loopg [5] k (fun kq v5 w'=>∃(ah:Int),v5= .int .i64 ah∧Za (Zb4.l0 kq l0 ah aH aD aU df dh bA cu=some r)∧Za (kq≤k)∧Za (w'.heap[Wt]? =some (.cells #[.int .i64 aH,(.slice fI aD.length fJ),(.slice fB aU.length fC),.int .i64 df,.int .i64 dh,(.slice jC bA.length jD),.int .i64 cu] 36 (0,0)))∧Za (Below w.heap.size w w'))
 case atStart=>exact⟨(0),eS,H',⟨Nat.le_refl _⟩,⟨kM sN.out⟩,⟨bM HB.out⟩⟩
 case round=>
  clear H';try clear c1
  try clear p2
  obtain⟨ah,rfl,HA,HK1,sN,HB⟩:=hrel
  cases gk with
  | zero => exact absurd HA.out (by simp [Zb4.l0])
  |succ k1=>
   have H:=HA.out;clear HA;simp only[Zb4.l0]at H;by_cases c4:ah<(aD.length:Int)
   case neg=>
    rw[if_neg c4]at H;have bQ:decide (ah<(aD.length:Int))=false:=decide_eq_false c4;clear c4;obtain rfl:=sj H;obtain⟨Ie,Ig,QY,Xl,Xm,Xn,Xo,He,Hf,Qw,Wy,Wz,W9,WA⟩:=cz7 sN.out;go_wp2;go_ret;exact⟨eR,bM HB.out⟩
   rw[if_pos c4]at H;have bQ:decide (ah<(aD.length:Int))=true:=decide_eq_true c4;clear c4;obtain⟨bU,H⟩:=ifT H;obtain⟨fK,H⟩:=ifT H;obtain⟨kF,H⟩:=ifT H;obtain⟨Ue,A8,H⟩:=bnd H;try dsimp only at H
   by_cases c9:Ue=true
   case neg=>
    replace c9:=Bool.eq_false_iff.mpr c9;subst c9;replace H:=ifF H;obtain rfl:=sj H;obtain⟨wz,wB,wC,zM,zN,zO,zP,vW,vX,vY,zy,zz,z8,zA⟩:=cz7 sN.out;have o8:0≤(ah:Int):=odt;have oD:ah<(aD.length:Int):=odt;obtain⟨Pf,rfl,kL⟩:=Kd.Zbh gI.out ah o8 oD;replace kL:=hB HB.out kL;replace o8:=eq_true o8;replace oD:=eq_true oD;have Tz:(0≤((rd aD ah):Int))=True:=teq;have TR:((rd aD ah)<(l0.length:Int))=True:=teq;obtain⟨Pg,um,uo,rfl,kN,kK,kJ⟩:=Zfv HR0.out (rd aD ah) odt odt;replace kN:=hB HB.out kN;have qC:=Za.mk kJ;have qp:=Za.mk kK;clear kJ kK
    go_wp2_with (first|((with_reducible refine Zak (f:=105) rfl ?_);refine gl 21 Tryz.func105 #[.slice um (Zdl l0 (rd aD ah)).length uo] ?_;(with_reducible refine(Zbj.calls k1 _ _ (Zdl l0 (rd aD ah)) false _ (cM (Kd.Zab qC.out HB.out)) qp.out A8.out).mono ?_);rintro e w' ⟨rfl,⟨nd,rfl⟩⟩;refine⟨_,rfl,?_⟩))
    go_ret;exact⟨eR,bM HB.out⟩
   subst c9;rw[if_pos rfl]at H;obtain⟨kr,H⟩:=ifT H;by_cases c11:(rd aU ah)=1
   case pos=>
    rw[if_pos c11]at H;have jA:((rd aU ah)==1)=true:=beq_iff_eq.mpr c11;have za:((rd aU ah) !=1)=false:=bne_eq_false_iff_eq.mpr c11;clear c11;have H':=Za.mk H;clear H;obtain⟨qg,qh,qi,qj,ql,ww,wy,pU,pV,pW,pX,pY,vU,vV⟩:=cz7 sN.out;have o8:0≤(ah:Int):=odt;have oD:ah<(aD.length:Int):=odt;obtain⟨Pf,rfl,kL⟩:=Kd.Zbh gI.out ah o8 oD;replace kL:=hB HB.out kL;replace o8:=eq_true o8;replace oD:=eq_true oD;have Tz:(0≤((rd aD ah):Int))=True:=teq;have TR:((rd aD ah)<(l0.length:Int))=True:=teq;obtain⟨Pg,um,uo,rfl,kN,kK,kJ⟩:=Zfv HR0.out (rd aD ah) odt odt;replace kN:=hB HB.out kN;have qC:=Za.mk kJ;have qp:=Za.mk kK;clear kJ kK
    go_wp2_with (first|((with_reducible refine Zak (f:=105) rfl ?_);refine gl 21 Tryz.func105 #[.slice um (Zdl l0 (rd aD ah)).length uo] ?_;(with_reducible refine(Zbj.calls k1 _ _ (Zdl l0 (rd aD ah)) true _ (cM (Kd.Zab qC.out HB.out)) qp.out A8.out).mono ?_);rintro e w' ⟨rfl,⟨nd,rfl⟩⟩;refine⟨_,rfl,?_⟩;have uy:0≤(ah:Int):=odt;have uH:ah<(aU.length:Int):=odt;obtain⟨JE,e274,oU⟩:=Kd.Zbh gp.out ah uy uH;cases e274;replace oU:=hB HB.out oU;replace uy:=eq_true uy;replace uH:=eq_true uH))
    go_roundg k1
    case measure=>have:=HK1.out;omega
    case rel=>exact⟨(wrap64 (ah+1)),eS,H',⟨by have:=HK1.out;omega⟩,⟨kM sN.out⟩,⟨bM HB.out⟩⟩
   rw[if_neg c11]at H;have jA:((rd aU ah)==1)=false:=beq_eq_false_iff_ne.mpr c11;have za:((rd aU ah) !=1)=true:=bne_iff_ne.mpr c11;by_cases c13:(rd aU ah)=(-1)
   case neg=>
    rw[if_neg c13]at H;have o7:((rd aU ah)==(-1))=false:=beq_eq_false_iff_ne.mpr c13;have P5:((rd aU ah) !=(-1))=true:=bne_iff_ne.mpr c13;obtain rfl:=sj H;obtain⟨Ce,Cf,Cg,H9,Ia,Ib,Ic,BN,BO,BP,GX,GY,Ha,Hd⟩:=cz7 sN.out;have o8:0≤(ah:Int):=odt;have oD:ah<(aD.length:Int):=odt;obtain⟨Pf,rfl,kL⟩:=Kd.Zbh gI.out ah o8 oD;replace kL:=hB HB.out kL;replace o8:=eq_true o8;replace oD:=eq_true oD;have Tz:(0≤((rd aD ah):Int))=True:=teq;have TR:((rd aD ah)<(l0.length:Int))=True:=teq;obtain⟨Pg,um,uo,rfl,kN,kK,kJ⟩:=Zfv HR0.out (rd aD ah) odt odt;replace kN:=hB HB.out kN;have qC:=Za.mk kJ;have qp:=Za.mk kK;clear kJ kK
    go_wp2_with (first|((with_reducible refine Zak (f:=105) rfl ?_);refine gl 21 Tryz.func105 #[.slice um (Zdl l0 (rd aD ah)).length uo] ?_;(with_reducible refine(Zbj.calls k1 _ _ (Zdl l0 (rd aD ah)) true _ (cM (Kd.Zab qC.out HB.out)) qp.out A8.out).mono ?_);rintro e w' ⟨rfl,⟨nd,rfl⟩⟩;refine⟨_,rfl,?_⟩;have uy:0≤(ah:Int):=odt;have uH:ah<(aU.length:Int):=odt;obtain⟨JE,e274,oU⟩:=Kd.Zbh gp.out ah uy uH;cases e274;replace oU:=hB HB.out oU;replace uy:=eq_true uy;replace uH:=eq_true uH;have Cx:0≤(ah:Int):=odt;have Dh:ah<(aU.length:Int):=odt;obtain⟨Ph,e275,xS⟩:=Kd.Zbh gp.out ah Cx Dh;obtain rfl:JE=Ph:=(by injection e275);replace xS:=hB HB.out xS;replace Cx:=eq_true Cx;replace Dh:=eq_true Dh))
    go_ret;exact⟨eR,bM HB.out⟩
   rw[if_pos c13]at H;have o7:((rd aU ah)==(-1))=true:=beq_iff_eq.mpr c13;have P5:((rd aU ah) !=(-1))=false:=bne_eq_false_iff_eq.mpr c13;clear c13;have H':=Za.mk H;clear H;obtain⟨tu,tC,zL,Cb,Cc,H7,H8,sW,tq,zx,BJ,BM,GU,GV⟩:=cz7 sN.out;have o8:0≤(ah:Int):=odt;have oD:ah<(aD.length:Int):=odt;obtain⟨Pf,rfl,kL⟩:=Kd.Zbh gI.out ah o8 oD;replace kL:=hB HB.out kL;replace o8:=eq_true o8;replace oD:=eq_true oD;have Tz:(0≤((rd aD ah):Int))=True:=teq;have TR:((rd aD ah)<(l0.length:Int))=True:=teq;obtain⟨Pg,um,uo,rfl,kN,kK,kJ⟩:=Zfv HR0.out (rd aD ah) odt odt;replace kN:=hB HB.out kN;have qC:=Za.mk kJ;have qp:=Za.mk kK;clear kJ kK
   go_wp2_with (first|((with_reducible refine Zak (f:=105) rfl ?_);refine gl 21 Tryz.func105 #[.slice um (Zdl l0 (rd aD ah)).length uo] ?_;(with_reducible refine(Zbj.calls k1 _ _ (Zdl l0 (rd aD ah)) true _ (cM (Kd.Zab qC.out HB.out)) qp.out A8.out).mono ?_);rintro e w' ⟨rfl,⟨nd,rfl⟩⟩;refine⟨_,rfl,?_⟩;have uy:0≤(ah:Int):=odt;have uH:ah<(aU.length:Int):=odt;obtain⟨JE,e274,oU⟩:=Kd.Zbh gp.out ah uy uH;cases e274;replace oU:=hB HB.out oU;replace uy:=eq_true uy;replace uH:=eq_true uH;have Cx:0≤(ah:Int):=odt;have Dh:ah<(aU.length:Int):=odt;obtain⟨Ph,e275,xS⟩:=Kd.Zbh gp.out ah Cx Dh;obtain rfl:JE=Ph:=(by injection e275);replace xS:=hB HB.out xS;replace Cx:=eq_true Cx;replace Dh:=eq_true Dh))
   go_roundg k1
   case measure=>have:=HK1.out;omega
   case rel=>exact⟨(wrap64 (ah+1)),eS,H',⟨by have:=HK1.out;omega⟩,⟨kM sN.out⟩,⟨bM HB.out⟩⟩
mutual
def Zaq.j0 : Nat → List (List (S82)) → Bool → Int → List Int → List Int → Int → Int → List (List Int) → Int → Option (Bool)
 | 0, _, _, _, _, _, _, _, _, _ => none
 |k+1,x0,x5,gD,gF,je,iV,jr,gG,gW=>if x5=true then(Zaq.j1 k x0 x5 ((je.length:Int)==0) gD gF je iV jr gG gW)else(Zaq.j1 k x0 x5 false gD gF je iV jr gG gW)
def Zaq.j1 : Nat → List (List (S82)) → Bool → Bool → Int → List Int → List Int → Int → Int → List (List Int) → Int → Option (Bool)
 | 0, _, _, _, _, _, _, _, _, _, _ => none
 |k+1,x0,x5,x6,gD,gF,je,iV,jr,gG,gW=>if iV≥0 then(Zaq.j2 k x0 x5 x6 (decide (iV≤2)) gD gF je iV jr gG gW)else(Zaq.j2 k x0 x5 x6 false gD gF je iV jr gG gW)
def Zaq.j2 : Nat → List (List (S82)) → Bool → Bool → Bool → Int → List Int → List Int → Int → Int → List (List Int) → Int → Option (Bool)
 | 0, _, _, _, _, _, _, _, _, _, _, _ => none
 |k+1,x0,x5,x6,x7,gD,gF,je,iV,jr,gG,gW=>if(gF.length:Int)>0 then((Zay.f k gF).bind fun Qs=>(Zaq.j3 k x0 x5 x6 x7 Qs gD gF je iV jr gG gW))else(Zaq.j3 k x0 x5 x6 x7 false gD gF je iV jr gG gW)
def Zaq.j3 : Nat → List (List (S82)) → Bool → Bool → Bool → Bool → Int → List Int → List Int → Int → Int → List (List Int) → Int → Option (Bool)
 | 0, _, _, _, _, _, _, _, _, _, _, _, _ => none
 |k+1,x0,x5,x6,x7,x8,gD,gF,je,iV,jr,gG,gW=>if gD=0 then(if(gG.length:Int)=0 then((Zb9.f k gD gF je iV jr gG gW).bind fun Uf=>(if Uf=true then(if x7=true then(some (gW==0))else(some false))else(some false)))else(some false))else(if gD=1 then(if(gG.length:Int)=0 then(if x6=true then(some x8)else(some false))else(some false))else(if gD=2 then(if x6=true then(if x8=true then((Zbi.f k gD gF je iV jr gG gW).bind fun Ug=>(some Ug))else(some false))else(some false))else(if gD=3 then(if(gG.length:Int)=0 then(if x6=true then(if x8=true then(some (decide ((gF.length:Int)≥3)))else(some false))else(some false))else(some false))else(if gD=4 then(if(gG.length:Int)=0 then((Zb9.f k gD gF je iV jr gG gW).bind fun Uh=>(if Uh=true then(if x7=true then(if 0≤gW then(if gW<(x0.length:Int)then((Zbj.f k (Zdl x0 gW)).bind fun Ui=>(if Ui=true then((Zbg.f k gF gW).bind fun Uj=>(some (!Uj)))else(some false)))else(none))else(none))else(some false))else(some false)))else(some false))else(if gD=5 then(if(gG.length:Int)=0 then(if x5=true then((Zb9.f k gD gF je iV jr gG gW).bind fun Uk=>(if Uk=true then((Zb4.f k x0 gD gF je iV jr gG gW).bind fun Ul=>(some Ul))else(some false)))else(some false))else(some false))else(if(gG.length:Int)=0 then(if x6=true then(if(gF.length:Int)≥2 then(some (((gF.length:Int)%2)==0))else(some false))else(some false))else(some false)))))))
end
def Zaq.f (k:Nat) (l0:List (List (S82))) (aH:Int) (aD:List Int) (aU:List Int) (df:Int) (dh:Int) (bA:List (List Int)) (cu:Int):Option (Bool):=if df=0 then(if dh=0 then(Zaq.j0 k l0 (cu==0) aH aD aU df dh bA cu)else(Zaq.j0 k l0 false aH aD aU df dh bA cu))else(Zaq.j0 k l0 false aH aD aU df dh bA cu)
set_option maxRecDepth 100000 in
theorem Zaq.calls (k : Nat) (A0 : Option Addr) (c0 : Nat) (l0 : List (List (S82))) (aH : Int) (fI : Option Addr) (fJ : Nat) (aD : List Int) (fB : Option Addr) (fC : Nat) (aU : List Int) (df : Int) (dh : Int) (jC : Option Addr) (jD : Nat) (bA : List (List Int)) (cu : Int) (r : Bool) (w : World) (hr0 : Kd.C (Kd.slice 82 k82) w A0 l0.length l0) (hc0 : l0.length ≤ c0) (mV : Kd.C (Kd.int .i64) w fI aD.length aD) (mR : aD.length ≤ fJ) (mW : Kd.C (Kd.int .i64) w fB aU.length aU) (mU : aU.length ≤ fC) (vR : Kd.C (Kd.slice 3 (Kd.int .i64)) w jC bA.length bA) (vQ : bA.length ≤ jD) (h : Zaq.f k l0 aH aD aU df dh bA cu = some r) :
  Calls Tryz.prog 75 #[.slice A0 l0.length c0,.agg #[.int .i64 aH,.slice fI aD.length fJ,.slice fB aU.length fC,.int .i64 df,.int .i64 dh,.slice jC bA.length jD,.int .i64 cu]] w fun e w'=>e= .returned (.bool r)∧Below w.heap.size w w':=by
 have hu36:=Tryz.underlying36;have HR0:=Za.mk hr0;have HC0:=Za.mk hc0;clear hr0 hc0;have gI:=Za.mk mV;have iP:=Za.mk mR;clear mV mR;have gp:=Za.mk mW;have iQ:=Za.mk mU;clear mW mU;have jU:=Za.mk vR;have jP:=Za.mk vQ;clear vR vQ;have HB:=Za.mk (Below.refl w.heap.size w);have H:(if df=0 then(if dh=0 then(Zaq.j0 k l0 (cu==0) aH aD aU df dh bA cu)else(Zaq.j0 k l0 false aH aD aU df dh bA cu))else(Zaq.j0 k l0 false aH aD aU df dh bA cu))=some r:=h;clear h;have HC3:=Za.mk H;clear H;go_enter Tryz.func75,Tryz.ntmps75
 go_upto_region 1 with (first|((with_reducible refine Zao (N:=3) rfl ?_);(try(refine Zb7 (by rfl) ?_;dsimp only));refine bx 3 #[.int .i64 aH,.slice fI aD.length fJ,.slice fB aU.length fC,.int .i64 df,.int .i64 dh,.slice jC bA.length jD,.int .i64 cu] 36 ?_;intro Fh hg w4 hbox hb;have bI:=Za.mk (hbox);have mga:=Za.mk ((gE hg HB.out:w.heap.size≤Fh));replace HB:=Za.mk (bS HB.out hb);clear hb hbox hg))
 (try simp only[Act.put,List.setIfInBounds_toArray,List.set_cons_zero,List.set_cons_succ])
 go_cut [5] (fun v5 wc=>∃(kq:Nat) (dE:Bool),v5= .bool dE∧Za (Zaq.j0 kq l0 dE aH aD aU df dh bA cu=some r)∧Za (kq≤k)∧Za (wc.heap[Fh]? =some (.cells #[.int .i64 aH,(.slice fI aD.length fJ),(.slice fB aU.length fC),.int .i64 df,.int .i64 dh,(.slice jC bA.length jD),.int .i64 cu] 36 (0,0)))∧Za (Below w.heap.size w wc))
 case first=>
  have H:=HC3.out;clear HC3;by_cases c5:df=0
  case neg=>
   rw[if_neg c5]at H;have bU:(df==0)=false:=beq_eq_false_iff_ne.mpr c5;have lu:(df !=0)=true:=bne_iff_ne.mpr c5
   (first|rw[bU]|(simp only[Zd0,Zek];rw[bU])|skip)
   have H':=Za.mk H;clear H;obtain⟨Ej,El,Em,Mk,Ml,Mm,Mo,Ec,Ed,Ee,Mg,Mh,Mi,Mj⟩:=cz7 bI.out;go_wp2
   go_meet
   case rel=>exact⟨_,(false),eS,H',⟨by first|omega|exact Nat.le_refl _⟩,⟨kM bI.out⟩,⟨bM HB.out⟩⟩
  rw[if_pos c5]at H;have bU:(df==0)=true:=beq_iff_eq.mpr c5;have lu:(df !=0)=false:=bne_eq_false_iff_eq.mpr c5;clear c5
  (first|rw[bU]|(simp only[Zd0,Zek];rw[bU])|skip)
  by_cases c6:dh=0
  case neg=>
   rw[if_neg c6]at H;have fK:(dh==0)=false:=beq_eq_false_iff_ne.mpr c6;have rR:(dh !=0)=true:=bne_iff_ne.mpr c6;have H':=Za.mk H;clear H;obtain⟨sG,sH,sI,vo,vv,wI,wJ,sw,sD,sF,uX,uY,wG,wH⟩:=cz7 bI.out;go_wp2
   go_meet
   case rel=>exact⟨_,(false),eS,H',⟨by first|omega|exact Nat.le_refl _⟩,⟨kM bI.out⟩,⟨bM HB.out⟩⟩
  rw[if_pos c6]at H;have fK:(dh==0)=true:=beq_iff_eq.mpr c6;have rR:(dh !=0)=false:=bne_eq_false_iff_eq.mpr c6;clear c6;have H':=Za.mk H;clear H;obtain⟨qm,qo,vk,zV,zW,Eh,Ei,qd,qf,uW,zJ,zK,Ea,Eb⟩:=cz7 bI.out;go_wp2
  go_meet
  case rel=>exact⟨_,((cu==0)),eS,H',⟨by first|omega|exact Nat.le_refl _⟩,⟨kM bI.out⟩,⟨bM HB.out⟩⟩
 case rest=>
  clear HC3;try clear c1
  try clear p2
  try clear c5
  try clear bU
  try clear lu
  try clear c6
  try clear fK
  try clear rR
  try clear c7
  try clear qm qo vk zV zW Eh Ei qd qf uW zJ zK Ea Eb
  try clear sG sH sI vo vv wI wJ sw sD sF uX uY wG wH
  try clear Ej El Em Mk Ml Mm Mo Ec Ed Ee Mg Mh Mi Mj
  obtain⟨kq,dE,rfl,HA,HJ2,bI,HB⟩:=hcut
  cases kq with
  | zero => exact absurd HA.out (by simp [Zaq.j0])
  |succ kj2=>
   have H:=HA.out;clear HA;simp only[Zaq.j0]at H;have Si:=Za.mk H;clear H
   go_upto_region 2 with (fail)
   go_cut [6] (fun v6 wc=>∃(kq:Nat) (zu:Bool),v6= .bool zu∧Za (Zaq.j1 kq l0 dE zu aH aD aU df dh bA cu=some r)∧Za (kq≤kj2)∧Za (wc.heap[Fh]? =some (.cells #[.int .i64 aH,(.slice fI aD.length fJ),(.slice fB aU.length fC),.int .i64 df,.int .i64 dh,(.slice jC bA.length jD),.int .i64 cu] 36 (0,0)))∧Za (Below w.heap.size w wc))
   case first=>
    have H:=Si.out;clear Si;by_cases c11:dE=true
    case pos=>
     subst c11;rw[if_pos rfl]at H;have H':=Za.mk H;clear H;obtain⟨qg,qh,qi,qj,ql,ww,wy,pU,pV,pW,pX,pY,vU,vV⟩:=cz7 bI.out;go_wp2
     go_meet
     case rel=>exact⟨_,(((aU.length:Int)==0)),eS,H',⟨by have:=HJ2.out;first|omega|exact Nat.le_refl _⟩,⟨kM bI.out⟩,⟨bM HB.out⟩⟩
    replace c11:=Bool.eq_false_iff.mpr c11;subst c11;replace H:=ifF H;have H':=Za.mk H;clear H;go_wp2
    go_meet
    case rel=>exact⟨_,(false),eS,H',⟨by have:=HJ2.out;first|omega|exact Nat.le_refl _⟩,⟨kM bI.out⟩,⟨bM HB.out⟩⟩
   case rest=>
    clear Si;try clear c1
    try clear p2
    try clear c5
    try clear bU
    try clear lu
    try clear c6
    try clear fK
    try clear rR
    try clear c7
    try clear c11
    try clear qg qh qi qj ql ww wy pU pV pW pX pY vU vV
    try clear qm qo vk zV zW Eh Ei qd qf uW zJ zK Ea Eb
    try clear sG sH sI vo vv wI wJ sw sD sF uX uY wG wH
    try clear Ej El Em Mk Ml Mm Mo Ec Ed Ee Mg Mh Mi Mj
    try clear p2
    obtain⟨kq,zu,rfl,HA,HJ9,bI,HB⟩:=hcut
    cases kq with
    | zero => exact absurd HA.out (by simp [Zaq.j1])
    |succ kj9=>
     have H:=HA.out;clear HA;simp only[Zaq.j1]at H;have Sk:=Za.mk H;clear H
     go_upto_region 3 with (fail)
     go_cut [7] (fun v7 wc=>∃(kq:Nat) (BI:Bool),v7= .bool BI∧Za (Zaq.j2 kq l0 dE zu BI aH aD aU df dh bA cu=some r)∧Za (kq≤kj9)∧Za (wc.heap[Fh]? =some (.cells #[.int .i64 aH,(.slice fI aD.length fJ),(.slice fB aU.length fC),.int .i64 df,.int .i64 dh,(.slice jC bA.length jD),.int .i64 cu] 36 (0,0)))∧Za (Below w.heap.size w wc))
     case first=>
      have H:=Sk.out;clear Sk;by_cases c14:df≥0
      case neg=>
       rw[if_neg c14]at H;have lq:decide (0≤df)=false:=decide_eq_false c14;clear c14
       (first|rw[lq]|(simp only[Zd0,Zek];rw[lq])|skip)
       have H':=Za.mk H;clear H;obtain⟨wz,wB,wC,zM,zN,zO,zP,vW,vX,vY,zy,zz,z8,zA⟩:=cz7 bI.out;go_wp2
       go_meet
       case rel=>exact⟨_,(false),eS,H',⟨by have:=HJ2.out;have:=HJ9.out;first|omega|exact Nat.le_refl _⟩,⟨kM bI.out⟩,⟨bM HB.out⟩⟩
      rw[if_pos c14]at H;have lq:decide (0≤df)=true:=decide_eq_true c14;clear c14
      (first|rw[lq]|(simp only[Zd0,Zek];rw[lq])|skip)
      have H':=Za.mk H;clear H;obtain⟨Ce,Cf,Cg,H9,Ia,Ib,Ic,BN,BO,BP,GX,GY,Ha,Hd⟩:=cz7 bI.out;go_wp2
      go_meet
      case rel=>exact⟨_,(decide (df≤2)),eS,H',⟨by have:=HJ2.out;have:=HJ9.out;first|omega|exact Nat.le_refl _⟩,⟨kM bI.out⟩,⟨bM HB.out⟩⟩
     case rest=>
      clear Sk;try clear c1
      try clear p2
      try clear c5
      try clear bU
      try clear lu
      try clear c6
      try clear fK
      try clear rR
      try clear c7
      try clear c11
      try clear c14
      try clear lq
      try clear qg qh qi qj ql ww wy pU pV pW pX pY vU vV
      try clear Ce Cf Cg H9 Ia Ib Ic BN BO BP GX GY Ha Hd
      try clear wz wB wC zM zN zO zP vW vX vY zy zz z8 zA
      try clear qm qo vk zV zW Eh Ei qd qf uW zJ zK Ea Eb
      try clear sG sH sI vo vv wI wJ sw sD sF uX uY wG wH
      try clear Ej El Em Mk Ml Mm Mo Ec Ed Ee Mg Mh Mi Mj
      try clear p2
      obtain⟨kq,BI,rfl,HA,HJ12,bI,HB⟩:=hcut
      cases kq with
      | zero => exact absurd HA.out (by simp [Zaq.j2])
      |succ kj12=>
       have H:=HA.out;clear HA;simp only[Zaq.j2]at H;have Sl:=Za.mk H;clear H
       go_upto_region 4 with (fail)
       go_cut [8] (fun v8 wc=>∃(kq:Nat) (GN:Bool),v8= .bool GN∧Za (Zaq.j3 kq l0 dE zu BI GN aH aD aU df dh bA cu=some r)∧Za (kq≤kj12)∧Za (wc.heap[Fh]? =some (.cells #[.int .i64 aH,(.slice fI aD.length fJ),(.slice fB aU.length fC),.int .i64 df,.int .i64 dh,(.slice jC bA.length jD),.int .i64 cu] 36 (0,0)))∧Za (Below w.heap.size w wc))
       case first=>
        have H:=Sl.out;clear Sl;by_cases c18:(aD.length:Int)>0
        case neg=>
         rw[if_neg c18]at H;have jB:decide (0<(aD.length:Int))=false:=decide_eq_false c18;have rf:decide (0<aD.length)=false:=decide_eq_false (by omega);clear c18
         (first|rw[jB]|(simp only[Zd0,Zek];rw[jB])|skip)
         have H':=Za.mk H;clear H;obtain⟨Kv,Kw,Xp,Xq,Xr,Xt,Xu,Kh,Ki,WB,WC,WE,WF,WG⟩:=cz7 bI.out;go_wp2
         go_meet
         case rel=>exact⟨_,(false),eS,H',⟨by have:=HJ2.out;have:=HJ9.out;have:=HJ12.out;first|omega|exact Nat.le_refl _⟩,⟨kM bI.out⟩,⟨bM HB.out⟩⟩
        rw[if_pos c18]at H;have jB:decide (0<(aD.length:Int))=true:=decide_eq_true c18;have rf:decide (0<aD.length)=true:=decide_eq_true (by omega);clear c18
        (first|rw[jB]|(simp only[Zd0,Zek];rw[jB])|skip)
        obtain⟨Qs,A19,H⟩:=bnd H;try dsimp only at H
        have H':=Za.mk H;clear H;obtain⟨zQ,zR,Ih,Kt,Ku,fNa,fOa,zB,zC,Hg,Ke,Kg,eha,eia⟩:=cz7 bI.out
        go_wp2_with (first|(go_at_call 102;(with_reducible refine(Zay.calls kj12 _ _ aD Qs _ (cM (Kd.Zab gI.out HB.out)) iP.out A19.out).mono ?_);rintro e w' ⟨rfl,⟨nd,rfl⟩⟩))
        go_meet
        case rel=>exact⟨_,(Qs),eS,H',⟨by have:=HJ2.out;have:=HJ9.out;have:=HJ12.out;first|omega|exact Nat.le_refl _⟩,⟨kM bI.out⟩,⟨bM HB.out⟩⟩
       case rest=>
        clear Sl;try clear c1
        try clear p2
        try clear c5
        try clear bU
        try clear lu
        try clear c6
        try clear fK
        try clear rR
        try clear c7
        try clear c11
        try clear c14
        try clear lq
        try clear c18
        try clear jB
        try clear rf
        try clear qg qh qi qj ql ww wy pU pV pW pX pY vU vV
        try clear Ce Cf Cg H9 Ia Ib Ic BN BO BP GX GY Ha Hd
        try clear wz wB wC zM zN zO zP vW vX vY zy zz z8 zA
        try clear zQ zR Ih Kt Ku fNa fOa zB zC Hg Ke Kg eha eia
        try clear Kv Kw Xp Xq Xr Xt Xu Kh Ki WB WC WE WF WG
        try clear qm qo vk zV zW Eh Ei qd qf uW zJ zK Ea Eb
        try clear sG sH sI vo vv wI wJ sw sD sF uX uY wG wH
        try clear Ej El Em Mk Ml Mm Mo Ec Ed Ee Mg Mh Mi Mj
        try clear p2
        obtain⟨kq,GN,rfl,HA,HJ16,bI,HB⟩:=hcut
        cases kq with
        | zero => exact absurd HA.out (by simp [Zaq.j3])
        |succ kj16=>
         have H:=HA.out;clear HA;simp only[Zaq.j3]at H;by_cases c22:aH=0
         case pos=>
          rw[if_pos c22]at H;have Fa:(aH==0)=true:=beq_iff_eq.mpr c22;have PE:(aH !=0)=false:=bne_eq_false_iff_eq.mpr c22;clear c22;by_cases c23:(bA.length:Int)=0
          case neg=>
           rw[if_neg c23]at H;have Bg:((bA.length:Int)==0)=false:=beq_eq_false_iff_ne.mpr c23;have JL:((bA.length:Int) !=0)=true:=bne_iff_ne.mpr c23;have Wd:¬(bA= []):=fun h_=>c23 (by rw[h_];rfl)
           obtain rfl:=sj H;obtain⟨fYa,gaa,gba,gca,gda,gea,gfa,esa,eta,eua,eva,ewa,exa,eya⟩:=cz7 bI.out;go_wp2;go_ret;exact⟨eR,bM HB.out⟩
          rw[if_pos c23]at H;have Bg:((bA.length:Int)==0)=true:=beq_iff_eq.mpr c23;have JL:((bA.length:Int) !=0)=false:=bne_eq_false_iff_eq.mpr c23;clear c23;obtain⟨Uf,A24,H⟩:=bnd H;try dsimp only at H
          by_cases c25:Uf=true
          case neg=>
           replace c25:=Bool.eq_false_iff.mpr c25;subst c25;replace H:=ifF H;obtain rfl:=sj H;obtain⟨Rv,Rw,X9,XA,XB,r7a,r8a,QM,QN,WT,WU,WV,oea,ofa⟩:=cz7 bI.out
           go_wp2_with (first|(go_at_call 103;(with_reducible refine(Zb9.calls kj16 aH _ _ aD _ _ aU df dh _ _ bA cu false _ (cM (Kd.Zab gI.out HB.out)) iP.out (cM (Kd.Zab gp.out HB.out)) iQ.out (cM (Kd.Zab jU.out HB.out)) jP.out A24.out).mono ?_);rintro e w33 ⟨rfl,hb⟩;replace HB:=Za.mk (bS HB.out hb);clear bI;(try clear hb);(try clear hb2);(try clear hk);(try clear hi)))
           go_ret;exact⟨eR,bM HB.out⟩
          subst c25;rw[if_pos rfl]at H;by_cases c26:BI=true
          case pos=>
           subst c26;rw[if_pos rfl]at H;obtain rfl:=sj H;obtain⟨Rq,Rs,X4,X5,X6,rua,rva,QI,QJ,WO,WP,WQ,nRa,nSa⟩:=cz7 bI.out
           go_wp2_with (first|(go_at_call 103;(with_reducible refine(Zb9.calls kj16 aH _ _ aD _ _ aU df dh _ _ bA cu true _ (cM (Kd.Zab gI.out HB.out)) iP.out (cM (Kd.Zab gp.out HB.out)) iQ.out (cM (Kd.Zab jU.out HB.out)) jP.out A24.out).mono ?_);rintro e w28 ⟨rfl,hb⟩;replace bI:=Za.mk (kB bI.out hb);replace HB:=Za.mk (bS HB.out hb);(try clear hb);(try clear hb2);(try clear hk);(try clear hi);obtain⟨rJ,rO,Ii,Ij,Ik,Rt,Ru,rA,rC,Hl,Hm,Ho,QK,QL⟩:=cz7 bI.out))
           go_ret;exact⟨eR,bM HB.out⟩
          replace c26:=Bool.eq_false_iff.mpr c26;subst c26;replace H:=ifF H;obtain rfl:=sj H;obtain⟨fUa,fVa,r2a,r3a,r4a,r5a,r6a,eoa,epa,nYa,oaa,oba,oca,oda⟩:=cz7 bI.out
          go_wp2_with (first|(go_at_call 103;(with_reducible refine(Zb9.calls kj16 aH _ _ aD _ _ aU df dh _ _ bA cu true _ (cM (Kd.Zab gI.out HB.out)) iP.out (cM (Kd.Zab gp.out HB.out)) iQ.out (cM (Kd.Zab jU.out HB.out)) jP.out A24.out).mono ?_);rintro e w31 ⟨rfl,hb⟩;replace HB:=Za.mk (bS HB.out hb);clear bI;(try clear hb);(try clear hb2);(try clear hk);(try clear hi)))
          go_ret;exact⟨eR,bM HB.out⟩
         rw[if_neg c22]at H;have Fa:(aH==0)=false:=beq_eq_false_iff_ne.mpr c22;have PE:(aH !=0)=true:=bne_iff_ne.mpr c22;by_cases c35:aH=1
         case pos=>
          rw[if_pos c35]at H;have Bh:(aH==1)=true:=beq_iff_eq.mpr c35;have JO:(aH !=1)=false:=bne_eq_false_iff_eq.mpr c35;clear c35;by_cases c36:(bA.length:Int)=0
          case neg=>
           rw[if_neg c36]at H;have JP:((bA.length:Int)==0)=false:=beq_eq_false_iff_ne.mpr c36;have PG:((bA.length:Int) !=0)=true:=bne_iff_ne.mpr c36;have m9a:¬(bA= []):=fun h_=>c36 (by rw[h_];rfl)
           obtain rfl:=sj H;obtain⟨rIa,rJa,rKa,rLa,rMa,rNa,rOa,opa,oqa,ora,osa,ota,oua,ova⟩:=cz7 bI.out;go_wp2;go_ret;exact⟨eR,bM HB.out⟩
          rw[if_pos c36]at H;have JP:((bA.length:Int)==0)=true:=beq_iff_eq.mpr c36;have PG:((bA.length:Int) !=0)=false:=bne_eq_false_iff_eq.mpr c36;clear c36;by_cases c37:zu=true
          case pos=>
           subst c37;rw[if_pos rfl]at H;obtain rfl:=sj H;obtain⟨XC,XD,gga,gha,gia,gja,gka,WW,WX,eza,e0a,e1a,e2a,e3a⟩:=cz7 bI.out;go_wp2;go_ret;exact⟨eR,bM HB.out⟩
          replace c37:=Bool.eq_false_iff.mpr c37;subst c37;replace H:=ifF H;obtain rfl:=sj H;obtain⟨gla,gma,gna,goa,gpa,rGa,rHa,e4a,e5a,e6a,e7a,e8a,ona,ooa⟩:=cz7 bI.out;go_wp2;go_ret;exact⟨eR,bM HB.out⟩
         rw[if_neg c35]at H;have Bh:(aH==1)=false:=beq_eq_false_iff_ne.mpr c35;have JO:(aH !=1)=true:=bne_iff_ne.mpr c35;by_cases c41:aH=2
         case pos=>
          rw[if_pos c41]at H;have PH:(aH==2)=true:=beq_iff_eq.mpr c41;have PI:(aH !=2)=false:=bne_eq_false_iff_eq.mpr c41;clear c41;by_cases c42:zu=true
          case neg=>
           replace c42:=Bool.eq_false_iff.mpr c42;subst c42;replace H:=ifF H;obtain rfl:=sj H;obtain⟨gta,gua,gva,gwa,gxa,gya,gza,eBa,eCa,eDa,eEa,eFa,eGa,eHa⟩:=cz7 bI.out;go_wp2;go_ret;exact⟨eR,bM HB.out⟩
          subst c42;rw[if_pos rfl]at H;by_cases c43:GN=true
          case neg=>
           replace c43:=Bool.eq_false_iff.mpr c43;subst c43;replace H:=ifF H;obtain rfl:=sj H;obtain⟨sca,sda,sea,sfa,sga,sha,sia,o8a,o9a,oAa,oBa,oCa,oDa,oEa⟩:=cz7 bI.out;go_wp2;go_ret;exact⟨eR,bM HB.out⟩
          subst c43;rw[if_pos rfl]at H;obtain⟨Ug,A44,H⟩:=bnd H;try dsimp only at H
          obtain rfl:=sj H;obtain⟨Ch,Ci,Cj,Ck,Cm,gqa,gra,BQ,BR,BS,BU,Ca,e9a,eAa⟩:=cz7 bI.out
          go_wp2_with (first|(go_at_call 104;(with_reducible refine(Zbi.calls kj16 aH _ _ aD _ _ aU df dh _ _ bA cu Ug _ (cM (Kd.Zab gI.out HB.out)) iP.out (cM (Kd.Zab gp.out HB.out)) iQ.out (cM (Kd.Zab jU.out HB.out)) jP.out A44.out).mono ?_);rintro e w46 ⟨rfl,hb⟩;replace HB:=Za.mk (bS HB.out hb);clear bI;(try clear hb);(try clear hb2);(try clear hk);(try clear hi)))
          go_ret;exact⟨eR,bM HB.out⟩
         rw[if_neg c41]at H;have PH:(aH==2)=false:=beq_eq_false_iff_ne.mpr c41;have PI:(aH !=2)=true:=bne_iff_ne.mpr c41;by_cases c49:aH=3
         case pos=>
          rw[if_pos c49]at H;have d0a:(aH==3)=true:=beq_iff_eq.mpr c49;have d1a:(aH !=3)=false:=bne_eq_false_iff_eq.mpr c49;clear c49;by_cases c50:(bA.length:Int)=0
          case neg=>
           rw[if_neg c50]at H;have d2a:((bA.length:Int)==0)=false:=beq_eq_false_iff_ne.mpr c50;have d3a:((bA.length:Int) !=0)=true:=bne_iff_ne.mpr c50;have mAa:¬(bA= []):=fun h_=>c50 (by rw[h_];rfl)
           obtain rfl:=sj H;obtain⟨sta,sua,sva,swa,sxa,sya,sza,oOa,oPa,oQa,oRa,oSa,oTa,oUa⟩:=cz7 bI.out;go_wp2;go_ret;exact⟨eR,bM HB.out⟩
          rw[if_pos c50]at H;have d2a:((bA.length:Int)==0)=true:=beq_iff_eq.mpr c50;have d3a:((bA.length:Int) !=0)=false:=bne_eq_false_iff_eq.mpr c50;clear c50;by_cases c51:zu=true
          case neg=>
           replace c51:=Bool.eq_false_iff.mpr c51;subst c51;replace H:=ifF H;obtain rfl:=sj H;obtain⟨g2a,g3a,g4a,g5a,g6a,g7a,g8a,eKa,eLa,eMa,eNa,eOa,ePa,eQa⟩:=cz7 bI.out;go_wp2;go_ret;exact⟨eR,bM HB.out⟩
          subst c51;rw[if_pos rfl]at H;by_cases c52:GN=true
          case pos=>
           subst c52;rw[if_pos rfl]at H;obtain rfl:=sj H;obtain⟨R3,R4,R5,R6,R7,g0a,g1a,QR,QS,QT,QU,QV,eIa,eJa⟩:=cz7 bI.out;go_wp2;go_ret;exact⟨eR,bM HB.out⟩
          replace c52:=Bool.eq_false_iff.mpr c52;subst c52;replace H:=ifF H;obtain rfl:=sj H;obtain⟨sla,sma,sna,soa,spa,sqa,sra,oHa,oIa,oJa,oKa,oLa,oMa,oNa⟩:=cz7 bI.out;go_wp2;go_ret;exact⟨eR,bM HB.out⟩
         rw[if_neg c49]at H;have d0a:(aH==3)=false:=beq_eq_false_iff_ne.mpr c49;have d1a:(aH !=3)=true:=bne_iff_ne.mpr c49;by_cases c57:aH=4
         case pos=>
          rw[if_pos c57]at H;have d4a:(aH==4)=true:=beq_iff_eq.mpr c57;have d5a:(aH !=4)=false:=bne_eq_false_iff_eq.mpr c57;clear c57;by_cases c58:(bA.length:Int)=0
          case neg=>
           rw[if_neg c58]at H;have Wl:((bA.length:Int)==0)=false:=beq_eq_false_iff_ne.mpr c58;have Wm:((bA.length:Int) !=0)=true:=bne_iff_ne.mpr c58;have mDa:¬(bA= []):=fun h_=>c58 (by rw[h_];rfl)
           obtain rfl:=sj H;obtain⟨t7a,t8a,t9a,tAa,tBa,tCa,tDa,qda,qea,qfa,qga,qha,qia,qja⟩:=cz7 bI.out;go_wp2;go_ret;exact⟨eR,bM HB.out⟩
          rw[if_pos c58]at H;have Wl:((bA.length:Int)==0)=true:=beq_iff_eq.mpr c58;have Wm:((bA.length:Int) !=0)=false:=bne_eq_false_iff_eq.mpr c58;clear c58;obtain⟨Uh,A59,H⟩:=bnd H;try dsimp only at H
          by_cases c60:Uh=true
          case neg=>
           replace c60:=Bool.eq_false_iff.mpr c60;subst c60;replace H:=ifF H;obtain rfl:=sj H;obtain⟨tta,tua,tva,twa,txa,tya,tza,pOa,pPa,pQa,pRa,pSa,pTa,pUa⟩:=cz7 bI.out
           go_wp2_with (first|(go_at_call 103;(with_reducible refine(Zb9.calls kj16 aH _ _ aD _ _ aU df dh _ _ bA cu false _ (cM (Kd.Zab gI.out HB.out)) iP.out (cM (Kd.Zab gp.out HB.out)) iQ.out (cM (Kd.Zab jU.out HB.out)) jP.out A59.out).mono ?_);rintro e w76 ⟨rfl,hb⟩;replace HB:=Za.mk (bS HB.out hb);clear bI;(try clear hb);(try clear hb2);(try clear hk);(try clear hi)))
           go_ret;exact⟨eR,bM HB.out⟩
          subst c60;rw[if_pos rfl]at H;by_cases c61:BI=true
          case neg=>
           replace c61:=Bool.eq_false_iff.mpr c61;subst c61;replace H:=ifF H;obtain rfl:=sj H;obtain⟨XJ,XK,XL,XM,XN,XO,XP,Xe,Xf,Xg,Xh,Xi,Xj,Xk⟩:=cz7 bI.out
           go_wp2_with (first|(go_at_call 103;(with_reducible refine(Zb9.calls kj16 aH _ _ aD _ _ aU df dh _ _ bA cu true _ (cM (Kd.Zab gI.out HB.out)) iP.out (cM (Kd.Zab gp.out HB.out)) iQ.out (cM (Kd.Zab jU.out HB.out)) jP.out A59.out).mono ?_);rintro e w74 ⟨rfl,hb⟩;replace HB:=Za.mk (bS HB.out hb);clear bI;(try clear hb);(try clear hb2);(try clear hk);(try clear hi)))
           go_ret;exact⟨eR,bM HB.out⟩
          subst c61;rw[if_pos rfl]at H;obtain⟨JQ,H⟩:=ifT H;obtain⟨mIa,H⟩:=ifT H;obtain⟨Ui,A64,H⟩:=bnd H;try dsimp only at H
          by_cases c65:Ui=true
          case neg=>
           replace c65:=Bool.eq_false_iff.mpr c65;subst c65;replace H:=ifF H;obtain rfl:=sj H;obtain⟨sXa,sYa,taa,tba,tca,tda,tea,p3a,p4a,p5a,p6a,p7a,p8a,p9a⟩:=cz7 bI.out
           go_wp2_with (first|(go_at_call 103;(with_reducible refine(Zb9.calls kj16 aH _ _ aD _ _ aU df dh _ _ bA cu true _ (cM (Kd.Zab gI.out HB.out)) iP.out (cM (Kd.Zab gp.out HB.out)) iQ.out (cM (Kd.Zab jU.out HB.out)) jP.out A59.out).mono ?_);rintro e w71 ⟨rfl,hb⟩;replace bI:=Za.mk (kB bI.out hb);replace HB:=Za.mk (bS HB.out hb);(try clear hb);(try clear hb2);(try clear hk);(try clear hi);obtain⟨tma,tna,toa,tpa,tqa,tra,tsa,pHa,pIa,pJa,pKa,pLa,pMa,pNa⟩:=cz7 bI.out;have Cy:0≤(cu:Int):=odt;have Di:cu<(l0.length:Int):=odt;obtain⟨cXa,YM,aka,SK,xU,xx,wP⟩:=Zfv HR0.out cu Cy Di;cases SK;replace xU:=hB HB.out xU;have I7:=Za.mk wP;have Iw:=Za.mk xx;clear wP xx;replace Cy:=eq_true Cy;replace Di:=eq_true Di)|(go_at_call 105;(with_reducible refine(Zbj.calls kj16 _ _ (Zdl l0 cu) false _ (cM (Kd.Zab I7.out HB.out)) Iw.out A64.out).mono ?_);rintro e w' ⟨rfl,⟨nd,rfl⟩⟩))
           go_ret;exact⟨eR,bM HB.out⟩
          subst c65;rw[if_pos rfl]at H;obtain⟨Uj,A66,H⟩:=bnd H;try dsimp only at H
          obtain rfl:=sj H;obtain⟨g9a,gAa,gBa,gCa,gDa,gEa,gFa,eRa,eSa,eTa,eUa,eVa,eWa,eXa⟩:=cz7 bI.out
          go_wp2_with (first|(go_at_call 103;(with_reducible refine(Zb9.calls kj16 aH _ _ aD _ _ aU df dh _ _ bA cu true _ (cM (Kd.Zab gI.out HB.out)) iP.out (cM (Kd.Zab gp.out HB.out)) iQ.out (cM (Kd.Zab jU.out HB.out)) jP.out A59.out).mono ?_);rintro e w68 ⟨rfl,hb⟩;replace bI:=Za.mk (kB bI.out hb);replace HB:=Za.mk (bS HB.out hb);(try clear hb);(try clear hb2);(try clear hk);(try clear hi);obtain⟨gGa,gHa,gIa,gJa,gKa,gLa,gMa,eYa,faa,fba,fca,fda,fea,ffa⟩:=cz7 bI.out;have Cy:0≤(cu:Int):=odt;have Di:cu<(l0.length:Int):=odt;obtain⟨cXa,YM,aka,SK,xU,xx,wP⟩:=Zfv HR0.out cu Cy Di;cases SK;replace xU:=hB HB.out xU;have I7:=Za.mk wP;have Iw:=Za.mk xx;clear wP xx;replace Cy:=eq_true Cy;replace Di:=eq_true Di)|(go_at_call 105;(with_reducible refine(Zbj.calls kj16 _ _ (Zdl l0 cu) true _ (cM (Kd.Zab I7.out HB.out)) Iw.out A64.out).mono ?_);rintro e w' ⟨rfl,⟨nd,rfl⟩⟩)|(go_at_call 49;(with_reducible refine(Zbg.calls kj16 _ _ aD cu Uj _ (cM (Kd.Zab gI.out (bM HB.out))) iP.out A66.out).mono ?_);rintro e w' ⟨rfl,⟨nd,rfl⟩⟩))
          go_ret;exact⟨eR,bM HB.out⟩
         rw[if_neg c57]at H;have d4a:(aH==4)=false:=beq_eq_false_iff_ne.mpr c57;have d5a:(aH !=4)=true:=bne_iff_ne.mpr c57;by_cases c78:aH=5
         case neg=>
          rw[if_neg c78]at H;have d6a:(aH==5)=false:=beq_eq_false_iff_ne.mpr c78;have d7a:(aH !=5)=true:=bne_iff_ne.mpr c78;by_cases c92:(bA.length:Int)=0
          case neg=>
           rw[if_neg c92]at H;have PN:((bA.length:Int)==0)=false:=beq_eq_false_iff_ne.mpr c92;have PO:((bA.length:Int) !=0)=true:=bne_iff_ne.mpr c92;have mQa:¬(bA= []):=fun h_=>c92 (by rw[h_];rfl)
           obtain rfl:=sj H;obtain⟨hta,hua,hwa,h0a,h2a,h3a,h4a,f4a,f5a,f6a,f7a,f8a,f9a,fAa⟩:=cz7 bI.out;go_wp2;go_ret;exact⟨eR,bM HB.out⟩
          rw[if_pos c92]at H;have PN:((bA.length:Int)==0)=true:=beq_iff_eq.mpr c92;have PO:((bA.length:Int) !=0)=false:=bne_eq_false_iff_eq.mpr c92;clear c92;by_cases c93:zu=true
          case neg=>
           replace c93:=Bool.eq_false_iff.mpr c93;subst c93;replace H:=ifF H;obtain rfl:=sj H;obtain⟨u9a,uAa,uBa,uCa,uDa,uEa,uFa,rfa,rga,rha,ria,rja,rka,rla⟩:=cz7 bI.out;go_wp2;go_ret;exact⟨eR,bM HB.out⟩
          subst c93;rw[if_pos rfl]at H;by_cases c94:(aD.length:Int)≥2
          case neg=>
           rw[if_neg c94]at H;have Wp:decide (2≤(aD.length:Int))=false:=decide_eq_false c94;have Ws:decide (2≤aD.length)=false:=decide_eq_false (by omega);clear c94;obtain rfl:=sj H;obtain⟨hca,hda,hea,hha,hma,hpa,hqa,fva,fwa,fxa,fya,fza,f2a,f3a⟩:=cz7 bI.out;go_wp2;go_ret;exact⟨eR,bM HB.out⟩
          rw[if_pos c94]at H;have Wp:decide (2≤(aD.length:Int))=true:=decide_eq_true c94;have Ws:decide (2≤aD.length)=true:=decide_eq_true (by omega);clear c94;obtain rfl:=sj H;obtain⟨u2a,u3a,u4a,u5a,u6a,u7a,u8a,qXa,qYa,raa,rba,rca,rda,rea⟩:=cz7 bI.out;go_wp2;go_ret;exact⟨eR,bM HB.out⟩
         rw[if_pos c78]at H;have d6a:(aH==5)=true:=beq_iff_eq.mpr c78;have d7a:(aH !=5)=false:=bne_eq_false_iff_eq.mpr c78;clear c78;by_cases c79:(bA.length:Int)=0
         case neg=>
          rw[if_neg c79]at H;have JR:((bA.length:Int)==0)=false:=beq_eq_false_iff_ne.mpr c79;have JS:((bA.length:Int) !=0)=true:=bne_iff_ne.mpr c79;have mJa:¬(bA= []):=fun h_=>c79 (by rw[h_];rfl)
          obtain rfl:=sj H;obtain⟨uoa,upa,uqa,ura,usa,uta,uua,qJa,qKa,qLa,qMa,qNa,qOa,qPa⟩:=cz7 bI.out;go_wp2;go_ret;exact⟨eR,bM HB.out⟩
         rw[if_pos c79]at H;have JR:((bA.length:Int)==0)=true:=beq_iff_eq.mpr c79;have JS:((bA.length:Int) !=0)=false:=bne_eq_false_iff_eq.mpr c79;clear c79;by_cases c80:dE=true
         case neg=>
          replace c80:=Bool.eq_false_iff.mpr c80;subst c80;replace H:=ifF H;obtain rfl:=sj H;obtain⟨gUa,gVa,gWa,gXa,gYa,haa,hba,foa,fpa,fqa,fra,fsa,fta,fua⟩:=cz7 bI.out;go_wp2;go_ret;exact⟨eR,bM HB.out⟩
         subst c80;rw[if_pos rfl]at H;obtain⟨Uk,A81,H⟩:=bnd H;try dsimp only at H
         by_cases c82:Uk=true
         case neg=>
          replace c82:=Bool.eq_false_iff.mpr c82;subst c82;replace H:=ifF H;obtain rfl:=sj H;obtain⟨uha,uia,uja,uka,ula,uma,una,qCa,qDa,qEa,qFa,qGa,qHa,qIa⟩:=cz7 bI.out
          go_wp2_with (first|(go_at_call 103;(with_reducible refine(Zb9.calls kj16 aH _ _ aD _ _ aU df dh _ _ bA cu false _ (cM (Kd.Zab gI.out HB.out)) iP.out (cM (Kd.Zab gp.out HB.out)) iQ.out (cM (Kd.Zab jU.out HB.out)) jP.out A81.out).mono ?_);rintro e w89 ⟨rfl,hb⟩;replace HB:=Za.mk (bS HB.out hb);clear bI;(try clear hb);(try clear hb2);(try clear hk);(try clear hi)))
          go_ret;exact⟨eR,bM HB.out⟩
         subst c82;rw[if_pos rfl]at H;obtain⟨Ul,A83,H⟩:=bnd H;try dsimp only at H
         obtain rfl:=sj H;obtain⟨tSa,tTa,tUa,tVa,tWa,tXa,tYa,qya,qza,q0a,q1a,q2a,q3a,q4a⟩:=cz7 bI.out
         go_wp2_with (first|(go_at_call 103;(with_reducible refine(Zb9.calls kj16 aH _ _ aD _ _ aU df dh _ _ bA cu true _ (cM (Kd.Zab gI.out HB.out)) iP.out (cM (Kd.Zab gp.out HB.out)) iQ.out (cM (Kd.Zab jU.out HB.out)) jP.out A81.out).mono ?_);rintro e w85 ⟨rfl,hb⟩;replace bI:=Za.mk (kB bI.out hb);replace HB:=Za.mk (bS HB.out hb);(try clear hb);(try clear hb2);(try clear hk);(try clear hi);obtain⟨uaa,uba,uca,uda,uea,ufa,uga,q5a,q6a,q7a,q8a,q9a,qAa,qBa⟩:=cz7 bI.out)|(go_at_call 106;(with_reducible refine(Zb4.calls kj16 _ _ l0 aH _ _ aD _ _ aU df dh _ _ bA cu Ul _ (cM (Kd.Zab HR0.out HB.out)) HC0.out (cM (Kd.Zab gI.out HB.out)) iP.out (cM (Kd.Zab gp.out HB.out)) iQ.out (cM (Kd.Zab jU.out HB.out)) jP.out A83.out).mono ?_);rintro e w87 ⟨rfl,hb⟩;replace HB:=Za.mk (bS HB.out hb);clear bI;(try clear hb);(try clear hb2);(try clear hk);(try clear hi)))
         go_ret;exact⟨eR,bM HB.out⟩
end Go.Proofs.YtdpieallpbllkaaGreat.P
