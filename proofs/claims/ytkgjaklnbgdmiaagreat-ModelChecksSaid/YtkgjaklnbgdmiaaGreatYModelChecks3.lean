/- Proved: the statement ModelChecks. Conditions: none but those of the statement. -/
import Derived.Test.YtkgjaklnbgdmiaaGreatZ1
import Derived.Test.YtkgjaklnbgdmiaaGreatYModelChecks2
import Derived.Test.YtkgjaklnbgdmiaaGreatYModelChecks1
import Derived.Test.YtkgjaklnbgdmiaaGreatZ3
set_option linter.unusedSimpArgs false
set_option linter.unusedVariables false
set_option maxHeartbeats 8000000
namespace Go.Proofs.YtkgjaklnbgdmiaaGreat.P
open Go.RowKit Go.Proofs.YtkgjaklnbgdmiaaGreatW.PrintWords Go.Proofs.YtkgjaklnbgdmiaaGreatW.PrintLast Go.Proofs.YtkgjaklnbgdmiaaGreatW.PrintMore
attribute [local go_sem] Zci Zck Zc3 Zc4 Zcb Zcc Zcj Zcl
mutual
def Zao.j0 : Nat → Bool → List (S37) → List (S40) → Int → List Int → List Int → Option (Int)
 | 0, _, _, _, _, _, _ => none
 |k+1,x17,jf,jr,nA,nC,nD=>if x17=true then(some 2)else(Zao.l0 k 0 jf jr nA nC nD)
def Zao.l0 : Nat → Int → List (S37) → List (S40) → Int → List Int → List Int → Option (Int)
 | 0, _, _, _, _, _, _ => none
 |k+1,x3,jf,jr,nA,nC,nD=>if x3<(jf.length:Int)then(if 0≤x3 then((Za5.f k ((Zaq jf x3).f0)).bind fun UV=>(if UV=true then(Zao.l1 k x3 0 jf jr nA nC nD)else(some 40)))else(none))else((Zbn.f k jf jr nA nC nD).bind fun qE=>(Zao.l2 k qE 0 jf jr nA nC nD))
def Zao.l1 : Nat → Int → Int → List (S37) → List (S40) → Int → List Int → List Int → Option (Int)
 | 0, _, _, _, _, _, _, _ => none
 |k+1,x3,x4,jf,jr,nA,nC,nD=>if x4<x3 then(if 0≤x4 then(if x4<(jf.length:Int)then(if 0≤x3 then(if x3<(jf.length:Int)then(if((Zaq jf x4).f0).toList=((Zaq jf x3).f0).toList then(some 41)else(Zao.l1 k x3 (wrap64 (x4+1)) jf jr nA nC nD))else(none))else(none))else(none))else(none))else(if 0≤x3 then(if x3<(jf.length:Int)then(if(((Zaq jf x3).f1).length:Int)=0 then(some 42)else((Za6.f k ((Zaq jf x3).f1)).bind fun u6=>(if u6=0 then(Zao.l0 k (wrap64 (x3+1)) jf jr nA nC nD)else(some 42))))else(none))else(none))
def Zao.l2 : Nat → List (List (S59)) → Int → List (S37) → List (S40) → Int → List Int → List Int → Option (Int)
 | 0, _, _, _, _, _, _, _ => none
 |k+1,x5,x6,jf,jr,nA,nC,nD=>if x6<(jr.length:Int)then(if 0≤x6 then((Zay.f k x5 ((Zac jr x6).f0) ((Zac jr x6).f1) ((Zac jr x6).f2) ((Zac jr x6).f3) ((Zac jr x6).f4) ((Zac jr x6).f5) ((Zac jr x6).f6)).bind fun sS=>(if sS=0 then(Zao.l2 k x5 (wrap64 (x6+1)) jf jr nA nC nD)else(some sS)))else(none))else((Zbm.f k x5 nA nC nD).bind fun Nq=>(some Nq))
end
def Zao.f (k:Nat) (ae:List (S37)) (aa:List (S40)) (aj:Int) (ak:List Int) (ai:List Int):Option (Int):=if(ae.length:Int)>64 then(Zao.j0 k true ae aa aj ak ai)else(Zao.j0 k (decide ((aa.length:Int)>256)) ae aa aj ak ai)
set_option maxRecDepth 100000 in
theorem Zao.calls (k : Nat) (bF : Option Addr) (bv : Nat) (ae : List (S37)) (aI : Option Addr) (aG : Nat) (aa : List (S40)) (aj : Int) (bi : Option Addr) (bn : Nat) (ak : List Int) (bf : Option Addr) (bg : Nat) (ai : List Int) (r : Int) (w : World) (lC : Kd.C k37 w bF ae.length ae) (l8 : ae.length ≤ bv) (eO : Kd.C k40 w aI aa.length aa) (eH : aa.length ≤ aG) (kF : Kd.C (Kd.int .i64) w bi ak.length ak) (ky : ak.length ≤ bn) (kH : Kd.C (Kd.int .i64) w bf ai.length ai) (kz : ai.length ≤ bg) (h : Zao.f k ae aa aj ak ai = some r) :
  Calls Tryz.prog 7 #[.agg #[.slice bF ae.length bv,.slice aI aa.length aG,.int .i64 aj,.slice bi ak.length bn,.slice bf ai.length bg]] w fun e w'=>e= .returned (.int .i64 r)∧Below w.heap.size w w':=by
 have hu28:=Tryz.underlying28;have hu40:=Tryz.underlying40;have hu26:=Tryz.underlying26;have gV:=Za.mk lC;have uA:=Za.mk l8;clear lC l8;have fE:=Za.mk eO;have gU:=Za.mk eH;clear eO eH;have kr:=Za.mk kF;have lI:=Za.mk ky;clear kF ky;have lh:=Za.mk kH;have lJ:=Za.mk kz;clear kH kz;have HB:=Za.mk (Below.refl w.heap.size w);have H:(if(ae.length:Int)>64 then(Zao.j0 k true ae aa aj ak ai)else(Zao.j0 k (decide ((aa.length:Int)>256)) ae aa aj ak ai))=some r:=h;clear h;have HC2:=Za.mk H;clear H;go_enter Tryz.func7,Tryz.ntmps7
 go_upto_region 1 with (first|((with_reducible refine Zap (N:=1) rfl ?_);(try(refine Zb9 (by rfl) ?_;dsimp only));refine bx 1 #[.slice bF ae.length bv,.slice aI aa.length aG,.int .i64 aj,.slice bi ak.length bn,.slice bf ai.length bg] 28 ?_;intro mQ hg w3 hbox hb;have dO:=Za.mk (hbox);have GW427:=Za.mk ((gE hg HB.out:w.heap.size≤mQ));have Vj:=Za.mk ((gE hg HB.out:w.heap.size≤mQ));replace HB:=Za.mk (bS HB.out hb);clear hb hbox hg))
 repeat(go_quiet (first|((with_reducible refine Zap (N:=1) rfl ?_);(try(refine Zb9 (by rfl) ?_;dsimp only));refine bx 1 #[.slice bF ae.length bv,.slice aI aa.length aG,.int .i64 aj,.slice bi ak.length bn,.slice bf ai.length bg] 28 ?_;intro mQ hg w3 hbox hb;have dO:=Za.mk (hbox);have GW427:=Za.mk ((gE hg HB.out:w.heap.size≤mQ));have Vj:=Za.mk ((gE hg HB.out:w.heap.size≤mQ));replace HB:=Za.mk (bS HB.out hb);clear hb hbox hg));go_upto_region 1 with (first|((with_reducible refine Zap (N:=1) rfl ?_);(try(refine Zb9 (by rfl) ?_;dsimp only));refine bx 1 #[.slice bF ae.length bv,.slice aI aa.length aG,.int .i64 aj,.slice bi ak.length bn,.slice bf ai.length bg] 28 ?_;intro mQ hg w3 hbox hb;have dO:=Za.mk (hbox);have GW427:=Za.mk ((gE hg HB.out:w.heap.size≤mQ));have Vj:=Za.mk ((gE hg HB.out:w.heap.size≤mQ));replace HB:=Za.mk (bS HB.out hb);clear hb hbox hg)))
 (try simp only[Act.put,List.setIfInBounds_toArray,List.set_cons_zero,List.set_cons_succ])
 go_cut [17] (fun v17 wc=>∃(kq:Nat) (Li:Bool),v17= .bool Li∧Za (Zao.j0 kq Li ae aa aj ak ai=some r)∧Za (kq≤k)∧Za (wc.heap[mQ]? =some (.cells #[(.slice bF ae.length bv),(.slice aI aa.length aG),.int .i64 aj,(.slice bi ak.length bn),(.slice bf ai.length bg)] 28 (0,0)))∧Za (Below w.heap.size w wc))
 case first=>
  have H:=HC2.out;clear HC2;by_cases c4:(ae.length:Int)>64
  case neg=>
   rw[if_neg c4]at H;have dV:decide (64<(ae.length:Int))=false:=decide_eq_false c4;have um:decide (64<ae.length)=false:=decide_eq_false (by omega);clear c4
   (first|rw[dV]|(simp only[Zdk,Zdn];rw[dV])|skip)
   have H':=Za.mk H;clear H;obtain⟨nH,nI,nW,qI,qJ,nE,nG,nV,qG,qH⟩:=cz5 dO.out;go_wp2
   repeat(go_quiet (fail);try go_wp2)
   go_meet
   case rel=>exact⟨_,(decide ((aa.length:Int)>256)),eS,H',⟨by first|omega|exact Nat.le_refl _⟩,⟨by(with_reducible repeat(first|refine Zab ?_ _|refine Zad ?_|refine Zaa ?_ _));exact dO.out⟩,⟨bM HB.out⟩⟩
  rw[if_pos c4]at H;have dV:decide (64<(ae.length:Int))=true:=decide_eq_true c4;have um:decide (64<ae.length)=true:=decide_eq_true (by omega);clear c4
  (first|rw[dV]|(simp only[Zdk,Zdn];rw[dV])|skip)
  have H':=Za.mk H;clear H;obtain⟨SE,SF,SG,SH,SI,RD,RF,RG,RH,RI⟩:=cz5 dO.out;go_wp2
  repeat(go_quiet (fail);try go_wp2)
  go_meet
  case rel=>exact⟨_,(true),eS,H',⟨by first|omega|exact Nat.le_refl _⟩,⟨by(with_reducible repeat(first|refine Zab ?_ _|refine Zad ?_|refine Zaa ?_ _));exact dO.out⟩,⟨bM HB.out⟩⟩
 case rest=>
  clear HC2;try clear p2
  try clear c4
  try clear dV
  try clear um
  try clear SE SF SG SH SI RD RF RG RH RI
  try clear nH nI nW qI qJ nE nG nV qG qH
  obtain⟨kq,Li,rfl,HA,HJ1,dO,HB⟩:=hcut
  cases kq with
  | zero => exact absurd HA.out (by simp [Zao.j0])
  |succ kj1=>
   have H:=HA.out;clear HA;simp only[Zao.j0]at H;by_cases c7:Li=true
   case pos=>
    subst c7;rw[if_pos rfl]at H;obtain rfl:=sj H;go_wp2
    repeat(go_quiet (fail);try go_wp2)
    go_ret;exact⟨eR,bM HB.out⟩
   replace c7:=Bool.eq_false_iff.mpr c7;subst c7;replace H:=ifF H;have H':=Za.mk H;clear H;go_wp2
   repeat(go_quiet (fail);try go_wp2)
   go_loopg [3] kj1 (fun kq v3 w'=>∃(dX:Int),v3= .int .i64 dX∧Za (Zao.l0 kq dX ae aa aj ak ai=some r)∧Za (kq≤kj1)∧Za (w'.heap[mQ]? =some (.cells #[(.slice bF ae.length bv),(.slice aI aa.length aG),.int .i64 aj,(.slice bi ak.length bn),(.slice bf ai.length bg)] 28 (0,0)))∧Za (Below w.heap.size w w'))
   case atStart=>exact⟨(0),eS,H',⟨Nat.le_refl _⟩,⟨by(with_reducible repeat(first|refine Zab ?_ _|refine Zad ?_|refine Zaa ?_ _));exact dO.out⟩,⟨bM HB.out⟩⟩
   case round=>
    clear H';try clear p2
    try clear c4
    try clear dV
    try clear um
    try clear c7
    try clear SE SF SG SH SI RD RF RG RH RI
    try clear nH nI nW qI qJ nE nG nV qG qH
    try clear p2
    obtain⟨dX,rfl,HA,HK2,dO,HB⟩:=hrel
    cases gk with
    | zero => exact absurd HA.out (by simp [Zao.l0])
    |succ k2=>
     have H:=HA.out;clear HA;simp only[Zao.l0]at H;by_cases c8:dX<(ae.length:Int)
     case neg=>
      rw[if_neg c8]at H;have nP:decide (dX<(ae.length:Int))=false:=decide_eq_false c8;clear c8;obtain⟨qE,A32,H⟩:=bnd H;try dsimp only at H
      have H':=Za.mk H;clear H;obtain⟨Xj,Xk,fXa,fYa,gaa,WI,WJ,eqa,era,esa⟩:=cz5 dO.out
      go_wp2_with (first|(go_at_call 18;(with_reducible refine(Zbn.calls k2 (fun k_=>k_<w.heap.size) _ _ ae _ _ aa aj _ _ ak _ _ ai qE _ (Kd.V_mk uA.out (Kd.Zfv (Kd.C_F k37_heap gV.out) (bM HB.out))) (cM (Kd.Zaf fE.out HB.out)) gU.out (cM (Kd.Zaf kr.out HB.out)) lI.out (cM (Kd.Zaf lh.out HB.out)) lJ.out A32.out).mono ?_);rintro e w34 ⟨Ve,rfl,ho0,hb⟩;have PW:=Za.mk (Kd.Zff (Kd.Ze5 (ok':=fun k_=>k_≠mQ) ho0 (fun k_ hk_=>Or.elim hk_ (fun hs_=>fun e_=>Nat.not_le.2 hs_ (by rw[e_];exact GW427.out)) (fun hn_=>(Kd.freshB (kM dO.out) k_ hn_)))) (Zaj (bM HB.out)));replace dO:=Za.mk (kB dO.out hb);replace HB:=Za.mk (bS HB.out hb);(try clear hb);(try clear hb2);(try clear hk);(try clear hi);(try clear ho0)))
      repeat(go_quiet (first|(go_at_call 18;(with_reducible refine(Zbn.calls k2 (fun k_=>k_<w.heap.size) _ _ ae _ _ aa aj _ _ ak _ _ ai qE _ (Kd.V_mk uA.out (Kd.Zfv (Kd.C_F k37_heap gV.out) (bM HB.out))) (cM (Kd.Zaf fE.out HB.out)) gU.out (cM (Kd.Zaf kr.out HB.out)) lI.out (cM (Kd.Zaf lh.out HB.out)) lJ.out A32.out).mono ?_);rintro e w34 ⟨Ve,rfl,ho0,hb⟩;have PW:=Za.mk (Kd.Zff (Kd.Ze5 (ok':=fun k_=>k_≠mQ) ho0 (fun k_ hk_=>Or.elim hk_ (fun hs_=>fun e_=>Nat.not_le.2 hs_ (by rw[e_];exact GW427.out)) (fun hn_=>(Kd.freshB (kM dO.out) k_ hn_)))) (Zaj (bM HB.out)));replace dO:=Za.mk (kB dO.out hb);replace HB:=Za.mk (bS HB.out hb);(try clear hb);(try clear hb2);(try clear hk);(try clear hi);(try clear ho0)));try go_wp2_with (first|(go_at_call 18;(with_reducible refine(Zbn.calls k2 (fun k_=>k_<w.heap.size) _ _ ae _ _ aa aj _ _ ak _ _ ai qE _ (Kd.V_mk uA.out (Kd.Zfv (Kd.C_F k37_heap gV.out) (bM HB.out))) (cM (Kd.Zaf fE.out HB.out)) gU.out (cM (Kd.Zaf kr.out HB.out)) lI.out (cM (Kd.Zaf lh.out HB.out)) lJ.out A32.out).mono ?_);rintro e w34 ⟨Ve,rfl,ho0,hb⟩;have PW:=Za.mk (Kd.Zff (Kd.Ze5 (ok':=fun k_=>k_≠mQ) ho0 (fun k_ hk_=>Or.elim hk_ (fun hs_=>fun e_=>Nat.not_le.2 hs_ (by rw[e_];exact GW427.out)) (fun hn_=>(Kd.freshB (kM dO.out) k_ hn_)))) (Zaj (bM HB.out)));replace dO:=Za.mk (kB dO.out hb);replace HB:=Za.mk (bS HB.out hb);(try clear hb);(try clear hb2);(try clear hk);(try clear hi);(try clear ho0))))
      go_loopg [6] k2 (fun kq v6 w'=>∃(aC:Int),v6= .int .i64 aC∧Za (Zao.l2 kq qE aC ae aa aj ak ai=some r)∧Za (kq≤k2)∧Za (Kd.N (Kd.slice 59 k59) 35 w' w.heap.size (fun k_=>k_≠mQ) Ve qE)∧Za (w'.heap[mQ]? =some (.cells #[(.slice bF ae.length bv),(.slice aI aa.length aG),.int .i64 aj,(.slice bi ak.length bn),(.slice bf ai.length bg)] 28 (0,0)))∧Za (Below w.heap.size w w'))
      case atStart=>exact⟨(0),eS,H',⟨Nat.le_refl _⟩,⟨nM PW.out⟩,⟨by(with_reducible repeat(first|refine Zab ?_ _|refine Zad ?_|refine Zaa ?_ _));exact dO.out⟩,⟨bM HB.out⟩⟩
      case round=>
       clear H';try clear c1
       try clear c2
       try clear p2
       try clear c4
       try clear dV
       try clear um
       try clear p4
       try clear q4
       try clear hx4
       try clear p6
       try clear c7
       try clear c8
       try clear nP
       try clear c9
       try clear yG
       try clear c11
       try clear c13
       try clear qR
       try clear c14
       try clear nN
       try clear c15
       try clear lU
       try clear c16
       try clear xK
       try clear c17
       try clear Ex
       try clear c18
       try clear nO
       try clear vB
       try clear c21
       try clear QF
       try clear c22
       try clear H7
       try clear c23
       try clear uB
       try clear Le
       try clear VQ
       try clear c26
       try clear H9
       try clear VR
       try clear tF tH tJ tK tL sU sV sW tq tu
       try clear F4 F5 F6 F7 F8 Fe Ff Fg Fh Fj
       try clear uO uP yx CY Da uH uI xV Cn Co
       try clear F9 FB FC FD FE Fp Fq Fs Fu Fv
       try clear Sk Sl Xg Xh Xi Ru Rv WF WG WH
       try clear yE yF Sm Sn Sq yg yh Rw Rx Ry
       try clear Sw Sy Sz S9 SA R5 R6 R7 R8 R9
       try clear Xj Xk fXa fYa gaa WI WJ eqa era esa
       try clear SE SF SG SH SI RD RF RG RH RI
       try clear nH nI nW qI qJ nE nG nV qG qH
       try clear uy
       try clear uz
       try clear vT
       try clear vU
       try clear vV
       try clear vW
       try clear pO
       try clear nk
       try clear vX
       try clear rR
       try clear p2
       try clear p4
       try clear Ux
       try clear aLa
       try clear aMa
       try clear Uy
       try clear aNa
       try clear q4
       try clear UC
       try clear aVa
       try clear aWa
       try clear UD
       try clear aXa
       obtain⟨aC,rfl,HA,HK3,bY,dO,HB⟩:=hrel
       cases gk with
       | zero => exact absurd HA.out (by simp [Zao.l2])
       |succ k3=>
        have H:=HA.out;clear HA;simp only[Zao.l2]at H;by_cases c35:aC<(aa.length:Int)
        case neg=>
         rw[if_neg c35]at H;have QH:decide (aC<(aa.length:Int))=false:=decide_eq_false c35;clear c35;obtain⟨Nq,A45,H⟩:=bnd H;try dsimp only at H
         obtain rfl:=sj H;obtain⟨g9a,gAa,gBa,gCa,gDa,eQa,eRa,eSa,eTa,eUa⟩:=cz5 dO.out;obtain⟨tsa,txa,ita⟩:=Kd.Zc7 bY.out;subst ita
         go_wp2_with (first|(go_at_call 20;(with_reducible refine(Zbm.calls k3 _ _ qE aj _ _ ak _ _ ai Nq _ (cM ((Kd.Zby bY.out).2.2)) ((Kd.Zby bY.out).2.1) (cM (Kd.Zaf kr.out HB.out)) lI.out (cM (Kd.Zaf lh.out HB.out)) lJ.out A45.out).mono ?_);rintro e w48 ⟨rfl,hb⟩;replace bY:=Za.mk (Kd.Zeu (nM bY.out) hb);replace HB:=Za.mk (bS HB.out hb);clear dO;(try clear hb);(try clear hb2);(try clear hk);(try clear hi)))
         repeat(go_quiet (first|(go_at_call 20;(with_reducible refine(Zbm.calls k3 _ _ qE aj _ _ ak _ _ ai Nq _ (cM ((Kd.Zby bY.out).2.2)) ((Kd.Zby bY.out).2.1) (cM (Kd.Zaf kr.out HB.out)) lI.out (cM (Kd.Zaf lh.out HB.out)) lJ.out A45.out).mono ?_);rintro e w48 ⟨rfl,hb⟩;replace bY:=Za.mk (Kd.Zeu (nM bY.out) hb);replace HB:=Za.mk (bS HB.out hb);(try clear hb);(try clear hb2);(try clear hk);(try clear hi)));try go_wp2_with (first|(go_at_call 20;(with_reducible refine(Zbm.calls k3 _ _ qE aj _ _ ak _ _ ai Nq _ (cM ((Kd.Zby bY.out).2.2)) ((Kd.Zby bY.out).2.1) (cM (Kd.Zaf kr.out HB.out)) lI.out (cM (Kd.Zaf lh.out HB.out)) lJ.out A45.out).mono ?_);rintro e w48 ⟨rfl,hb⟩;replace HB:=Za.mk (bS HB.out hb);clear bY;(try clear hb);(try clear hb2);(try clear hk);(try clear hi))))
         go_ret;exact⟨eR,bM HB.out⟩
        rw[if_pos c35]at H;have QH:decide (aC<(aa.length:Int))=true:=decide_eq_true c35;clear c35;obtain⟨VV,H⟩:=ifT H;obtain⟨sS,A37,H⟩:=bnd H;try dsimp only at H
        by_cases c38:sS=0
        case neg=>
         rw[if_neg c38]at H;have dna:(sS==0)=false:=beq_eq_false_iff_ne.mpr c38;have doa:(sS !=0)=true:=bne_iff_ne.mpr c38;obtain rfl:=sj H;obtain⟨Db,Dc,De,Df,Dh,Cr,Cs,Ct,Cu,Cv⟩:=cz5 dO.out;have iGa:(0≤(aC:Int))=True:=teq;have iVa:(aC<(aa.length:Int))=True:=teq;obtain⟨cTa,YI,aea,YJ,afa,YK,aga,rfl,AQ,AR,AU,AV,AX,AY,Ba,zF,zg,zG,zh,zH,zi⟩:=Zeq fE.out aC odt odt;replace AQ:=hB HB.out AQ;replace AR:=hB HB.out AR;replace AU:=hB HB.out AU;replace AV:=hB HB.out AV;replace AX:=hB HB.out AX;replace AY:=hB HB.out AY;replace Ba:=hB HB.out Ba;have uh:=Za.mk zg;have tQ:=Za.mk zF;clear zg zF;have ui:=Za.mk zh;have tT:=Za.mk zG;clear zh zG;have uj:=Za.mk zi;have tV:=Za.mk zH;clear zi zH;obtain⟨tra,twa,isa⟩:=Kd.Zc7 bY.out;subst isa
         go_wp2_with (first|(go_at_call 19;(with_reducible refine(Zay.calls k3 _ _ qE ((Zac aa aC).f0) _ _ ((Zac aa aC).f1) _ _ ((Zac aa aC).f2) ((Zac aa aC).f3) ((Zac aa aC).f4) _ _ ((Zac aa aC).f5) ((Zac aa aC).f6) sS _ (cM ((Kd.Zby bY.out).2.2)) ((Kd.Zby bY.out).2.1) (cM (Kd.Zaf uh.out HB.out)) tQ.out (cM (Kd.Zaf ui.out HB.out)) tT.out (cM (Kd.Zaf uj.out HB.out)) tV.out A37.out).mono ?_);rintro e w44 ⟨rfl,hb⟩;replace bY:=Za.mk (Kd.Zeu (nM bY.out) hb);replace HB:=Za.mk (bS HB.out hb);clear dO;(try clear hb);(try clear hb2);(try clear hk);(try clear hi)))
         repeat(go_quiet (first|(go_at_call 19;(with_reducible refine(Zay.calls k3 _ _ qE ((Zac aa aC).f0) _ _ ((Zac aa aC).f1) _ _ ((Zac aa aC).f2) ((Zac aa aC).f3) ((Zac aa aC).f4) _ _ ((Zac aa aC).f5) ((Zac aa aC).f6) sS _ (cM ((Kd.Zby bY.out).2.2)) ((Kd.Zby bY.out).2.1) (cM (Kd.Zaf uh.out HB.out)) tQ.out (cM (Kd.Zaf ui.out HB.out)) tT.out (cM (Kd.Zaf uj.out HB.out)) tV.out A37.out).mono ?_);rintro e w44 ⟨rfl,hb⟩;replace bY:=Za.mk (Kd.Zeu (nM bY.out) hb);replace HB:=Za.mk (bS HB.out hb);(try clear hb);(try clear hb2);(try clear hk);(try clear hi)));try go_wp2_with (first|(go_at_call 19;(with_reducible refine(Zay.calls k3 _ _ qE ((Zac aa aC).f0) _ _ ((Zac aa aC).f1) _ _ ((Zac aa aC).f2) ((Zac aa aC).f3) ((Zac aa aC).f4) _ _ ((Zac aa aC).f5) ((Zac aa aC).f6) sS _ (cM ((Kd.Zby bY.out).2.2)) ((Kd.Zby bY.out).2.1) (cM (Kd.Zaf uh.out HB.out)) tQ.out (cM (Kd.Zaf ui.out HB.out)) tT.out (cM (Kd.Zaf uj.out HB.out)) tV.out A37.out).mono ?_);rintro e w44 ⟨rfl,hb⟩;replace HB:=Za.mk (bS HB.out hb);clear bY;(try clear hb);(try clear hb2);(try clear hk);(try clear hi))))
         go_ret;exact⟨eR,bM HB.out⟩
        rw[if_pos c38]at H;have dna:(sS==0)=true:=beq_iff_eq.mpr c38;have doa:(sS !=0)=false:=bne_eq_false_iff_eq.mpr c38;clear c38;have H':=Za.mk H;clear H;obtain⟨gpa,gqa,gra,gta,gua,e7a,e8a,e9a,eAa,eBa⟩:=cz5 dO.out;have iGa:(0≤(aC:Int))=True:=teq;have iVa:(aC<(aa.length:Int))=True:=teq;obtain⟨cTa,YI,aea,YJ,afa,YK,aga,rfl,AQ,AR,AU,AV,AX,AY,Ba,zF,zg,zG,zh,zH,zi⟩:=Zeq fE.out aC odt odt;replace AQ:=hB HB.out AQ;replace AR:=hB HB.out AR;replace AU:=hB HB.out AU;replace AV:=hB HB.out AV;replace AX:=hB HB.out AX;replace AY:=hB HB.out AY;replace Ba:=hB HB.out Ba;have uh:=Za.mk zg;have tQ:=Za.mk zF;clear zg zF;have ui:=Za.mk zh;have tT:=Za.mk zG;clear zh zG;have uj:=Za.mk zi;have tV:=Za.mk zH;clear zi zH;obtain⟨tqa,tva,iqa⟩:=Kd.Zc7 bY.out;subst iqa
        go_wp2_with (first|(go_at_call 19;(with_reducible refine(Zay.calls k3 _ _ qE ((Zac aa aC).f0) _ _ ((Zac aa aC).f1) _ _ ((Zac aa aC).f2) ((Zac aa aC).f3) ((Zac aa aC).f4) _ _ ((Zac aa aC).f5) ((Zac aa aC).f6) sS _ (cM ((Kd.Zby bY.out).2.2)) ((Kd.Zby bY.out).2.1) (cM (Kd.Zaf uh.out HB.out)) tQ.out (cM (Kd.Zaf ui.out HB.out)) tT.out (cM (Kd.Zaf uj.out HB.out)) tV.out A37.out).mono ?_);rintro e w41 ⟨rfl,hb⟩;replace bY:=Za.mk (Kd.Zeu (nM bY.out) hb);replace dO:=Za.mk (kB dO.out hb);replace HB:=Za.mk (bS HB.out hb);(try clear hb);(try clear hb2);(try clear hk);(try clear hi)))
        repeat(go_quiet (first|(go_at_call 19;(with_reducible refine(Zay.calls k3 _ _ qE ((Zac aa aC).f0) _ _ ((Zac aa aC).f1) _ _ ((Zac aa aC).f2) ((Zac aa aC).f3) ((Zac aa aC).f4) _ _ ((Zac aa aC).f5) ((Zac aa aC).f6) sS _ (cM ((Kd.Zby bY.out).2.2)) ((Kd.Zby bY.out).2.1) (cM (Kd.Zaf uh.out HB.out)) tQ.out (cM (Kd.Zaf ui.out HB.out)) tT.out (cM (Kd.Zaf uj.out HB.out)) tV.out A37.out).mono ?_);rintro e w41 ⟨rfl,hb⟩;replace bY:=Za.mk (Kd.Zeu (nM bY.out) hb);replace dO:=Za.mk (kB dO.out hb);replace HB:=Za.mk (bS HB.out hb);(try clear hb);(try clear hb2);(try clear hk);(try clear hi)));try go_wp2_with (first|(go_at_call 19;(with_reducible refine(Zay.calls k3 _ _ qE ((Zac aa aC).f0) _ _ ((Zac aa aC).f1) _ _ ((Zac aa aC).f2) ((Zac aa aC).f3) ((Zac aa aC).f4) _ _ ((Zac aa aC).f5) ((Zac aa aC).f6) sS _ (cM ((Kd.Zby bY.out).2.2)) ((Kd.Zby bY.out).2.1) (cM (Kd.Zaf uh.out HB.out)) tQ.out (cM (Kd.Zaf ui.out HB.out)) tT.out (cM (Kd.Zaf uj.out HB.out)) tV.out A37.out).mono ?_);rintro e w41 ⟨rfl,hb⟩;replace bY:=Za.mk (Kd.Zeu (nM bY.out) hb);replace dO:=Za.mk (kB dO.out hb);replace HB:=Za.mk (bS HB.out hb);(try clear hb);(try clear hb2);(try clear hk);(try clear hi))))
        go_roundg k3
        case measure=>have:=HJ1.out;have:=HK2.out;have:=HK3.out;omega
        case rel=>exact⟨(wrap64 (aC+1)),eS,H',⟨by have:=HJ1.out;have:=HK2.out;have:=HK3.out;omega⟩,⟨nM bY.out⟩,⟨by(with_reducible repeat(first|refine Zab ?_ _|refine Zad ?_|refine Zaa ?_ _));exact dO.out⟩,⟨bM HB.out⟩⟩
     rw[if_pos c8]at H;have nP:decide (dX<(ae.length:Int))=true:=decide_eq_true c8;clear c8;obtain⟨yG,H⟩:=ifT H;obtain⟨UV,A10,H⟩:=bnd H;try dsimp only at H
     by_cases c11:UV=true
     case neg=>
      replace c11:=Bool.eq_false_iff.mpr c11;subst c11;replace H:=ifF H;obtain rfl:=sj H;obtain⟨Sw,Sy,Sz,S9,SA,R5,R6,R7,R8,R9⟩:=cz5 dO.out;have Ux:(0≤(dX:Int))=True:=teq;have UC:(dX<(ae.length:Int))=True:=teq;obtain⟨sI,YE,aaa,rfl,uy,uz,zA,za⟩:=Zdc gV.out dX odt odt;replace uy:=hB HB.out uy;replace uz:=hB HB.out uz;have XQ:=Za.mk za;have XA:=Za.mk zA;clear za zA
      go_wp2_with (first|(go_at_call 16;(with_reducible refine(Za5.calls k2 ((Zaq ae dX).f0) false _ A10.out).mono ?_);rintro e w' ⟨rfl,⟨nd,rfl⟩⟩;(try first|exact⟨rfl,_,World.drewN_drewN _ _ _⟩|exact⟨rfl,_,Eq.trans (World.drewN_drewN _ _ _) (congrArg (World.drewN _) (Nat.add_assoc _ _ _))⟩)))
      repeat(go_quiet (first|(go_at_call 16;(with_reducible refine(Za5.calls k2 ((Zaq ae dX).f0) false _ A10.out).mono ?_);rintro e w' ⟨rfl,⟨nd,rfl⟩⟩;(try first|exact⟨rfl,_,World.drewN_drewN _ _ _⟩|exact⟨rfl,_,Eq.trans (World.drewN_drewN _ _ _) (congrArg (World.drewN _) (Nat.add_assoc _ _ _))⟩)));try go_wp2_with (first|(go_at_call 16;(with_reducible refine(Za5.calls k2 ((Zaq ae dX).f0) false _ A10.out).mono ?_);rintro e w' ⟨rfl,⟨nd,rfl⟩⟩;(try first|exact⟨rfl,_,World.drewN_drewN _ _ _⟩|exact⟨rfl,_,Eq.trans (World.drewN_drewN _ _ _) (congrArg (World.drewN _) (Nat.add_assoc _ _ _))⟩))))
      go_ret;exact⟨eR,bM HB.out⟩
     subst c11;rw[if_pos rfl]at H;have H':=Za.mk H;clear H;obtain⟨tF,tH,tJ,tK,tL,sU,sV,sW,tq,tu⟩:=cz5 dO.out;have Ux:(0≤(dX:Int))=True:=teq;have UC:(dX<(ae.length:Int))=True:=teq;obtain⟨sI,YE,aaa,rfl,uy,uz,zA,za⟩:=Zdc gV.out dX odt odt;replace uy:=hB HB.out uy;replace uz:=hB HB.out uz;have XQ:=Za.mk za;have XA:=Za.mk zA;clear za zA
     go_wp2_with (first|(go_at_call 16;(with_reducible refine(Za5.calls k2 ((Zaq ae dX).f0) true _ A10.out).mono ?_);rintro e w' ⟨rfl,⟨nd,rfl⟩⟩;(try first|exact⟨rfl,_,World.drewN_drewN _ _ _⟩|exact⟨rfl,_,Eq.trans (World.drewN_drewN _ _ _) (congrArg (World.drewN _) (Nat.add_assoc _ _ _))⟩)))
     repeat(go_quiet (first|(go_at_call 16;(with_reducible refine(Za5.calls k2 ((Zaq ae dX).f0) true _ A10.out).mono ?_);rintro e w' ⟨rfl,⟨nd,rfl⟩⟩;(try first|exact⟨rfl,_,World.drewN_drewN _ _ _⟩|exact⟨rfl,_,Eq.trans (World.drewN_drewN _ _ _) (congrArg (World.drewN _) (Nat.add_assoc _ _ _))⟩)));try go_wp2_with (first|(go_at_call 16;(with_reducible refine(Za5.calls k2 ((Zaq ae dX).f0) true _ A10.out).mono ?_);rintro e w' ⟨rfl,⟨nd,rfl⟩⟩;(try first|exact⟨rfl,_,World.drewN_drewN _ _ _⟩|exact⟨rfl,_,Eq.trans (World.drewN_drewN _ _ _) (congrArg (World.drewN _) (Nat.add_assoc _ _ _))⟩))))
     go_loopg [4] k2 (fun kq v4 w'=>∃(o7:Int),v4= .int .i64 o7∧Za (Zao.l1 kq dX o7 ae aa aj ak ai=some r)∧Za (kq≤k2)∧Za (w'.heap[mQ]? =some (.cells #[(.slice (some sI) ae.length bv),(.slice aI aa.length aG),.int .i64 aj,(.slice bi ak.length bn),(.slice bf ai.length bg)] 28 (0,0)))∧Za (Below w.heap.size w w'))
     case atStart=>exact⟨(0),eS,H',⟨Nat.le_refl _⟩,⟨by(with_reducible repeat(first|refine Zab ?_ _|refine Zad ?_|refine Zaa ?_ _));exact dO.out⟩,⟨bM HB.out⟩⟩
     case round=>
      clear H';try clear c1
      try clear p2
      try clear c4
      try clear dV
      try clear um
      try clear p4
      try clear q4
      try clear hx4
      try clear c7
      try clear c8
      try clear nP
      try clear c9
      try clear yG
      try clear c11
      try clear tF tH tJ tK tL sU sV sW tq tu
      try clear SE SF SG SH SI RD RF RG RH RI
      try clear nH nI nW qI qJ nE nG nV qG qH
      try clear uy
      try clear uz
      try clear p2
      try clear Ux
      try clear UC
      obtain⟨o7,rfl,HA,HK3,dO,HB⟩:=hrel
      cases gk with
      | zero => exact absurd HA.out (by simp [Zao.l1])
      |succ k3=>
       have H:=HA.out;clear HA;simp only[Zao.l1]at H;by_cases c13:o7<dX
       case pos=>
        rw[if_pos c13]at H;have qR:decide (o7<dX)=true:=decide_eq_true c13;clear c13;obtain⟨nN,H⟩:=ifT H;obtain⟨lU,H⟩:=ifT H;obtain⟨xK,H⟩:=ifT H;obtain⟨Ex,H⟩:=ifT H;by_cases c18:((Zaq ae o7).f0).toList=((Zaq ae dX).f0).toList
        case pos=>
         rw[if_pos c18]at H;have nO:(((Zaq ae o7).f0).toList==((Zaq ae dX).f0).toList)=true:=beq_iff_eq.mpr c18;have vB:(((Zaq ae o7).f0).toList !=((Zaq ae dX).f0).toList)=false:=bne_eq_false_iff_eq.mpr c18;clear c18;obtain rfl:=sj H;obtain⟨F4,F5,F6,F7,F8,Fe,Ff,Fg,Fh,Fj⟩:=cz5 dO.out;have aLa:(0≤(o7:Int))=True:=teq;have aVa:(o7<(ae.length:Int))=True:=teq;obtain⟨Qz,YF,aba,TW,vT,vU,zB,zb⟩:=Zdc gV.out o7 odt odt;obtain rfl:sI=Qz:=(by injection TW);replace vT:=hB HB.out vT;replace vU:=hB HB.out vU;have XR:=Za.mk zb;have XB:=Za.mk zB;clear zb zB;have aMa:(0≤(dX:Int))=True:=teq;have aWa:(dX<(ae.length:Int))=True:=teq;obtain⟨Q7,YG,aca,TY,vV,vW,zC,ze⟩:=Zdc gV.out dX odt odt;obtain rfl:sI=Q7:=(by injection TY);replace vV:=hB HB.out vV;replace vW:=hB HB.out vW;have XT:=Za.mk ze;have XC:=Za.mk zC;clear ze zC;go_wp2
         repeat(go_quiet (fail);try go_wp2)
         go_ret;exact⟨eR,bM HB.out⟩
        rw[if_neg c18]at H;have nO:(((Zaq ae o7).f0).toList==((Zaq ae dX).f0).toList)=false:=beq_eq_false_iff_ne.mpr c18;have vB:(((Zaq ae o7).f0).toList !=((Zaq ae dX).f0).toList)=true:=bne_iff_ne.mpr c18;have H':=Za.mk H;clear H;obtain⟨uO,uP,yx,CY,Da,uH,uI,xV,Cn,Co⟩:=cz5 dO.out;have aLa:(0≤(o7:Int))=True:=teq;have aVa:(o7<(ae.length:Int))=True:=teq;obtain⟨Qz,YF,aba,TW,vT,vU,zB,zb⟩:=Zdc gV.out o7 odt odt;obtain rfl:sI=Qz:=(by injection TW);replace vT:=hB HB.out vT;replace vU:=hB HB.out vU;have XR:=Za.mk zb;have XB:=Za.mk zB;clear zb zB;have aMa:(0≤(dX:Int))=True:=teq;have aWa:(dX<(ae.length:Int))=True:=teq;obtain⟨Q7,YG,aca,TY,vV,vW,zC,ze⟩:=Zdc gV.out dX odt odt;obtain rfl:sI=Q7:=(by injection TY);replace vV:=hB HB.out vV;replace vW:=hB HB.out vW;have XT:=Za.mk ze;have XC:=Za.mk zC;clear ze zC;go_wp2
        repeat(go_quiet (fail);try go_wp2)
        go_roundg k3
        case measure=>have:=HJ1.out;have:=HK2.out;have:=HK3.out;omega
        case rel=>exact⟨(wrap64 (o7+1)),eS,H',⟨by have:=HJ1.out;have:=HK2.out;have:=HK3.out;omega⟩,⟨by(with_reducible repeat(first|refine Zab ?_ _|refine Zad ?_|refine Zaa ?_ _));exact dO.out⟩,⟨bM HB.out⟩⟩
       rw[if_neg c13]at H;have qR:decide (o7<dX)=false:=decide_eq_false c13;clear c13;obtain⟨QF,H⟩:=ifT H;obtain⟨H7,H⟩:=ifT H;by_cases c23:(((Zaq ae dX).f1).length:Int)=0
       case pos=>
        rw[if_pos c23]at H;have uB:((((Zaq ae dX).f1).length:Int)==0)=true:=beq_iff_eq.mpr c23;have Le:((((Zaq ae dX).f1).length:Int) !=0)=false:=bne_eq_false_iff_eq.mpr c23;clear c23;obtain rfl:=sj H;obtain⟨F9,FB,FC,FD,FE,Fp,Fq,Fs,Fu,Fv⟩:=cz5 dO.out;have Uy:(0≤(dX:Int))=True:=teq;have UD:(dX<(ae.length:Int))=True:=teq;obtain⟨Ht,SY,Tx,MH,pO,nk,rJ,rE⟩:=Zdc gV.out dX odt odt;obtain rfl:sI=Ht:=(by injection MH);replace pO:=hB HB.out pO;replace nk:=hB HB.out nk;have Ob:=Za.mk rE;have NR:=Za.mk rJ;clear rE rJ;go_wp2
        repeat(go_quiet (fail);try go_wp2)
        go_ret;exact⟨eR,bM HB.out⟩
       rw[if_neg c23]at H;have uB:((((Zaq ae dX).f1).length:Int)==0)=false:=beq_eq_false_iff_ne.mpr c23;have Le:((((Zaq ae dX).f1).length:Int) !=0)=true:=bne_iff_ne.mpr c23;have VQ:¬(((Zaq ae dX).f1)= []):=fun h_=>c23 (by rw[h_];rfl)
       obtain⟨u6,A25,H⟩:=bnd H;try dsimp only at H
       by_cases c26:u6=0
       case neg=>
        rw[if_neg c26]at H;have H9:(u6==0)=false:=beq_eq_false_iff_ne.mpr c26;have VR:(u6 !=0)=true:=bne_iff_ne.mpr c26;obtain rfl:=sj H;obtain⟨yE,yF,Sm,Sn,Sq,yg,yh,Rw,Rx,Ry⟩:=cz5 dO.out;have Uy:(0≤(dX:Int))=True:=teq;have UD:(dX<(ae.length:Int))=True:=teq;obtain⟨Ht,SY,Tx,MH,pO,nk,rJ,rE⟩:=Zdc gV.out dX odt odt;obtain rfl:sI=Ht:=(by injection MH);replace pO:=hB HB.out pO;replace nk:=hB HB.out nk;have Ob:=Za.mk rE;have NR:=Za.mk rJ;clear rE rJ;have aNa:(0≤(dX:Int))=True:=teq;have aXa:(dX<(ae.length:Int))=True:=teq;obtain⟨Q8,YH,ada,Ua,vX,rR,zD,zf⟩:=Zdc gV.out dX odt odt;obtain rfl:sI=Q8:=(by injection Ua);replace vX:=hB HB.out vX;replace rR:=hB HB.out rR;have ug:=Za.mk zf;have tO:=Za.mk zD;clear zf zD;have ea_:=Option.some.inj (nk.symm.trans rR)
        injection ea_ with ea_ en_ ec_
        subst ea_;subst ec_;clear en_
        go_wp2_with (first|(go_at_call 17;(with_reducible refine(Za6.calls k3 _ _ ((Zaq ae dX).f1) u6 _ (cM (Kd.Zaf ug.out HB.out)) tO.out A25.out).mono ?_);rintro e w30 ⟨rfl,hb⟩;replace HB:=Za.mk (bS HB.out hb);clear dO;(try clear hb);(try clear hb2);(try clear hk);(try clear hi)))
        repeat(go_quiet (first|(go_at_call 17;(with_reducible refine(Za6.calls k3 _ _ ((Zaq ae dX).f1) u6 _ (cM (Kd.Zaf ug.out HB.out)) tO.out A25.out).mono ?_);rintro e w30 ⟨rfl,hb⟩;replace HB:=Za.mk (bS HB.out hb);(try clear hb);(try clear hb2);(try clear hk);(try clear hi)));try go_wp2_with (first|(go_at_call 17;(with_reducible refine(Za6.calls k3 _ _ ((Zaq ae dX).f1) u6 _ (cM (Kd.Zaf ug.out HB.out)) tO.out A25.out).mono ?_);rintro e w30 ⟨rfl,hb⟩;replace HB:=Za.mk (bS HB.out hb);(try clear hb);(try clear hb2);(try clear hk);(try clear hi))))
        go_ret;exact⟨eR,bM HB.out⟩
       rw[if_pos c26]at H;have H9:(u6==0)=true:=beq_iff_eq.mpr c26;have VR:(u6 !=0)=false:=bne_eq_false_iff_eq.mpr c26;clear c26;have H':=Za.mk H;clear H;obtain⟨Sk,Sl,Xg,Xh,Xi,Ru,Rv,WF,WG,WH⟩:=cz5 dO.out;have Uy:(0≤(dX:Int))=True:=teq;have UD:(dX<(ae.length:Int))=True:=teq;obtain⟨Ht,SY,Tx,MH,pO,nk,rJ,rE⟩:=Zdc gV.out dX odt odt;obtain rfl:sI=Ht:=(by injection MH);replace pO:=hB HB.out pO;replace nk:=hB HB.out nk;have Ob:=Za.mk rE;have NR:=Za.mk rJ;clear rE rJ;have aNa:(0≤(dX:Int))=True:=teq;have aXa:(dX<(ae.length:Int))=True:=teq;obtain⟨Q8,YH,ada,Ua,vX,rR,zD,zf⟩:=Zdc gV.out dX odt odt;obtain rfl:sI=Q8:=(by injection Ua);replace vX:=hB HB.out vX;replace rR:=hB HB.out rR;have ug:=Za.mk zf;have tO:=Za.mk zD;clear zf zD;have ea_:=Option.some.inj (nk.symm.trans rR)
       injection ea_ with ea_ en_ ec_
       subst ea_;subst ec_;clear en_
       go_wp2_with (first|(go_at_call 17;(with_reducible refine(Za6.calls k3 _ _ ((Zaq ae dX).f1) u6 _ (cM (Kd.Zaf ug.out HB.out)) tO.out A25.out).mono ?_);rintro e w28 ⟨rfl,hb⟩;replace dO:=Za.mk (kB dO.out hb);replace HB:=Za.mk (bS HB.out hb);(try clear hb);(try clear hb2);(try clear hk);(try clear hi)))
       repeat(go_quiet (first|(go_at_call 17;(with_reducible refine(Za6.calls k3 _ _ ((Zaq ae dX).f1) u6 _ (cM (Kd.Zaf ug.out HB.out)) tO.out A25.out).mono ?_);rintro e w28 ⟨rfl,hb⟩;replace dO:=Za.mk (kB dO.out hb);replace HB:=Za.mk (bS HB.out hb);(try clear hb);(try clear hb2);(try clear hk);(try clear hi)));try go_wp2_with (first|(go_at_call 17;(with_reducible refine(Za6.calls k3 _ _ ((Zaq ae dX).f1) u6 _ (cM (Kd.Zaf ug.out HB.out)) tO.out A25.out).mono ?_);rintro e w28 ⟨rfl,hb⟩;replace dO:=Za.mk (kB dO.out hb);replace HB:=Za.mk (bS HB.out hb);(try clear hb);(try clear hb2);(try clear hk);(try clear hi))))
       go_roundg k3
       case measure=>have:=HJ1.out;have:=HK2.out;have:=HK3.out;omega
       case rel=>exact⟨(wrap64 (dX+1)),eS,H',⟨by have:=HJ1.out;have:=HK2.out;have:=HK3.out;omega⟩,⟨by(with_reducible repeat(first|refine Zab ?_ _|refine Zad ?_|refine Zaa ?_ _));exact dO.out⟩,⟨bM HB.out⟩⟩
end Go.Proofs.YtkgjaklnbgdmiaaGreat.P
/- May a model be, by the document: the same as model.Check. -/
namespace Go.Proofs.YtkgjaklnbgdmiaaGreat.P
open Go.RowKit Go.Proofs.YtkgjaklnbgdmiaaGreatW.PrintWords Go.Proofs.YtkgjaklnbgdmiaaGreatW.PrintLast Go.Proofs.YtkgjaklnbgdmiaaGreatW.PrintMore
theorem Zds (s:ByteArray) (i:Nat) (h:i<s.size):bt s (i:Int)=((s[i]'h).toNat:Int):=by
  unfold bt
  simp[h]
theorem okAt_iff (i c:Nat):okAt i c=true↔(97≤c∧c≤122)∨(i≠0∧(c=95∨(48≤c∧c≤57))):=by
  unfold okAt
  simp
theorem Zfo (s : ByteArray) (hs : s.size ≤ 140737488351232) : ∀ (d i : Nat), i + d = s.size → Ev (fun k => Za5.l0 k s (i : Int)) (nameGo s d i && (!decide (s.size = 0) && decide (s.size ≤ 16)))
  |0,i,h=>by
    obtain rfl:i=s.size:=by omega
    refine Ev.step (G:=fun _=>some (nameGo s 0 s.size && (!decide (s.size=0) && decide (s.size≤16)))) (fun k=> ?_) (Ev.const rfl);rw[Za5.l0,if_neg (by omega)];by_cases h0:s.size=0
    · rw [if_pos (by
        rw[ByteArray.toList_eq]
        exact List.length_eq_zero_iff.1 (by rw [Array.length_toList]; exact h0))]
      simp[h0]
    rw [if_neg (by
      rw[ByteArray.toList_eq];intro e
      exact h0 (show s.data.size = 0 by rw [← Array.length_toList, e]; rfl))]
    have:decide ((s.size:Int)≤16)=decide (s.size≤16):=decide_eq_decide.2 (by omega);rw[this]
    simp[nameGo,h0]
  |d+1,i,h=>by
    have hi:i<s.size:=by omega
    have ih:=Zfo s hs d (i+1) (by omega);have hb:=Zds s i hi;have hw:wrap64 ((i:Int)+1)=((i+1:Nat):Int):=by unfold wrap64;omega
    have hz:((i:Int)=0)=(i=0):=propext (by omega);rw[nameGo,dif_pos hi]
    generalize (s[i]'hi).toNat=c at hb ⊢
    have cont:okAt i c=true→(∀k,Za5.l0 (k+1) s (i:Int)=Za5.l0 k s ((i+1:Nat):Int))→Ev (fun k=>Za5.l0 k s (i:Int)) ((okAt i c && nameGo s d (i+1)) && (!decide (s.size=0) && decide (s.size≤16))):=fun h1 h2=>by
      rw[h1,Bool.true_and];exact Ev.step h2 ih
    have stop:okAt i c=false→(∀k,Za5.l0 (k+1) s (i:Int)=some false)→Ev (fun k=>Za5.l0 k s (i:Int)) ((okAt i c && nameGo s d (i+1)) && (!decide (s.size=0) && decide (s.size≤16))):=fun h1 h2=>by
      rw[h1,Bool.false_and,Bool.false_and];exact Ev.step (G:=fun _=>some false) h2 (Ev.const rfl)
    by_cases q1:97≤c<;>by_cases q2:c≤122<;>by_cases q3:i=0<;>by_cases q4:c=95<;>by_cases q5:c<48<;>by_cases q6:57<c
    all_goals first
      | (exfalso; omega)
      | (refine cont ((okAt_iff i c).2 (by omega)) (fun k => ?_)
         rw[Za5.l0,hb,hw]
         repeat (first | rw [if_pos (by omega)] | rw [if_neg (by omega)]))
      | (refine stop (Bool.eq_false_iff.2 (fun h_ => absurd ((okAt_iff i c).1 h_) (by omega))) (fun k => ?_)
         rw[Za5.l0,hb,hw]
         repeat (first | rw [if_pos (by omega)] | rw [if_neg (by omega)]))
theorem rname_ev (s:ByteArray) (hs:s.size≤1000000):Ev (fun k=>Za5.f k s) (nameB s):=by
  have hr:=Zfo s (by omega) s.size 0 (by omega)
  have e:nameB s=(nameGo s s.size 0 && (!decide (s.size=0) && decide (s.size≤16))):=by
    unfold nameB
    cases nameGo s s.size 0<;>cases decide (s.size=0)<;>cases decide (s.size≤16)<;>rfl
  rw[e];exact hr
theorem Zgq (l : List (List Rg)) (hl : l.length ≤ 1000000) (hr : ∀ r ∈ l, r.length ≤ 3000000) : ∀ (d n : Nat) (acc : List (List Rg)), n + d = l.length → acc.length ≤ n → Ev (fun k => Zbl.l0 k l acc (n : Int)) (acc ++ l.drop n)
  |0,n,acc,h,ha=>by
    obtain rfl:n=l.length:=by omega
    rw[List.drop_length,List.append_nil];exact Ev.step (G:=fun _=>some acc) (fun k=>by rw[Zbl.l0,if_neg (by omega)]) (Ev.const rfl)
  |d+1,n,acc,h,ha=>by
    have hn:n<l.length:=by omega
    have hrd:Ze l (n:Int)=l[n]:=by simp[Ze,List.getD_eq_getElem?_getD,List.getElem?_eq_getElem hn]
    have hq:=hr _ (List.getElem_mem hn);have ih:=Zgq l hl hr d (n+1) (acc++ [l[n]]) (by omega) (by simp;omega);rw[List.append_assoc,List.singleton_append,←List.drop_eq_getElem_cons hn]at ih;refine Ev.step (fun k=>by rw[Zbl.l0,if_pos (by omega),hrd]) (Ev.bind (a:=([]:List Rg)) (Ev.const rfl) ?_);rw[w1 (by omega),List.nil_append];refine Ev.Zan (Int.natCast_nonneg n) ?_;refine Ev.Zan ?_ ?_
    · show 0 + l[n].length < _
      omega
    exact Ev.Zan (by omega) ih
theorem lists3_ev (l:List (List Rg)) (hl:l.length≤1000000) (hr:∀r ∈ l,r.length≤3000000):Ev (fun k=>Zbl.f k l) l:=Zgq l hl hr l.length 0 [] (by omega) (by simp)
theorem Zhg (vars : List S37) (cons : List S40) (gk : Int) (gv gc : List Int) (hl : vars.length ≤ 1000000) (hr : ∀ v ∈ vars, v.f1.length ≤ 3000000) : ∀ (d n : Nat) (acc : List (List Rg)), n + d = vars.length → acc = (vars.take n).map (fun v => v.f1) → Ev (fun k => Zbn.l0 k acc (n : Int) vars cons gk gv gc) (domsOf vars)
  |0,n,acc,h,ha=>by
    rw[List.take_of_length_le (by omega)]at ha;have:acc=domsOf vars:=ha;subst this;exact Ev.step (fun k=>by rw[Zbn.l0,if_neg (by omega)]) (Ev.bind (lists3_ev (domsOf vars) (by unfold domsOf;rw[List.length_map];exact hl) (fun r hr'=>by obtain⟨v,hv,rfl⟩:=List.mem_map.1 hr';exact hr v hv)) (Ev.const rfl))
  |d+1,n,acc,h,ha=>by
    have hn:n<vars.length:=by omega
    have hrd:Zaq vars (n:Int)=vars[n]:=by simp[Zaq,List.getD_eq_getElem?_getD,List.getElem?_eq_getElem hn]
    have hal:acc.length<5864062014805:=by rw[ha,List.length_map,List.length_take];omega
    have ih:=Zhg vars cons gk gv gc hl hr d (n+1) (acc++ [vars[n].f1]) (by omega) (by rw[List.take_succ_eq_append_getElem hn,List.map_append,ha];rfl);exact Ev.step (fun k=>by rw[Zbn.l0,if_pos (by omega),if_pos (by omega),if_pos hal,hrd,w1 (by omega)]) ih
theorem rdoms_ev (vars:List S37) (cons:List S40) (gk:Int) (gv gc:List Int) (hl:vars.length≤1000000) (hr:∀v ∈ vars,v.f1.length≤3000000):Ev (fun k=>Zbn.f k vars cons gk gv gc) (domsOf vars):=Zhg vars cons gk gv gc hl hr vars.length 0 [] (by omega) (by simp)
theorem rgoal_ev (d:List (List Rg)) (hd:∀x ∈ d,Gd 1048576 (-1048576) x) (hdn:d.length≤1000000) (gk:Int) (gv gc:List Int) (h1:gv.length≤1000000) (h2:gc.length≤1000000):Ev (fun k=>Zbm.f k d gk gv gc) (goalE d gk gv gc):=by
  have hc:=rcon_ev d hd hdn 0 gv gc 0 0 [] 0 h1 h2 (by simp) (by simp);have j1:∀x:Bool,x=true→Ev (fun k=>Zbm.j0 k d x gk gv gc) (conE d 0 gv gc 0 0 [] 0):=fun x hx=>Ev.step (fun k=>by rw[Zbm.j0,if_pos hx]) (Ev.bind hc (Ev.const rfl))
  unfold Zbm.f goalE;by_cases q1:gk=1
  · rw [if_neg (by omega), if_pos (.inl q1)]
    exact Ev.Zan q1 (j1 true rfl)
  refine Ev.Za4 q1 ?_;by_cases q2:gk=2
  · rw [if_neg (show ¬ gk = 0 by omega), if_pos (.inr q2)]
    exact j1 _ (by rw[q2];rfl)
  have e:(gk==2)=false:=beq_eq_false_iff_ne.2 q2;rw[e];by_cases q0:gk=0;rotate_left
  · rw [if_neg q0, if_neg (by omega)]
    exact Ev.step (G:=fun _=>some 44) (fun k=>by rw[Zbm.j0,if_neg (by simp),if_neg q0]) (Ev.const rfl)
  rw[if_pos q0];refine Ev.step (fun k=>by rw[Zbm.j0,if_neg (by simp),if_pos q0]) ?_;by_cases q3:0<gv.length
  · rw[if_pos q3];exact Ev.Zan (by omega) (Ev.const rfl)
  rw[if_neg q3];refine Ev.Za4 (by omega) ?_;by_cases q4:0<gc.length
  · rw[if_pos q4];exact Ev.Zan (by omega) (Ev.const rfl)
  rw[if_neg q4];exact Ev.Za4 (by omega) (Ev.const rfl)
section
variable (vars:List S37) (cons:List S40) (gk:Int) (gv gc:List Int)
structure SmallM : Prop where
  vs:vars.length≤1000000
  nm:∀v ∈ vars,v.f0.size≤1000000
  dm:∀v ∈ vars,v.f1.length≤1000000
  cl:cons.length≤1000000
  cs:∀c ∈ cons,c.f1.length≤1000000∧c.f2.length≤1000000∧c.f5.length≤1000000∧∀r ∈ c.f5,r.length≤1000000
  gv:gv.length≤1000000
  gc:gc.length≤1000000
theorem rcheck_l2 (hs : SmallM vars cons gv gc) (D : List (List Rg)) (hd : ∀ x ∈ D, Gd 1048576 (-1048576) x) (hdn : D.length ≤ 1000000) : ∀ d n : Nat, n + d = cons.length →
    Ev (fun k=>Zao.l2 k D (n:Int) vars cons gk gv gc) (if chkC D (cons.drop n)=0 then goalE D gk gv gc else chkC D (cons.drop n))
  |0,n,h=>by
    rw[List.drop_eq_nil_of_le (by omega)];exact Ev.step (fun k=>by rw[Zao.l2,if_neg (by omega)]) (Ev.bind (rgoal_ev D hd hdn gk gv gc hs.gv hs.gc) (Ev.const rfl))
  |d+1,n,h=>by
    have hcl:=hs.cl;have hn:n<cons.length:=by omega
    have hrd:Zac cons (n:Int)=cons[n]:=by simp[Zac,List.getD_eq_getElem?_getD,List.getElem?_eq_getElem hn]
    obtain⟨c1,c2,c5,c6⟩:=hs.cs _ (List.getElem_mem hn);have ih:=rcheck_l2 hs D hd hdn d (n+1) (by omega);rw[List.drop_eq_getElem_cons hn,chkC];refine Ev.step (fun k=>by rw[Zao.l2,if_pos (by omega),if_pos (by omega),hrd]) (Ev.bind (rcon_ev D hd hdn cons[n].f0 cons[n].f1 cons[n].f2 cons[n].f3 cons[n].f4 cons[n].f5 cons[n].f6 c1 c2 c5 c6) ?_);rw[w1 (by omega)];by_cases q:conC D cons[n]=0
    · rw [if_pos q]
      exact Ev.Zan q ih
    rw[if_neg q,if_neg q];exact Ev.Za4 q (Ev.const rfl)
theorem hasN_cons (y:ByteArray) (l:List ByteArray) (x:ByteArray):hasN (y::l) x=(y.toList==x.toList||hasN l x):=rfl
theorem rcheck_l1 (hs : SmallM vars cons gv gc) (n : Nat) (hn : n < vars.length) (X : Int) (next : vars[n].f1.length ≠ 0 → checkSpec vars[n].f1 = 0 → Ev (fun k => Zao.l0 k ((n + 1 : Nat) : Int) vars cons gk gv gc) X) : ∀ d m : Nat, m + d = n →
    Ev (fun k=>Zao.l1 k (n:Int) (m:Int) vars cons gk gv gc) (if hasN (((vars.take n).drop m).map (·.f0)) vars[n].f0=true then 41 else if vars[n].f1.length=0 then 42 else if checkSpec vars[n].f1=0 then X else 42)
  |0,m,h=>by
    have hvs:=hs.vs;have hdm:=hs.dm _ (List.getElem_mem hn);have hrd:Zaq vars (n:Int)=vars[n]:=by simp[Zaq,List.getD_eq_getElem?_getD,List.getElem?_eq_getElem hn]
    rw[List.drop_eq_nil_of_le (by rw[List.length_take];omega),List.map_nil,if_neg (show ¬hasN [] vars[n].f0=true from Bool.false_ne_true)];refine Ev.step (fun k=>by rw[Zao.l1,if_neg (by omega),if_pos (by omega),if_pos (by omega),hrd,w1 (by omega)]) ?_;by_cases q1:vars[n].f1.length=0
    · rw[if_pos q1];exact Ev.Zan (by omega) (Ev.const rfl)
    rw[if_neg q1];refine Ev.Za4 (by omega) (Ev.bind (ref_Check_ev vars[n].f1 (by omega)) ?_);by_cases q2:checkSpec vars[n].f1=0
    · rw[if_pos q2];exact Ev.Zan q2 (next q1 q2)
    rw[if_neg q2];exact Ev.Za4 q2 (Ev.const rfl)
  |d+1,m,h=>by
    have hvs:=hs.vs;have hm:m<vars.length:=by omega
    have ih:=rcheck_l1 hs n hn X next d (m+1) (by omega);have hrd:Zaq vars (n:Int)=vars[n]:=by simp[Zaq,List.getD_eq_getElem?_getD,List.getElem?_eq_getElem hn]
    have hrm:Zaq vars (m:Int)=vars[m]:=by simp[Zaq,List.getD_eq_getElem?_getD,List.getElem?_eq_getElem hm]
    rw[List.drop_eq_getElem_cons (by rw[List.length_take];omega),List.getElem_take,List.map_cons,hasN_cons];refine Ev.step (fun k=>by rw[Zao.l1,if_pos (by omega),if_pos (by omega),if_pos (by omega),if_pos (by omega),if_pos (by omega),hrd,hrm,w1 (by omega)]) ?_;by_cases q:vars[m].f0.toList=vars[n].f0.toList;rotate_left
    · rw [beq_eq_false_iff_ne.2 q, Bool.false_or]
      exact Ev.Za4 q ih
    rw[beq_iff_eq.2 q,Bool.true_or,if_pos rfl];exact Ev.Zan q (Ev.const rfl)
theorem rcheck_l0 (hs : SmallM vars cons gv gc) : ∀ d n : Nat, n + d = vars.length → (∀ v ∈ vars.take n, Gd 1048576 (-1048576) v.f1) →
    Ev (fun k=>Zao.l0 k (n:Int) vars cons gk gv gc) (if chkV (vars.drop n) ((vars.take n).map (·.f0))=0 then(if chkC (domsOf vars) cons=0 then goalE (domsOf vars) gk gv gc else chkC (domsOf vars) cons)else chkV (vars.drop n) ((vars.take n).map (·.f0)))
  |0,n,h,hg=>by
    have hvs:=hs.vs;rw[List.take_of_length_le (by omega)]at hg
    have hd:∀x ∈ domsOf vars,Gd 1048576 (-1048576) x:=fun x hx=>by
      obtain⟨v,hv,rfl⟩:=List.mem_map.1 hx;exact hg v hv
    rw[List.drop_eq_nil_of_le (by omega),chkV,if_pos rfl];refine Ev.step (fun k=>by rw[Zao.l0,if_neg (by omega)]) (Ev.bind (rdoms_ev vars cons gk gv gc hvs (fun v hv=>by have:=hs.dm v hv;omega)) ?_);have:=rcheck_l2 vars cons gk gv gc hs (domsOf vars) hd (by unfold domsOf;rw[List.length_map];exact hvs) cons.length 0 (by omega);rw[List.drop_zero]at this;exact this
  |d+1,n,h,hg=>by
    have hvs:=hs.vs;have hn:n<vars.length:=by omega
    have hrd:Zaq vars (n:Int)=vars[n]:=by simp[Zaq,List.getD_eq_getElem?_getD,List.getElem?_eq_getElem hn]
    rw[List.drop_eq_getElem_cons hn,chkV];refine Ev.step (fun k=>by rw[Zao.l0,if_pos (by omega),if_pos (by omega),hrd]) (Ev.bind (rname_ev vars[n].f0 (hs.nm _ (List.getElem_mem hn))) ?_)
    cases hnm:nameB vars[n].f0 with
    |false=>
      rw[if_pos rfl,if_neg (show ¬(40:Int)=0 by decide)];exact Ev.Za4 (by simp) (Ev.const rfl)
    |true=>
      rw[if_neg (show ¬(true=false) by decide)];refine Ev.Zan rfl ?_
      have h1 := rcheck_l1 vars cons gk gv gc hs n hn _ (fun a1 a2 => rcheck_l0 hs d (n + 1) (by omega) (fun v hv => by
        rw[List.take_succ_eq_append_getElem hn,List.mem_append,List.mem_singleton]at hv
        rcases hv with hv|rfl
        · exact hg v hv
        exact Zf2 a2)) n 0 (by omega)
      rw[List.drop_zero]at h1;have et:(vars.take (n+1)).map (·.f0)=(vars.take n).map (·.f0)++ [vars[n].f0]:=by rw[List.take_succ_eq_append_getElem hn,List.map_append];rfl
      rw[et]at h1;by_cases q2:hasN ((vars.take n).map (·.f0)) vars[n].f0=true
      · rw [if_pos q2] at h1 ⊢
        rw[if_neg (show ¬(41:Int)=0 by decide)];exact h1
      rw[if_neg q2]at h1 ⊢;by_cases q3:vars[n].f1.length=0
      · rw [if_pos q3] at h1 ⊢
        rw[if_neg (show ¬(42:Int)=0 by decide)];exact h1
      rw[if_neg q3]at h1 ⊢;by_cases q4:checkSpec vars[n].f1=0
      · rw [if_pos q4] at h1 ⊢
        exact h1
      rw[if_neg q4]at h1 ⊢;rw[if_neg (show ¬(42:Int)=0 by decide)];exact h1
theorem rcheck_ev (hs:SmallM vars cons gv gc):Ev (fun k=>Zao.f k vars cons gk gv gc) (chkE vars cons gk gv gc):=by
  have j2:∀x:Bool,x=true→Ev (fun k=>Zao.j0 k x vars cons gk gv gc) 2:=fun x hx=>Ev.step (G:=fun _=>some 2) (fun k=>by rw[Zao.j0,if_pos hx]) (Ev.const rfl)
  unfold Zao.f chkE;by_cases q1:64<vars.length
  · rw [if_pos (.inl q1)]
    exact Ev.Zan (by omega) (j2 true rfl)
  refine Ev.Za4 (by omega) ?_;by_cases q2:256<cons.length
  · rw [if_pos (.inr q2)]
    exact j2 _ (decide_eq_true (by omega))
  rw[if_neg (fun h=>h.elim q1 q2),decide_eq_false (show ¬(cons.length:Int)>256 by omega)];have:=rcheck_l0 vars cons gk gv gc hs vars.length 0 (by omega) (fun v hv=>by simp at hv);rw[List.drop_zero,List.take_zero,List.map_nil]at this;exact Ev.step (fun k=>by rw[Zao.j0,if_neg (by simp)];rfl) this
end
end Go.Proofs.YtkgjaklnbgdmiaaGreat.P
namespace Go.Proofs.YtkgjaklnbgdmiaaGreat.P
open Go.RowKit Go.Proofs.YtkgjaklnbgdmiaaGreatW.PrintWords Go.Proofs.YtkgjaklnbgdmiaaGreatW.PrintLast Go.Proofs.YtkgjaklnbgdmiaaGreatW.PrintMore
attribute [local go_sem] Zci Zck Zc3 Zc4 Zcb Zcc Zcj Zcl
def Zbq.l0 : Nat → List (List Int) → List (List Int) → Int → Option (Bool)
 | 0, _, _, _ => none
 |k+1,x0,x1,x5=>if x5<(x0.length:Int)then(if 0≤x5 then(if x5<(x1.length:Int)then((Zau.f k (Zca x0 x5) (Zca x1 x5)).bind fun UW=>(if UW=true then(Zbq.l0 k x0 x1 (wrap64 (x5+1)))else(some false)))else(none))else(none))else(some true)
def Zbq.f (k:Nat) (l0:List (List Int)) (l1:List (List Int)):Option (Bool):=if(l0.length:Int)=(l1.length:Int)then(Zbq.l0 k l0 l1 0)else(some false)
set_option maxRecDepth 100000 in
theorem Zbq.calls (k : Nat) (A0 : Option Addr) (c0 : Nat) (l0 : List (List Int)) (A1 : Option Addr) (c1 : Nat) (l1 : List (List Int)) (r : Bool) (w : World) (hr0 : Kd.C (Kd.slice 3 (Kd.int .i64)) w A0 l0.length l0) (hc0 : l0.length ≤ c0) (hr1 : Kd.C (Kd.slice 3 (Kd.int .i64)) w A1 l1.length l1) (hc1 : l1.length ≤ c1) (h : Zbq.f k l0 l1 = some r) :
  Calls Tryz.prog 41 #[.slice A0 l0.length c0,.slice A1 l1.length c1] w fun e w'=>e= .returned (.bool r)∧Za1 w w':=by
 have HR0:=Za.mk hr0;have HC0:=Za.mk hc0;clear hr0 hc0;have HR1:=Za.mk hr1;have HC1:=Za.mk hc1;clear hr1 hc1;have H:(if(l0.length:Int)=(l1.length:Int)then(Zbq.l0 k l0 l1 0)else(some false))=some r:=h;clear h;by_cases c3:(l0.length:Int)=(l1.length:Int)
 case neg=>
  rw[if_neg c3]at H;have gL:((l0.length:Int)==(l1.length:Int))=false:=beq_eq_false_iff_ne.mpr c3;have lV:((l0.length:Int) !=(l1.length:Int))=true:=bne_iff_ne.mpr c3;have qB:(l0.length==l1.length)=false:=by first|simpa using c3|(simp at c3 ⊢;omega)
  obtain rfl:=sj H;go_enter Tryz.func41,Tryz.ntmps41;go_wp2
  repeat(go_quiet (fail);try go_wp2)
  go_ret;exact⟨eS,by repeat(first|exact Za1.refl _|apply Za1.step)⟩
 rw[if_pos c3]at H;have gL:((l0.length:Int)==(l1.length:Int))=true:=beq_iff_eq.mpr c3;have lV:((l0.length:Int) !=(l1.length:Int))=false:=bne_eq_false_iff_eq.mpr c3;have qB:(l0.length==l1.length)=true:=by first|simpa using c3|(simp at c3 ⊢;omega)
 clear c3;have H':=Za.mk H;clear H;go_enter Tryz.func41,Tryz.ntmps41;go_wp2
 repeat(go_quiet (fail);try go_wp2)
 go_loopg [5] k (fun kq v5 w'=>∃(aH:Int),v5= .int .i64 aH∧Za (Zbq.l0 kq l0 l1 aH=some r)∧Za (kq≤k)∧Za1 w w')
 case atStart=>exact⟨(0),eS,H',⟨Nat.le_refl _⟩,by repeat(first|exact Za1.refl _|apply Za1.step)⟩
 case round=>
  clear H';try clear c1
  try clear p2
  try clear c3
  try clear gL
  try clear lV
  try clear qB
  obtain⟨aH,rfl,HA,HK1,⟨m1,rfl⟩⟩:=hrel
  cases gk with
  | zero => exact absurd HA.out (by simp [Zbq.l0])
  |succ k1=>
   have H:=HA.out;clear HA;simp only[Zbq.l0]at H;by_cases c4:aH<(l0.length:Int)
   case neg=>
    rw[if_neg c4]at H;have dV:decide (aH<(l0.length:Int))=false:=decide_eq_false c4;clear c4;obtain rfl:=sj H;go_wp2
    repeat(go_quiet (fail);try go_wp2)
    go_ret;exact⟨eS,by repeat(first|exact Za1.refl _|apply Za1.step)⟩
   rw[if_pos c4]at H;have dV:decide (aH<(l0.length:Int))=true:=decide_eq_true c4;clear c4;obtain⟨dS,H⟩:=ifT H;obtain⟨jh,H⟩:=ifT H;obtain⟨UW,A7,H⟩:=bnd H;try dsimp only at H
   by_cases c8:UW=true
   case pos=>
    subst c8;rw[if_pos rfl]at H;have H':=Za.mk H;clear H;have iJa:(0≤(aH:Int))=True:=teq;have iYa:(aH<(l0.length:Int))=True:=teq;obtain⟨cYa,YL,aha,rfl,Yp,zI,zk⟩:=Ze6 HR0.out aH odt odt;have uk:=Za.mk zk;have tX:=Za.mk zI;clear zk zI;have iKa:(0≤(aH:Int))=True:=teq;have jaa:(aH<(l1.length:Int))=True:=teq;obtain⟨daa,YM,aia,rfl,Yq,zJ,zl⟩:=Ze6 HR1.out aH odt odt;have ul:=Za.mk zl;have tY:=Za.mk zJ;clear zl zJ
    go_wp2_with (first|(go_at_call 21;(with_reducible refine(Zau.calls k1 _ _ (Zca l0 aH) _ _ (Zca l1 aH) true _ (cM uk.out) tX.out (cM ul.out) tY.out A7.out).mono ?_);rintro e w' ⟨rfl,⟨nd,rfl⟩⟩;(try first|exact⟨rfl,_,World.drewN_drewN _ _ _⟩|exact⟨rfl,_,Eq.trans (World.drewN_drewN _ _ _) (congrArg (World.drewN _) (Nat.add_assoc _ _ _))⟩)))
    repeat(go_quiet (first|(go_at_call 21;(with_reducible refine(Zau.calls k1 _ _ (Zca l0 aH) _ _ (Zca l1 aH) true _ (cM uk.out) tX.out (cM ul.out) tY.out A7.out).mono ?_);rintro e w' ⟨rfl,⟨nd,rfl⟩⟩;(try first|exact⟨rfl,_,World.drewN_drewN _ _ _⟩|exact⟨rfl,_,Eq.trans (World.drewN_drewN _ _ _) (congrArg (World.drewN _) (Nat.add_assoc _ _ _))⟩)));try go_wp2_with (first|(go_at_call 21;(with_reducible refine(Zau.calls k1 _ _ (Zca l0 aH) _ _ (Zca l1 aH) true _ (cM uk.out) tX.out (cM ul.out) tY.out A7.out).mono ?_);rintro e w' ⟨rfl,⟨nd,rfl⟩⟩;(try first|exact⟨rfl,_,World.drewN_drewN _ _ _⟩|exact⟨rfl,_,Eq.trans (World.drewN_drewN _ _ _) (congrArg (World.drewN _) (Nat.add_assoc _ _ _))⟩))))
    go_roundg k1
    case measure=>have:=HK1.out;omega
    case rel=>exact⟨(wrap64 (aH+1)),eS,H',⟨by have:=HK1.out;omega⟩,by repeat(first|exact Za1.refl _|apply Za1.step)⟩
   replace c8:=Bool.eq_false_iff.mpr c8;subst c8;replace H:=ifF H;obtain rfl:=sj H;have iJa:(0≤(aH:Int))=True:=teq;have iYa:(aH<(l0.length:Int))=True:=teq;obtain⟨cYa,YL,aha,rfl,Yp,zI,zk⟩:=Ze6 HR0.out aH odt odt;have uk:=Za.mk zk;have tX:=Za.mk zI;clear zk zI;have iKa:(0≤(aH:Int))=True:=teq;have jaa:(aH<(l1.length:Int))=True:=teq;obtain⟨daa,YM,aia,rfl,Yq,zJ,zl⟩:=Ze6 HR1.out aH odt odt;have ul:=Za.mk zl;have tY:=Za.mk zJ;clear zl zJ
   go_wp2_with (first|(go_at_call 21;(with_reducible refine(Zau.calls k1 _ _ (Zca l0 aH) _ _ (Zca l1 aH) false _ (cM uk.out) tX.out (cM ul.out) tY.out A7.out).mono ?_);rintro e w' ⟨rfl,⟨nd,rfl⟩⟩;(try first|exact⟨rfl,_,World.drewN_drewN _ _ _⟩|exact⟨rfl,_,Eq.trans (World.drewN_drewN _ _ _) (congrArg (World.drewN _) (Nat.add_assoc _ _ _))⟩)))
   repeat(go_quiet (first|(go_at_call 21;(with_reducible refine(Zau.calls k1 _ _ (Zca l0 aH) _ _ (Zca l1 aH) false _ (cM uk.out) tX.out (cM ul.out) tY.out A7.out).mono ?_);rintro e w' ⟨rfl,⟨nd,rfl⟩⟩;(try first|exact⟨rfl,_,World.drewN_drewN _ _ _⟩|exact⟨rfl,_,Eq.trans (World.drewN_drewN _ _ _) (congrArg (World.drewN _) (Nat.add_assoc _ _ _))⟩)));try go_wp2_with (first|(go_at_call 21;(with_reducible refine(Zau.calls k1 _ _ (Zca l0 aH) _ _ (Zca l1 aH) false _ (cM uk.out) tX.out (cM ul.out) tY.out A7.out).mono ?_);rintro e w' ⟨rfl,⟨nd,rfl⟩⟩;(try first|exact⟨rfl,_,World.drewN_drewN _ _ _⟩|exact⟨rfl,_,Eq.trans (World.drewN_drewN _ _ _) (congrArg (World.drewN _) (Nat.add_assoc _ _ _))⟩))))
   go_ret;exact⟨eS,by repeat(first|exact Za1.refl _|apply Za1.step)⟩
end Go.Proofs.YtkgjaklnbgdmiaaGreat.P
/- Plain: the document's comparison of lists of lists. -/
namespace Go.Proofs.YtkgjaklnbgdmiaaGreat.P
open Go.RowKit Go.Proofs.YtkgjaklnbgdmiaaGreatW.PrintWords Go.Proofs.YtkgjaklnbgdmiaaGreatW.PrintLast Go.Proofs.YtkgjaklnbgdmiaaGreatW.PrintMore
theorem rdL_n2 (xs:List (List Int)) (n:Nat) (h:n<xs.length):Zca xs (n:Int)=xs[n]:=by simp[Zca,List.getD_eq_getElem?_getD,List.getElem?_eq_getElem h]
theorem ref_Lists_l (a b:List (List Int)) (ha:a.length<4611686018427387904) (hin:∀x ∈ a,x.length<4611686018427387904) (hl:a.length=b.length):∀(r n:Nat),n+r=a.length→Ev (fun k=>Zbq.l0 k a b (n:Int)) (decide (a.drop n=b.drop n)):=by
  intro r
  induction r with
  |zero=>
    intro n h;rw[List.drop_of_length_le (by omega),List.drop_of_length_le (by omega)];exact Ev.step (G:=fun _=>some true) (fun k=>by rw[Zbq.l0,if_neg (by omega)]) (Ev.const (by simp))
  |succ r ih=>
    intro n h;have hna:n<a.length:=by omega
    have hnb:n<b.length:=by omega
    have hN:=Zfp a[n] b[n] (hin _ (List.getElem_mem hna));refine Ev.step (fun k=>by rw[Zbq.l0,if_pos (by omega),if_pos (by omega),if_pos (by omega),rdL_n2 a n hna,rdL_n2 b n hnb,w1 (by omega)]) (Ev.bind hN ?_);rw[List.drop_eq_getElem_cons hna,List.drop_eq_getElem_cons hnb];by_cases e:a[n]=b[n]
    · simp only [e, decide_true, if_true, List.cons.injEq, true_and]
      exact ih (n+1) (by omega)
    simp only[e,decide_false,Bool.false_eq_true,if_false,List.cons.injEq,false_and];exact Ev.pure _
theorem ref_Lists (a b:List (List Int)) (ha:a.length<4611686018427387904) (hin:∀x ∈ a,x.length<4611686018427387904):Ev (fun k=>Zbq.f k a b) (decide (a=b)):=by
  unfold Zbq.f;by_cases h:a.length=b.length
  · exact Ev.Zan (by omega) (ref_Lists_l a b ha hin h a.length 0 (by omega))
  have:decide (a=b)=false:=decide_eq_false (fun e=>h (by rw[e]));rw[this];exact Ev.Za4 (by omega) (Ev.pure _)
end Go.Proofs.YtkgjaklnbgdmiaaGreat.P
namespace Go.Proofs.YtkgjaklnbgdmiaaGreat.P
open Go.RowKit Go.Proofs.YtkgjaklnbgdmiaaGreatW.PrintWords Go.Proofs.YtkgjaklnbgdmiaaGreatW.PrintLast Go.Proofs.YtkgjaklnbgdmiaaGreatW.PrintMore
attribute [local go_sem] Zci Zck Zc3 Zc4 Zcb Zcc Zcj Zcl
mutual
def Zak.l0 : Nat → Int → List (S37) → List (S40) → Int → List Int → List Int → List (S37) → Int → List Int → List Int → Option ((List (S37)) × (List (S40)) × Int × List Int × List Int)
 | 0, _, _, _, _, _, _, _, _, _, _ => none
 |k+1,x4,rU,mG,EL,EM,EN,wh,Bb,Bc,Bd=>if x4<(rU.length:Int)then(if 0≤x4 then((some (([]:List (S59)):List (S59))).bind fun G8=>(if G8.length+((Zaq rU x4).f1).length<8796093022208 then(if wh.length<3518437208883 then(Zak.l0 k (wrap64 (x4+1)) rU mG EL EM EN (wh++ [(⟨(Zaq rU x4).f0,(G8++((Zaq rU x4).f1))⟩:S37)]) Bb Bc Bd)else(none))else(none)))else(none))else(Zak.l1 k 0 rU mG EL EM EN wh ([]:List (S40)) Bb Bc Bd)
def Zak.l1 : Nat → Int → List (S37) → List (S40) → Int → List Int → List Int → List (S37) → List (S40) → Int → List Int → List Int → Option ((List (S37)) × (List (S40)) × Int × List Int × List Int)
 | 0, _, _, _, _, _, _, _, _, _, _, _ => none
 |k+1,x5,rU,mG,EL,EM,EN,wh,Kv,Bb,Bc,Bd=>if x5<(mG.length:Int)then(if 0≤x5 then((Zb3.f k ((Zac mG x5).f0) ((Zac mG x5).f1) ((Zac mG x5).f2) ((Zac mG x5).f3) ((Zac mG x5).f4) ((Zac mG x5).f5) ((Zac mG x5).f6)).bind fun BB=>(if Kv.length<1353245080339 then(Zak.l1 k (wrap64 (x5+1)) rU mG EL EM EN wh (Kv++ [(⟨BB.1,BB.2.1,BB.2.2.1,BB.2.2.2.1,BB.2.2.2.2.1,BB.2.2.2.2.2.1,BB.2.2.2.2.2.2⟩:S40)]) Bb Bc Bd)else(none)))else(none))else(some (wh,Kv,Bb,Bc,Bd))
end
def Zak.f (k:Nat) (ae:List (S37)) (aa:List (S40)) (aj:Int) (ak:List Int) (ai:List Int):Option ((List (S37)) × (List (S40)) × Int × List Int × List Int):=(some (([]:List Int):List Int)).bind fun mr=>(if mr.length+ak.length<17592186044416 then((some (([]:List Int):List Int)).bind fun kL=>(if kL.length+ai.length<17592186044416 then(Zak.l0 k 0 ae aa aj ak ai ([]:List (S37)) aj (mr++ak) (kL++ai))else(none)))else(none))
def Zak.T1:Bool × List (List Nat × List Nat):=(true,[([],[]),([0],[0]),([1],[1]),([],[]),([],[]),([4],[4]),([5],[5]),([3,6],[3,6]),([],[]),([],[]),([9],[9]),([10],[10]),([8,11,7],[8,11]),([2,7,12],[2,7,12]),([13],[13]),([],[]),([15,14,12,0,1,2,3,4,5,6,7,8,9,10,11,12,13,14,15],[14,15])])
def Zak.B1:List Nat:= [0,1,3,0,0,16,48,120,0,0,512,1536,4088,8191,16383,0,65535]
theorem Zak.tab1:rtab .any (opsOf Tryz.f5 1)=Zak.T1:=by kernel_rfl
theorem Zak.bits1:waitsOk Zak.T1.2 Zak.B1=true:=by kernel_rfl
def Zak.T5:Bool × List (List Nat × List Nat):=(true,[([],[]),([0],[0]),([],[]),([2],[2]),([],[]),([3,4],[3,4]),([5],[5]),([6],[6]),([],[]),([],[]),([9],[9]),([],[]),([10,11],[10,11]),([12],[12]),([13],[13]),([8,14],[8,14]),([7,15],[7,15]),([16],[16]),([1,17,15],[1,17]),([0,1,2,3,4,5,6,7,8,9,10,11,12,13,14,15,16,17,18],[]),([19,18,18,0,1,2,3,4,5,6,7,8,9,10,11,12,13,14,15,16,17,18],[18,19])])
def Zak.B5:List Nat:= [0,1,0,4,0,28,60,124,0,0,512,0,3584,7680,15872,32512,65532,131068,262143,524287,1048575]
theorem Zak.tab5:rtab .any (opsOf Tryz.f5 5)=Zak.T5:=by kernel_rfl
theorem Zak.bits5:waitsOk Zak.T5.2 Zak.B5=true:=by kernel_rfl
def Zak.T9:Bool × List (List Nat × List Nat):=(true,[([],[]),([0],[0]),([],[]),([2],[2]),([],[]),([3,4],[3,4]),([5],[5]),([6],[6]),([7],[7]),([1,8,7],[1,8]),([0,1,2,3,4,5,6,7,8,9],[]),([10,9,9,0,1,2,3,4,5,6,7,8,9],[9,10])])
def Zak.B9:List Nat:= [0,1,0,4,0,28,60,124,252,511,1023,2047]
theorem Zak.tab9:rtab .any (opsOf Tryz.f5 9)=Zak.T9:=by kernel_rfl
theorem Zak.bits9:waitsOk Zak.T9.2 Zak.B9=true:=by kernel_rfl
set_option maxRecDepth 100000 in
theorem Zak.calls (k : Nat) (bF : Option Addr) (bv : Nat) (ae : List (S37)) (aI : Option Addr) (aG : Nat) (aa : List (S40)) (aj : Int) (bi : Option Addr) (bn : Nat) (ak : List Int) (bf : Option Addr) (bg : Nat) (ai : List Int) (r1 : List (S37)) (r2 : List (S40)) (r3 : Int) (r4 : List Int) (r5 : List Int) (w : World) (lC : Kd.C k37 w bF ae.length ae) (l8 : ae.length ≤ bv) (eO : Kd.C k40 w aI aa.length aa) (eH : aa.length ≤ aG) (kF : Kd.C (Kd.int .i64) w bi ak.length ak) (ky : ak.length ≤ bn) (kH : Kd.C (Kd.int .i64) w bf ai.length ai) (kz : ai.length ≤ bg) (h : Zak.f k ae aa aj ak ai = some (r1, r2, r3, r4, r5)) :
  Calls Tryz.prog 5 #[.agg #[.slice bF ae.length bv,.slice aI aa.length aG,.int .i64 aj,.slice bi ak.length bn,.slice bf ai.length bg]] w fun e w'=>∃v0_ v1_ v3_ v4_:Value,e= .returned (.agg #[v0_,v1_,.int .i64 r3,v3_,v4_])∧Kd.S k37 37 w' w.heap.size (fun _=>True) v0_ r1∧Kd.R k40 40 w' w.heap.size (fun k_=>some k_≠(v3_:Value).ownBlock∧some k_≠(v4_:Value).ownBlock) v1_ r2∧Kd.R (Kd.int .i64) 3 w' w.heap.size (fun k_=>some k_≠(v4_:Value).ownBlock) v3_ r4∧Kd.R (Kd.int .i64) 3 w' w.heap.size (fun k_=>some k_≠(v3_:Value).ownBlock) v4_ r5∧Below w.heap.size w w':=by
 have hu28:=Tryz.underlying28;have hu26:=Tryz.underlying26;have hu37:=Tryz.underlying37;have hu40:=Tryz.underlying40;have gV:=Za.mk lC;have uA:=Za.mk l8;clear lC l8;have fE:=Za.mk eO;have gU:=Za.mk eH;clear eO eH;have kr:=Za.mk kF;have lI:=Za.mk ky;clear kF ky;have lh:=Za.mk kH;have lJ:=Za.mk kz;clear kH kz;have HB:=Za.mk (Below.refl w.heap.size w);have H:((some (([]:List Int):List Int)).bind fun mr=>(if mr.length+ak.length<17592186044416 then((some (([]:List Int):List Int)).bind fun kL=>(if kL.length+ai.length<17592186044416 then(Zak.l0 k 0 ae aa aj ak ai ([]:List (S37)) aj (mr++ak) (kL++ai))else(none)))else(none)))=some (r1,r2,r3,r4,r5):=h;clear h;obtain⟨mr,Iw⟩:∃y_:List Int,y_=(([]:List Int)):=⟨_,rfl⟩;replace H:(if mr.length+ak.length<17592186044416 then((some (([]:List Int):List Int)).bind fun kL=>(if kL.length+ai.length<17592186044416 then(Zak.l0 k 0 ae aa aj ak ai ([]:List (S37)) aj (mr++ak) (kL++ai))else(none)))else(none))=some (r1,r2,r3,r4,r5):=by first|(rw[Iw];with_reducible exact H)|(have H2_:=(Option.bind_some _ _).symm.trans H;rw[Iw];with_reducible exact H2_)|(have H2_:=(Option.bind_some _ _).symm.trans H;with_reducible exact H2_)|with_reducible exact H|(rw[Iw];exact H)|exact H
 have xI:=Za.mk Iw;clear Iw;by_cases c2:mr.length+ak.length<17592186044416
 case neg=>
  rw[if_neg c2]at H;exact absurd H (by simp)
 rw[if_pos c2]at H;have Bz:=Za.mk c2;clear c2;obtain⟨fP,Iy⟩:∃y_:List Int,y_=(mr++ak):=⟨_,rfl⟩;replace H:((some (([]:List Int):List Int)).bind fun kL=>(if kL.length+ai.length<17592186044416 then(Zak.l0 k 0 ae aa aj ak ai ([]:List (S37)) aj fP (kL++ai))else(none)))=some (r1,r2,r3,r4,r5):=by first|(rw[Iy];with_reducible exact H)|(have H2_:=(Option.bind_some _ _).symm.trans H;rw[Iy];with_reducible exact H2_)|(have H2_:=(Option.bind_some _ _).symm.trans H;with_reducible exact H2_)|with_reducible exact H|(rw[Iy];exact H)|exact H
 have KV:=Za.mk Iy;clear Iy;obtain⟨kL,Iz⟩:∃y_:List Int,y_=(([]:List Int)):=⟨_,rfl⟩;replace H:(if kL.length+ai.length<17592186044416 then(Zak.l0 k 0 ae aa aj ak ai ([]:List (S37)) aj fP (kL++ai))else(none))=some (r1,r2,r3,r4,r5):=by first|(rw[Iz];with_reducible exact H)|(have H2_:=(Option.bind_some _ _).symm.trans H;rw[Iz];with_reducible exact H2_)|(have H2_:=(Option.bind_some _ _).symm.trans H;with_reducible exact H2_)|with_reducible exact H|(rw[Iz];exact H)|exact H
 have qO:=Za.mk Iz;clear Iz;obtain⟨c3,H⟩:=ifP H;have Qf:=Za.mk c3;clear c3;obtain⟨iB,I1⟩:∃y_:List Int,y_=(kL++ai):=⟨_,rfl⟩;replace H:(Zak.l0 k 0 ae aa aj ak ai ([]:List (S37)) aj fP iB)=some (r1,r2,r3,r4,r5):=by first|(rw[I1];with_reducible exact H)|(have H2_:=(Option.bind_some _ _).symm.trans H;rw[I1];with_reducible exact H2_)|(have H2_:=(Option.bind_some _ _).symm.trans H;with_reducible exact H2_)|with_reducible exact H|(rw[I1];exact H)|exact H
 have VA:=Za.mk I1;clear I1;have H':=Za.mk H;clear H;go_enter Tryz.func5,Tryz.ntmps5;try go_wp2_with (first|((with_reducible refine Zap (N:=1) rfl ?_);refine bx 1 #[.slice bF ae.length bv,.slice aI aa.length aG,.int .i64 aj,.slice bi ak.length bn,.slice bf ai.length bg] 28 ?_;intro ax hg w4 hbox hb;have ag:=Za.mk (hbox);have kBa:=Za.mk ((gE hg HB.out:w.heap.size≤ax));replace HB:=Za.mk (bS HB.out hb);clear hb hbox hg)|((with_reducible refine Zap (N:=2) rfl ?_);refine bx 2 #[.slice none 0 0,.slice none 0 0,.int .i64 0,.slice none 0 0,.slice none 0 0] 28 ?_;intro bI hg w5 hbox hb;have aQ:=Za.mk (hbox);have kCa:=Za.mk ((gE hg HB.out:w.heap.size≤bI));replace HB:=Za.mk (bS HB.out hb);have xB:=Za.mk ((by rw[hg];exact Nat.ne_of_lt (Zbj (kM ag.out)):ax≠bI));have xC:=Za.mk ((by rw[hg];exact Nat.ne_of_gt (Zbj (kM ag.out)):bI≠ax));replace ag:=Za.mk (kB ag.out hb);clear hb hbox hg))
 replace ag:=Za.mk (Zad ag.out);replace aQ:=Za.mk (Zad aQ.out);replace HB:=Za.mk (Zb6 HB.out);refine Zef (n:=17) (S:=fun w'=>w'.cell? ⟨ax,0,none⟩=some (.slice bF ae.length bv)∧w'.cell? ⟨ax,1,none⟩=some (.slice aI aa.length aG)∧w'.cell? ⟨ax,2,none⟩=some (.int .i64 aj)∧w'.cell? ⟨ax,3,none⟩=some (.slice bi ak.length bn)∧w'.cell? ⟨ax,4,none⟩=some (.slice bf ai.length bg)) (ds:= []) #[false,false,false,false,false,false,false,false,false,false,false,false,false,false,false,false,false] (by kernel_rfl) rfl rfl ⟨bc ag.out 0,bc ag.out 1,bc ag.out 2,bc ag.out 3,bc ag.out 4⟩ (fun hHeld=> ?_);refine Zc6 Zak.tab1 Zak.bits1 (fun HT_ HW_=> ?_)
 generalize w5.drew=w6 at ag aQ HB hHeld ⊢
 refine pu HT_ 0 6 ?_;refine pu HT_ 1 7 ?_;refine pu HT_ 4 10 ?_;refine pu HT_ 5 11 ?_;refine pu HT_ 9 15 ?_;refine pu HT_ 10 16 ?_;refine tk HT_ HW_ hHeld 2 8 ?_;refine tk HT_ HW_ hHeld 6 12 ?_;refine tk HT_ HW_ hHeld 11 17 ?_;refine Zfj (σ:=Value × Value × Value × Value × Nat) 1 #[true,true,true,true,true,true,true,true,true,true,true,true,true,true,true,true,false] (fun s_=> [(9,s_.1),(13,s_.2.1),(14,s_.2.2.1),(18,s_.2.2.2.1),(3,.pointer (some ⟨s_.2.2.2.2,0,none⟩)),(19,.agg #[.int .i64 aj,s_.2.1,s_.2.2.2.1]),(20,.agg #[.slice none 0 0,.slice none 0 0,.int .i64 aj,s_.2.1,s_.2.2.2.1])]) (fun s_ w'=>(w'.cell? ⟨ax,0,none⟩=some (.slice bF ae.length bv)∧w'.cell? ⟨ax,1,none⟩=some (.slice aI aa.length aG)∧w'.cell? ⟨ax,2,none⟩=some (.int .i64 aj)∧w'.cell? ⟨ax,3,none⟩=some (.slice bi ak.length bn)∧w'.cell? ⟨ax,4,none⟩=some (.slice bf ai.length bg))∧(Kd.R (Kd.int .i64) 3 w' w.heap.size (fun k_=>some k_≠(s_.2.2.2.1:Value).ownBlock) s_.2.1 fP)∧(Kd.R (Kd.int .i64) 3 w' w.heap.size (fun k_=>some k_≠(s_.2.1:Value).ownBlock) s_.2.2.2.1 iB)∧(w'.heap[ax]? =some (.cells #[.slice bF ae.length bv,.slice aI aa.length aG,.int .i64 aj,.slice bi ak.length bn,.slice bf ai.length bg] 28 (0,0)))∧(w'.heap[bI]? =some (.cells #[.slice none 0 0,.slice none 0 0,.int .i64 0,.slice none 0 0,.slice none 0 0] 28 (0,0)))∧(w'.heap[s_.2.2.2.2]? =some (.cells #[.slice none 0 0,.slice none 0 0,.int .i64 0,.slice none 0 0,.slice none 0 0] 28 (0,0)))∧(w.heap.size≤s_.2.2.2.2)∧(w.heap.size≤s_.2.2.2.2)∧(ax≠s_.2.2.2.2)∧(s_.2.2.2.2≠ax)∧(bI≠s_.2.2.2.2)∧(s_.2.2.2.2≠bI)∧(Below w.heap.size w w')) ?_ ?_;rotate_left
 ·intro hJ3_7_8_12_15
  refine Zfj (σ:=Value × Value × Value × Value) 2 #[true,true,true,true,true,true,true,true,true,true,true,true,true,true,true,false,false] (fun s_=> [(9,s_.1),(13,s_.2.1),(14,s_.2.2.1),(18,s_.2.2.2),(19,.agg #[.int .i64 aj,s_.2.1,s_.2.2.2]),(20,.agg #[.slice none 0 0,.slice none 0 0,.int .i64 aj,s_.2.1,s_.2.2.2])]) (fun s_ w'=>(w'.cell? ⟨ax,0,none⟩=some (.slice bF ae.length bv)∧w'.cell? ⟨ax,1,none⟩=some (.slice aI aa.length aG)∧w'.cell? ⟨ax,2,none⟩=some (.int .i64 aj)∧w'.cell? ⟨ax,3,none⟩=some (.slice bi ak.length bn)∧w'.cell? ⟨ax,4,none⟩=some (.slice bf ai.length bg))∧(Kd.R (Kd.int .i64) 3 w' w.heap.size (fun k_=>some k_≠(s_.2.2.2:Value).ownBlock) s_.2.1 fP)∧(Kd.R (Kd.int .i64) 3 w' w.heap.size (fun k_=>some k_≠(s_.2.1:Value).ownBlock) s_.2.2.2 iB)∧(w'.heap[ax]? =some (.cells #[.slice bF ae.length bv,.slice aI aa.length aG,.int .i64 aj,.slice bi ak.length bn,.slice bf ai.length bg] 28 (0,0)))∧(w'.heap[bI]? =some (.cells #[.slice none 0 0,.slice none 0 0,.int .i64 0,.slice none 0 0,.slice none 0 0] 28 (0,0)))∧(Below w.heap.size w w')) ?_ ?_;rotate_left
  ·intro hJ3_7_8_12
   refine Zfj (σ:=Value × Value × Value × Nat) 4 #[true,true,true,true,true,true,true,true,true,true,true,true,false,false,false,true,false] (fun s_=> [(9,s_.1),(13,s_.2.1),(14,s_.2.2.1),(3,.pointer (some ⟨s_.2.2.2,0,none⟩))]) (fun s_ w'=>(w'.cell? ⟨ax,0,none⟩=some (.slice bF ae.length bv)∧w'.cell? ⟨ax,1,none⟩=some (.slice aI aa.length aG)∧w'.cell? ⟨ax,2,none⟩=some (.int .i64 aj)∧w'.cell? ⟨ax,3,none⟩=some (.slice bi ak.length bn)∧w'.cell? ⟨ax,4,none⟩=some (.slice bf ai.length bg))∧(Kd.R (Kd.int .i64) 3 w' w.heap.size (fun k_=>some k_≠(s_.2.2.1:Value).ownBlock) s_.2.1 fP)∧(Kd.R (Kd.int .i64) 3 w' w.heap.size (fun k_=>some k_≠(s_.2.1:Value).ownBlock) s_.2.2.1 kL)∧(w'.heap[ax]? =some (.cells #[.slice bF ae.length bv,.slice aI aa.length aG,.int .i64 aj,.slice bi ak.length bn,.slice bf ai.length bg] 28 (0,0)))∧(w'.heap[bI]? =some (.cells #[.slice none 0 0,.slice none 0 0,.int .i64 0,.slice none 0 0,.slice none 0 0] 28 (0,0)))∧(w'.heap[s_.2.2.2]? =some (.cells #[.slice none 0 0,.slice none 0 0,.int .i64 0,.slice none 0 0,.slice none 0 0] 28 (0,0)))∧(w.heap.size≤s_.2.2.2)∧(w.heap.size≤s_.2.2.2)∧(ax≠s_.2.2.2)∧(s_.2.2.2≠ax)∧(bI≠s_.2.2.2)∧(s_.2.2.2≠bI)∧(Below w.heap.size w w')) ?_ ?_;rotate_left
   ·intro hJ3_7_8_15
    refine Zfj (σ:=Value × Value × Value) 5 #[true,true,true,true,true,true,true,true,true,true,true,true,false,false,false,false,false] (fun s_=> [(9,s_.1),(13,s_.2.1),(14,s_.2.2)]) (fun s_ w'=>(w'.cell? ⟨ax,0,none⟩=some (.slice bF ae.length bv)∧w'.cell? ⟨ax,1,none⟩=some (.slice aI aa.length aG)∧w'.cell? ⟨ax,2,none⟩=some (.int .i64 aj)∧w'.cell? ⟨ax,3,none⟩=some (.slice bi ak.length bn)∧w'.cell? ⟨ax,4,none⟩=some (.slice bf ai.length bg))∧(Kd.R (Kd.int .i64) 3 w' w.heap.size (fun k_=>some k_≠(s_.2.2:Value).ownBlock) s_.2.1 fP)∧(Kd.R (Kd.int .i64) 3 w' w.heap.size (fun k_=>some k_≠(s_.2.1:Value).ownBlock) s_.2.2 kL)∧(w'.heap[ax]? =some (.cells #[.slice bF ae.length bv,.slice aI aa.length aG,.int .i64 aj,.slice bi ak.length bn,.slice bf ai.length bg] 28 (0,0)))∧(w'.heap[bI]? =some (.cells #[.slice none 0 0,.slice none 0 0,.int .i64 0,.slice none 0 0,.slice none 0 0] 28 (0,0)))∧(Below w.heap.size w w')) ?_ ?_;rotate_left
    ·intro hJ3_7_8
     refine Zfj (σ:=Value × Value × Nat) 5 #[true,true,true,true,true,true,true,true,false,true,true,true,false,false,false,true,false] (fun s_=> [(9,s_.1),(13,s_.2.1),(3,.pointer (some ⟨s_.2.2,0,none⟩))]) (fun s_ w'=>(w'.cell? ⟨ax,0,none⟩=some (.slice bF ae.length bv)∧w'.cell? ⟨ax,1,none⟩=some (.slice aI aa.length aG)∧w'.cell? ⟨ax,2,none⟩=some (.int .i64 aj)∧w'.cell? ⟨ax,3,none⟩=some (.slice bi ak.length bn)∧w'.cell? ⟨ax,4,none⟩=some (.slice bf ai.length bg))∧(Kd.R (Kd.int .i64) 3 w' w.heap.size (fun _=>True) s_.2.1 fP)∧(w'.heap[ax]? =some (.cells #[.slice bF ae.length bv,.slice aI aa.length aG,.int .i64 aj,.slice bi ak.length bn,.slice bf ai.length bg] 28 (0,0)))∧(w'.heap[bI]? =some (.cells #[.slice none 0 0,.slice none 0 0,.int .i64 0,.slice none 0 0,.slice none 0 0] 28 (0,0)))∧(w'.heap[s_.2.2]? =some (.cells #[.slice none 0 0,.slice none 0 0,.int .i64 0,.slice none 0 0,.slice none 0 0] 28 (0,0)))∧(w.heap.size≤s_.2.2)∧(w.heap.size≤s_.2.2)∧(ax≠s_.2.2)∧(s_.2.2≠ax)∧(bI≠s_.2.2)∧(s_.2.2≠bI)∧(Below w.heap.size w w')) ?_ ?_;rotate_left
     ·intro hJ3_7_15
      refine Zfj (σ:=Value × Value × Nat) 5 #[true,true,true,true,true,true,true,false,true,true,true,true,false,false,false,true,false] (fun s_=> [(9,s_.1),(14,s_.2.1),(3,.pointer (some ⟨s_.2.2,0,none⟩))]) (fun s_ w'=>(w'.cell? ⟨ax,0,none⟩=some (.slice bF ae.length bv)∧w'.cell? ⟨ax,1,none⟩=some (.slice aI aa.length aG)∧w'.cell? ⟨ax,2,none⟩=some (.int .i64 aj)∧w'.cell? ⟨ax,3,none⟩=some (.slice bi ak.length bn)∧w'.cell? ⟨ax,4,none⟩=some (.slice bf ai.length bg))∧(Kd.R (Kd.int .i64) 3 w' w.heap.size (fun k_=>some k_≠(s_.2.1:Value).ownBlock) s_.1 mr)∧(Kd.R (Kd.int .i64) 3 w' w.heap.size (fun k_=>some k_≠(s_.1:Value).ownBlock) s_.2.1 kL)∧(w'.heap[ax]? =some (.cells #[.slice bF ae.length bv,.slice aI aa.length aG,.int .i64 aj,.slice bi ak.length bn,.slice bf ai.length bg] 28 (0,0)))∧(w'.heap[bI]? =some (.cells #[.slice none 0 0,.slice none 0 0,.int .i64 0,.slice none 0 0,.slice none 0 0] 28 (0,0)))∧(w'.heap[s_.2.2]? =some (.cells #[.slice none 0 0,.slice none 0 0,.int .i64 0,.slice none 0 0,.slice none 0 0] 28 (0,0)))∧(w.heap.size≤s_.2.2)∧(w.heap.size≤s_.2.2)∧(ax≠s_.2.2)∧(s_.2.2≠ax)∧(bI≠s_.2.2)∧(s_.2.2≠bI)∧(Below w.heap.size w w')) ?_ ?_;rotate_left
      ·intro hJ3_8_15
       refine Zfj (σ:=Value × Value) 6 #[true,true,true,true,true,true,true,true,false,true,true,true,false,false,false,false,false] (fun s_=> [(9,s_.1),(13,s_.2)]) (fun s_ w'=>(w'.cell? ⟨ax,0,none⟩=some (.slice bF ae.length bv)∧w'.cell? ⟨ax,1,none⟩=some (.slice aI aa.length aG)∧w'.cell? ⟨ax,2,none⟩=some (.int .i64 aj)∧w'.cell? ⟨ax,3,none⟩=some (.slice bi ak.length bn)∧w'.cell? ⟨ax,4,none⟩=some (.slice bf ai.length bg))∧(Kd.R (Kd.int .i64) 3 w' w.heap.size (fun _=>True) s_.2 fP)∧(w'.heap[ax]? =some (.cells #[.slice bF ae.length bv,.slice aI aa.length aG,.int .i64 aj,.slice bi ak.length bn,.slice bf ai.length bg] 28 (0,0)))∧(w'.heap[bI]? =some (.cells #[.slice none 0 0,.slice none 0 0,.int .i64 0,.slice none 0 0,.slice none 0 0] 28 (0,0)))∧(Below w.heap.size w w')) ?_ ?_;rotate_left
       ·intro hJ3_7
        refine Zfj (σ:=Value × Value) 6 #[true,true,true,true,true,true,true,false,true,true,true,true,false,false,false,false,false] (fun s_=> [(9,s_.1),(14,s_.2)]) (fun s_ w'=>(w'.cell? ⟨ax,0,none⟩=some (.slice bF ae.length bv)∧w'.cell? ⟨ax,1,none⟩=some (.slice aI aa.length aG)∧w'.cell? ⟨ax,2,none⟩=some (.int .i64 aj)∧w'.cell? ⟨ax,3,none⟩=some (.slice bi ak.length bn)∧w'.cell? ⟨ax,4,none⟩=some (.slice bf ai.length bg))∧(Kd.R (Kd.int .i64) 3 w' w.heap.size (fun k_=>some k_≠(s_.2:Value).ownBlock) s_.1 mr)∧(Kd.R (Kd.int .i64) 3 w' w.heap.size (fun k_=>some k_≠(s_.1:Value).ownBlock) s_.2 kL)∧(w'.heap[ax]? =some (.cells #[.slice bF ae.length bv,.slice aI aa.length aG,.int .i64 aj,.slice bi ak.length bn,.slice bf ai.length bg] 28 (0,0)))∧(w'.heap[bI]? =some (.cells #[.slice none 0 0,.slice none 0 0,.int .i64 0,.slice none 0 0,.slice none 0 0] 28 (0,0)))∧(Below w.heap.size w w')) ?_ ?_;rotate_left
        ·intro hJ3_8
         refine Zfj (σ:=Value × Nat) 6 #[true,true,true,true,true,true,true,false,false,true,true,true,false,false,false,true,false] (fun s_=> [(9,s_.1),(3,.pointer (some ⟨s_.2,0,none⟩))]) (fun s_ w'=>(w'.cell? ⟨ax,0,none⟩=some (.slice bF ae.length bv)∧w'.cell? ⟨ax,1,none⟩=some (.slice aI aa.length aG)∧w'.cell? ⟨ax,2,none⟩=some (.int .i64 aj)∧w'.cell? ⟨ax,3,none⟩=some (.slice bi ak.length bn)∧w'.cell? ⟨ax,4,none⟩=some (.slice bf ai.length bg))∧(Kd.R (Kd.int .i64) 3 w' w.heap.size (fun _=>True) s_.1 mr)∧(w'.heap[ax]? =some (.cells #[.slice bF ae.length bv,.slice aI aa.length aG,.int .i64 aj,.slice bi ak.length bn,.slice bf ai.length bg] 28 (0,0)))∧(w'.heap[bI]? =some (.cells #[.slice none 0 0,.slice none 0 0,.int .i64 0,.slice none 0 0,.slice none 0 0] 28 (0,0)))∧(w'.heap[s_.2]? =some (.cells #[.slice none 0 0,.slice none 0 0,.int .i64 0,.slice none 0 0,.slice none 0 0] 28 (0,0)))∧(w.heap.size≤s_.2)∧(w.heap.size≤s_.2)∧(ax≠s_.2)∧(s_.2≠ax)∧(bI≠s_.2)∧(s_.2≠bI)∧(Below w.heap.size w w')) ?_ ?_;rotate_left
         ·intro hJ3_15
          refine Zfj (σ:=Value × Nat) 6 #[true,true,true,false,true,true,true,false,true,true,true,true,false,false,false,true,false] (fun s_=> [(14,s_.1),(3,.pointer (some ⟨s_.2,0,none⟩))]) (fun s_ w'=>(w'.cell? ⟨ax,0,none⟩=some (.slice bF ae.length bv)∧w'.cell? ⟨ax,1,none⟩=some (.slice aI aa.length aG)∧w'.cell? ⟨ax,2,none⟩=some (.int .i64 aj)∧w'.cell? ⟨ax,3,none⟩=some (.slice bi ak.length bn)∧w'.cell? ⟨ax,4,none⟩=some (.slice bf ai.length bg))∧(Kd.R (Kd.int .i64) 3 w' w.heap.size (fun _=>True) s_.1 kL)∧(w'.heap[ax]? =some (.cells #[.slice bF ae.length bv,.slice aI aa.length aG,.int .i64 aj,.slice bi ak.length bn,.slice bf ai.length bg] 28 (0,0)))∧(w'.heap[bI]? =some (.cells #[.slice none 0 0,.slice none 0 0,.int .i64 0,.slice none 0 0,.slice none 0 0] 28 (0,0)))∧(w'.heap[s_.2]? =some (.cells #[.slice none 0 0,.slice none 0 0,.int .i64 0,.slice none 0 0,.slice none 0 0] 28 (0,0)))∧(w.heap.size≤s_.2)∧(w.heap.size≤s_.2)∧(ax≠s_.2)∧(s_.2≠ax)∧(bI≠s_.2)∧(s_.2≠bI)∧(Below w.heap.size w w')) ?_ ?_;rotate_left
          ·intro hJ8_15
           refine Zfj (σ:=Value) 7 #[true,true,true,true,true,true,true,false,false,true,true,true,false,false,false,false,false] (fun s_=> [(9,s_)]) (fun s_ w'=>(w'.cell? ⟨ax,0,none⟩=some (.slice bF ae.length bv)∧w'.cell? ⟨ax,1,none⟩=some (.slice aI aa.length aG)∧w'.cell? ⟨ax,2,none⟩=some (.int .i64 aj)∧w'.cell? ⟨ax,3,none⟩=some (.slice bi ak.length bn)∧w'.cell? ⟨ax,4,none⟩=some (.slice bf ai.length bg))∧(Kd.R (Kd.int .i64) 3 w' w.heap.size (fun _=>True) s_ mr)∧(w'.heap[ax]? =some (.cells #[.slice bF ae.length bv,.slice aI aa.length aG,.int .i64 aj,.slice bi ak.length bn,.slice bf ai.length bg] 28 (0,0)))∧(w'.heap[bI]? =some (.cells #[.slice none 0 0,.slice none 0 0,.int .i64 0,.slice none 0 0,.slice none 0 0] 28 (0,0)))∧(Below w.heap.size w w')) ?_ ?_;rotate_left
           ·intro hJ3
            refine Zfj (σ:=Value) 7 #[true,true,true,false,true,true,true,false,true,true,true,true,false,false,false,false,false] (fun s_=> [(14,s_)]) (fun s_ w'=>(w'.cell? ⟨ax,0,none⟩=some (.slice bF ae.length bv)∧w'.cell? ⟨ax,1,none⟩=some (.slice aI aa.length aG)∧w'.cell? ⟨ax,2,none⟩=some (.int .i64 aj)∧w'.cell? ⟨ax,3,none⟩=some (.slice bi ak.length bn)∧w'.cell? ⟨ax,4,none⟩=some (.slice bf ai.length bg))∧(Kd.R (Kd.int .i64) 3 w' w.heap.size (fun _=>True) s_ kL)∧(w'.heap[ax]? =some (.cells #[.slice bF ae.length bv,.slice aI aa.length aG,.int .i64 aj,.slice bi ak.length bn,.slice bf ai.length bg] 28 (0,0)))∧(w'.heap[bI]? =some (.cells #[.slice none 0 0,.slice none 0 0,.int .i64 0,.slice none 0 0,.slice none 0 0] 28 (0,0)))∧(Below w.heap.size w w')) ?_ ?_;rotate_left
            ·intro hJ8
             refine Zfj (σ:=Nat) 7 #[true,true,true,false,true,true,true,false,false,true,true,true,false,false,false,true,false] (fun s_=> [(3,.pointer (some ⟨s_,0,none⟩))]) (fun s_ w'=>(w'.cell? ⟨ax,0,none⟩=some (.slice bF ae.length bv)∧w'.cell? ⟨ax,1,none⟩=some (.slice aI aa.length aG)∧w'.cell? ⟨ax,2,none⟩=some (.int .i64 aj)∧w'.cell? ⟨ax,3,none⟩=some (.slice bi ak.length bn)∧w'.cell? ⟨ax,4,none⟩=some (.slice bf ai.length bg))∧(w'.heap[ax]? =some (.cells #[.slice bF ae.length bv,.slice aI aa.length aG,.int .i64 aj,.slice bi ak.length bn,.slice bf ai.length bg] 28 (0,0)))∧(w'.heap[bI]? =some (.cells #[.slice none 0 0,.slice none 0 0,.int .i64 0,.slice none 0 0,.slice none 0 0] 28 (0,0)))∧(w'.heap[s_]? =some (.cells #[.slice none 0 0,.slice none 0 0,.int .i64 0,.slice none 0 0,.slice none 0 0] 28 (0,0)))∧(w.heap.size≤s_)∧(w.heap.size≤s_)∧(ax≠s_)∧(s_≠ax)∧(bI≠s_)∧(s_≠bI)∧(Below w.heap.size w w')) ?_ ?_;rotate_left
             ·intro hJ15
              refine three_ (i:=3) (j:=8) (k:=15) (Ni:=some 9) (Nj:=some 14) (Nk:=some 3) #[true,true,true,true,true,true,true,false,false,true,true,true,false,false,false,false,false] #[true,true,true,false,true,true,true,false,true,true,true,true,false,false,false,false,false] #[true,true,true,false,true,true,true,false,false,true,true,true,false,false,false,true,false] rfl rfl rfl rfl rfl rfl (three_of HT_.out (by kernel_rfl)) (by decide) (by decide) (by decide) (fun K hK=> ?_) (fun K hK=> ?_) (fun K hK=> ?_)
              ·skip
               refine Kd.Zc0 (Kd.int .i64) _ 3 ?hg (N:=9) ?hd (xs:=([]:List Int)) (inner:= []) (ok:=fun _=>True) (okp:=fun _=>True) ?hr ?hp (fun _ hk=>hk) trivial (Below.refl _ _) (Nat.le_refl _) (by simp) ?_;(case hd=>rfl);(case hg=>rfl);(case hr=>first|(go_simp;done)|(go_simp;rfl));(case hp=>exact(Reps.none _ _));intro gG w7 ho8 hb hg_ hnew_;clear hg_ hnew_
               (first|rw[←xI.out]at ho8|(simp only[Int.reduceToNat]at ho8;rw[←xI.out]at ho8))
               have fw:=Za.mk (Kd.Zbp ho8 (Zaj (bM HB.out)));replace ag:=Za.mk (kB ag.out hb);replace aQ:=Za.mk (kB aQ.out hb);replace HB:=Za.mk (bS HB.out hb);clear hb ho8;refine hK.out _ _ ⟨bc ag.out 0,bc ag.out 1,bc ag.out 2,bc ag.out 3,bc ag.out 4⟩ (fun hHeld=> ?_);clear hK K;refine nmp 9 ?_;exact nm (hJ3 (gG) _ ⟨hHeld,(rM fw.out),(kM ag.out),(kM aQ.out),(bM HB.out)⟩)
              ·skip
               refine Kd.Zc0 (Kd.int .i64) _ 3 ?hg (N:=14) ?hd (xs:=([]:List Int)) (inner:= []) (ok:=fun _=>True) (okp:=fun _=>True) ?hr ?hp (fun _ hk=>hk) trivial (Below.refl _ _) (Nat.le_refl _) (by simp) ?_;(case hd=>rfl);(case hg=>rfl);(case hr=>first|(go_simp;done)|(go_simp;rfl));(case hp=>exact(Reps.none _ _));intro gB w7 ho8 hb hg_ hnew_;clear hg_ hnew_
               (first|rw[←qO.out]at ho8|(simp only[Int.reduceToNat]at ho8;rw[←qO.out]at ho8))
               have dP:=Za.mk (Kd.Zbp ho8 (Zaj (bM HB.out)));replace ag:=Za.mk (kB ag.out hb);replace aQ:=Za.mk (kB aQ.out hb);replace HB:=Za.mk (bS HB.out hb);clear hb ho8;refine hK.out _ _ ⟨bc ag.out 0,bc ag.out 1,bc ag.out 2,bc ag.out 3,bc ag.out 4⟩ (fun hHeld=> ?_);clear hK K;refine nmp 14 ?_;exact nm (hJ8 (gB) _ ⟨hHeld,(rM dP.out),(kM ag.out),(kM aQ.out),(bM HB.out)⟩)
              skip
              refine Zec ?hg (N:=3) ?hd (cs:=#[.slice none 0 0,.slice none 0 0,.int .i64 0,.slice none 0 0,.slice none 0 0]) (t:=28) ?hr ?_;(case hd=>rfl);(case hg=>rfl);(case hr=>first|(go_simp;done)|(go_simp;rfl));intro aA hg w7 hbox hb;have aM:=Za.mk (hbox);have GW200:=Za.mk ((gE hg HB.out:w.heap.size≤aA));have iP:=Za.mk ((gE hg HB.out:w.heap.size≤aA));replace HB:=Za.mk (bS HB.out hb);have aU:=Za.mk ((by rw[hg];exact Nat.ne_of_lt (Zbj (kM ag.out)):ax≠aA));have cK:=Za.mk ((by rw[hg];exact Nat.ne_of_gt (Zbj (kM ag.out)):aA≠ax));replace ag:=Za.mk (kB ag.out hb);have cu:=Za.mk ((by rw[hg];exact Nat.ne_of_lt (Zbj (kM aQ.out)):bI≠aA));have d9:=Za.mk ((by rw[hg];exact Nat.ne_of_gt (Zbj (kM aQ.out)):aA≠bI));replace aQ:=Za.mk (kB aQ.out hb);clear hb hbox hg;refine hK.out _ _ ⟨bc ag.out 0,bc ag.out 1,bc ag.out 2,bc ag.out 3,bc ag.out 4⟩ (fun hHeld=> ?_);clear hK K;refine nmp 3 ?_;exact nm (hJ15 (aA) _ ⟨hHeld,(kM ag.out),(kM aQ.out),(kM aM.out),GW200.out,iP.out,aU.out,cK.out,cu.out,d9.out,(bM HB.out)⟩)
             skip
             rintro aA w8 ⟨hS_,h0_,h1_,h2_,h3_,h4_,h5_,h6_,h7_,h8_,h9_⟩;replace ag:Za (w8.heap[ax]? =some (.cells #[.slice bF ae.length bv,.slice aI aa.length aG,.int .i64 aj,.slice bi ak.length bn,.slice bf ai.length bg] 28 (0,0))):=⟨h0_⟩;replace aQ:Za (w8.heap[bI]? =some (.cells #[.slice none 0 0,.slice none 0 0,.int .i64 0,.slice none 0 0,.slice none 0 0] 28 (0,0))):=⟨h1_⟩;have aM:Za (w8.heap[aA]? =some (.cells #[.slice none 0 0,.slice none 0 0,.int .i64 0,.slice none 0 0,.slice none 0 0] 28 (0,0))):=⟨h2_⟩;have GW200:Za (w.heap.size≤aA):=⟨h3_⟩;have iP:Za (w.heap.size≤aA):=⟨h4_⟩;have aU:Za (ax≠aA):=⟨h5_⟩;have cK:Za (aA≠ax):=⟨h6_⟩;have cu:Za (bI≠aA):=⟨h7_⟩;have d9:Za (aA≠bI):=⟨h8_⟩;replace HB:Za (Below w.heap.size w w8):=⟨h9_⟩;clear h0_ h1_ h2_ h3_ h4_ h5_ h6_ h7_ h8_ h9_;have hHeld:w8.cell? ⟨ax,0,none⟩=some (.slice bF ae.length bv)∧w8.cell? ⟨ax,1,none⟩=some (.slice aI aa.length aG)∧w8.cell? ⟨ax,2,none⟩=some (.int .i64 aj)∧w8.cell? ⟨ax,3,none⟩=some (.slice bi ak.length bn)∧w8.cell? ⟨ax,4,none⟩=some (.slice bf ai.length bg):=hS_;refine Zdx (a':=?_) ?_ ?_;rotate_left
             ·simp only [putAll, Act.put, List.setIfInBounds_toArray, List.set_cons_zero, List.set_cons_succ]
              rfl
             refine two_ (i:=3) (j:=8) (Ni:=some 9) (Nj:=some 14) #[true,true,true,true,true,true,true,false,false,true,true,true,false,false,false,true,false] #[true,true,true,false,true,true,true,false,true,true,true,true,false,false,false,true,false] rfl rfl rfl rfl (Zfs HT_.out (by kernel_rfl)) (by decide) (by decide) (fun K hK=> ?_) (fun K hK=> ?_)
             ·skip
              refine Kd.Zc0 (Kd.int .i64) _ 3 ?hg (N:=9) ?hd (xs:=([]:List Int)) (inner:= []) (ok:=fun _=>True) (okp:=fun _=>True) ?hr ?hp (fun _ hk=>hk) trivial (Below.refl _ _) (Nat.le_refl _) (by simp) ?_;(case hd=>rfl);(case hg=>rfl);(case hr=>first|(go_simp;done)|(go_simp;rfl));(case hp=>exact(Reps.none _ _));intro gG w9 oW hb hg_ hnew_;clear hg_ hnew_
              (first|rw[←xI.out]at oW|(simp only[Int.reduceToNat]at oW;rw[←xI.out]at oW))
              have fw:=Za.mk (Kd.Zbp oW (Zaj (bM HB.out)));replace ag:=Za.mk (kB ag.out hb);replace aQ:=Za.mk (kB aQ.out hb);replace aM:=Za.mk (kB aM.out hb);replace HB:=Za.mk (bS HB.out hb);clear hb oW;refine hK.out _ _ ⟨bc ag.out 0,bc ag.out 1,bc ag.out 2,bc ag.out 3,bc ag.out 4⟩ (fun hHeld=> ?_);clear hK K;refine nmp 9 ?_;exact nm (hJ3_15 (gG,aA) _ ⟨hHeld,(rM fw.out),(kM ag.out),(kM aQ.out),(kM aM.out),GW200.out,iP.out,aU.out,cK.out,cu.out,d9.out,(bM HB.out)⟩)
             skip
             refine Kd.Zc0 (Kd.int .i64) _ 3 ?hg (N:=14) ?hd (xs:=([]:List Int)) (inner:= []) (ok:=fun _=>True) (okp:=fun _=>True) ?hr ?hp (fun _ hk=>hk) trivial (Below.refl _ _) (Nat.le_refl _) (by simp) ?_;(case hd=>rfl);(case hg=>rfl);(case hr=>first|(go_simp;done)|(go_simp;rfl));(case hp=>exact(Reps.none _ _));intro gB w9 oW hb hg_ hnew_;clear hg_ hnew_
             (first|rw[←qO.out]at oW|(simp only[Int.reduceToNat]at oW;rw[←qO.out]at oW))
             have dP:=Za.mk (Kd.Zbp oW (Zaj (bM HB.out)));replace ag:=Za.mk (kB ag.out hb);replace aQ:=Za.mk (kB aQ.out hb);replace aM:=Za.mk (kB aM.out hb);replace HB:=Za.mk (bS HB.out hb);clear hb oW;refine hK.out _ _ ⟨bc ag.out 0,bc ag.out 1,bc ag.out 2,bc ag.out 3,bc ag.out 4⟩ (fun hHeld=> ?_);clear hK K;refine nmp 14 ?_;exact nm (hJ8_15 (gB,aA) _ ⟨hHeld,(rM dP.out),(kM ag.out),(kM aQ.out),(kM aM.out),GW200.out,iP.out,aU.out,cK.out,cu.out,d9.out,(bM HB.out)⟩)
            skip
            rintro gB w9 ⟨hS_,h0_,h1_,h2_,h3_⟩;have dP:Za (Kd.R (Kd.int .i64) 3 w9 w.heap.size (fun _=>True) gB kL):=⟨h0_⟩;replace ag:Za (w9.heap[ax]? =some (.cells #[.slice bF ae.length bv,.slice aI aa.length aG,.int .i64 aj,.slice bi ak.length bn,.slice bf ai.length bg] 28 (0,0))):=⟨h1_⟩;replace aQ:Za (w9.heap[bI]? =some (.cells #[.slice none 0 0,.slice none 0 0,.int .i64 0,.slice none 0 0,.slice none 0 0] 28 (0,0))):=⟨h2_⟩;replace HB:Za (Below w.heap.size w w9):=⟨h3_⟩;clear h0_ h1_ h2_ h3_;have hHeld:w9.cell? ⟨ax,0,none⟩=some (.slice bF ae.length bv)∧w9.cell? ⟨ax,1,none⟩=some (.slice aI aa.length aG)∧w9.cell? ⟨ax,2,none⟩=some (.int .i64 aj)∧w9.cell? ⟨ax,3,none⟩=some (.slice bi ak.length bn)∧w9.cell? ⟨ax,4,none⟩=some (.slice bf ai.length bg):=hS_;refine Zdx (a':=?_) ?_ ?_;rotate_left
            ·simp only [putAll, Act.put, List.setIfInBounds_toArray, List.set_cons_zero, List.set_cons_succ]
             rfl
            refine two_ (i:=3) (j:=15) (Ni:=some 9) (Nj:=some 3) #[true,true,true,true,true,true,true,false,true,true,true,true,false,false,false,false,false] #[true,true,true,false,true,true,true,false,true,true,true,true,false,false,false,true,false] rfl rfl rfl rfl (Zfs HT_.out (by kernel_rfl)) (by decide) (by decide) (fun K hK=> ?_) (fun K hK=> ?_)
            ·skip
             refine Kd.Zc0 (Kd.int .i64) _ 3 ?hg (N:=9) ?hd (xs:=([]:List Int)) (inner:= []) (ok:=fun _=>True) (okp:=fun _=>True) ?hr ?hp (fun _ hk=>hk) trivial (Below.refl _ _) (Nat.le_refl _) (by simp) ?_;(case hd=>rfl);(case hg=>rfl);(case hr=>first|(go_simp;done)|(go_simp;rfl));(case hp=>exact(Reps.none _ _));intro gG w10 nQ hb hg_ hnew_;clear hg_ hnew_
             (first|rw[←xI.out]at nQ|(simp only[Int.reduceToNat]at nQ;rw[←xI.out]at nQ))
             have fw:=Za.mk (Kd.Zbp (Kd.Zcs nQ (Kd.R_lt (rM dP.out))) (Zaj (bM HB.out)));replace dP:=Za.mk (Kd.Zce (rM dP.out) (Kd.Zb4 nQ) hb);replace ag:=Za.mk (kB ag.out hb);replace aQ:=Za.mk (kB aQ.out hb);replace HB:=Za.mk (bS HB.out hb);clear hb nQ;refine hK.out _ _ ⟨bc ag.out 0,bc ag.out 1,bc ag.out 2,bc ag.out 3,bc ag.out 4⟩ (fun hHeld=> ?_);clear hK K;refine nmp 9 ?_;exact nm (hJ3_8 (gG,gB) _ ⟨hHeld,(rM (Kd.Zaw fw.out (fun _ hk=>hk.2))),(rM (Kd.Zaw dP.out (fun _ hk=>hk.2))),(kM ag.out),(kM aQ.out),(bM HB.out)⟩)
            skip
            refine Zec ?hg (N:=3) ?hd (cs:=#[.slice none 0 0,.slice none 0 0,.int .i64 0,.slice none 0 0,.slice none 0 0]) (t:=28) ?hr ?_;(case hd=>rfl);(case hg=>rfl);(case hr=>first|(go_simp;done)|(go_simp;rfl));intro aA hg w10 hbox hb;replace dP:=Za.mk (Kd.Zbt (rM dP.out) hb);have aM:=Za.mk (hbox);have GW200:=Za.mk ((gE hg HB.out:w.heap.size≤aA));have iP:=Za.mk ((gE hg HB.out:w.heap.size≤aA));replace HB:=Za.mk (bS HB.out hb);have aU:=Za.mk ((by rw[hg];exact Nat.ne_of_lt (Zbj (kM ag.out)):ax≠aA));have cK:=Za.mk ((by rw[hg];exact Nat.ne_of_gt (Zbj (kM ag.out)):aA≠ax));replace ag:=Za.mk (kB ag.out hb);have cu:=Za.mk ((by rw[hg];exact Nat.ne_of_lt (Zbj (kM aQ.out)):bI≠aA));have d9:=Za.mk ((by rw[hg];exact Nat.ne_of_gt (Zbj (kM aQ.out)):aA≠bI));replace aQ:=Za.mk (kB aQ.out hb);clear hb hbox hg;refine hK.out _ _ ⟨bc ag.out 0,bc ag.out 1,bc ag.out 2,bc ag.out 3,bc ag.out 4⟩ (fun hHeld=> ?_);clear hK K;refine nmp 3 ?_;exact nm (hJ8_15 (gB,aA) _ ⟨hHeld,(rM dP.out),(kM ag.out),(kM aQ.out),(kM aM.out),GW200.out,iP.out,aU.out,cK.out,cu.out,d9.out,(bM HB.out)⟩)
           skip
           rintro gG w9 ⟨hS_,h0_,h1_,h2_,h3_⟩;have fw:Za (Kd.R (Kd.int .i64) 3 w9 w.heap.size (fun _=>True) gG mr):=⟨h0_⟩;replace ag:Za (w9.heap[ax]? =some (.cells #[.slice bF ae.length bv,.slice aI aa.length aG,.int .i64 aj,.slice bi ak.length bn,.slice bf ai.length bg] 28 (0,0))):=⟨h1_⟩;replace aQ:Za (w9.heap[bI]? =some (.cells #[.slice none 0 0,.slice none 0 0,.int .i64 0,.slice none 0 0,.slice none 0 0] 28 (0,0))):=⟨h2_⟩;replace HB:Za (Below w.heap.size w w9):=⟨h3_⟩;clear h0_ h1_ h2_ h3_;have hHeld:w9.cell? ⟨ax,0,none⟩=some (.slice bF ae.length bv)∧w9.cell? ⟨ax,1,none⟩=some (.slice aI aa.length aG)∧w9.cell? ⟨ax,2,none⟩=some (.int .i64 aj)∧w9.cell? ⟨ax,3,none⟩=some (.slice bi ak.length bn)∧w9.cell? ⟨ax,4,none⟩=some (.slice bf ai.length bg):=hS_;refine Zdx (a':=?_) ?_ ?_;rotate_left
           ·simp only [putAll, Act.put, List.setIfInBounds_toArray, List.set_cons_zero, List.set_cons_succ]
            rfl
           refine three_ (i:=7) (j:=8) (k:=15) (Ni:=some 13) (Nj:=some 14) (Nk:=some 3) #[true,true,true,true,true,true,true,true,false,true,true,true,false,false,false,false,false] #[true,true,true,true,true,true,true,false,true,true,true,true,false,false,false,false,false] #[true,true,true,true,true,true,true,false,false,true,true,true,false,false,false,true,false] rfl rfl rfl rfl rfl rfl (three_of HT_.out (by kernel_rfl)) (by decide) (by decide) (by decide) (fun K hK=> ?_) (fun K hK=> ?_) (fun K hK=> ?_)
           ·skip
            refine Kd.Zch (Kd.int .i64) (w0:=w) w.heap.size (by rfl) (.tmp 9) (.tmp 12) 24 3 (.int .i64 0) 8 rfl Tryz.underlying24 info3 rfl (by decide) (by omega) gG mr ak _ _ _ (fun _=>True) (fun _=>False) rfl rfl ?aO ?aR (fun _ _ h=>h) (fun _ h=>h.elim) ?aF ?aB ?aS ?aL ?_
            (case aR=>repeat(first|exact(Kd.Zaf kr.out HB.out)|(with_reducible refine Kd.C_alloc ?_ _)|(with_reducible refine Kd.Zcm ?_ _)|(with_reducible refine Kd.C_drew ?_)))
            (case aB=>exact(bM HB.out))
            (case aF=>exact(fun _ _=>trivial))
            (case aO=>exact(rM fw.out))
            (case aS=>exact(Zaj (bM HB.out)))
            (case aL=>have:=Bz.out;omega)
            intro kK w10 ho hb hg hat;rw[←KV.out]at ho;replace ag:=Za.mk (kG ag.out hg (Kd.R_ne fw.out ag.out (by decide)));replace aQ:=Za.mk (kG aQ.out hg (Kd.R_ne fw.out aQ.out (by decide)));replace HB:=Za.mk (hb);have fA:=Za.mk (ho);clear fw ho hb hg hat;refine hK.out _ _ ⟨bc ag.out 0,bc ag.out 1,bc ag.out 2,bc ag.out 3,bc ag.out 4⟩ (fun hHeld=> ?_);clear hK K;refine nmp 13 ?_;exact nm (hJ3_7 (gG,kK) _ ⟨hHeld,(rM fA.out),(kM ag.out),(kM aQ.out),(bM HB.out)⟩)
           ·skip
            refine Kd.Zc0 (Kd.int .i64) _ 3 ?hg (N:=14) ?hd (xs:=([]:List Int)) (inner:= []) (ok:=fun _=>True) (okp:=fun _=>True) ?hr ?hp (fun _ hk=>hk) trivial (Below.refl _ _) (Nat.le_refl _) (by simp) ?_;(case hd=>rfl);(case hg=>rfl);(case hr=>first|(go_simp;done)|(go_simp;rfl));(case hp=>exact(Reps.none _ _));intro gB w10 nQ hb hg_ hnew_;clear hg_ hnew_
            (first|rw[←qO.out]at nQ|(simp only[Int.reduceToNat]at nQ;rw[←qO.out]at nQ))
            have dP:=Za.mk (Kd.Zbp (Kd.Zcs nQ (Kd.R_lt (rM fw.out))) (Zaj (bM HB.out)));replace fw:=Za.mk (Kd.Zce (rM fw.out) (Kd.Zb4 nQ) hb);replace ag:=Za.mk (kB ag.out hb);replace aQ:=Za.mk (kB aQ.out hb);replace HB:=Za.mk (bS HB.out hb);clear hb nQ;refine hK.out _ _ ⟨bc ag.out 0,bc ag.out 1,bc ag.out 2,bc ag.out 3,bc ag.out 4⟩ (fun hHeld=> ?_);clear hK K;refine nmp 14 ?_;exact nm (hJ3_8 (gG,gB) _ ⟨hHeld,(rM (Kd.Zaw fw.out (fun _ hk=>hk.2))),(rM (Kd.Zaw dP.out (fun _ hk=>hk.2))),(kM ag.out),(kM aQ.out),(bM HB.out)⟩)
           skip
           refine Zec ?hg (N:=3) ?hd (cs:=#[.slice none 0 0,.slice none 0 0,.int .i64 0,.slice none 0 0,.slice none 0 0]) (t:=28) ?hr ?_;(case hd=>rfl);(case hg=>rfl);(case hr=>first|(go_simp;done)|(go_simp;rfl));intro aA hg w10 hbox hb;replace fw:=Za.mk (Kd.Zbt (rM fw.out) hb);have aM:=Za.mk (hbox);have GW200:=Za.mk ((gE hg HB.out:w.heap.size≤aA));have iP:=Za.mk ((gE hg HB.out:w.heap.size≤aA));replace HB:=Za.mk (bS HB.out hb);have aU:=Za.mk ((by rw[hg];exact Nat.ne_of_lt (Zbj (kM ag.out)):ax≠aA));have cK:=Za.mk ((by rw[hg];exact Nat.ne_of_gt (Zbj (kM ag.out)):aA≠ax));replace ag:=Za.mk (kB ag.out hb);have cu:=Za.mk ((by rw[hg];exact Nat.ne_of_lt (Zbj (kM aQ.out)):bI≠aA));have d9:=Za.mk ((by rw[hg];exact Nat.ne_of_gt (Zbj (kM aQ.out)):aA≠bI));replace aQ:=Za.mk (kB aQ.out hb);clear hb hbox hg;refine hK.out _ _ ⟨bc ag.out 0,bc ag.out 1,bc ag.out 2,bc ag.out 3,bc ag.out 4⟩ (fun hHeld=> ?_);clear hK K;refine nmp 3 ?_;exact nm (hJ3_15 (gG,aA) _ ⟨hHeld,(rM fw.out),(kM ag.out),(kM aQ.out),(kM aM.out),GW200.out,iP.out,aU.out,cK.out,cu.out,d9.out,(bM HB.out)⟩)
          skip
          rintro⟨gB,aA⟩ w10 ⟨hS_,h0_,h1_,h2_,h3_,h4_,h5_,h6_,h7_,h8_,h9_,h10_⟩;have dP:Za (Kd.R (Kd.int .i64) 3 w10 w.heap.size (fun _=>True) gB kL):=⟨h0_⟩;replace ag:Za (w10.heap[ax]? =some (.cells #[.slice bF ae.length bv,.slice aI aa.length aG,.int .i64 aj,.slice bi ak.length bn,.slice bf ai.length bg] 28 (0,0))):=⟨h1_⟩;replace aQ:Za (w10.heap[bI]? =some (.cells #[.slice none 0 0,.slice none 0 0,.int .i64 0,.slice none 0 0,.slice none 0 0] 28 (0,0))):=⟨h2_⟩;have aM:Za (w10.heap[aA]? =some (.cells #[.slice none 0 0,.slice none 0 0,.int .i64 0,.slice none 0 0,.slice none 0 0] 28 (0,0))):=⟨h3_⟩;have GW200:Za (w.heap.size≤aA):=⟨h4_⟩;have iP:Za (w.heap.size≤aA):=⟨h5_⟩;have aU:Za (ax≠aA):=⟨h6_⟩;have cK:Za (aA≠ax):=⟨h7_⟩;have cu:Za (bI≠aA):=⟨h8_⟩;have d9:Za (aA≠bI):=⟨h9_⟩;replace HB:Za (Below w.heap.size w w10):=⟨h10_⟩;clear h0_ h1_ h2_ h3_ h4_ h5_ h6_ h7_ h8_ h9_ h10_;have hHeld:w10.cell? ⟨ax,0,none⟩=some (.slice bF ae.length bv)∧w10.cell? ⟨ax,1,none⟩=some (.slice aI aa.length aG)∧w10.cell? ⟨ax,2,none⟩=some (.int .i64 aj)∧w10.cell? ⟨ax,3,none⟩=some (.slice bi ak.length bn)∧w10.cell? ⟨ax,4,none⟩=some (.slice bf ai.length bg):=hS_;refine Zdx (a':=?_) ?_ ?_;rotate_left
          ·simp only [putAll, Act.put, List.setIfInBounds_toArray, List.set_cons_zero, List.set_cons_succ]
           rfl
          refine on1 HT_ 3 9 (fun K hK=> ?_);refine Kd.Zc0 (Kd.int .i64) _ 3 ?hg (N:=9) ?hd (xs:=([]:List Int)) (inner:= []) (ok:=fun _=>True) (okp:=fun _=>True) ?hr ?hp (fun _ hk=>hk) trivial (Below.refl _ _) (Nat.le_refl _) (by simp) ?_;(case hd=>rfl);(case hg=>rfl);(case hr=>first|(go_simp;done)|(go_simp;rfl));(case hp=>exact(Reps.none _ _));intro gG w11 kW hb hg_ hnew_;clear hg_ hnew_
          (first|rw[←xI.out]at kW|(simp only[Int.reduceToNat]at kW;rw[←xI.out]at kW))
          have fw:=Za.mk (Kd.Zbp (Kd.Zcs kW (Kd.R_lt (rM dP.out))) (Zaj (bM HB.out)));replace dP:=Za.mk (Kd.Zce (rM dP.out) (Kd.Zb4 kW) hb);replace ag:=Za.mk (kB ag.out hb);replace aQ:=Za.mk (kB aQ.out hb);replace aM:=Za.mk (kB aM.out hb);replace HB:=Za.mk (bS HB.out hb);clear hb kW;refine hK.out _ _ ⟨bc ag.out 0,bc ag.out 1,bc ag.out 2,bc ag.out 3,bc ag.out 4⟩ (fun hHeld=> ?_);clear hK K;refine nmp 9 ?_;exact nm (hJ3_8_15 (gG,gB,aA) _ ⟨hHeld,(rM (Kd.Zaw fw.out (fun _ hk=>hk.2))),(rM (Kd.Zaw dP.out (fun _ hk=>hk.2))),(kM ag.out),(kM aQ.out),(kM aM.out),GW200.out,iP.out,aU.out,cK.out,cu.out,d9.out,(bM HB.out)⟩)
         skip
         rintro⟨gG,aA⟩ w10 ⟨hS_,h0_,h1_,h2_,h3_,h4_,h5_,h6_,h7_,h8_,h9_,h10_⟩;have fw:Za (Kd.R (Kd.int .i64) 3 w10 w.heap.size (fun _=>True) gG mr):=⟨h0_⟩;replace ag:Za (w10.heap[ax]? =some (.cells #[.slice bF ae.length bv,.slice aI aa.length aG,.int .i64 aj,.slice bi ak.length bn,.slice bf ai.length bg] 28 (0,0))):=⟨h1_⟩;replace aQ:Za (w10.heap[bI]? =some (.cells #[.slice none 0 0,.slice none 0 0,.int .i64 0,.slice none 0 0,.slice none 0 0] 28 (0,0))):=⟨h2_⟩;have aM:Za (w10.heap[aA]? =some (.cells #[.slice none 0 0,.slice none 0 0,.int .i64 0,.slice none 0 0,.slice none 0 0] 28 (0,0))):=⟨h3_⟩;have GW200:Za (w.heap.size≤aA):=⟨h4_⟩;have iP:Za (w.heap.size≤aA):=⟨h5_⟩;have aU:Za (ax≠aA):=⟨h6_⟩;have cK:Za (aA≠ax):=⟨h7_⟩;have cu:Za (bI≠aA):=⟨h8_⟩;have d9:Za (aA≠bI):=⟨h9_⟩;replace HB:Za (Below w.heap.size w w10):=⟨h10_⟩;clear h0_ h1_ h2_ h3_ h4_ h5_ h6_ h7_ h8_ h9_ h10_;have hHeld:w10.cell? ⟨ax,0,none⟩=some (.slice bF ae.length bv)∧w10.cell? ⟨ax,1,none⟩=some (.slice aI aa.length aG)∧w10.cell? ⟨ax,2,none⟩=some (.int .i64 aj)∧w10.cell? ⟨ax,3,none⟩=some (.slice bi ak.length bn)∧w10.cell? ⟨ax,4,none⟩=some (.slice bf ai.length bg):=hS_;refine Zdx (a':=?_) ?_ ?_;rotate_left
         ·simp only [putAll, Act.put, List.setIfInBounds_toArray, List.set_cons_zero, List.set_cons_succ]
          rfl
         refine two_ (i:=7) (j:=8) (Ni:=some 13) (Nj:=some 14) #[true,true,true,true,true,true,true,true,false,true,true,true,false,false,false,true,false] #[true,true,true,true,true,true,true,false,true,true,true,true,false,false,false,true,false] rfl rfl rfl rfl (Zfs HT_.out (by kernel_rfl)) (by decide) (by decide) (fun K hK=> ?_) (fun K hK=> ?_)
         ·skip
          refine Kd.Zch (Kd.int .i64) (w0:=w) w.heap.size (by rfl) (.tmp 9) (.tmp 12) 24 3 (.int .i64 0) 8 rfl Tryz.underlying24 info3 rfl (by decide) (by omega) gG mr ak _ _ _ (fun _=>True) (fun _=>False) rfl rfl ?aO ?aR (fun _ _ h=>h) (fun _ h=>h.elim) ?aF ?aB ?aS ?aL ?_
          (case aR=>repeat(first|exact(Kd.Zaf kr.out HB.out)|(with_reducible refine Kd.C_alloc ?_ _)|(with_reducible refine Kd.Zcm ?_ _)|(with_reducible refine Kd.C_drew ?_)))
          (case aB=>exact(bM HB.out))
          (case aF=>exact(fun _ _=>trivial))
          (case aO=>exact(rM fw.out))
          (case aS=>exact(Zaj (bM HB.out)))
          (case aL=>have:=Bz.out;omega)
          intro kK w11 ho hb hg hat;rw[←KV.out]at ho;replace ag:=Za.mk (kG ag.out hg (Kd.R_ne fw.out ag.out (by decide)));replace aQ:=Za.mk (kG aQ.out hg (Kd.R_ne fw.out aQ.out (by decide)));replace aM:=Za.mk (kG aM.out hg (Kd.R_ne fw.out aM.out (by decide)));replace HB:=Za.mk (hb);have fA:=Za.mk (ho);clear fw ho hb hg hat;refine hK.out _ _ ⟨bc ag.out 0,bc ag.out 1,bc ag.out 2,bc ag.out 3,bc ag.out 4⟩ (fun hHeld=> ?_);clear hK K;refine nmp 13 ?_;exact nm (hJ3_7_15 (gG,kK,aA) _ ⟨hHeld,(rM fA.out),(kM ag.out),(kM aQ.out),(kM aM.out),GW200.out,iP.out,aU.out,cK.out,cu.out,d9.out,(bM HB.out)⟩)
         skip
         refine Kd.Zc0 (Kd.int .i64) _ 3 ?hg (N:=14) ?hd (xs:=([]:List Int)) (inner:= []) (ok:=fun _=>True) (okp:=fun _=>True) ?hr ?hp (fun _ hk=>hk) trivial (Below.refl _ _) (Nat.le_refl _) (by simp) ?_;(case hd=>rfl);(case hg=>rfl);(case hr=>first|(go_simp;done)|(go_simp;rfl));(case hp=>exact(Reps.none _ _));intro gB w11 kW hb hg_ hnew_;clear hg_ hnew_
         (first|rw[←qO.out]at kW|(simp only[Int.reduceToNat]at kW;rw[←qO.out]at kW))
         have dP:=Za.mk (Kd.Zbp (Kd.Zcs kW (Kd.R_lt (rM fw.out))) (Zaj (bM HB.out)));replace fw:=Za.mk (Kd.Zce (rM fw.out) (Kd.Zb4 kW) hb);replace ag:=Za.mk (kB ag.out hb);replace aQ:=Za.mk (kB aQ.out hb);replace aM:=Za.mk (kB aM.out hb);replace HB:=Za.mk (bS HB.out hb);clear hb kW;refine hK.out _ _ ⟨bc ag.out 0,bc ag.out 1,bc ag.out 2,bc ag.out 3,bc ag.out 4⟩ (fun hHeld=> ?_);clear hK K;refine nmp 14 ?_;exact nm (hJ3_8_15 (gG,gB,aA) _ ⟨hHeld,(rM (Kd.Zaw fw.out (fun _ hk=>hk.2))),(rM (Kd.Zaw dP.out (fun _ hk=>hk.2))),(kM ag.out),(kM aQ.out),(kM aM.out),GW200.out,iP.out,aU.out,cK.out,cu.out,d9.out,(bM HB.out)⟩)
        skip
        rintro⟨gG,gB⟩ w11 ⟨hS_,h0_,h1_,h2_,h3_,h4_⟩;have fw:Za (Kd.R (Kd.int .i64) 3 w11 w.heap.size (fun k_=>some k_≠(gB:Value).ownBlock) gG mr):=⟨h0_⟩;have dP:Za (Kd.R (Kd.int .i64) 3 w11 w.heap.size (fun k_=>some k_≠(gG:Value).ownBlock) gB kL):=⟨h1_⟩;replace ag:Za (w11.heap[ax]? =some (.cells #[.slice bF ae.length bv,.slice aI aa.length aG,.int .i64 aj,.slice bi ak.length bn,.slice bf ai.length bg] 28 (0,0))):=⟨h2_⟩;replace aQ:Za (w11.heap[bI]? =some (.cells #[.slice none 0 0,.slice none 0 0,.int .i64 0,.slice none 0 0,.slice none 0 0] 28 (0,0))):=⟨h3_⟩;replace HB:Za (Below w.heap.size w w11):=⟨h4_⟩;clear h0_ h1_ h2_ h3_ h4_;have hHeld:w11.cell? ⟨ax,0,none⟩=some (.slice bF ae.length bv)∧w11.cell? ⟨ax,1,none⟩=some (.slice aI aa.length aG)∧w11.cell? ⟨ax,2,none⟩=some (.int .i64 aj)∧w11.cell? ⟨ax,3,none⟩=some (.slice bi ak.length bn)∧w11.cell? ⟨ax,4,none⟩=some (.slice bf ai.length bg):=hS_;refine Zdx (a':=?_) ?_ ?_;rotate_left
        ·simp only [putAll, Act.put, List.setIfInBounds_toArray, List.set_cons_zero, List.set_cons_succ]
         rfl
        refine two_ (i:=7) (j:=15) (Ni:=some 13) (Nj:=some 3) #[true,true,true,true,true,true,true,true,true,true,true,true,false,false,false,false,false] #[true,true,true,true,true,true,true,false,true,true,true,true,false,false,false,true,false] rfl rfl rfl rfl (Zfs HT_.out (by kernel_rfl)) (by decide) (by decide) (fun K hK=> ?_) (fun K hK=> ?_)
        ·skip
         refine Kd.Zch (Kd.int .i64) (w0:=w) w.heap.size (by rfl) (.tmp 9) (.tmp 12) 24 3 (.int .i64 0) 8 rfl Tryz.underlying24 info3 rfl (by decide) (by omega) gG mr ak _ _ _ (fun k_=>some k_≠(gB:Value).ownBlock) (fun _=>False) rfl rfl ?aO ?aR (fun _ _ h=>h) (fun _ h=>h.elim) ?aF ?aB ?aS ?aL ?_
         (case aR=>repeat(first|exact(Kd.Zaf kr.out HB.out)|(with_reducible refine Kd.C_alloc ?_ _)|(with_reducible refine Kd.Zcm ?_ _)|(with_reducible refine Kd.C_drew ?_)))
         (case aB=>exact(bM HB.out))
         (case aF=>exact(fun k_ hk=>Kd.fresh' (Kd.R_lt (rM dP.out)) k_ hk))
         (case aO=>exact(rM fw.out))
         (case aS=>exact(Zaj (bM HB.out)))
         (case aL=>have:=Bz.out;omega)
         intro kK w12 ho hb hg hat;rw[←KV.out]at ho;replace ag:=Za.mk (kG ag.out hg (Kd.R_ne fw.out ag.out (by decide)));replace aQ:=Za.mk (kG aQ.out hg (Kd.R_ne fw.out aQ.out (by decide)));replace dP:=Za.mk (Kd.Zc8 (ok:=(fun _=>True)) (rM (Kd.Zaw dP.out (fun _ hk=>⟨trivial,hk⟩))) hg hat);replace HB:=Za.mk (hb);have fA:=Za.mk (ho);clear fw ho hb hg hat;refine hK.out _ _ ⟨bc ag.out 0,bc ag.out 1,bc ag.out 2,bc ag.out 3,bc ag.out 4⟩ (fun hHeld=> ?_);clear hK K;refine nmp 13 ?_;exact nm (hJ3_7_8 (gG,kK,gB) _ ⟨hHeld,(rM fA.out),(rM (Kd.Zaw dP.out (fun _ hk=>hk.2))),(kM ag.out),(kM aQ.out),(bM HB.out)⟩)
        skip
        refine Zec ?hg (N:=3) ?hd (cs:=#[.slice none 0 0,.slice none 0 0,.int .i64 0,.slice none 0 0,.slice none 0 0]) (t:=28) ?hr ?_;(case hd=>rfl);(case hg=>rfl);(case hr=>first|(go_simp;done)|(go_simp;rfl));intro aA hg w12 hbox hb;replace fw:=Za.mk (Kd.Zbt (rM fw.out) hb);replace dP:=Za.mk (Kd.Zbt (rM dP.out) hb);have aM:=Za.mk (hbox);have GW200:=Za.mk ((gE hg HB.out:w.heap.size≤aA));have iP:=Za.mk ((gE hg HB.out:w.heap.size≤aA));replace HB:=Za.mk (bS HB.out hb);have aU:=Za.mk ((by rw[hg];exact Nat.ne_of_lt (Zbj (kM ag.out)):ax≠aA));have cK:=Za.mk ((by rw[hg];exact Nat.ne_of_gt (Zbj (kM ag.out)):aA≠ax));replace ag:=Za.mk (kB ag.out hb);have cu:=Za.mk ((by rw[hg];exact Nat.ne_of_lt (Zbj (kM aQ.out)):bI≠aA));have d9:=Za.mk ((by rw[hg];exact Nat.ne_of_gt (Zbj (kM aQ.out)):aA≠bI));replace aQ:=Za.mk (kB aQ.out hb);clear hb hbox hg;refine hK.out _ _ ⟨bc ag.out 0,bc ag.out 1,bc ag.out 2,bc ag.out 3,bc ag.out 4⟩ (fun hHeld=> ?_);clear hK K;refine nmp 3 ?_;exact nm (hJ3_8_15 (gG,gB,aA) _ ⟨hHeld,(rM fw.out),(rM dP.out),(kM ag.out),(kM aQ.out),(kM aM.out),GW200.out,iP.out,aU.out,cK.out,cu.out,d9.out,(bM HB.out)⟩)
       skip
       rintro⟨gG,kK⟩ w10 ⟨hS_,h0_,h1_,h2_,h3_⟩;have fA:Za (Kd.R (Kd.int .i64) 3 w10 w.heap.size (fun _=>True) kK fP):=⟨h0_⟩;replace ag:Za (w10.heap[ax]? =some (.cells #[.slice bF ae.length bv,.slice aI aa.length aG,.int .i64 aj,.slice bi ak.length bn,.slice bf ai.length bg] 28 (0,0))):=⟨h1_⟩;replace aQ:Za (w10.heap[bI]? =some (.cells #[.slice none 0 0,.slice none 0 0,.int .i64 0,.slice none 0 0,.slice none 0 0] 28 (0,0))):=⟨h2_⟩;replace HB:Za (Below w.heap.size w w10):=⟨h3_⟩;clear h0_ h1_ h2_ h3_;have hHeld:w10.cell? ⟨ax,0,none⟩=some (.slice bF ae.length bv)∧w10.cell? ⟨ax,1,none⟩=some (.slice aI aa.length aG)∧w10.cell? ⟨ax,2,none⟩=some (.int .i64 aj)∧w10.cell? ⟨ax,3,none⟩=some (.slice bi ak.length bn)∧w10.cell? ⟨ax,4,none⟩=some (.slice bf ai.length bg):=hS_;refine Zdx (a':=?_) ?_ ?_;rotate_left
       ·simp only [putAll, Act.put, List.setIfInBounds_toArray, List.set_cons_zero, List.set_cons_succ]
        rfl
       refine two_ (i:=8) (j:=15) (Ni:=some 14) (Nj:=some 3) #[true,true,true,true,true,true,true,true,true,true,true,true,false,false,false,false,false] #[true,true,true,true,true,true,true,true,false,true,true,true,false,false,false,true,false] rfl rfl rfl rfl (Zfs HT_.out (by kernel_rfl)) (by decide) (by decide) (fun K hK=> ?_) (fun K hK=> ?_)
       ·skip
        refine Kd.Zc0 (Kd.int .i64) _ 3 ?hg (N:=14) ?hd (xs:=([]:List Int)) (inner:= []) (ok:=fun _=>True) (okp:=fun _=>True) ?hr ?hp (fun _ hk=>hk) trivial (Below.refl _ _) (Nat.le_refl _) (by simp) ?_;(case hd=>rfl);(case hg=>rfl);(case hr=>first|(go_simp;done)|(go_simp;rfl));(case hp=>exact(Reps.none _ _));intro gB w11 kW hb hg_ hnew_;clear hg_ hnew_
        (first|rw[←qO.out]at kW|(simp only[Int.reduceToNat]at kW;rw[←qO.out]at kW))
        have dP:=Za.mk (Kd.Zbp (Kd.Zcs kW (Kd.R_lt (rM fA.out))) (Zaj (bM HB.out)));replace fA:=Za.mk (Kd.Zce (rM fA.out) (Kd.Zb4 kW) hb);replace ag:=Za.mk (kB ag.out hb);replace aQ:=Za.mk (kB aQ.out hb);replace HB:=Za.mk (bS HB.out hb);clear hb kW;refine hK.out _ _ ⟨bc ag.out 0,bc ag.out 1,bc ag.out 2,bc ag.out 3,bc ag.out 4⟩ (fun hHeld=> ?_);clear hK K;refine nmp 14 ?_;exact nm (hJ3_7_8 (gG,kK,gB) _ ⟨hHeld,(rM (Kd.Zaw fA.out (fun _ hk=>hk.2))),(rM (Kd.Zaw dP.out (fun _ hk=>hk.2))),(kM ag.out),(kM aQ.out),(bM HB.out)⟩)
       skip
       refine Zec ?hg (N:=3) ?hd (cs:=#[.slice none 0 0,.slice none 0 0,.int .i64 0,.slice none 0 0,.slice none 0 0]) (t:=28) ?hr ?_;(case hd=>rfl);(case hg=>rfl);(case hr=>first|(go_simp;done)|(go_simp;rfl));intro aA hg w11 hbox hb;replace fA:=Za.mk (Kd.Zbt (rM fA.out) hb);have aM:=Za.mk (hbox);have GW200:=Za.mk ((gE hg HB.out:w.heap.size≤aA));have iP:=Za.mk ((gE hg HB.out:w.heap.size≤aA));replace HB:=Za.mk (bS HB.out hb);have aU:=Za.mk ((by rw[hg];exact Nat.ne_of_lt (Zbj (kM ag.out)):ax≠aA));have cK:=Za.mk ((by rw[hg];exact Nat.ne_of_gt (Zbj (kM ag.out)):aA≠ax));replace ag:=Za.mk (kB ag.out hb);have cu:=Za.mk ((by rw[hg];exact Nat.ne_of_lt (Zbj (kM aQ.out)):bI≠aA));have d9:=Za.mk ((by rw[hg];exact Nat.ne_of_gt (Zbj (kM aQ.out)):aA≠bI));replace aQ:=Za.mk (kB aQ.out hb);clear hb hbox hg;refine hK.out _ _ ⟨bc ag.out 0,bc ag.out 1,bc ag.out 2,bc ag.out 3,bc ag.out 4⟩ (fun hHeld=> ?_);clear hK K;refine nmp 3 ?_;exact nm (hJ3_7_15 (gG,kK,aA) _ ⟨hHeld,(rM fA.out),(kM ag.out),(kM aQ.out),(kM aM.out),GW200.out,iP.out,aU.out,cK.out,cu.out,d9.out,(bM HB.out)⟩)
      skip
      rintro⟨gG,gB,aA⟩ w12 ⟨hS_,h0_,h1_,h2_,h3_,h4_,h5_,h6_,h7_,h8_,h9_,h10_,h11_⟩;have fw:Za (Kd.R (Kd.int .i64) 3 w12 w.heap.size (fun k_=>some k_≠(gB:Value).ownBlock) gG mr):=⟨h0_⟩;have dP:Za (Kd.R (Kd.int .i64) 3 w12 w.heap.size (fun k_=>some k_≠(gG:Value).ownBlock) gB kL):=⟨h1_⟩;replace ag:Za (w12.heap[ax]? =some (.cells #[.slice bF ae.length bv,.slice aI aa.length aG,.int .i64 aj,.slice bi ak.length bn,.slice bf ai.length bg] 28 (0,0))):=⟨h2_⟩;replace aQ:Za (w12.heap[bI]? =some (.cells #[.slice none 0 0,.slice none 0 0,.int .i64 0,.slice none 0 0,.slice none 0 0] 28 (0,0))):=⟨h3_⟩;have aM:Za (w12.heap[aA]? =some (.cells #[.slice none 0 0,.slice none 0 0,.int .i64 0,.slice none 0 0,.slice none 0 0] 28 (0,0))):=⟨h4_⟩;have GW200:Za (w.heap.size≤aA):=⟨h5_⟩;have iP:Za (w.heap.size≤aA):=⟨h6_⟩;have aU:Za (ax≠aA):=⟨h7_⟩;have cK:Za (aA≠ax):=⟨h8_⟩;have cu:Za (bI≠aA):=⟨h9_⟩;have d9:Za (aA≠bI):=⟨h10_⟩;replace HB:Za (Below w.heap.size w w12):=⟨h11_⟩;clear h0_ h1_ h2_ h3_ h4_ h5_ h6_ h7_ h8_ h9_ h10_ h11_;have hHeld:w12.cell? ⟨ax,0,none⟩=some (.slice bF ae.length bv)∧w12.cell? ⟨ax,1,none⟩=some (.slice aI aa.length aG)∧w12.cell? ⟨ax,2,none⟩=some (.int .i64 aj)∧w12.cell? ⟨ax,3,none⟩=some (.slice bi ak.length bn)∧w12.cell? ⟨ax,4,none⟩=some (.slice bf ai.length bg):=hS_;refine Zdx (a':=?_) ?_ ?_;rotate_left
      ·simp only [putAll, Act.put, List.setIfInBounds_toArray, List.set_cons_zero, List.set_cons_succ]
       rfl
      refine on1 HT_ 7 13 (fun K hK=> ?_);refine Kd.Zch (Kd.int .i64) (w0:=w) w.heap.size (by rfl) (.tmp 9) (.tmp 12) 24 3 (.int .i64 0) 8 rfl Tryz.underlying24 info3 rfl (by decide) (by omega) gG mr ak _ _ _ (fun k_=>some k_≠(gB:Value).ownBlock) (fun _=>False) rfl rfl ?aO ?aR (fun _ _ h=>h) (fun _ h=>h.elim) ?aF ?aB ?aS ?aL ?_
      (case aR=>repeat(first|exact(Kd.Zaf kr.out HB.out)|(with_reducible refine Kd.C_alloc ?_ _)|(with_reducible refine Kd.Zcm ?_ _)|(with_reducible refine Kd.C_drew ?_)))
      (case aB=>exact(bM HB.out))
      (case aF=>exact(fun k_ hk=>Kd.fresh' (Kd.R_lt (rM dP.out)) k_ hk))
      (case aO=>exact(rM fw.out))
      (case aS=>exact(Zaj (bM HB.out)))
      (case aL=>have:=Bz.out;omega)
      intro kK w13 ho hb hg hat;rw[←KV.out]at ho;replace ag:=Za.mk (kG ag.out hg (Kd.R_ne fw.out ag.out (by decide)));replace aQ:=Za.mk (kG aQ.out hg (Kd.R_ne fw.out aQ.out (by decide)));replace dP:=Za.mk (Kd.Zc8 (ok:=(fun _=>True)) (rM (Kd.Zaw dP.out (fun _ hk=>⟨trivial,hk⟩))) hg hat);replace aM:=Za.mk (kG aM.out hg (Kd.R_ne fw.out aM.out (by decide)));replace HB:=Za.mk (hb);have fA:=Za.mk (ho);clear fw ho hb hg hat;refine hK.out _ _ ⟨bc ag.out 0,bc ag.out 1,bc ag.out 2,bc ag.out 3,bc ag.out 4⟩ (fun hHeld=> ?_);clear hK K;refine nmp 13 ?_;exact nm (hJ3_7_8_15 (gG,kK,gB,aA) _ ⟨hHeld,(rM fA.out),(rM (Kd.Zaw dP.out (fun _ hk=>hk.2))),(kM ag.out),(kM aQ.out),(kM aM.out),GW200.out,iP.out,aU.out,cK.out,cu.out,d9.out,(bM HB.out)⟩)
     skip
     rintro⟨gG,kK,aA⟩ w11 ⟨hS_,h0_,h1_,h2_,h3_,h4_,h5_,h6_,h7_,h8_,h9_,h10_⟩;have fA:Za (Kd.R (Kd.int .i64) 3 w11 w.heap.size (fun _=>True) kK fP):=⟨h0_⟩;replace ag:Za (w11.heap[ax]? =some (.cells #[.slice bF ae.length bv,.slice aI aa.length aG,.int .i64 aj,.slice bi ak.length bn,.slice bf ai.length bg] 28 (0,0))):=⟨h1_⟩;replace aQ:Za (w11.heap[bI]? =some (.cells #[.slice none 0 0,.slice none 0 0,.int .i64 0,.slice none 0 0,.slice none 0 0] 28 (0,0))):=⟨h2_⟩;have aM:Za (w11.heap[aA]? =some (.cells #[.slice none 0 0,.slice none 0 0,.int .i64 0,.slice none 0 0,.slice none 0 0] 28 (0,0))):=⟨h3_⟩;have GW200:Za (w.heap.size≤aA):=⟨h4_⟩;have iP:Za (w.heap.size≤aA):=⟨h5_⟩;have aU:Za (ax≠aA):=⟨h6_⟩;have cK:Za (aA≠ax):=⟨h7_⟩;have cu:Za (bI≠aA):=⟨h8_⟩;have d9:Za (aA≠bI):=⟨h9_⟩;replace HB:Za (Below w.heap.size w w11):=⟨h10_⟩;clear h0_ h1_ h2_ h3_ h4_ h5_ h6_ h7_ h8_ h9_ h10_;have hHeld:w11.cell? ⟨ax,0,none⟩=some (.slice bF ae.length bv)∧w11.cell? ⟨ax,1,none⟩=some (.slice aI aa.length aG)∧w11.cell? ⟨ax,2,none⟩=some (.int .i64 aj)∧w11.cell? ⟨ax,3,none⟩=some (.slice bi ak.length bn)∧w11.cell? ⟨ax,4,none⟩=some (.slice bf ai.length bg):=hS_;refine Zdx (a':=?_) ?_ ?_;rotate_left
     ·simp only [putAll, Act.put, List.setIfInBounds_toArray, List.set_cons_zero, List.set_cons_succ]
      rfl
     refine on1 HT_ 8 14 (fun K hK=> ?_);refine Kd.Zc0 (Kd.int .i64) _ 3 ?hg (N:=14) ?hd (xs:=([]:List Int)) (inner:= []) (ok:=fun _=>True) (okp:=fun _=>True) ?hr ?hp (fun _ hk=>hk) trivial (Below.refl _ _) (Nat.le_refl _) (by simp) ?_;(case hd=>rfl);(case hg=>rfl);(case hr=>first|(go_simp;done)|(go_simp;rfl));(case hp=>exact(Reps.none _ _));intro gB w12 uT hb hg_ hnew_;clear hg_ hnew_
     (first|rw[←qO.out]at uT|(simp only[Int.reduceToNat]at uT;rw[←qO.out]at uT))
     have dP:=Za.mk (Kd.Zbp (Kd.Zcs uT (Kd.R_lt (rM fA.out))) (Zaj (bM HB.out)));replace fA:=Za.mk (Kd.Zce (rM fA.out) (Kd.Zb4 uT) hb);replace ag:=Za.mk (kB ag.out hb);replace aQ:=Za.mk (kB aQ.out hb);replace aM:=Za.mk (kB aM.out hb);replace HB:=Za.mk (bS HB.out hb);clear hb uT;refine hK.out _ _ ⟨bc ag.out 0,bc ag.out 1,bc ag.out 2,bc ag.out 3,bc ag.out 4⟩ (fun hHeld=> ?_);clear hK K;refine nmp 14 ?_;exact nm (hJ3_7_8_15 (gG,kK,gB,aA) _ ⟨hHeld,(rM (Kd.Zaw fA.out (fun _ hk=>hk.2))),(rM (Kd.Zaw dP.out (fun _ hk=>hk.2))),(kM ag.out),(kM aQ.out),(kM aM.out),GW200.out,iP.out,aU.out,cK.out,cu.out,d9.out,(bM HB.out)⟩)
    skip
    rintro⟨gG,kK,gB⟩ w12 ⟨hS_,h0_,h1_,h2_,h3_,h4_⟩;have fA:Za (Kd.R (Kd.int .i64) 3 w12 w.heap.size (fun k_=>some k_≠(gB:Value).ownBlock) kK fP):=⟨h0_⟩;have dP:Za (Kd.R (Kd.int .i64) 3 w12 w.heap.size (fun k_=>some k_≠(kK:Value).ownBlock) gB kL):=⟨h1_⟩;replace ag:Za (w12.heap[ax]? =some (.cells #[.slice bF ae.length bv,.slice aI aa.length aG,.int .i64 aj,.slice bi ak.length bn,.slice bf ai.length bg] 28 (0,0))):=⟨h2_⟩;replace aQ:Za (w12.heap[bI]? =some (.cells #[.slice none 0 0,.slice none 0 0,.int .i64 0,.slice none 0 0,.slice none 0 0] 28 (0,0))):=⟨h3_⟩;replace HB:Za (Below w.heap.size w w12):=⟨h4_⟩;clear h0_ h1_ h2_ h3_ h4_;have hHeld:w12.cell? ⟨ax,0,none⟩=some (.slice bF ae.length bv)∧w12.cell? ⟨ax,1,none⟩=some (.slice aI aa.length aG)∧w12.cell? ⟨ax,2,none⟩=some (.int .i64 aj)∧w12.cell? ⟨ax,3,none⟩=some (.slice bi ak.length bn)∧w12.cell? ⟨ax,4,none⟩=some (.slice bf ai.length bg):=hS_;refine Zdx (a':=?_) ?_ ?_;rotate_left
    ·simp only [putAll, Act.put, List.setIfInBounds_toArray, List.set_cons_zero, List.set_cons_succ]
     rfl
    refine two_ (i:=12) (j:=15) (Ni:=some 18) (Nj:=some 3) #[true,true,true,true,true,true,true,true,true,true,true,true,true,false,false,false,false] #[true,true,true,true,true,true,true,true,true,true,true,true,false,false,false,true,false] rfl rfl rfl rfl (Zfs HT_.out (by kernel_rfl)) (by decide) (by decide) (fun K hK=> ?_) (fun K hK=> ?_)
    ·skip
     refine Kd.Zch (Kd.int .i64) (w0:=w) w.heap.size (by rfl) (.tmp 14) (.tmp 17) 24 3 (.int .i64 0) 8 rfl Tryz.underlying24 info3 rfl (by decide) (by omega) gB kL ai _ _ _ (fun k_=>some k_≠(kK:Value).ownBlock) (fun _=>False) rfl rfl ?aO ?aR (fun _ _ h=>h) (fun _ h=>h.elim) ?aF ?aB ?aS ?aL ?_
     (case aR=>repeat(first|exact(Kd.Zaf lh.out HB.out)|(with_reducible refine Kd.C_alloc ?_ _)|(with_reducible refine Kd.Zcm ?_ _)|(with_reducible refine Kd.C_drew ?_)))
     (case aB=>exact(bM HB.out))
     (case aF=>exact(fun k_ hk=>Kd.fresh' (Kd.R_lt (rM fA.out)) k_ hk))
     (case aO=>exact(rM dP.out))
     (case aS=>exact(Zaj (bM HB.out)))
     (case aL=>have:=Qf.out;omega)
     intro v198 w13 ho hb hg hat;rw[←VA.out]at ho;replace ag:=Za.mk (kG ag.out hg (Kd.R_ne dP.out ag.out (by decide)));replace aQ:=Za.mk (kG aQ.out hg (Kd.R_ne dP.out aQ.out (by decide)));replace fA:=Za.mk (Kd.Zc8 (ok:=(fun _=>True)) (rM (Kd.Zaw fA.out (fun _ hk=>⟨trivial,hk⟩))) hg hat);replace HB:=Za.mk (hb);have pG:=Za.mk (ho);clear dP ho hb hg hat;obtain⟨eu,eB,wQ⟩:=Kd.Za9 pG.out
     (first|subst wQ|(injection wQ with f1_ f2_ f3_;have f4_:=f1_.symm;have f5_:=f3_.symm;clear f1_ f2_ f3_;subst f4_;subst f5_))
     obtain⟨jg,iX,BN⟩:=Kd.Za9 fA.out
     (first|subst BN|(injection BN with f1_ f2_ f3_;have f4_:=f1_.symm;have f5_:=f3_.symm;clear f1_ f2_ f3_;subst f4_;subst f5_))
     refine hK.out _ _ ⟨bc ag.out 0,bc ag.out 1,bc ag.out 2,bc ag.out 3,bc ag.out 4⟩ (fun hHeld=> ?_);clear hK K;refine nmp 18 ?_;refine pu HT_ 13 19 ?_;refine pu HT_ 14 20 ?_;exact nm (hJ3_7_8_12 (gG,.slice jg fP.length iX,gB,.slice eu iB.length eB) _ ⟨hHeld,(rM (Kd.Zaw fA.out (fun _ hk=>hk.2))),(rM pG.out),(kM ag.out),(kM aQ.out),(bM HB.out)⟩)
    skip
    refine Zec ?hg (N:=3) ?hd (cs:=#[.slice none 0 0,.slice none 0 0,.int .i64 0,.slice none 0 0,.slice none 0 0]) (t:=28) ?hr ?_;(case hd=>rfl);(case hg=>rfl);(case hr=>first|(go_simp;done)|(go_simp;rfl));intro aA hg w13 hbox hb;replace fA:=Za.mk (Kd.Zbt (rM fA.out) hb);replace dP:=Za.mk (Kd.Zbt (rM dP.out) hb);have aM:=Za.mk (hbox);have GW200:=Za.mk ((gE hg HB.out:w.heap.size≤aA));have iP:=Za.mk ((gE hg HB.out:w.heap.size≤aA));replace HB:=Za.mk (bS HB.out hb);have aU:=Za.mk ((by rw[hg];exact Nat.ne_of_lt (Zbj (kM ag.out)):ax≠aA));have cK:=Za.mk ((by rw[hg];exact Nat.ne_of_gt (Zbj (kM ag.out)):aA≠ax));replace ag:=Za.mk (kB ag.out hb);have cu:=Za.mk ((by rw[hg];exact Nat.ne_of_lt (Zbj (kM aQ.out)):bI≠aA));have d9:=Za.mk ((by rw[hg];exact Nat.ne_of_gt (Zbj (kM aQ.out)):aA≠bI));replace aQ:=Za.mk (kB aQ.out hb);clear hb hbox hg;refine hK.out _ _ ⟨bc ag.out 0,bc ag.out 1,bc ag.out 2,bc ag.out 3,bc ag.out 4⟩ (fun hHeld=> ?_);clear hK K;refine nmp 3 ?_;exact nm (hJ3_7_8_15 (gG,kK,gB,aA) _ ⟨hHeld,(rM fA.out),(rM dP.out),(kM ag.out),(kM aQ.out),(kM aM.out),GW200.out,iP.out,aU.out,cK.out,cu.out,d9.out,(bM HB.out)⟩)
   skip
   rintro⟨gG,kK,gB,aA⟩ w13 ⟨hS_,h0_,h1_,h2_,h3_,h4_,h5_,h6_,h7_,h8_,h9_,h10_,h11_⟩;have fA:Za (Kd.R (Kd.int .i64) 3 w13 w.heap.size (fun k_=>some k_≠(gB:Value).ownBlock) kK fP):=⟨h0_⟩;have dP:Za (Kd.R (Kd.int .i64) 3 w13 w.heap.size (fun k_=>some k_≠(kK:Value).ownBlock) gB kL):=⟨h1_⟩;replace ag:Za (w13.heap[ax]? =some (.cells #[.slice bF ae.length bv,.slice aI aa.length aG,.int .i64 aj,.slice bi ak.length bn,.slice bf ai.length bg] 28 (0,0))):=⟨h2_⟩;replace aQ:Za (w13.heap[bI]? =some (.cells #[.slice none 0 0,.slice none 0 0,.int .i64 0,.slice none 0 0,.slice none 0 0] 28 (0,0))):=⟨h3_⟩;have aM:Za (w13.heap[aA]? =some (.cells #[.slice none 0 0,.slice none 0 0,.int .i64 0,.slice none 0 0,.slice none 0 0] 28 (0,0))):=⟨h4_⟩;have GW200:Za (w.heap.size≤aA):=⟨h5_⟩;have iP:Za (w.heap.size≤aA):=⟨h6_⟩;have aU:Za (ax≠aA):=⟨h7_⟩;have cK:Za (aA≠ax):=⟨h8_⟩;have cu:Za (bI≠aA):=⟨h9_⟩;have d9:Za (aA≠bI):=⟨h10_⟩;replace HB:Za (Below w.heap.size w w13):=⟨h11_⟩;clear h0_ h1_ h2_ h3_ h4_ h5_ h6_ h7_ h8_ h9_ h10_ h11_;have hHeld:w13.cell? ⟨ax,0,none⟩=some (.slice bF ae.length bv)∧w13.cell? ⟨ax,1,none⟩=some (.slice aI aa.length aG)∧w13.cell? ⟨ax,2,none⟩=some (.int .i64 aj)∧w13.cell? ⟨ax,3,none⟩=some (.slice bi ak.length bn)∧w13.cell? ⟨ax,4,none⟩=some (.slice bf ai.length bg):=hS_;refine Zdx (a':=?_) ?_ ?_;rotate_left
   ·simp only [putAll, Act.put, List.setIfInBounds_toArray, List.set_cons_zero, List.set_cons_succ]
    rfl
   refine on1 HT_ 12 18 (fun K hK=> ?_);refine Kd.Zch (Kd.int .i64) (w0:=w) w.heap.size (by rfl) (.tmp 14) (.tmp 17) 24 3 (.int .i64 0) 8 rfl Tryz.underlying24 info3 rfl (by decide) (by omega) gB kL ai _ _ _ (fun k_=>some k_≠(kK:Value).ownBlock) (fun _=>False) rfl rfl ?aO ?aR (fun _ _ h=>h) (fun _ h=>h.elim) ?aF ?aB ?aS ?aL ?_
   (case aR=>repeat(first|exact(Kd.Zaf lh.out HB.out)|(with_reducible refine Kd.C_alloc ?_ _)|(with_reducible refine Kd.Zcm ?_ _)|(with_reducible refine Kd.C_drew ?_)))
   (case aB=>exact(bM HB.out))
   (case aF=>exact(fun k_ hk=>Kd.fresh' (Kd.R_lt (rM fA.out)) k_ hk))
   (case aO=>exact(rM dP.out))
   (case aS=>exact(Zaj (bM HB.out)))
   (case aL=>have:=Qf.out;omega)
   intro v198 w14 ho hb hg hat;rw[←VA.out]at ho;replace ag:=Za.mk (kG ag.out hg (Kd.R_ne dP.out ag.out (by decide)));replace aQ:=Za.mk (kG aQ.out hg (Kd.R_ne dP.out aQ.out (by decide)));replace fA:=Za.mk (Kd.Zc8 (ok:=(fun _=>True)) (rM (Kd.Zaw fA.out (fun _ hk=>⟨trivial,hk⟩))) hg hat);replace aM:=Za.mk (kG aM.out hg (Kd.R_ne dP.out aM.out (by decide)));replace HB:=Za.mk (hb);have pG:=Za.mk (ho);clear dP ho hb hg hat;obtain⟨jg,iX,BN⟩:=Kd.Za9 pG.out
   (first|subst BN|(injection BN with f1_ f2_ f3_;have f4_:=f1_.symm;have f5_:=f3_.symm;clear f1_ f2_ f3_;subst f4_;subst f5_))
   obtain⟨iJ,iA,FJ⟩:=Kd.Za9 fA.out
   (first|subst FJ|(injection FJ with f1_ f2_ f3_;have f4_:=f1_.symm;have f5_:=f3_.symm;clear f1_ f2_ f3_;subst f4_;subst f5_))
   refine hK.out _ _ ⟨bc ag.out 0,bc ag.out 1,bc ag.out 2,bc ag.out 3,bc ag.out 4⟩ (fun hHeld=> ?_);clear hK K;refine nmp 18 ?_;refine pu HT_ 13 19 ?_;refine pu HT_ 14 20 ?_;exact nm (hJ3_7_8_12_15 (gG,.slice iJ fP.length iA,gB,.slice jg iB.length iX,aA) _ ⟨hHeld,(rM (Kd.Zaw fA.out (fun _ hk=>hk.2))),(rM pG.out),(kM ag.out),(kM aQ.out),(kM aM.out),GW200.out,iP.out,aU.out,cK.out,cu.out,d9.out,(bM HB.out)⟩)
  skip
  rintro⟨gG,kK,gB,v198⟩ w15 ⟨hS_,h0_,h1_,h2_,h3_,h4_⟩;have fA:Za (Kd.R (Kd.int .i64) 3 w15 w.heap.size (fun k_=>some k_≠(v198:Value).ownBlock) kK fP):=⟨h0_⟩;have pG:Za (Kd.R (Kd.int .i64) 3 w15 w.heap.size (fun k_=>some k_≠(kK:Value).ownBlock) v198 iB):=⟨h1_⟩;replace ag:Za (w15.heap[ax]? =some (.cells #[.slice bF ae.length bv,.slice aI aa.length aG,.int .i64 aj,.slice bi ak.length bn,.slice bf ai.length bg] 28 (0,0))):=⟨h2_⟩;replace aQ:Za (w15.heap[bI]? =some (.cells #[.slice none 0 0,.slice none 0 0,.int .i64 0,.slice none 0 0,.slice none 0 0] 28 (0,0))):=⟨h3_⟩;replace HB:Za (Below w.heap.size w w15):=⟨h4_⟩;clear h0_ h1_ h2_ h3_ h4_;have hHeld:w15.cell? ⟨ax,0,none⟩=some (.slice bF ae.length bv)∧w15.cell? ⟨ax,1,none⟩=some (.slice aI aa.length aG)∧w15.cell? ⟨ax,2,none⟩=some (.int .i64 aj)∧w15.cell? ⟨ax,3,none⟩=some (.slice bi ak.length bn)∧w15.cell? ⟨ax,4,none⟩=some (.slice bf ai.length bg):=hS_;obtain⟨iJ,iA,FJ⟩:=Kd.Za9 pG.out
  (first|subst FJ|(injection FJ with f1_ f2_ f3_;have f4_:=f1_.symm;have f5_:=f3_.symm;clear f1_ f2_ f3_;subst f4_;subst f5_))
  obtain⟨fe,eQ,wR⟩:=Kd.Za9 fA.out
  (first|subst wR|(injection wR with f1_ f2_ f3_;have f4_:=f1_.symm;have f5_:=f3_.symm;clear f1_ f2_ f3_;subst f4_;subst f5_))
  refine Zdx (a':=?_) ?_ ?_;rotate_left
  ·simp only [putAll, Act.put, List.setIfInBounds_toArray, List.set_cons_zero, List.set_cons_succ]
   rfl
  refine on1 HT_ 15 3 (fun K hK=> ?_);refine Zec ?hg (N:=3) ?hd (cs:=#[.slice none 0 0,.slice none 0 0,.int .i64 0,.slice none 0 0,.slice none 0 0]) (t:=28) ?hr ?_;(case hd=>rfl);(case hg=>rfl);(case hr=>first|(go_simp;done)|(go_simp;rfl));intro aA hg w18 hbox hb;replace fA:=Za.mk (Kd.Zbt (rM fA.out) hb);replace pG:=Za.mk (Kd.Zbt (rM pG.out) hb);have aM:=Za.mk (hbox);have GW200:=Za.mk ((gE hg HB.out:w.heap.size≤aA));have iP:=Za.mk ((gE hg HB.out:w.heap.size≤aA));replace HB:=Za.mk (bS HB.out hb);have aU:=Za.mk ((by rw[hg];exact Nat.ne_of_lt (Zbj (kM ag.out)):ax≠aA));have cK:=Za.mk ((by rw[hg];exact Nat.ne_of_gt (Zbj (kM ag.out)):aA≠ax));replace ag:=Za.mk (kB ag.out hb);have cu:=Za.mk ((by rw[hg];exact Nat.ne_of_lt (Zbj (kM aQ.out)):bI≠aA));have d9:=Za.mk ((by rw[hg];exact Nat.ne_of_gt (Zbj (kM aQ.out)):aA≠bI));replace aQ:=Za.mk (kB aQ.out hb);clear hb hbox hg;refine hK.out _ _ ⟨bc ag.out 0,bc ag.out 1,bc ag.out 2,bc ag.out 3,bc ag.out 4⟩ (fun hHeld=> ?_);clear hK K;refine nmp 3 ?_;exact nm (hJ3_7_8_12_15 (gG,.slice fe fP.length eQ,gB,.slice iJ iB.length iA,aA) _ ⟨hHeld,(rM fA.out),(rM pG.out),(kM ag.out),(kM aQ.out),(kM aM.out),GW200.out,iP.out,aU.out,cK.out,cu.out,d9.out,(bM HB.out)⟩)
 rintro⟨gG,kK,gB,v198,aA⟩ w16 ⟨hS_,h0_,h1_,h2_,h3_,h4_,h5_,h6_,h7_,h8_,h9_,h10_,h11_⟩;have fA:Za (Kd.R (Kd.int .i64) 3 w16 w.heap.size (fun k_=>some k_≠(v198:Value).ownBlock) kK fP):=⟨h0_⟩;have pG:Za (Kd.R (Kd.int .i64) 3 w16 w.heap.size (fun k_=>some k_≠(kK:Value).ownBlock) v198 iB):=⟨h1_⟩;replace ag:Za (w16.heap[ax]? =some (.cells #[.slice bF ae.length bv,.slice aI aa.length aG,.int .i64 aj,.slice bi ak.length bn,.slice bf ai.length bg] 28 (0,0))):=⟨h2_⟩;replace aQ:Za (w16.heap[bI]? =some (.cells #[.slice none 0 0,.slice none 0 0,.int .i64 0,.slice none 0 0,.slice none 0 0] 28 (0,0))):=⟨h3_⟩;have aM:Za (w16.heap[aA]? =some (.cells #[.slice none 0 0,.slice none 0 0,.int .i64 0,.slice none 0 0,.slice none 0 0] 28 (0,0))):=⟨h4_⟩;have GW200:Za (w.heap.size≤aA):=⟨h5_⟩;have iP:Za (w.heap.size≤aA):=⟨h6_⟩;have aU:Za (ax≠aA):=⟨h7_⟩;have cK:Za (aA≠ax):=⟨h8_⟩;have cu:Za (bI≠aA):=⟨h9_⟩;have d9:Za (aA≠bI):=⟨h10_⟩;replace HB:Za (Below w.heap.size w w16):=⟨h11_⟩;clear h0_ h1_ h2_ h3_ h4_ h5_ h6_ h7_ h8_ h9_ h10_ h11_;have hHeld:w16.cell? ⟨ax,0,none⟩=some (.slice bF ae.length bv)∧w16.cell? ⟨ax,1,none⟩=some (.slice aI aa.length aG)∧w16.cell? ⟨ax,2,none⟩=some (.int .i64 aj)∧w16.cell? ⟨ax,3,none⟩=some (.slice bi ak.length bn)∧w16.cell? ⟨ax,4,none⟩=some (.slice bf ai.length bg):=hS_;obtain⟨fe,eQ,wR⟩:=Kd.Za9 pG.out
 (first|subst wR|(injection wR with f1_ f2_ f3_;have f4_:=f1_.symm;have f5_:=f3_.symm;clear f1_ f2_ f3_;subst f4_;subst f5_))
 obtain⟨gT,gW,DY⟩:=Kd.Za9 fA.out
 (first|subst DY|(injection DY with f1_ f2_ f3_;have f4_:=f1_.symm;have f5_:=f3_.symm;clear f1_ f2_ f3_;subst f4_;subst f5_))
 refine Zdx (a':=?_) ?_ ?_;rotate_left
 ·simp only [putAll, Act.put, List.setIfInBounds_toArray, List.set_cons_zero, List.set_cons_succ]
  rfl
 refine one_ (i:=16) (N:=none) #[true,true,true,true,true,true,true,true,true,true,true,true,true,true,true,true,true] rfl rfl (Ze8 HT_.out (by kernel_rfl)) (by decide) (fun K hK=> ?_);have hs19:w16.cell? ⟨aA,0,none⟩=some (.slice none 0 0):=(Zah aM.out 0).trans rfl;have hfs19:=Zam aM.out 0;have hns19_0:=aU.out;have hns19_1:=cu.out;have hms19_0:=cK.out;have hms19_1:=d9.out;have hs20:w16.cell? ⟨aA,1,none⟩=some (.slice none 0 0):=(Zah aM.out 1).trans rfl;have hfs20:=Zam aM.out 1;have hns20_0:=aU.out;have hns20_1:=cu.out;have hms20_0:=cK.out;have hms20_1:=d9.out;have hs21:w16.cell? ⟨aA,2,none⟩=some (.int .i64 0):=(Zah aM.out 2).trans rfl;have hfs21:=Zam aM.out 2;have hns21_0:=aU.out;have hns21_1:=cu.out;have hms21_0:=cK.out;have hms21_1:=d9.out;have hs22:w16.cell? ⟨aA,3,none⟩=some (.slice none 0 0):=(Zah aM.out 3).trans rfl;have hfs22:=Zam aM.out 3;have hns22_0:=aU.out;have hns22_1:=cu.out;have hms22_0:=cK.out;have hms22_1:=d9.out;have hs23:w16.cell? ⟨aA,4,none⟩=some (.slice none 0 0):=(Zah aM.out 4).trans rfl;have hfs23:=Zam aM.out 4;have hns23_0:=aU.out;have hns23_1:=cu.out;have hms23_0:=cK.out;have hms23_1:=d9.out;refine skip_ (w1:=?_) (by rfl) rfl ?_ ?_;rotate_left
 ·go_simp
  rfl
 refine hK.out _ _ ⟨((cell_far (p:=⟨aA,_,none⟩) aU.out _).trans (((cell_far (p:=⟨aA,_,none⟩) aU.out _).trans (((cell_far (p:=⟨aA,_,none⟩) aU.out _).trans (((cell_far (p:=⟨aA,_,none⟩) aU.out _).trans (((cell_far (p:=⟨aA,_,none⟩) aU.out _).trans (hHeld.1)))))))))),((cell_far (p:=⟨aA,_,none⟩) aU.out _).trans (((cell_far (p:=⟨aA,_,none⟩) aU.out _).trans (((cell_far (p:=⟨aA,_,none⟩) aU.out _).trans (((cell_far (p:=⟨aA,_,none⟩) aU.out _).trans (((cell_far (p:=⟨aA,_,none⟩) aU.out _).trans (hHeld.2.1)))))))))),((cell_far (p:=⟨aA,_,none⟩) aU.out _).trans (((cell_far (p:=⟨aA,_,none⟩) aU.out _).trans (((cell_far (p:=⟨aA,_,none⟩) aU.out _).trans (((cell_far (p:=⟨aA,_,none⟩) aU.out _).trans (((cell_far (p:=⟨aA,_,none⟩) aU.out _).trans (hHeld.2.2.1)))))))))),((cell_far (p:=⟨aA,_,none⟩) aU.out _).trans (((cell_far (p:=⟨aA,_,none⟩) aU.out _).trans (((cell_far (p:=⟨aA,_,none⟩) aU.out _).trans (((cell_far (p:=⟨aA,_,none⟩) aU.out _).trans (((cell_far (p:=⟨aA,_,none⟩) aU.out _).trans (hHeld.2.2.2.1)))))))))),((cell_far (p:=⟨aA,_,none⟩) aU.out _).trans (((cell_far (p:=⟨aA,_,none⟩) aU.out _).trans (((cell_far (p:=⟨aA,_,none⟩) aU.out _).trans (((cell_far (p:=⟨aA,_,none⟩) aU.out _).trans (((cell_far (p:=⟨aA,_,none⟩) aU.out _).trans (hHeld.2.2.2.2))))))))))⟩ (fun hHeld=> ?_);clear hK K;refine Zfb (Zdw HT_.out (by kernel_rfl)) ?_;try go_wp2
 go_loopg [4] k (fun kq v4 w'=>∃(az:Int) (fI:List (S37)) (lX:Value),v4= .int .i64 az∧Za (Zak.l0 kq az ae aa aj ak ai fI aj fP iB=some (r1,r2,r3,r4,r5))∧Za (kq≤k)∧Za (Kd.S k37 37 w' w.heap.size (fun _=>True) lX fI)∧Za (Kd.R (Kd.int .i64) 3 w' w.heap.size (fun k_=>some k_≠((.slice fe iB.length eQ):Value).ownBlock) (.slice gT fP.length gW) fP)∧Za (Kd.R (Kd.int .i64) 3 w' w.heap.size (fun k_=>some k_≠((.slice gT fP.length gW):Value).ownBlock) (.slice fe iB.length eQ) iB)∧Za (w'.heap[ax]? =some (.cells #[(.slice bF ae.length bv),(.slice aI aa.length aG),.int .i64 aj,(.slice bi ak.length bn),(.slice bf ai.length bg)] 28 (0,0)))∧Za (w'.heap[bI]? =some (.cells #[(.slice none 0 0),(.slice none 0 0),.int .i64 0,(.slice none 0 0),(.slice none 0 0)] 28 (0,0)))∧Za (w'.heap[aA]? =some (.cells #[lX,(.slice none 0 0),.int .i64 aj,(.slice gT fP.length gW),(.slice fe iB.length eQ)] 28 (0,0)))∧Za (Below w.heap.size w w'))
 case atStart=>exact⟨(0),(([]:List (S37))),(.slice none 0 0),eS,H',⟨Nat.le_refl _⟩,⟨by first|exact Kd.Zge _ _ _ _ _|exact Kd.N_nil _ _ _ _ _|exact Kd.Zey _ _ _ _ _|exact Kd.Q_nil _ _ _ _ _|exact Kd.Zfk _ _ _ _ _⟩,⟨rM (Kd.Zaw (Kd.Za2 (p:=⟨aA,4,none⟩) (Kd.Za2 (p:=⟨aA,3,none⟩) (Kd.Za2 (p:=⟨aA,2,none⟩) (Kd.Za2 (p:=⟨aA,1,none⟩) (Kd.Za2 (p:=⟨aA,0,none⟩) (Kd.Zbh fA.out aM.out (by decide)) (fun _ hk=>hk.2) (.slice none 0 0)) (fun _ hk=>hk.2) (.slice none 0 0)) (fun _ hk=>hk.2) (.int .i64 aj)) (fun _ hk=>hk.2) (.slice gT fP.length gW)) (fun _ hk=>hk.2) (.slice fe iB.length eQ)) (fun _ hk=>hk.1))⟩,⟨rM (Kd.Zaw (Kd.Za2 (p:=⟨aA,4,none⟩) (Kd.Za2 (p:=⟨aA,3,none⟩) (Kd.Za2 (p:=⟨aA,2,none⟩) (Kd.Za2 (p:=⟨aA,1,none⟩) (Kd.Za2 (p:=⟨aA,0,none⟩) (Kd.Zbh pG.out aM.out (by decide)) (fun _ hk=>hk.2) (.slice none 0 0)) (fun _ hk=>hk.2) (.slice none 0 0)) (fun _ hk=>hk.2) (.int .i64 aj)) (fun _ hk=>hk.2) (.slice gT fP.length gW)) (fun _ hk=>hk.2) (.slice fe iB.length eQ)) (fun _ hk=>hk.1))⟩,⟨by(with_reducible repeat(first|refine Zab ?_ _|refine Zad ?_|refine Zaa ?_ _));refine Zav ?_ aU.out _;(with_reducible repeat(first|refine Zab ?_ _|refine Zad ?_|refine Zaa ?_ _));refine Zav ?_ aU.out _;(with_reducible repeat(first|refine Zab ?_ _|refine Zad ?_|refine Zaa ?_ _));refine Zav ?_ aU.out _;(with_reducible repeat(first|refine Zab ?_ _|refine Zad ?_|refine Zaa ?_ _));refine Zav ?_ aU.out _;(with_reducible repeat(first|refine Zab ?_ _|refine Zad ?_|refine Zaa ?_ _));refine Zav ?_ aU.out _;(with_reducible repeat(first|refine Zab ?_ _|refine Zad ?_|refine Zaa ?_ _));exact ag.out⟩,⟨by(with_reducible repeat(first|refine Zab ?_ _|refine Zad ?_|refine Zaa ?_ _));refine Zav ?_ cu.out _;(with_reducible repeat(first|refine Zab ?_ _|refine Zad ?_|refine Zaa ?_ _));refine Zav ?_ cu.out _;(with_reducible repeat(first|refine Zab ?_ _|refine Zad ?_|refine Zaa ?_ _));refine Zav ?_ cu.out _;(with_reducible repeat(first|refine Zab ?_ _|refine Zad ?_|refine Zaa ?_ _));refine Zav ?_ cu.out _;(with_reducible repeat(first|refine Zab ?_ _|refine Zad ?_|refine Zaa ?_ _));refine Zav ?_ cu.out _;(with_reducible repeat(first|refine Zab ?_ _|refine Zad ?_|refine Zaa ?_ _));exact aQ.out⟩,⟨by(with_reducible repeat(first|refine Zab ?_ _|refine Zad ?_|refine Zaa ?_ _));refine Zas (cs:=#[.slice none 0 0,.slice none 0 0,.int .i64 aj,.slice gT fP.length gW,.slice none 0 0]) ?_ 4 _ rfl;(with_reducible repeat(first|refine Zab ?_ _|refine Zad ?_|refine Zaa ?_ _));refine Zas (cs:=#[.slice none 0 0,.slice none 0 0,.int .i64 aj,.slice none 0 0,.slice none 0 0]) ?_ 3 _ rfl;(with_reducible repeat(first|refine Zab ?_ _|refine Zad ?_|refine Zaa ?_ _));refine Zas (cs:=#[.slice none 0 0,.slice none 0 0,.int .i64 0,.slice none 0 0,.slice none 0 0]) ?_ 2 _ rfl;(with_reducible repeat(first|refine Zab ?_ _|refine Zad ?_|refine Zaa ?_ _));refine Zas (cs:=#[.slice none 0 0,.slice none 0 0,.int .i64 0,.slice none 0 0,.slice none 0 0]) ?_ 1 _ rfl;(with_reducible repeat(first|refine Zab ?_ _|refine Zad ?_|refine Zaa ?_ _));refine Zas (cs:=#[.slice none 0 0,.slice none 0 0,.int .i64 0,.slice none 0 0,.slice none 0 0]) ?_ 0 _ rfl;(with_reducible repeat(first|refine Zab ?_ _|refine Zad ?_|refine Zaa ?_ _));exact aM.out⟩,⟨bM HB.out⟩⟩
 case round=>
  clear H';try clear c2
  try clear p2
  try clear c3
  obtain⟨az,fI,lX,rfl,HA,HK1,dL,eU,eX,ag,aQ,aM,HB⟩:=hrel
  cases gk with
  | zero => exact absurd HA.out (by simp [Zak.l0])
  |succ k1=>
   have H:=HA.out;clear HA;simp only[Zak.l0]at H;by_cases c24:az<(ae.length:Int)
   case pos=>
    rw[if_pos c24]at H;have H8:decide (az<(ae.length:Int))=true:=decide_eq_true c24;clear c24;obtain⟨Ey,H⟩:=ifT H;obtain⟨G8,I4⟩:∃y_:List (S59),y_=(([]:List (S59))):=⟨_,rfl⟩;replace H:(if G8.length+((Zaq ae az).f1).length<8796093022208 then(if fI.length<3518437208883 then(Zak.l0 k1 (wrap64 (az+1)) ae aa aj ak ai (fI++ [(⟨(Zaq ae az).f0,(G8++((Zaq ae az).f1))⟩:S37)]) aj fP iB)else(none))else(none))=some (r1,r2,r3,r4,r5):=by first|(rw[I4];with_reducible exact H)|(have H2_:=(Option.bind_some _ _).symm.trans H;rw[I4];with_reducible exact H2_)|(have H2_:=(Option.bind_some _ _).symm.trans H;with_reducible exact H2_)|with_reducible exact H|(rw[I4];exact H)|exact H
    have VB:=Za.mk I4;clear I4;obtain⟨c26,H⟩:=ifP H;have cma:=Za.mk c26;clear c26;obtain⟨K3,I5⟩:∃y_:List (S59),y_=(G8++((Zaq ae az).f1)):=⟨_,rfl⟩;replace H:(if fI.length<3518437208883 then(Zak.l0 k1 (wrap64 (az+1)) ae aa aj ak ai (fI++ [(⟨(Zaq ae az).f0,K3⟩:S37)]) aj fP iB)else(none))=some (r1,r2,r3,r4,r5):=by first|(rw[I5];with_reducible exact H)|(have H2_:=(Option.bind_some _ _).symm.trans H;rw[I5];with_reducible exact H2_)|(have H2_:=(Option.bind_some _ _).symm.trans H;with_reducible exact H2_)|with_reducible exact H|(rw[I5];exact H)|exact H
    have c5a:=Za.mk I5;clear I5;obtain⟨c27,H⟩:=ifP H;have Qd:=Za.mk c27;clear c27;obtain⟨K4,I6⟩:∃y_:List (S37),y_=(fI++ [(⟨(Zaq ae az).f0,K3⟩:S37)]):=⟨_,rfl⟩;replace H:(Zak.l0 k1 (wrap64 (az+1)) ae aa aj ak ai K4 aj fP iB)=some (r1,r2,r3,r4,r5):=by first|(rw[I6];with_reducible exact H)|(have H2_:=(Option.bind_some _ _).symm.trans H;rw[I6];with_reducible exact H2_)|(have H2_:=(Option.bind_some _ _).symm.trans H;with_reducible exact H2_)|with_reducible exact H|(rw[I6];exact H)|exact H
    have c6a:=Za.mk I6;clear I6;have H':=Za.mk H;clear H;have dDa:=xB.out;have dRa:=xC.out;have Wq:=aU.out;have Wt:=cK.out;obtain⟨Mk,Ml,Sr,Su,Sv,LF,LG,Rz,R3,R4⟩:=cz5 ag.out;try go_wp2
    replace dL:=Za.mk (Kd.Zfl dL.out);replace eU:=Za.mk (Kd.Zd6 eU.out);replace eX:=Za.mk (Kd.Zd6 eX.out);replace ag:=Za.mk (Zad ag.out);replace aQ:=Za.mk (Zad aQ.out);replace aM:=Za.mk (Zad aM.out);replace HB:=Za.mk (Zb6 HB.out);have iBa:(0≤(az:Int))=True:=teq;have iQa:(az<(ae.length:Int))=True:=teq;obtain⟨xJ,SK,Tp,iaa,Az,vP,O6,Oi⟩:=Zdc gV.out az odt odt;have vJ:=vP;have vI:=Az;cases iaa;replace Az:=hB HB.out Az;replace vP:=hB HB.out vP;have XM:=Za.mk Oi;have j2a:=Za.mk O6;clear Oi O6;have iCa:(0≤(az:Int))=True:=teq;have iRa:(az<(ae.length:Int))=True:=teq;obtain⟨cJa,jCa,jFa,iba,AA,vQ,O7,Oj⟩:=Zdc gV.out az odt odt;have vO:=vQ;have vK:=AA;obtain rfl:xJ=cJa:=(by injection iba);replace AA:=hB HB.out AA;replace vQ:=hB HB.out vQ;have NU:=Za.mk Oj;have j3a:=Za.mk O7;clear Oj O7;have ea_:=Option.some.inj (vP.symm.trans vQ)
    injection ea_ with ea_ en_ ec_
    subst ea_;subst ec_;clear en_;refine Zef (n:=21) (S:=fun w'=>w'.cell? ⟨aA,0,none⟩=some (lX)∧w'.cell? ⟨aA,1,none⟩=some (.slice none 0 0)∧w'.cell? ⟨aA,2,none⟩=some (.int .i64 aj)∧w'.cell? ⟨aA,3,none⟩=some (.slice gT fP.length gW)∧w'.cell? ⟨aA,4,none⟩=some (.slice fe iB.length eQ)∧w'.cell? ⟨ax,0,none⟩=some (.slice (some xJ) ae.length bv)∧w'.cell? ⟨ax,1,none⟩=some (.slice aI aa.length aG)∧w'.cell? ⟨ax,2,none⟩=some (.int .i64 aj)∧w'.cell? ⟨ax,3,none⟩=some (.slice bi ak.length bn)∧w'.cell? ⟨ax,4,none⟩=some (.slice bf ai.length bg)∧w'.cell? (xJ.add ((az).toNat*2))=some (.string ((Zaq ae az).f0))∧w'.cell? ⟨(xJ.add ((az).toNat*2)).block,(xJ.add ((az).toNat*2)).off+1,none⟩=some (.slice SK ((Zaq ae az).f1).length Tp)∧w'.cell? (xJ.add ((az).toNat*2))=some (.string ((Zaq ae az).f0))∧w'.cell? ⟨(xJ.add ((az).toNat*2)).block,(xJ.add ((az).toNat*2)).off+1,none⟩=some (.slice SK ((Zaq ae az).f1).length Tp)) (ds:= [20]) #[false,false,false,false,false,false,false,false,false,false,false,false,false,false,false,false,false,false,false,false,false] (by kernel_rfl) rfl rfl ⟨bc aM.out 0,bc aM.out 1,bc aM.out 2,bc aM.out 3,bc aM.out 4,bc ag.out 0,bc ag.out 1,bc ag.out 2,bc ag.out 3,bc ag.out 4,(hB (bM HB.out) vI),(hB (bM HB.out) vJ),(hB (bM HB.out) vK),(hB (bM HB.out) vO)⟩ (fun hHeld=> ?_);refine Zc6 Zak.tab5 Zak.bits5 (fun HT_ HW_=> ?_)
    generalize wr.drew=w31 at dL eU eX ag aQ aM HB XM NU Az vP AA vQ hHeld ⊢
    refine pu HT_ 0 28 ?_;refine pu HT_ 2 30 ?_;refine pu HT_ 4 32 ?_;refine pu HT_ 9 37 ?_;refine pu HT_ 11 39 ?_;refine tk HT_ HW_ hHeld 1 29 ?_;refine tk HT_ HW_ hHeld 3 31 ?_;refine pu HT_ 5 33 ?_;refine pu HT_ 6 34 ?_;refine tk HT_ HW_ hHeld 7 35 ?_;refine tk HT_ HW_ hHeld 10 38 ?_;refine pu HT_ 12 40 ?_;refine pu HT_ 13 41 ?_;refine tk HT_ HW_ hHeld 14 42 ?_;refine on1 HT_ 8 36 (fun K hK=> ?_);refine Kd.Zc0 k59 _ 59 ?hg (N:=36) ?hd (xs:=([]:List (S59))) (inner:= []) (ok:=fun _=>True) (okp:=fun _=>True) ?hr ?hp (fun _ hk=>hk) trivial (Below.refl _ _) (Nat.le_refl _) (by simp) ?_;(case hd=>rfl);(case hg=>rfl);(case hr=>first|(go_simp;done)|(go_simp;rfl));(case hp=>exact(Reps.none _ _));intro v203 w32 JQ hb hg_ hnew_;clear hg_ hnew_
    (first|rw[←VB.out]at JQ|(simp only[Int.reduceToNat]at JQ;rw[←VB.out]at JQ))
    replace dL:=Za.mk (Kd.Zek (sM dL.out) (Kd.Zb4 JQ) hb);replace eU:=Za.mk (Kd.Zbt (rM eU.out) hb);replace eX:=Za.mk (Kd.Zbt (rM eX.out) hb);have Bt:=Za.mk (Kd.Zbp JQ (Zaj (bM HB.out)));replace ag:=Za.mk (kB ag.out hb);replace aQ:=Za.mk (kB aQ.out hb);replace aM:=Za.mk (kB aM.out hb);replace HB:=Za.mk (bS HB.out hb);clear hb JQ;refine hK.out _ _ ⟨bc aM.out 0,bc aM.out 1,bc aM.out 2,bc aM.out 3,bc aM.out 4,bc ag.out 0,bc ag.out 1,bc ag.out 2,bc ag.out 3,bc ag.out 4,(hB (bM HB.out) vI),(hB (bM HB.out) vJ),(hB (bM HB.out) vK),(hB (bM HB.out) vO)⟩ (fun hHeld=> ?_);clear hK K;refine nmp 36 ?_;refine on1 HT_ 15 43 (fun K hK=> ?_);refine Kd.Zch k59 (w0:=w) w.heap.size (by rfl) (.tmp 36) (.tmp 42) 35 59 (.agg #[(.int .i64 0),(.int .i64 0)]) 16 rfl Tryz.underlying35 Zgl rfl (by decide) (by omega) v203 G8 ((Zaq ae az).f1) _ _ _ (fun _=>True) (fun _=>False) rfl rfl ?aO ?aR (fun _ _ h=>h) (fun _ h=>h.elim) ?aF ?aB ?aS ?aL ?_
    (case aR=>repeat(first|exact(Kd.Zaf NU.out HB.out)|(with_reducible refine Kd.C_alloc ?_ _)|(with_reducible refine Kd.Zcm ?_ _)|(with_reducible refine Kd.C_drew ?_)))
    (case aB=>exact(bM HB.out))
    (case aF=>exact(fun _ _=>trivial))
    (case aO=>exact(rM Bt.out))
    (case aS=>exact(Zaj (bM HB.out)))
    (case aL=>have:=cma.out;omega)
    intro tSa w34 ho hb hg hat;rw[←c5a.out]at ho;replace dL:=Za.mk (Kd.S_after (ok:=(fun _=>True)) (sM dL.out) hg hat);replace eU:=Za.mk (Kd.Zdy (rM eU.out) (Kd.Zdm (rM Bt.out)) (by decide) hg);replace eX:=Za.mk (Kd.Zdy (rM eX.out) (Kd.Zdm (rM Bt.out)) (by decide) hg);replace ag:=Za.mk (kG ag.out hg (Kd.R_ne Bt.out ag.out (by decide)));replace aQ:=Za.mk (kG aQ.out hg (Kd.R_ne Bt.out aQ.out (by decide)));replace aM:=Za.mk (kG aM.out hg (Kd.R_ne Bt.out aM.out (by decide)));replace HB:=Za.mk (hb);have KP:=Za.mk (ho);clear Bt ho hb hg hat;obtain⟨YR,ana,ara⟩:=Kd.Za9 KP.out
    (first|subst ara|(injection ara with f1_ f2_ f3_;have f4_:=f1_.symm;have f5_:=f3_.symm;clear f1_ f2_ f3_;subst f4_;subst f5_))
    refine hK.out _ _ ⟨bc aM.out 0,bc aM.out 1,bc aM.out 2,bc aM.out 3,bc aM.out 4,bc ag.out 0,bc ag.out 1,bc ag.out 2,bc ag.out 3,bc ag.out 4,(hB (bM HB.out) vI),(hB (bM HB.out) vJ),(hB (bM HB.out) vK),(hB (bM HB.out) vO)⟩ (fun hHeld=> ?_);clear hK K;refine nmp 43 ?_;refine pu HT_ 16 44 ?_;refine on1 HT_ 17 45 (fun K hK=> ?_);refine Zhj (w1:=?_) (v:=?_) (by rfl) rfl ?_ ?_;rotate_left 2
    ·go_simp
     constructor
     ·rfl
     rfl
    refine hK.out _ _ ⟨(Zah (Zaa aM.out _) 0).trans rfl,(Zah (Zaa aM.out _) 1).trans rfl,(Zah (Zaa aM.out _) 2).trans rfl,(Zah (Zaa aM.out _) 3).trans rfl,(Zah (Zaa aM.out _) 4).trans rfl,(Zah (Zaa ag.out _) 0).trans rfl,(Zah (Zaa ag.out _) 1).trans rfl,(Zah (Zaa ag.out _) 2).trans rfl,(Zah (Zaa ag.out _) 3).trans rfl,(Zah (Zaa ag.out _) 4).trans rfl,(World.cell?_alloc_lt _ _ _ (World.block_lt_of_cell? _ _ ((hB (bM HB.out) vI)))).trans ((hB (bM HB.out) vI)),(World.cell?_alloc_lt _ _ _ (World.block_lt_of_cell? _ _ ((hB (bM HB.out) vJ)))).trans ((hB (bM HB.out) vJ)),(World.cell?_alloc_lt _ _ _ (World.block_lt_of_cell? _ _ ((hB (bM HB.out) vK)))).trans ((hB (bM HB.out) vK)),(World.cell?_alloc_lt _ _ _ (World.block_lt_of_cell? _ _ ((hB (bM HB.out) vO)))).trans ((hB (bM HB.out) vO))⟩ (fun hHeld=> ?_);clear hK K;refine nmp 45 ?_;refine on1 HT_ 18 46 (fun K hK=> ?_);refine Kd.Zev k37 (w0:=w) w.heap.size (by rfl) (.tmp 29) (.tmp 45) 22 37 (.agg #[(.string ⟨#[]⟩),(.slice none 0 0)]) 40 rfl Tryz.underlying22 info37 rfl (by decide) (by omega) lX fI (⟨(Zaq ae az).f0,K3⟩:S37) [.string ((Zaq ae az).f0),.slice YR K3.length ana] (fun _=>True) (fun k_=>some k_=(.slice YR K3.length ana:Value).ownBlock) rfl rfl ?aP (fun k_ hk_=>((Kd.Zaw (ok':=fun k_=>((fun _=>True)) k_∧some k_≠(lX:Value).ownBlock) (Kd.Zcp (KP.out) (Kd.Zda dL.out) (by decide)) (fun k_ hk=>⟨trivial,hk.2⟩))).1 k_ hk_.symm) ?aF ?aO ?aB ?aS ?aL ?_
    (case aP=>exact k37_mkM _ _ _ (⟨(Zaq ae az).f0,K3⟩:S37) (Kd.Zaw (Kd.Zdr rfl (Kd.Zaw (ok':=fun k_=>((fun _=>True)) k_∧some k_≠(lX:Value).ownBlock) (Kd.Zcp (KP.out) (Kd.Zda dL.out) (by decide)) (fun k_ hk=>⟨trivial,hk.2⟩))) (fun _ h_=>h_)))
    (case aB=>exact(bM HB.out))
    (case aF=>exact(fun _ _=>trivial))
    (case aO=>exact(sM (Kd.Zcu dL.out (fun k_ hk=>⟨trivial,fun e_=>hk.2 e_⟩))))
    (case aS=>exact(Zaj (bM HB.out)))
    (case aL=>have:=Qd.out;omega)
    intro v210 w36 ho hb hg hat;rw[←c6a.out]at ho;replace eU:=Za.mk (Kd.Zdy (rM eU.out) (Kd.Zda (sM dL.out)) (by decide) hg);replace eX:=Za.mk (Kd.Zdy (rM eX.out) (Kd.Zda (sM dL.out)) (by decide) hg);replace ag:=Za.mk (kG ag.out hg (Kd.S_ne dL.out ag.out (by decide)));replace aQ:=Za.mk (kG aQ.out hg (Kd.S_ne dL.out aQ.out (by decide)));replace aM:=Za.mk (kG aM.out hg (Kd.S_ne dL.out aM.out (by decide)));replace HB:=Za.mk (hb);have Vq:=Za.mk (ho);clear dL KP ho hb hg hat;obtain⟨PD,QM,asa⟩:=Kd.Zd7 Vq.out
    (first|subst asa|(injection asa with f1_ f2_ f3_;have f4_:=f1_.symm;have f5_:=f3_.symm;clear f1_ f2_ f3_;subst f4_;subst f5_))
    refine hK.out _ _ ⟨bc aM.out 0,bc aM.out 1,bc aM.out 2,bc aM.out 3,bc aM.out 4,bc ag.out 0,bc ag.out 1,bc ag.out 2,bc ag.out 3,bc ag.out 4,(hB (bM HB.out) vI),(hB (bM HB.out) vJ),(hB (bM HB.out) vK),(hB (bM HB.out) vO)⟩ (fun hHeld=> ?_);clear hK K;refine nmp 46 ?_;refine pu HT_ 19 47 ?_;refine last_ (i:=20) (N:=none) #[true,true,true,true,true,true,true,true,true,true,true,true,true,true,true,true,true,true,true,true,true] rfl rfl (Ze8 HT_.out (by kernel_rfl)) (by decide) (fun K hK=> ?_);have hs38:w36.cell? ⟨aA,0,none⟩=some (lX):=(Zah aM.out 0).trans rfl;have hfs38:=Zam aM.out 0;have hns38_0:=aU.out;have hns38_1:=cu.out;have hms38_0:=cK.out;have hms38_1:=d9.out;refine skip_ (w1:=?_) (by rfl) rfl ?_ ?_;rotate_left
    ·go_simp
     rfl
    refine hK.out _ _ ?_;clear hK K;refine Zfb (Zdw HT_.out (by kernel_rfl)) ?_;try go_wp2
    go_roundg k1
    case measure=>have:=HK1.out;omega
    case rel=>exact⟨(wrap64 (az+1)),(K4),(.slice PD K4.length QM),eS,H',⟨by have:=HK1.out;omega⟩,⟨sM (Kd.Zcu (Kd.Zb2 (p:=⟨aA,0,none⟩) (Kd.Zcy Vq.out aM.out (by decide)) (fun _ hk=>hk.2) (.slice PD K4.length QM)) (fun _ hk=>trivial))⟩,⟨rM (Kd.Zaw (Kd.Za2 (p:=⟨aA,0,none⟩) (Kd.Zbh eU.out aM.out (by decide)) (fun _ hk=>hk.2) (.slice PD K4.length QM)) (fun _ hk=>hk.1))⟩,⟨rM (Kd.Zaw (Kd.Za2 (p:=⟨aA,0,none⟩) (Kd.Zbh eX.out aM.out (by decide)) (fun _ hk=>hk.2) (.slice PD K4.length QM)) (fun _ hk=>hk.1))⟩,⟨by(with_reducible repeat(first|refine Zab ?_ _|refine Zad ?_|refine Zaa ?_ _));refine Zav ?_ aU.out _;(with_reducible repeat(first|refine Zab ?_ _|refine Zad ?_|refine Zaa ?_ _));exact ag.out⟩,⟨by(with_reducible repeat(first|refine Zab ?_ _|refine Zad ?_|refine Zaa ?_ _));refine Zav ?_ cu.out _;(with_reducible repeat(first|refine Zab ?_ _|refine Zad ?_|refine Zaa ?_ _));exact aQ.out⟩,⟨by(with_reducible repeat(first|refine Zab ?_ _|refine Zad ?_|refine Zaa ?_ _));refine Zas (cs:=#[lX,.slice none 0 0,.int .i64 aj,.slice gT fP.length gW,.slice fe iB.length eQ]) ?_ 0 _ rfl;(with_reducible repeat(first|refine Zab ?_ _|refine Zad ?_|refine Zaa ?_ _));exact aM.out⟩,⟨bM HB.out⟩⟩
   rw[if_neg c24]at H;have H8:decide (az<(ae.length:Int))=false:=decide_eq_false c24;clear c24;have H':=Za.mk H;clear H;have dGa:=xB.out;have dUa:=xC.out;have QP:=aU.out;have QQ:=cK.out;obtain⟨Mq,Mr,Ms,Mt,Mw,LK,LM,LP,LQ,LU⟩:=cz5 ag.out;go_wp2
   go_loopg [5] k1 (fun kq v5 w'=>∃(aD:Int) (iU:List (S40)) (rT:Value),v5= .int .i64 aD∧Za (Zak.l1 kq aD ae aa aj ak ai fI iU aj fP iB=some (r1,r2,r3,r4,r5))∧Za (kq≤k1)∧Za (Kd.S k37 37 w' w.heap.size (fun _=>True) lX fI)∧Za (Kd.R k40 40 w' w.heap.size (fun k_=>some k_≠((.slice gT fP.length gW):Value).ownBlock∧some k_≠((.slice fe iB.length eQ):Value).ownBlock) rT iU)∧Za (Kd.R (Kd.int .i64) 3 w' w.heap.size (fun k_=>some k_≠((.slice fe iB.length eQ):Value).ownBlock) (.slice gT fP.length gW) fP)∧Za (Kd.R (Kd.int .i64) 3 w' w.heap.size (fun k_=>some k_≠((.slice gT fP.length gW):Value).ownBlock) (.slice fe iB.length eQ) iB)∧Za (w'.heap[ax]? =some (.cells #[(.slice bF ae.length bv),(.slice aI aa.length aG),.int .i64 aj,(.slice bi ak.length bn),(.slice bf ai.length bg)] 28 (0,0)))∧Za (w'.heap[bI]? =some (.cells #[(.slice none 0 0),(.slice none 0 0),.int .i64 0,(.slice none 0 0),(.slice none 0 0)] 28 (0,0)))∧Za (w'.heap[aA]? =some (.cells #[lX,rT,.int .i64 aj,(.slice gT fP.length gW),(.slice fe iB.length eQ)] 28 (0,0)))∧Za (Below w.heap.size w w'))
   case atStart=>exact⟨(0),(([]:List (S40))),(.slice none 0 0),eS,H',⟨Nat.le_refl _⟩,⟨sM dL.out⟩,⟨by first|exact Kd.Zfk _ _ _ _ _|exact Kd.N_nil _ _ _ _ _|exact Kd.Zey _ _ _ _ _|exact Kd.Q_nil _ _ _ _ _|exact Kd.Zge _ _ _ _ _⟩,⟨rM eU.out⟩,⟨rM eX.out⟩,⟨by(with_reducible repeat(first|refine Zab ?_ _|refine Zad ?_|refine Zaa ?_ _));exact ag.out⟩,⟨by(with_reducible repeat(first|refine Zab ?_ _|refine Zad ?_|refine Zaa ?_ _));exact aQ.out⟩,⟨by(with_reducible repeat(first|refine Zab ?_ _|refine Zad ?_|refine Zaa ?_ _));exact aM.out⟩,⟨bM HB.out⟩⟩
   case round=>
    clear H';try clear c2
    try clear p2
    try clear q2
    try clear hx2
    try clear c3
    try clear c4
    try clear p6
    try clear c20
    try clear p20
    try clear q20
    try clear aGa
    try clear c24
    try clear H8
    try clear c25
    try clear Ey
    try clear c26
    try clear c27
    try clear c28
    try clear c29
    try clear c39
    try clear c40
    try clear Mk Ml Sr Su Sv LF LG Rz R3 R4
    try clear Mq Mr Ms Mt Mw LK LM LP LQ LU
    try clear Az
    try clear vP
    try clear AA
    try clear vQ
    try clear p2
    try clear iBa
    try clear iCa
    try clear iQa
    try clear iRa
    obtain⟨aD,iU,rT,rfl,HA,HK2,dL,gH,eU,eX,ag,aQ,aM,HB⟩:=hrel
    cases gk with
    | zero => exact absurd HA.out (by simp [Zak.l1])
    |succ k2=>
     have H:=HA.out;clear HA;simp only[Zak.l1]at H;by_cases c42:aD<(aa.length:Int)
     case neg=>
      rw[if_neg c42]at H;have dra:decide (aD<(aa.length:Int))=false:=decide_eq_false c42;clear c42;simp only[Option.some.injEq,Prod.mk.injEq]at H;obtain⟨rfl,rfl,rfl,rfl,rfl⟩:=H;have lRa:=xB.out;have m2a:=xC.out;have dNa:=aU.out;have eca:=cK.out;obtain⟨hba,hca,hda,hea,hha,fta,fua,fva,fwa,fxa⟩:=cz5 ag.out;have lSa:=d9.out;have m5a:=cu.out;obtain⟨Xu,Xv,Xw,Xx,Xy,WS,WT,WU,WV,WW⟩:=cz5 aM.out;obtain⟨Bo,BJ,iua⟩:=Kd.Zd7 dL.out;subst iua;obtain⟨rda,rea,rfa,rga,rha,nOa,nPa,nQa,nRa,nSa⟩:=cz5 aQ.out;obtain⟨Dy,DU,iva⟩:=Kd.Za9 gH.out;subst iva;go_wp2;refine bodyPost_ret (results_cell_row rfl _ _ bI 28 #[.slice Bo fI.length BJ,.slice Dy iU.length DU,.int .i64 aj,.slice gT fP.length gW,.slice fe iB.length eQ] (0,0) _ rfl (by(with_reducible repeat(first|refine Zab ?_ _|refine Zad ?_|refine Zaa ?_ _));refine Zas (cs:=#[.slice Bo fI.length BJ,.slice Dy iU.length DU,.int .i64 aj,.slice gT fP.length gW,.slice none 0 0]) ?_ 4 _ rfl;(with_reducible repeat(first|refine Zab ?_ _|refine Zad ?_|refine Zaa ?_ _));refine Zas (cs:=#[.slice Bo fI.length BJ,.slice Dy iU.length DU,.int .i64 aj,.slice none 0 0,.slice none 0 0]) ?_ 3 _ rfl;(with_reducible repeat(first|refine Zab ?_ _|refine Zad ?_|refine Zaa ?_ _));refine Zas (cs:=#[.slice Bo fI.length BJ,.slice Dy iU.length DU,.int .i64 0,.slice none 0 0,.slice none 0 0]) ?_ 2 _ rfl;(with_reducible repeat(first|refine Zab ?_ _|refine Zad ?_|refine Zaa ?_ _));refine Zas (cs:=#[.slice Bo fI.length BJ,.slice none 0 0,.int .i64 0,.slice none 0 0,.slice none 0 0]) ?_ 1 _ rfl;(with_reducible repeat(first|refine Zab ?_ _|refine Zad ?_|refine Zaa ?_ _));refine Zas (cs:=#[.slice none 0 0,.slice none 0 0,.int .i64 0,.slice none 0 0,.slice none 0 0]) ?_ 0 _ rfl;(with_reducible repeat(first|refine Zab ?_ _|refine Zad ?_|refine Zaa ?_ _));exact aQ.out) Tryz.underlying28 rfl (by kernel_rfl)) rfl ?_;exact⟨_,_,_,_,eR,sM (Kd.Zcu (Kd.Zb2 (p:=⟨bI,4,none⟩) (Kd.Zb2 (p:=⟨bI,3,none⟩) (Kd.Zb2 (p:=⟨bI,2,none⟩) (Kd.Zb2 (p:=⟨bI,1,none⟩) (Kd.Zb2 (p:=⟨bI,0,none⟩) (Kd.Zcy dL.out aQ.out (by decide)) (fun _ hk=>hk.2) (.slice Bo fI.length BJ)) (fun _ hk=>hk.2) (.slice Dy iU.length DU)) (fun _ hk=>hk.2) (.int .i64 aj)) (fun _ hk=>hk.2) (.slice gT fP.length gW)) (fun _ hk=>hk.2) (.slice fe iB.length eQ)) (fun _ hk=>trivial)),rM (Kd.Zaw (Kd.Za2 (p:=⟨bI,4,none⟩) (Kd.Za2 (p:=⟨bI,3,none⟩) (Kd.Za2 (p:=⟨bI,2,none⟩) (Kd.Za2 (p:=⟨bI,1,none⟩) (Kd.Za2 (p:=⟨bI,0,none⟩) (Kd.Zbh gH.out aQ.out (by decide)) (fun _ hk=>hk.2) (.slice Bo fI.length BJ)) (fun _ hk=>hk.2) (.slice Dy iU.length DU)) (fun _ hk=>hk.2) (.int .i64 aj)) (fun _ hk=>hk.2) (.slice gT fP.length gW)) (fun _ hk=>hk.2) (.slice fe iB.length eQ)) (fun _ hk=>⟨hk.1.1,hk.1.2⟩)),rM (Kd.Zaw (Kd.Za2 (p:=⟨bI,4,none⟩) (Kd.Za2 (p:=⟨bI,3,none⟩) (Kd.Za2 (p:=⟨bI,2,none⟩) (Kd.Za2 (p:=⟨bI,1,none⟩) (Kd.Za2 (p:=⟨bI,0,none⟩) (Kd.Zbh eU.out aQ.out (by decide)) (fun _ hk=>hk.2) (.slice Bo fI.length BJ)) (fun _ hk=>hk.2) (.slice Dy iU.length DU)) (fun _ hk=>hk.2) (.int .i64 aj)) (fun _ hk=>hk.2) (.slice gT fP.length gW)) (fun _ hk=>hk.2) (.slice fe iB.length eQ)) (fun _ hk=>hk.1)),rM (Kd.Zaw (Kd.Za2 (p:=⟨bI,4,none⟩) (Kd.Za2 (p:=⟨bI,3,none⟩) (Kd.Za2 (p:=⟨bI,2,none⟩) (Kd.Za2 (p:=⟨bI,1,none⟩) (Kd.Za2 (p:=⟨bI,0,none⟩) (Kd.Zbh eX.out aQ.out (by decide)) (fun _ hk=>hk.2) (.slice Bo fI.length BJ)) (fun _ hk=>hk.2) (.slice Dy iU.length DU)) (fun _ hk=>hk.2) (.int .i64 aj)) (fun _ hk=>hk.2) (.slice gT fP.length gW)) (fun _ hk=>hk.2) (.slice fe iB.length eQ)) (fun _ hk=>hk.1)),bM HB.out⟩
     rw[if_pos c42]at H;have dra:decide (aD<(aa.length:Int))=true:=decide_eq_true c42;clear c42;obtain⟨QI,H⟩:=ifT H;obtain⟨⟨t213,Km,Kn,Ko,Kq,t222,Kr⟩,A44,H⟩:=bnd H;replace H:(if iU.length<1353245080339 then(Zak.l1 k2 (wrap64 (aD+1)) ae aa aj ak ai fI (iU++ [(⟨t213,Km,Kn,Ko,Kq,t222,Kr⟩:S40)]) aj fP iB)else(none))=some (r1,r2,r3,r4,r5):=H;obtain⟨c45,H⟩:=ifP H;have coa:=Za.mk c45;clear c45;obtain⟨G9,I7⟩:∃y_:List (S40),y_=(iU++ [(⟨t213,Km,Kn,Ko,Kq,t222,Kr⟩:S40)]):=⟨_,rfl⟩;replace H:(Zak.l1 k2 (wrap64 (aD+1)) ae aa aj ak ai fI G9 aj fP iB)=some (r1,r2,r3,r4,r5):=by first|(rw[I7];with_reducible exact H)|(have H2_:=(Option.bind_some _ _).symm.trans H;rw[I7];with_reducible exact H2_)|(have H2_:=(Option.bind_some _ _).symm.trans H;with_reducible exact H2_)|with_reducible exact H|(rw[I7];exact H)|exact H
     have c7a:=Za.mk I7;clear I7;have H':=Za.mk H;clear H;have lMa:=xB.out;have mwa:=xC.out;have lNa:=aU.out;have mxa:=cK.out;obtain⟨gEa,gFa,gGa,gHa,gIa,eVa,eWa,eXa,eYa,faa⟩:=cz5 ag.out;try go_wp2
     replace dL:=Za.mk (Kd.Zfl dL.out);replace gH:=Za.mk (Kd.Zd6 gH.out);replace eU:=Za.mk (Kd.Zd6 eU.out);replace eX:=Za.mk (Kd.Zd6 eX.out);replace ag:=Za.mk (Zad ag.out);replace aQ:=Za.mk (Zad aQ.out);replace aM:=Za.mk (Zad aM.out);replace HB:=Za.mk (Zb6 HB.out);have t8a:(0≤(aD:Int))=True:=teq;have tDa:(aD<(aa.length:Int))=True:=teq;obtain⟨oH,SL,Tq,SN,Tt,SQ,Tu,e212,Ez,E8,E9,EB,ED,EE,EF,O8,Ol,O9,Om,OA,Oo⟩:=Zeq fE.out aD odt odt;have zY:=EF;have zX:=EE;have zW:=ED;have zV:=EB;have zU:=E9;have zT:=E8;have zS:=Ez;cases e212;replace Ez:=hB HB.out Ez;replace E8:=hB HB.out E8;replace E9:=hB HB.out E9;replace EB:=hB HB.out EB;replace ED:=hB HB.out ED;replace EE:=hB HB.out EE;replace EF:=hB HB.out EF;have NV:=Za.mk Ol;have X4:=Za.mk O8;clear Ol O8;have NW:=Za.mk Om;have X5:=Za.mk O9;clear Om O9;have NY:=Za.mk Oo;have X6:=Za.mk OA;clear Oo OA;refine Zef (n:=12) (S:=fun w'=>w'.cell? ⟨aA,0,none⟩=some (lX)∧w'.cell? ⟨aA,1,none⟩=some (rT)∧w'.cell? ⟨aA,2,none⟩=some (.int .i64 aj)∧w'.cell? ⟨aA,3,none⟩=some (.slice gT fP.length gW)∧w'.cell? ⟨aA,4,none⟩=some (.slice fe iB.length eQ)∧w'.cell? ⟨ax,0,none⟩=some (.slice bF ae.length bv)∧w'.cell? ⟨ax,1,none⟩=some (.slice (some oH) aa.length aG)∧w'.cell? ⟨ax,2,none⟩=some (.int .i64 aj)∧w'.cell? ⟨ax,3,none⟩=some (.slice bi ak.length bn)∧w'.cell? ⟨ax,4,none⟩=some (.slice bf ai.length bg)∧w'.cell? (oH.add ((aD).toNat*7))=some (.int .i64 ((Zac aa aD).f0))∧w'.cell? ⟨(oH.add ((aD).toNat*7)).block,(oH.add ((aD).toNat*7)).off+1,none⟩=some (.slice SL ((Zac aa aD).f1).length Tq)∧w'.cell? ⟨(oH.add ((aD).toNat*7)).block,(oH.add ((aD).toNat*7)).off+2,none⟩=some (.slice SN ((Zac aa aD).f2).length Tt)∧w'.cell? ⟨(oH.add ((aD).toNat*7)).block,(oH.add ((aD).toNat*7)).off+3,none⟩=some (.int .i64 ((Zac aa aD).f3))∧w'.cell? ⟨(oH.add ((aD).toNat*7)).block,(oH.add ((aD).toNat*7)).off+4,none⟩=some (.int .i64 ((Zac aa aD).f4))∧w'.cell? ⟨(oH.add ((aD).toNat*7)).block,(oH.add ((aD).toNat*7)).off+5,none⟩=some (.slice SQ ((Zac aa aD).f5).length Tu)∧w'.cell? ⟨(oH.add ((aD).toNat*7)).block,(oH.add ((aD).toNat*7)).off+6,none⟩=some (.int .i64 ((Zac aa aD).f6))) (ds:= [11]) #[false,false,false,false,false,false,false,false,false,false,false,false] (by kernel_rfl) rfl rfl ⟨bc aM.out 0,bc aM.out 1,bc aM.out 2,bc aM.out 3,bc aM.out 4,bc ag.out 0,bc ag.out 1,bc ag.out 2,bc ag.out 3,bc ag.out 4,(hB (bM HB.out) zS),(hB (bM HB.out) zT),(hB (bM HB.out) zU),(hB (bM HB.out) zV),(hB (bM HB.out) zW),(hB (bM HB.out) zX),(hB (bM HB.out) zY)⟩ (fun hHeld=> ?_);refine Zc6 Zak.tab9 Zak.bits9 (fun HT_ HW_=> ?_)
     generalize wr.drew=w49 at dL gH eU eX ag aQ aM HB NV NW NY Ez E8 E9 EB ED EE EF hHeld ⊢
     refine pu HT_ 0 55 ?_;refine pu HT_ 2 57 ?_;refine pu HT_ 4 59 ?_;refine tk HT_ HW_ hHeld 1 56 ?_;refine tk HT_ HW_ hHeld 3 58 ?_;refine pu HT_ 5 60 ?_;refine tk HT_ HW_ hHeld 6 61 ?_;refine on1 HT_ 7 62 (fun K hK=> ?_);refine gs Tryz.func10 #[.agg #[.int .i64 ((Zac aa aD).f0),.slice SL ((Zac aa aD).f1).length Tq,.slice SN ((Zac aa aD).f2).length Tt,.int .i64 ((Zac aa aD).f3),.int .i64 ((Zac aa aD).f4),.slice SQ ((Zac aa aD).f5).length Tu,.int .i64 ((Zac aa aD).f6)]] ?_
     with_reducible refine(Zb3.calls k2 ((Zac aa aD).f0) _ _ ((Zac aa aD).f1) _ _ ((Zac aa aD).f2) ((Zac aa aD).f3) ((Zac aa aD).f4) _ _ ((Zac aa aD).f5) ((Zac aa aD).f6) t213 Km Kn Ko Kq t222 Kr _ (cM (Kd.Zaf NV.out HB.out)) X4.out (cM (Kd.Zaf NW.out HB.out)) X5.out (cM (Kd.Zaf NY.out HB.out)) X6.out A44.out).mono ?_
     rintro e w50 ⟨tTa,v218,tUa,rfl,ho0,ho1,ho2,hb⟩;refine⟨_,rfl,?_⟩;replace dL:=Za.mk (Kd.Zc9 (sM dL.out) hb);replace gH:=Za.mk (Kd.Zaw (Kd.Zed (Kd.Zed (Kd.Zed (Kd.R_old (rM gH.out) hb) (Kd.Zb4 ho0)) (Kd.Zb4 ho1)) (Kd.S_base ho2)) (fun _ h_=>h_.1));have PN:=Za.mk (Kd.Zbp (Kd.Zcs (Kd.Zcs ho0 (Kd.R_lt (rM eU.out))) (Kd.R_lt (rM eX.out))) (Zaj (bM HB.out)));have PO:=Za.mk (Kd.Zbp (Kd.Zcs (Kd.Zcs ho1 (Kd.R_lt (rM eU.out))) (Kd.R_lt (rM eX.out))) (Zaj (bM HB.out)));have PP:=Za.mk (Kd.Zfg (Kd.S_new' (Kd.S_new' ho2 (Kd.R_lt (rM eU.out))) (Kd.R_lt (rM eX.out))) (Zaj (bM HB.out)));replace eU:=Za.mk (Kd.Zaw (Kd.Zed (Kd.Zed (Kd.R_old (rM eU.out) hb) (Kd.Zb4 ho0)) (Kd.Zb4 ho1)) (fun _ h_=>h_.1));replace eX:=Za.mk (Kd.Zaw (Kd.Zed (Kd.Zed (Kd.R_old (rM eX.out) hb) (Kd.Zb4 ho0)) (Kd.Zb4 ho1)) (fun _ h_=>h_.1));replace ag:=Za.mk (kB ag.out hb);replace aQ:=Za.mk (kB aQ.out hb);replace aM:=Za.mk (kB aM.out hb);replace HB:=Za.mk (bS HB.out hb)
     (try clear hb)
     (try clear hb2)
     (try clear hk)
     (try clear hi)
     (try clear ho0)
     (try clear ho1)
     (try clear ho2)
     obtain⟨hMa,hUa,ata⟩:=Kd.Za9 PN.out
     (first|subst ata|(injection ata with f1_ f2_ f3_;have f4_:=f1_.symm;have f5_:=f3_.symm;clear f1_ f2_ f3_;subst f4_;subst f5_))
     obtain⟨hNa,hVa,aua⟩:=Kd.Za9 PO.out
     (first|subst aua|(injection aua with f1_ f2_ f3_;have f4_:=f1_.symm;have f5_:=f3_.symm;clear f1_ f2_ f3_;subst f4_;subst f5_))
     obtain⟨hOa,hXa,ava⟩:=Kd.Zd7 PP.out
     (first|subst ava|(injection ava with f1_ f2_ f3_;have f4_:=f1_.symm;have f5_:=f3_.symm;clear f1_ f2_ f3_;subst f4_;subst f5_))
     refine hK.out _ _ ⟨bc aM.out 0,bc aM.out 1,bc aM.out 2,bc aM.out 3,bc aM.out 4,bc ag.out 0,bc ag.out 1,bc ag.out 2,bc ag.out 3,bc ag.out 4,(hB (bM HB.out) zS),(hB (bM HB.out) zT),(hB (bM HB.out) zU),(hB (bM HB.out) zV),(hB (bM HB.out) zW),(hB (bM HB.out) zX),(hB (bM HB.out) zY)⟩ (fun hHeld=> ?_);clear hK K;refine nmp 62 ?_;refine on1 HT_ 8 63 (fun K hK=> ?_);refine Zhj (w1:=?_) (v:=?_) (by rfl) rfl ?_ ?_;rotate_left 2
     ·go_simp
      constructor
      ·rfl
      rfl
     refine hK.out _ _ ⟨(Zah (Zaa aM.out _) 0).trans rfl,(Zah (Zaa aM.out _) 1).trans rfl,(Zah (Zaa aM.out _) 2).trans rfl,(Zah (Zaa aM.out _) 3).trans rfl,(Zah (Zaa aM.out _) 4).trans rfl,(Zah (Zaa ag.out _) 0).trans rfl,(Zah (Zaa ag.out _) 1).trans rfl,(Zah (Zaa ag.out _) 2).trans rfl,(Zah (Zaa ag.out _) 3).trans rfl,(Zah (Zaa ag.out _) 4).trans rfl,(World.cell?_alloc_lt _ _ _ (World.block_lt_of_cell? _ _ ((hB (bM HB.out) zS)))).trans ((hB (bM HB.out) zS)),(World.cell?_alloc_lt _ _ _ (World.block_lt_of_cell? _ _ ((hB (bM HB.out) zT)))).trans ((hB (bM HB.out) zT)),(World.cell?_alloc_lt _ _ _ (World.block_lt_of_cell? _ _ ((hB (bM HB.out) zU)))).trans ((hB (bM HB.out) zU)),(World.cell?_alloc_lt _ _ _ (World.block_lt_of_cell? _ _ ((hB (bM HB.out) zV)))).trans ((hB (bM HB.out) zV)),(World.cell?_alloc_lt _ _ _ (World.block_lt_of_cell? _ _ ((hB (bM HB.out) zW)))).trans ((hB (bM HB.out) zW)),(World.cell?_alloc_lt _ _ _ (World.block_lt_of_cell? _ _ ((hB (bM HB.out) zX)))).trans ((hB (bM HB.out) zX)),(World.cell?_alloc_lt _ _ _ (World.block_lt_of_cell? _ _ ((hB (bM HB.out) zY)))).trans ((hB (bM HB.out) zY))⟩ (fun hHeld=> ?_);clear hK K;refine nmp 63 ?_;refine on1 HT_ 9 64 (fun K hK=> ?_);refine Kd.Zeg k40 (w0:=w) w.heap.size (by rfl) (.tmp 56) (.tmp 63) 23 40 (.agg #[(.int .i64 0),(.slice none 0 0),(.slice none 0 0),(.int .i64 0),(.int .i64 0),(.slice none 0 0),(.int .i64 0)]) 104 rfl Tryz.underlying23 info40 rfl (by decide) (by omega) rT iU (⟨t213,Km,Kn,Ko,Kq,t222,Kr⟩:S40) [.int .i64 t213,.slice hMa Km.length hUa,.slice hNa Kn.length hVa,.int .i64 Ko,.int .i64 Kq,.slice hOa t222.length hXa,.int .i64 Kr] (fun k_=>some k_≠(.slice gT fP.length gW:Value).ownBlock∧some k_≠(.slice fe iB.length eQ:Value).ownBlock) (fun k_=>((fun k_=>some k_≠(.slice gT fP.length gW:Value).ownBlock∧some k_≠(.slice fe iB.length eQ:Value).ownBlock)) k_∧some k_≠(rT:Value).ownBlock) rfl rfl ?aP (fun _ hk=>hk) ?aF ?aO ?aB ?aS ?aL ?_
     (case aP=>exact k40_mkM _ _ _ (⟨t213,Km,Kn,Ko,Kq,t222,Kr⟩:S40) (Kd.Zaw (Kd.Zcp (PN.out) (Kd.Zdm gH.out) (by decide)) (fun k_ hk=>⟨⟨hk.1.1.2,hk.1.2⟩,hk.2⟩)) (Kd.Zaw (Kd.Zcp (PO.out) (Kd.Zdm gH.out) (by decide)) (fun k_ hk=>⟨⟨hk.1.1.2,hk.1.2⟩,hk.2⟩)) (Kd.Zaw (Kd.Zcp ((Kd.S_R PP.out)) (Kd.Zdm gH.out) (by decide)) (fun k_ hk=>⟨⟨hk.1.1.2,hk.1.2⟩,hk.2⟩)))
     (case aB=>exact(bM HB.out))
     (case aF=>exact(fun k_ hk=>⟨Kd.fresh' (Kd.R_lt (rM eU.out)) k_ hk,Kd.fresh' (Kd.R_lt (rM eX.out)) k_ hk⟩))
     (case aO=>exact(rM (Kd.Zaw gH.out (fun _ hk=>⟨hk.1.1.1.1,hk.1.1.1.2⟩))))
     (case aS=>exact(Zaj (bM HB.out)))
     (case aL=>have:=coa.out;omega)
     intro v227 w51 ho hb hg hat;rw[←c7a.out]at ho;replace dL:=Za.mk (Kd.Zfw (sM dL.out) (Kd.Zdm (rM gH.out)) (by decide) hg);replace eU:=Za.mk (Kd.Zdy (rM eU.out) (Kd.Zdm (rM gH.out)) (by decide) hg);replace eX:=Za.mk (Kd.Zdy (rM eX.out) (Kd.Zdm (rM gH.out)) (by decide) hg);replace ag:=Za.mk (kG ag.out hg (Kd.R_ne gH.out ag.out (by decide)));replace aQ:=Za.mk (kG aQ.out hg (Kd.R_ne gH.out aQ.out (by decide)));replace aM:=Za.mk (kG aM.out hg (Kd.R_ne gH.out aM.out (by decide)));replace HB:=Za.mk (hb);have Vr:=Za.mk (ho);clear gH PN PO PP ho hb hg hat;obtain⟨M4,MB,axa⟩:=Kd.Za9 Vr.out
     (first|subst axa|(injection axa with f1_ f2_ f3_;have f4_:=f1_.symm;have f5_:=f3_.symm;clear f1_ f2_ f3_;subst f4_;subst f5_))
     refine hK.out _ _ ⟨bc aM.out 0,bc aM.out 1,bc aM.out 2,bc aM.out 3,bc aM.out 4,bc ag.out 0,bc ag.out 1,bc ag.out 2,bc ag.out 3,bc ag.out 4,(hB (bM HB.out) zS),(hB (bM HB.out) zT),(hB (bM HB.out) zU),(hB (bM HB.out) zV),(hB (bM HB.out) zW),(hB (bM HB.out) zX),(hB (bM HB.out) zY)⟩ (fun hHeld=> ?_);clear hK K;refine nmp 64 ?_;refine pu HT_ 10 65 ?_;refine last_ (i:=11) (N:=none) #[true,true,true,true,true,true,true,true,true,true,true,true] rfl rfl (Ze8 HT_.out (by kernel_rfl)) (by decide) (fun K hK=> ?_);have hs56:w51.cell? ⟨aA,1,none⟩=some (rT):=(Zah aM.out 1).trans rfl;have hfs56:=Zam aM.out 1;have hns56_0:=aU.out;have hns56_1:=cu.out;have hms56_0:=cK.out;have hms56_1:=d9.out;refine skip_ (w1:=?_) (by rfl) rfl ?_ ?_;rotate_left
     ·go_simp
      rfl
     refine hK.out _ _ ?_;clear hK K;refine Zfb (Zdw HT_.out (by kernel_rfl)) ?_;try go_wp2
     go_roundg k2
     case measure=>have:=HK1.out;have:=HK2.out;omega
     case rel=>exact⟨(wrap64 (aD+1)),(G9),(.slice M4 G9.length MB),eS,H',⟨by have:=HK1.out;have:=HK2.out;omega⟩,⟨sM (Kd.Zcu (Kd.Zb2 (p:=⟨aA,1,none⟩) (Kd.Zcy dL.out aM.out (by decide)) (fun _ hk=>hk.2) (.slice M4 G9.length MB)) (fun _ hk=>trivial))⟩,⟨rM (Kd.Zaw (Kd.Za2 (p:=⟨aA,1,none⟩) (Kd.Zbh Vr.out aM.out (by decide)) (fun _ hk=>hk.2) (.slice M4 G9.length MB)) (fun _ hk=>⟨hk.1.1,hk.1.2⟩))⟩,⟨rM (Kd.Zaw (Kd.Za2 (p:=⟨aA,1,none⟩) (Kd.Zbh eU.out aM.out (by decide)) (fun _ hk=>hk.2) (.slice M4 G9.length MB)) (fun _ hk=>hk.1.1.1))⟩,⟨rM (Kd.Zaw (Kd.Za2 (p:=⟨aA,1,none⟩) (Kd.Zbh eX.out aM.out (by decide)) (fun _ hk=>hk.2) (.slice M4 G9.length MB)) (fun _ hk=>hk.1.1.1))⟩,⟨by(with_reducible repeat(first|refine Zab ?_ _|refine Zad ?_|refine Zaa ?_ _));refine Zav ?_ aU.out _;(with_reducible repeat(first|refine Zab ?_ _|refine Zad ?_|refine Zaa ?_ _));exact ag.out⟩,⟨by(with_reducible repeat(first|refine Zab ?_ _|refine Zad ?_|refine Zaa ?_ _));refine Zav ?_ cu.out _;(with_reducible repeat(first|refine Zab ?_ _|refine Zad ?_|refine Zaa ?_ _));exact aQ.out⟩,⟨by(with_reducible repeat(first|refine Zab ?_ _|refine Zad ?_|refine Zaa ?_ _));refine Zas (cs:=#[lX,rT,.int .i64 aj,.slice gT fP.length gW,.slice fe iB.length eQ]) ?_ 1 _ rfl;(with_reducible repeat(first|refine Zab ?_ _|refine Zad ?_|refine Zaa ?_ _));exact aM.out⟩,⟨bM HB.out⟩⟩
end Go.Proofs.YtkgjaklnbgdmiaaGreat.P
namespace Go.Proofs.YtkgjaklnbgdmiaaGreat.P
open Go.RowKit Go.Proofs.YtkgjaklnbgdmiaaGreatW.PrintWords Go.Proofs.YtkgjaklnbgdmiaaGreatW.PrintLast Go.Proofs.YtkgjaklnbgdmiaaGreatW.PrintMore
attribute [local go_sem] Zci Zck Zc3 Zc4 Zcb Zcc Zcj Zcl
attribute [local go_sem high] eqA59
def Zbr.l0 : Nat → List (S59) → List (S59) → Int → Option (Bool)
 | 0, _, _, _ => none
 |k+1,x0,x1,x5=>if x5<(x0.length:Int)then(if 0≤x5 then(if x5<(x1.length:Int)then(if(!(((Zba x0 x5).f0)==((Zba x1 x5).f0))||(!(((Zba x0 x5).f1)==((Zba x1 x5).f1))))=true then(some false)else(Zbr.l0 k x0 x1 (wrap64 (x5+1))))else(none))else(none))else(some true)
def Zbr.f (k:Nat) (l0:List (S59)) (l1:List (S59)):Option (Bool):=if(l0.length:Int)=(l1.length:Int)then(Zbr.l0 k l0 l1 0)else(some false)
set_option maxRecDepth 100000 in
theorem Zbr.calls (k : Nat) (A0 : Option Addr) (c0 : Nat) (l0 : List (S59)) (A1 : Option Addr) (c1 : Nat) (l1 : List (S59)) (r : Bool) (w : World) (hr0 : Kd.C k59 w A0 l0.length l0) (hc0 : l0.length ≤ c0) (hr1 : Kd.C k59 w A1 l1.length l1) (hc1 : l1.length ≤ c1) (h : Zbr.f k l0 l1 = some r) :
  Calls Tryz.prog 22 #[.slice A0 l0.length c0,.slice A1 l1.length c1] w fun e w'=>e= .returned (.bool r)∧Za1 w w':=by
 have hu59:=Tryz.underlying59;have HR0:=Za.mk hr0;have HC0:=Za.mk hc0;clear hr0 hc0;have HR1:=Za.mk hr1;have HC1:=Za.mk hc1;clear hr1 hc1;have H:(if(l0.length:Int)=(l1.length:Int)then(Zbr.l0 k l0 l1 0)else(some false))=some r:=h;clear h;by_cases c3:(l0.length:Int)=(l1.length:Int)
 case neg=>
  rw[if_neg c3]at H;have gL:((l0.length:Int)==(l1.length:Int))=false:=beq_eq_false_iff_ne.mpr c3;have lV:((l0.length:Int) !=(l1.length:Int))=true:=bne_iff_ne.mpr c3;have qB:(l0.length==l1.length)=false:=by first|simpa using c3|(simp at c3 ⊢;omega)
  obtain rfl:=sj H;go_enter Tryz.func22,Tryz.ntmps22;go_wp2
  repeat(go_quiet (fail);try go_wp2)
  go_ret;exact⟨eS,by repeat(first|exact Za1.refl _|apply Za1.step)⟩
 rw[if_pos c3]at H;have gL:((l0.length:Int)==(l1.length:Int))=true:=beq_iff_eq.mpr c3;have lV:((l0.length:Int) !=(l1.length:Int))=false:=bne_eq_false_iff_eq.mpr c3;have qB:(l0.length==l1.length)=true:=by first|simpa using c3|(simp at c3 ⊢;omega)
 clear c3;have H':=Za.mk H;clear H;go_enter Tryz.func22,Tryz.ntmps22;go_wp2
 repeat(go_quiet (fail);try go_wp2)
 go_loopg [5] k (fun kq v5 w'=>∃(aH:Int),v5= .int .i64 aH∧Za (Zbr.l0 kq l0 l1 aH=some r)∧Za (kq≤k)∧Za1 w w')
 case atStart=>exact⟨(0),eS,H',⟨Nat.le_refl _⟩,by repeat(first|exact Za1.refl _|apply Za1.step)⟩
 case round=>
  clear H';try clear c1
  try clear c2
  try clear p2
  try clear c3
  try clear gL
  try clear lV
  try clear qB
  obtain⟨aH,rfl,HA,HK1,⟨m1,rfl⟩⟩:=hrel
  cases gk with
  | zero => exact absurd HA.out (by simp [Zbr.l0])
  |succ k1=>
   have H:=HA.out;clear HA;simp only[Zbr.l0]at H;by_cases c4:aH<(l0.length:Int)
   case neg=>
    rw[if_neg c4]at H;have dV:decide (aH<(l0.length:Int))=false:=decide_eq_false c4;clear c4;obtain rfl:=sj H;go_wp2
    repeat(go_quiet (fail);try go_wp2)
    go_ret;exact⟨eS,by repeat(first|exact Za1.refl _|apply Za1.step)⟩
   rw[if_pos c4]at H;have dV:decide (aH<(l0.length:Int))=true:=decide_eq_true c4;clear c4;obtain⟨dS,H⟩:=ifT H;obtain⟨jh,H⟩:=ifT H;by_cases c7:(!(((Zba l0 aH).f0)==((Zba l1 aH).f0))||(!(((Zba l0 aH).f1)==((Zba l1 aH).f1))))=true
   case pos=>
    rw[if_pos c7]at H;have mV:(!(((Zba l0 aH).f0)==((Zba l1 aH).f0))||(!(((Zba l0 aH).f1)==((Zba l1 aH).f1))))=true:=c7;clear c7;obtain rfl:=sj H;have iHa:(0≤(aH:Int))=True:=teq;have iWa:(aH<(l0.length:Int))=True:=teq;obtain⟨cWa,rfl,Yl,Ym⟩:=Zd0 HR0.out aH odt odt;have iIa:(0≤(aH:Int))=True:=teq;have iXa:(aH<(l1.length:Int))=True:=teq;obtain⟨cXa,rfl,Yn,Yo⟩:=Zd0 HR1.out aH odt odt;go_wp2
    repeat(go_quiet (fail);try go_wp2)
    go_ret;exact⟨eS,by repeat(first|exact Za1.refl _|apply Za1.step)⟩
   rw[if_neg c7]at H;have mV:(!(((Zba l0 aH).f0)==((Zba l1 aH).f0))||(!(((Zba l0 aH).f1)==((Zba l1 aH).f1))))=false:=by simpa using c7
   clear c7;have H':=Za.mk H;clear H;have iHa:(0≤(aH:Int))=True:=teq;have iWa:(aH<(l0.length:Int))=True:=teq;obtain⟨cWa,rfl,Yl,Ym⟩:=Zd0 HR0.out aH odt odt;have iIa:(0≤(aH:Int))=True:=teq;have iXa:(aH<(l1.length:Int))=True:=teq;obtain⟨cXa,rfl,Yn,Yo⟩:=Zd0 HR1.out aH odt odt;go_wp2
   repeat(go_quiet (fail);try go_wp2)
   go_roundg k1
   case measure=>have:=HK1.out;omega
   case rel=>exact⟨(wrap64 (aH+1)),eS,H',⟨by have:=HK1.out;omega⟩,by repeat(first|exact Za1.refl _|apply Za1.step)⟩
end Go.Proofs.YtkgjaklnbgdmiaaGreat.P
namespace Go.Proofs.YtkgjaklnbgdmiaaGreat.P
open Go.RowKit Go.Proofs.YtkgjaklnbgdmiaaGreatW.PrintWords Go.Proofs.YtkgjaklnbgdmiaaGreatW.PrintLast Go.Proofs.YtkgjaklnbgdmiaaGreatW.PrintMore
attribute [local go_sem] Zci Zck Zc3 Zc4 Zcb Zcc Zcj Zcl
def Zcn.f (k:Nat) (bB:Int) (aa:List Int) (aT:List Int) (bz:Int) (bG:Int) (aW:List (List Int)) (bH:Int) (aN:Int) (ay:List Int) (aX:List Int) (df:Int) (dh:Int) (bE:List (List Int)) (cO:Int):Option (Bool):=if bB=aN then(if bz=df then(if bG=dh then(if bH=cO then((Zau.f k aa ay).bind fun Nr=>(if Nr=true then((Zau.f k aT aX).bind fun Ns=>(if Ns=true then((Zbq.f k aW bE).bind fun Nt=>(some Nt))else(some false)))else(some false)))else(some false))else(some false))else(some false))else(some false)
set_option maxRecDepth 100000 in
theorem Zcn.calls (k : Nat) (bB : Int) (aI : Option Addr) (aG : Nat) (aa : List Int) (dJ : Option Addr) (dK : Nat) (aT : List Int) (bz : Int) (bG : Int) (dI : Option Addr) (dH : Nat) (aW : List (List Int)) (bH : Int) (aN : Int) (eF : Option Addr) (dU : Nat) (ay : List Int) (fG : Option Addr) (fH : Nat) (aX : List Int) (df : Int) (dh : Int) (jv : Option Addr) (j5 : Nat) (bE : List (List Int)) (cO : Int) (r : Bool) (w : World) (eO : Kd.C (Kd.int .i64) w aI aa.length aa) (eH : aa.length ≤ aG) (kE : Kd.C (Kd.int .i64) w dJ aT.length aT) (kw : aT.length ≤ dK) (kJ : Kd.C (Kd.slice 3 (Kd.int .i64)) w dI aW.length aW) (kD : aW.length ≤ dH) (lD : Kd.C (Kd.int .i64) w eF ay.length ay) (l9 : ay.length ≤ dU) (mO : Kd.C (Kd.int .i64) w fG aX.length aX) (mM : aX.length ≤ fH) (sQ : Kd.C (Kd.slice 3 (Kd.int .i64)) w jv bE.length bE) (sP : bE.length ≤ j5) (h : Zcn.f k bB aa aT bz bG aW bH aN ay aX df dh bE cO = some r) :
  Calls Tryz.prog 23 #[.agg #[.int .i64 bB,.slice aI aa.length aG,.slice dJ aT.length dK,.int .i64 bz,.int .i64 bG,.slice dI aW.length dH,.int .i64 bH],.agg #[.int .i64 aN,.slice eF ay.length dU,.slice fG aX.length fH,.int .i64 df,.int .i64 dh,.slice jv bE.length j5,.int .i64 cO]] w fun e w'=>e= .returned (.bool r)∧Below w.heap.size w w':=by
 have hu40:=Tryz.underlying40;have fE:=Za.mk eO;have gU:=Za.mk eH;clear eO eH;have nL:=Za.mk kE;have oG:=Za.mk kw;clear kE kw;have lS:=Za.mk kJ;have qN:=Za.mk kD;clear kJ kD;have gz:=Za.mk lD;have iE:=Za.mk l9;clear lD l9;have gM:=Za.mk mO;have iW:=Za.mk mM;clear mO mM;have lT:=Za.mk sQ;have lK:=Za.mk sP;clear sQ sP;have HB:=Za.mk (Below.refl w.heap.size w);have H:(if bB=aN then(if bz=df then(if bG=dh then(if bH=cO then((Zau.f k aa ay).bind fun Nr=>(if Nr=true then((Zau.f k aT aX).bind fun Ns=>(if Ns=true then((Zbq.f k aW bE).bind fun Nt=>(some Nt))else(some false)))else(some false)))else(some false))else(some false))else(some false))else(some false))=some r:=h;clear h;by_cases c3:bB=aN
 case neg=>
  rw[if_neg c3]at H;have gL:(bB==aN)=false:=beq_eq_false_iff_ne.mpr c3;have lV:(bB !=aN)=true:=bne_iff_ne.mpr c3;obtain rfl:=sj H;go_enter Tryz.func23,Tryz.ntmps23
  go_wp2_with (first|((with_reducible refine Zap (N:=2) rfl ?_);refine bx 2 #[.int .i64 bB,.slice aI aa.length aG,.slice dJ aT.length dK,.int .i64 bz,.int .i64 bG,.slice dI aW.length dH,.int .i64 bH] 40 ?_;intro ja hg w42 hbox hb;have fD:=Za.mk (hbox);have Em:=Za.mk ((gE hg HB.out:w.heap.size≤ja));replace HB:=Za.mk (bS HB.out hb);clear hb hbox hg)|((with_reducible refine Zap (N:=3) rfl ?_);refine bx 3 #[.int .i64 aN,.slice eF ay.length dU,.slice fG aX.length fH,.int .i64 df,.int .i64 dh,.slice jv bE.length j5,.int .i64 cO] 40 ?_;intro jb hg w43 hbox hb;have pE:=Za.mk (hbox);have En:=Za.mk ((gE hg HB.out:w.heap.size≤jb));replace HB:=Za.mk (bS HB.out hb);have jN:=Za.mk ((by rw[hg];exact Nat.ne_of_lt (Zbj (kM fD.out)):ja≠jb));have jO:=Za.mk ((by rw[hg];exact Nat.ne_of_gt (Zbj (kM fD.out)):jb≠ja));replace fD:=Za.mk (kB fD.out hb);clear hb hbox hg;have dJa:=jN.out;have dXa:=jO.out;obtain⟨J7,J8,J9,JA,JB,g7a,g8a,Jt,Ju,Jv,Jw,Jy,eOa,ePa⟩:=cz7 fD.out;obtain⟨g9a,gAa,gBa,gCa,gDa,q4a,q5a,eQa,eRa,eSa,eTa,eUa,nqa,nra⟩:=cz7 pE.out))
  go_ret;exact⟨eR,bM HB.out⟩
 rw[if_pos c3]at H;have gL:(bB==aN)=true:=beq_iff_eq.mpr c3;have lV:(bB !=aN)=false:=bne_eq_false_iff_eq.mpr c3;clear c3;by_cases c4:bz=df
 case neg=>
  rw[if_neg c4]at H;have dV:(bz==df)=false:=beq_eq_false_iff_ne.mpr c4;have um:(bz !=df)=true:=bne_iff_ne.mpr c4;obtain rfl:=sj H;go_enter Tryz.func23,Tryz.ntmps23
  go_wp2_with (first|((with_reducible refine Zap (N:=2) rfl ?_);refine bx 2 #[.int .i64 bB,.slice aI aa.length aG,.slice dJ aT.length dK,.int .i64 bz,.int .i64 bG,.slice dI aW.length dH,.int .i64 bH] 40 ?_;intro ja hg w37 hbox hb;have fD:=Za.mk (hbox);have Em:=Za.mk ((gE hg HB.out:w.heap.size≤ja));replace HB:=Za.mk (bS HB.out hb);clear hb hbox hg)|((with_reducible refine Zap (N:=3) rfl ?_);refine bx 3 #[.int .i64 aN,.slice eF ay.length dU,.slice fG aX.length fH,.int .i64 df,.int .i64 dh,.slice jv bE.length j5,.int .i64 cO] 40 ?_;intro jb hg w38 hbox hb;have pE:=Za.mk (hbox);have En:=Za.mk ((gE hg HB.out:w.heap.size≤jb));replace HB:=Za.mk (bS HB.out hb);have jN:=Za.mk ((by rw[hg];exact Nat.ne_of_lt (Zbj (kM fD.out)):ja≠jb));have jO:=Za.mk ((by rw[hg];exact Nat.ne_of_gt (Zbj (kM fD.out)):jb≠ja));replace fD:=Za.mk (kB fD.out hb);clear hb hbox hg;have dGa:=jN.out;have dUa:=jO.out;obtain⟨gva,gwa,gxa,gya,gza,g0a,g1a,eCa,eDa,eEa,eFa,eGa,eHa,eIa⟩:=cz7 fD.out;obtain⟨Mq,Mr,Ms,Mt,Mw,q2a,q3a,LK,LM,LP,LQ,LU,noa,npa⟩:=cz7 pE.out))
  go_ret;exact⟨eR,bM HB.out⟩
 rw[if_pos c4]at H;have dV:(bz==df)=true:=beq_iff_eq.mpr c4;have um:(bz !=df)=false:=bne_eq_false_iff_eq.mpr c4;clear c4;by_cases c5:bG=dh
 case neg=>
  rw[if_neg c5]at H;have dS:(bG==dh)=false:=beq_eq_false_iff_ne.mpr c5;have oV:(bG !=dh)=true:=bne_iff_ne.mpr c5;obtain rfl:=sj H;go_enter Tryz.func23,Tryz.ntmps23
  go_wp2_with (first|((with_reducible refine Zap (N:=2) rfl ?_);refine bx 2 #[.int .i64 bB,.slice aI aa.length aG,.slice dJ aT.length dK,.int .i64 bz,.int .i64 bG,.slice dI aW.length dH,.int .i64 bH] 40 ?_;intro ja hg w32 hbox hb;have fD:=Za.mk (hbox);have Em:=Za.mk ((gE hg HB.out:w.heap.size≤ja));replace HB:=Za.mk (bS HB.out hb);clear hb hbox hg)|((with_reducible refine Zap (N:=3) rfl ?_);refine bx 3 #[.int .i64 aN,.slice eF ay.length dU,.slice fG aX.length fH,.int .i64 df,.int .i64 dh,.slice jv bE.length j5,.int .i64 cO] 40 ?_;intro jb hg w33 hbox hb;have pE:=Za.mk (hbox);have En:=Za.mk ((gE hg HB.out:w.heap.size≤jb));replace HB:=Za.mk (bS HB.out hb);have jN:=Za.mk ((by rw[hg];exact Nat.ne_of_lt (Zbj (kM fD.out)):ja≠jb));have jO:=Za.mk ((by rw[hg];exact Nat.ne_of_gt (Zbj (kM fD.out)):jb≠ja));replace fD:=Za.mk (kB fD.out hb);clear hb hbox hg;have dFa:=jN.out;have dTa:=jO.out;obtain⟨gia,gja,gka,gla,gma,qra,qsa,e0a,e1a,e2a,e3a,e4a,nda,nea⟩:=cz7 fD.out;obtain⟨gna,goa,qta,qua,qva,qwa,qxa,e5a,e6a,nfa,nga,nha,nia,nja⟩:=cz7 pE.out))
  go_ret;exact⟨eR,bM HB.out⟩
 rw[if_pos c5]at H;have dS:(bG==dh)=true:=beq_iff_eq.mpr c5;have oV:(bG !=dh)=false:=bne_eq_false_iff_eq.mpr c5;clear c5;by_cases c6:bH=cO
 case neg=>
  rw[if_neg c6]at H;have jh:(bH==cO)=false:=beq_eq_false_iff_ne.mpr c6;have qY:(bH !=cO)=true:=bne_iff_ne.mpr c6;obtain rfl:=sj H;go_enter Tryz.func23,Tryz.ntmps23
  go_wp2_with (first|((with_reducible refine Zap (N:=2) rfl ?_);refine bx 2 #[.int .i64 bB,.slice aI aa.length aG,.slice dJ aT.length dK,.int .i64 bz,.int .i64 bG,.slice dI aW.length dH,.int .i64 bH] 40 ?_;intro ja hg w27 hbox hb;have fD:=Za.mk (hbox);have Em:=Za.mk ((gE hg HB.out:w.heap.size≤ja));replace HB:=Za.mk (bS HB.out hb);clear hb hbox hg)|((with_reducible refine Zap (N:=3) rfl ?_);refine bx 3 #[.int .i64 aN,.slice eF ay.length dU,.slice fG aX.length fH,.int .i64 df,.int .i64 dh,.slice jv bE.length j5,.int .i64 cO] 40 ?_;intro jb hg w28 hbox hb;have pE:=Za.mk (hbox);have En:=Za.mk ((gE hg HB.out:w.heap.size≤jb));replace HB:=Za.mk (bS HB.out hb);have jN:=Za.mk ((by rw[hg];exact Nat.ne_of_lt (Zbj (kM fD.out)):ja≠jb));have jO:=Za.mk ((by rw[hg];exact Nat.ne_of_gt (Zbj (kM fD.out)):jb≠ja));replace fD:=Za.mk (kB fD.out hb);clear hb hbox hg;have Wq:=jN.out;have Wt:=jO.out;obtain⟨Mk,Ml,Sr,Su,Sv,fTa,fUa,LF,LG,Rz,R3,R4,ema,ena⟩:=cz7 fD.out;obtain⟨Sw,Sy,Sz,S9,SA,fVa,fWa,R5,R6,R7,R8,R9,eoa,epa⟩:=cz7 pE.out))
  go_ret;exact⟨eR,bM HB.out⟩
 rw[if_pos c6]at H;have jh:(bH==cO)=true:=beq_iff_eq.mpr c6;have qY:(bH !=cO)=false:=bne_eq_false_iff_eq.mpr c6;clear c6;obtain⟨Nr,A7,H⟩:=bnd H;try dsimp only at H
 by_cases c8:Nr=true
 case neg=>
  replace c8:=Bool.eq_false_iff.mpr c8;subst c8;replace H:=ifF H;obtain rfl:=sj H;go_enter Tryz.func23,Tryz.ntmps23
  go_wp2_with (first|((with_reducible refine Zap (N:=2) rfl ?_);refine bx 2 #[.int .i64 bB,.slice aI aa.length aG,.slice dJ aT.length dK,.int .i64 bz,.int .i64 bG,.slice dI aW.length dH,.int .i64 bH] 40 ?_;intro ja hg w22 hbox hb;have fD:=Za.mk (hbox);have Em:=Za.mk ((gE hg HB.out:w.heap.size≤ja));replace HB:=Za.mk (bS HB.out hb);clear hb hbox hg)|((with_reducible refine Zap (N:=3) rfl ?_);refine bx 3 #[.int .i64 aN,.slice eF ay.length dU,.slice fG aX.length fH,.int .i64 df,.int .i64 dh,.slice jv bE.length j5,.int .i64 cO] 40 ?_;intro jb hg w23 hbox hb;have pE:=Za.mk (hbox);have En:=Za.mk ((gE hg HB.out:w.heap.size≤jb));replace HB:=Za.mk (bS HB.out hb);have jN:=Za.mk ((by rw[hg];exact Nat.ne_of_lt (Zbj (kM fD.out)):ja≠jb));have jO:=Za.mk ((by rw[hg];exact Nat.ne_of_gt (Zbj (kM fD.out)):jb≠ja));replace fD:=Za.mk (kB fD.out hb);clear hb hbox hg;have dCa:=jN.out;have dQa:=jO.out;obtain⟨Sc,Sd,Sg,Si,Sj,qia,qja,Ro,Rp,Rq,Rs,Rt,mTa,mUa⟩:=cz7 fD.out;obtain⟨J5,J6,Mh,Mi,Mj,fPa,fQa,Jr,Js,LB,LC,LD,eia,eja⟩:=cz7 pE.out)|(go_at_call 21;(with_reducible refine(Zau.calls k _ _ aa _ _ ay false _ (cM (Kd.Zaf fE.out HB.out)) gU.out (cM (Kd.Zaf gz.out HB.out)) iE.out A7.out).mono ?_);rintro e w' ⟨rfl,⟨nd,rfl⟩⟩))
  go_ret;exact⟨eR,bM HB.out⟩
 subst c8;rw[if_pos rfl]at H;obtain⟨Ns,A9,H⟩:=bnd H;try dsimp only at H
 by_cases c10:Ns=true
 case neg=>
  replace c10:=Bool.eq_false_iff.mpr c10;subst c10;replace H:=ifF H;obtain rfl:=sj H;go_enter Tryz.func23,Tryz.ntmps23
  go_wp2_with (first|((with_reducible refine Zap (N:=2) rfl ?_);refine bx 2 #[.int .i64 bB,.slice aI aa.length aG,.slice dJ aT.length dK,.int .i64 bz,.int .i64 bG,.slice dI aW.length dH,.int .i64 bH] 40 ?_;intro ja hg w17 hbox hb;have fD:=Za.mk (hbox);have Em:=Za.mk ((gE hg HB.out:w.heap.size≤ja));replace HB:=Za.mk (bS HB.out hb);clear hb hbox hg)|((with_reducible refine Zap (N:=3) rfl ?_);refine bx 3 #[.int .i64 aN,.slice eF ay.length dU,.slice fG aX.length fH,.int .i64 df,.int .i64 dh,.slice jv bE.length j5,.int .i64 cO] 40 ?_;intro jb hg w18 hbox hb;have pE:=Za.mk (hbox);have En:=Za.mk ((gE hg HB.out:w.heap.size≤jb));replace HB:=Za.mk (bS HB.out hb);have jN:=Za.mk ((by rw[hg];exact Nat.ne_of_lt (Zbj (kM fD.out)):ja≠jb));have jO:=Za.mk ((by rw[hg];exact Nat.ne_of_gt (Zbj (kM fD.out)):jb≠ja));replace fD:=Za.mk (kB fD.out hb);clear hb hbox hg;have dBa:=jN.out;have dPa:=jO.out;obtain⟨uO,uP,yx,CY,Da,Xe,Xf,uH,uI,xV,Cn,Co,WC,WE⟩:=cz7 fD.out;obtain⟨J3,J4,RQ,RS,RV,RX,RY,Jp,Jq,Rh,Ri,Rj,Rk,Rl⟩:=cz7 pE.out)|(go_at_call 21;(with_reducible refine(Zau.calls k _ _ aa _ _ ay true _ (cM (Kd.Zaf fE.out HB.out)) gU.out (cM (Kd.Zaf gz.out HB.out)) iE.out A7.out).mono ?_);rintro e w' ⟨rfl,⟨nd,rfl⟩⟩)|(go_at_call 21;(with_reducible refine(Zau.calls k _ _ aT _ _ aX false _ (cM (Kd.Zaf nL.out (bM HB.out))) oG.out (cM (Kd.Zaf gM.out (bM HB.out))) iW.out A9.out).mono ?_);rintro e w' ⟨rfl,⟨nd,rfl⟩⟩))
  go_ret;exact⟨eR,bM HB.out⟩
 subst c10;rw[if_pos rfl]at H;obtain⟨Nt,A11,H⟩:=bnd H;try dsimp only at H
 obtain rfl:=sj H;go_enter Tryz.func23,Tryz.ntmps23
 go_wp2_with (first|((with_reducible refine Zap (N:=2) rfl ?_);refine bx 2 #[.int .i64 bB,.slice aI aa.length aG,.slice dJ aT.length dK,.int .i64 bz,.int .i64 bG,.slice dI aW.length dH,.int .i64 bH] 40 ?_;intro ja hg w12 hbox hb;have fD:=Za.mk (hbox);have Em:=Za.mk ((gE hg HB.out:w.heap.size≤ja));replace HB:=Za.mk (bS HB.out hb);clear hb hbox hg)|((with_reducible refine Zap (N:=3) rfl ?_);refine bx 3 #[.int .i64 aN,.slice eF ay.length dU,.slice fG aX.length fH,.int .i64 df,.int .i64 dh,.slice jv bE.length j5,.int .i64 cO] 40 ?_;intro jb hg w13 hbox hb;have pE:=Za.mk (hbox);have En:=Za.mk ((gE hg HB.out:w.heap.size≤jb));replace HB:=Za.mk (bS HB.out hb);have jN:=Za.mk ((by rw[hg];exact Nat.ne_of_lt (Zbj (kM fD.out)):ja≠jb));have jO:=Za.mk ((by rw[hg];exact Nat.ne_of_gt (Zbj (kM fD.out)):jb≠ja));replace fD:=Za.mk (kB fD.out hb);clear hb hbox hg;have lAa:=jN.out;have mka:=jO.out;obtain⟨yn,yo,yt,CW,CX,Fw,Fx,xP,xQ,xR,Ck,Cm,EW,EX⟩:=cz7 fD.out;obtain⟨uL,uM,uN,vG,vH,Fy,Fz,uE,uF,uG,vE,vF,EY,Fa⟩:=cz7 pE.out)|(go_at_call 21;(with_reducible refine(Zau.calls k _ _ aa _ _ ay true _ (cM (Kd.Zaf fE.out HB.out)) gU.out (cM (Kd.Zaf gz.out HB.out)) iE.out A7.out).mono ?_);rintro e w' ⟨rfl,⟨nd,rfl⟩⟩)|(go_at_call 21;(with_reducible refine(Zau.calls k _ _ aT _ _ aX true _ (cM (Kd.Zaf nL.out (bM HB.out))) oG.out (cM (Kd.Zaf gM.out (bM HB.out))) iW.out A9.out).mono ?_);rintro e w' ⟨rfl,⟨nd,rfl⟩⟩)|(go_at_call 41;(with_reducible refine(Zbq.calls k _ _ aW _ _ bE Nt _ (cM (Kd.Zaf lS.out (bM HB.out))) qN.out (cM (Kd.Zaf lT.out (bM HB.out))) lK.out A11.out).mono ?_);rintro e w' ⟨rfl,⟨nd,rfl⟩⟩))
 go_ret;exact⟨eR,bM HB.out⟩
end Go.Proofs.YtkgjaklnbgdmiaaGreat.P
