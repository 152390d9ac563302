/- Proved: the statement MeaningDoms. Conditions: none but those of the statement. -/
import Derived.Test.YtdpieallpbllkaaGreatZ2
import Derived.Test.YtdpieallpbllkaaGreatZ5
import Derived.Deep.RegionHeld3
import Derived.Deep.DrawnRows
import Derived.Test.YtdpieallpbllkaaGreatZ1
import Derived.Test.YtdpieallpbllkaaGreatZ6
import Derived.Test.YtdpieallpbllkaaGreatU1
import Derived.Deep.Slices
import Derived.ChangeArms
import Derived.DataReads
import Derived.SizedLaws
import Derived.Test.YtdpieallpbllkaaGreatRows
import Derived.WalkKit
import Derived.ProofKit
import Derived.OpenShut
import Derived.ShutString
import Derived.ChangeOld
import Derived.Below
/- Plain: the document's comparison of lists of lists. -/
set_option linter.unusedSimpArgs false
set_option linter.unusedVariables false
set_option maxHeartbeats 8000000
namespace Go.Proofs.YtdpieallpbllkaaGreat.P
open Go.RowKit Go.Proofs.YtdpieallpbllkaaGreatW.PrintWords Go.Proofs.YtdpieallpbllkaaGreatW.PrintLast Go.Proofs.YtdpieallpbllkaaGreatW.PrintMore
theorem rdL_n2 (xs:List (List Int)) (n:Nat) (h:n<xs.length):Zck xs (n:Int)=xs[n]:=by simp[Zck,List.getD_eq_getElem?_getD,List.getElem?_eq_getElem h]
theorem ref_Lists_l (a b:List (List Int)) (ha:a.length<4611686018427387904) (hin:∀x ∈ a,x.length<4611686018427387904) (hl:a.length=b.length):∀(r n:Nat),n+r=a.length→Ev (fun k=>Zar.l0 k a b (n:Int)) (decide (a.drop n=b.drop n)):=by
  intro r
  induction r with
  |zero=>
    intro n h;rw[List.drop_of_length_le (by omega),List.drop_of_length_le (by omega)];exact Ev.step (G:=fun _=>some true) (fun k=>by rw[Zar.l0,if_neg (by omega)]) (Ev.const (by simp))
  |succ r ih=>
    intro n h;have hna:n<a.length:=by omega
    have hnb:n<b.length:=by omega
    have hN:=ref_Nums a[n] b[n] (hin _ (List.getElem_mem hna));refine Ev.step (fun k=>by rw[Zar.l0,if_pos (by omega),if_pos (by omega),if_pos (by omega),rdL_n2 a n hna,rdL_n2 b n hnb,w1 (by omega)]) (Ev.bind hN ?_);rw[List.drop_eq_getElem_cons hna,List.drop_eq_getElem_cons hnb];by_cases e:a[n]=b[n]
    · simp only [e, decide_true, if_true, List.cons.injEq, true_and]
      exact ih (n+1) (by omega)
    simp only[e,decide_false,Bool.false_eq_true,if_false,List.cons.injEq,false_and];exact Ev.pure _
theorem ref_Lists (a b:List (List Int)) (ha:a.length<4611686018427387904) (hin:∀x ∈ a,x.length<4611686018427387904):Ev (fun k=>Zar.f k a b) (decide (a=b)):=by
  unfold Zar.f;by_cases h:a.length=b.length
  · exact Ev.Zaj (by omega) (ref_Lists_l a b ha hin h a.length 0 (by omega))
  have:decide (a=b)=false:=decide_eq_false (fun e=>h (by rw[e]));rw[this];exact Ev.Zat (by omega) (Ev.pure _)
end Go.Proofs.YtdpieallpbllkaaGreat.P
namespace Go.Proofs.YtdpieallpbllkaaGreat.P
open Go.RowKit Go.Proofs.YtdpieallpbllkaaGreatW.PrintWords Go.Proofs.YtdpieallpbllkaaGreatW.PrintLast Go.Proofs.YtdpieallpbllkaaGreatW.PrintMore
attribute [local go_sem] Zcv Zcx Zdj Zdk Zcm Zcn Zcw Zcy
mutual
def Zas.l0 : Nat → List (List Int) → List Int → List (List Int) → Int → Option ((List (List Int)))
 | 0, _, _, _, _ => none
 |k+1,x5,x6,x7,x8=>if x8<(x5.length:Int)then(Zas.l1 k x5 x6 x7 x8 0)else(some x7)
def Zas.l1 : Nat → List (List Int) → List Int → List (List Int) → Int → Int → Option ((List (List Int)))
 | 0, _, _, _, _, _ => none
 |k+1,x5,x6,x7,x8,x9=>if x9<(x6.length:Int)then((some (([]:List Int):List Int)).bind fun Aq=>(if 0≤x8 then(if x8<(x5.length:Int)then(if Aq.length+(Zck x5 x8).length<17592186044416 then((some (Aq++(Zck x5 x8):List Int)).bind fun tX=>(if 0≤x9 then(if tX.length<17592186044416 then(if x7.length<5864062014805 then(Zas.l1 k x5 x6 (x7++ [(tX++ [rd x6 x9])]) x8 (wrap64 (x9+1)))else(none))else(none))else(none)))else(none))else(none))else(none)))else(Zas.l0 k x5 x6 x7 (wrap64 (x8+1)))
def Zas.f : Nat → List (List (S82)) → Int → Option ((List (List Int)))
 | 0, _, _ => none
 |k+1,l0,a1=>if a1=0 then(some (([(([]:List Int))]:List (List Int))))else((Zas.f k l0 (wrap64 (a1 - 1))).bind fun gp=>(if 0≤(wrap64 (a1 - 1))then(if(wrap64 (a1 - 1))<(l0.length:Int)then((Zax.f k (Zda l0 (wrap64 (a1 - 1)))).bind fun fD=>(Zas.l0 k gp fD (([]:List (List Int))) 0))else(none))else(none)))
end
theorem cellK9 {W W':World} {a:Addr} {v:Value} (hb:Below W.heap.size W W') (hc:W.cell? a=some v):W'.cell? a=some v:=(hb.cell (World.block_lt_of_cell? W _ hc)).trans hc
theorem N_empty {w:World} {g base:Nat} {ok:Nat→Prop} (h:w.heap[g]? =some (.cells #[] 24 (0,0))) (hb:base≤g) (hok:ok g):Kd.N (Kd.slice 3 (Kd.int .i64)) 24 w base ok (.slice (some ⟨g,0,none⟩) 0 0) []:=
 ⟨fun k hk=>by obtain rfl:=Option.some.inj hk;exact hok,[],rfl,⟨fun k hk=>hk.symm,[],⟨rfl,.inr ⟨g,0,#[],rfl,hb,h,Nat.le_refl _,Nat.zero_le _,rfl,rfl⟩⟩,Reps.none _ _⟩,fun j x c hx=>by simp at hx⟩
attribute [local go_sem ↓] Go.wp_at_zero Go.wp_at_succ
set_option maxRecDepth 100000 in
theorem Zas.calls (k : Nat) : ∀ (A0 : Option Addr) (c0 : Nat) (l0 : List (List (S82))) (a1 : Int) (r : List (List Int)) (w : World) (hr0 : Kd.C (Kd.slice 82 k82) w A0 l0.length l0) (hc0 : l0.length ≤ c0) (h : Zas.f k l0 a1 = some r),
  Calls Tryz.prog 29 #[.slice A0 l0.length c0,.int .i64 a1] w fun e w'=>∃v0_:Value,e= .returned (v0_)∧Kd.N (Kd.slice 3 (Kd.int .i64)) 24 w' w.heap.size (fun k_=>(w.heap.size≤k_)) v0_ r∧Below w.heap.size w w':=by
 induction k using Nat.strongRecOn with
 |_ k ih=>
 intro A0 c0 l0 a1 r w hr0 hc0 h
 cases k with
 | zero => exact absurd h (by simp [Zas.f])
 |succ k=>
 simp only[Zas.f]at h;have HR0:=Za.mk hr0;have HC0:=Za.mk hc0;clear hr0 hc0;have HB:=Za.mk (Below.refl w.heap.size w);have H:(if a1=0 then(some (([(([]:List Int))]:List (List Int))))else((Zas.f k l0 (wrap64 (a1 - 1))).bind fun gp=>(if 0≤(wrap64 (a1 - 1))then(if(wrap64 (a1 - 1))<(l0.length:Int)then((Zax.f k (Zda l0 (wrap64 (a1 - 1)))).bind fun fD=>(Zas.l0 k gp fD (([]:List (List Int))) 0))else(none))else(none))))=some r:=h;clear h;by_cases c3:a1=0
 case pos=>
  rw[if_pos c3]at H;have eD:(a1==0)=true:=beq_iff_eq.mpr c3;have jc:(a1 !=0)=false:=bne_eq_false_iff_eq.mpr c3;clear c3;obtain⟨EU,D5⟩:∃y_:List Int,y_=(([]:List Int)):=⟨_,rfl⟩;replace H:(some (([EU]:List (List Int))))=some r:=by first|(rw[D5];with_reducible exact H)|(have H2_:=(Option.bind_some _ _).symm.trans H;rw[D5];with_reducible exact H2_)|(have H2_:=(Option.bind_some _ _).symm.trans H;with_reducible exact H2_)|with_reducible exact H|(rw[D5];exact H)|exact H
  have Q8:=Za.mk D5;clear D5;obtain⟨cFa,D6⟩:∃y_:List (List Int),y_=(([EU]:List (List Int))):=⟨_,rfl⟩;replace H:(some cFa)=some r:=by first|(rw[D6];with_reducible exact H)|(have H2_:=(Option.bind_some _ _).symm.trans H;rw[D6];with_reducible exact H2_)|(have H2_:=(Option.bind_some _ _).symm.trans H;with_reducible exact H2_)|with_reducible exact H|(rw[D6];exact H)|exact H
  have Q9:=Za.mk D6;clear D6;obtain rfl:=sj H;go_enter Tryz.func29,Tryz.ntmps29
  go_wp2_with (first|((with_reducible refine Zao (N:=13) rfl ?_);refine Kd.Zdf (Kd.int .i64) _ 3 ?hg (N:=13) ?hd (xs:=([]:List Int)) (inner:= []) (ok:=fun _=>True) (okp:=fun _=>True) ?hr ?hp (fun _ hk=>hk) trivial (Below.refl _ _) (Nat.le_refl _) (by simp) ?_;(case hd=>rfl);(case hg=>rfl);(case hr=>first|(go_simp;done)|(go_simp;rfl));(case hp=>exact(Reps.none _ _));intro oJa w4 ho5 hb hg_ hnew_;clear hg_ hnew_;(first|rw[←Q8.out]at ho5|(simp only[Int.reduceToNat]at ho5;rw[←Q8.out]at ho5));have Bu:=Za.mk (Kd.Zbk (Kd.Zf (M:=fun k_=>(w.heap.size≤k_)) ho5 (Zac (bM HB.out)) (fun k_ h_=>h_)) (Zac (bM HB.out)));replace HB:=Za.mk (bS HB.out hb);clear hb ho5;obtain⟨Ao6,co6,eo6⟩:=Kd.Zbe Bu.out;subst eo6)|((with_reducible refine Zao (N:=14) rfl ?_);refine Kd.N_lit (Kd.slice 3 (Kd.int .i64)) _ 24 ?hg (N':=14) ?hd (xs:=([EU]:List (List Int))) (inner:= [.slice Ao6 EU.length co6]) (ok:=(fun k_=>(w.heap.size≤k_))) (okp:=(fun k_=>(w.heap.size≤k_))) ?hr ?hp (fun _ hk=>hk) ((show ∀k_,w4.heap.size≤k_→(fun k_=>(w.heap.size≤k_)) k_ from fun k_ hk=>(Nat.le_trans (Zac (bM HB.out)) hk)) _ (Nat.le_refl _)) (Below.refl _ _) (Nat.le_refl _) (by simp) ?_;(case hd=>rfl);(case hg=>rfl);(case hr=>first|(go_simp;done)|(go_simp;rfl));(case hp=>exact(Reps.one (show Kd.FK (Kd.slice 3 (Kd.int .i64)) _ _ EU [.slice Ao6 EU.length co6]from(by obtain⟨Aq_,cq_,eq_⟩:=Kd.Zbe Bu.out;(try subst eq_);exact Kd.Zel (Kd.Zaq (Kd.Za5 (ok':=(fun k_=>(w.heap.size≤k_))) (Bu.out) (fun k_ hk=>hk.1))).2.1 (Kd.R_F (Kd.Za5 (ok':=(fun k_=>(w.heap.size≤k_))) (Bu.out) (fun k_ hk=>hk.1))))) (Reps.none _ _)));intro oKa w7 ho8 hb hg_ hnew_;clear hg_ hnew_;(first|rw[←Q9.out]at ho8|(simp only[Int.reduceToNat]at ho8;rw[←Q9.out]at ho8));have Wl:=Za.mk (Kd.Zc0 ho8 (Zac (bM HB.out)));replace HB:=Za.mk (bS HB.out hb);clear Bu;clear hb ho8))
  go_ret;exact⟨_,eR,nM Wl.out,bM HB.out⟩
 rw[if_neg c3]at H;have eD:(a1==0)=false:=beq_eq_false_iff_ne.mpr c3;have jc:(a1 !=0)=true:=bne_iff_ne.mpr c3;obtain⟨gp,A9,H⟩:=bnd H;try dsimp only at H
 obtain⟨nV,hji10⟩:∃j_:Int,(wrap64 (a1 - 1))=j_:=⟨_,rfl⟩;replace H:(if 0≤(nV)then(if(nV)<(l0.length:Int)then((Zax.f k (Zda l0 (nV))).bind fun fD=>(Zas.l0 k gp fD (([]:List (List Int))) 0))else(none))else(none))=some r:=by first|(rw[hji10]at H;exact H)|(simp only[hji10]at H ⊢;exact H)
 (try rw[hji10]at A9)
 have hji10w:(IntKind.i64.wrap (a1 - 1))=nV:=(Zd0 _).trans hji10;by_cases c11:0≤(nV)
 case neg=>
  rw[if_neg c11]at H;exact absurd H (by simp)
 rw[if_pos c11]at H;have kR:decide (0≤(nV))=true:=decide_eq_true c11;clear c11;obtain⟨gL,H⟩:=ifT H;obtain⟨fD,A13,H⟩:=bnd H;try dsimp only at H
 obtain⟨P7,D7⟩:∃y_:List (List Int),y_=(([]:List (List Int))):=⟨_,rfl⟩;replace H:(Zas.l0 k gp fD P7 0)=some r:=by first|(rw[D7];with_reducible exact H)|(have H2_:=(Option.bind_some _ _).symm.trans H;rw[D7];with_reducible exact H2_)|(have H2_:=(Option.bind_some _ _).symm.trans H;with_reducible exact H2_)|with_reducible exact H|(rw[D7];exact H)|exact H
 have KF:=Za.mk D7;clear D7;have H':=Za.mk H;clear H;go_enter Tryz.func29,Tryz.ntmps29;try go_wp2
 have Oj:0≤((nV):Int):=odt;have O1:(nV)<(l0.length:Int):=odt;obtain⟨QH,MV,Nk,rfl,EK,Jn,Jd⟩:=Zft HR0.out (nV) Oj O1;have HG_:Za (∀W:World,Below w.heap.size w W→Calls Tryz.prog 29 #[.slice (some QH) l0.length c0,.int .i64 nV] W fun e w'=>∃v0_:Value,e= .returned v0_∧Kd.N (Kd.slice 3 (Kd.int .i64)) 24 w' w.heap.size (fun k_=>w.heap.size≤k_∧W.heap.size≤k_∧k_<w'.heap.size) v0_ gp∧Below W.heap.size W w'):=⟨fun W hb=>(ih k (by omega) _ _ l0 nV gp W (Kd.Zae HR0.out hb) HC0.out A9.out).mono (fun e w' ⟨v,he,hN,hB⟩=>⟨v,he,Kd.Zb4 (Kd.N_bound (Kd.Zc0 hN (Zac hb))) (fun k_ hk=>⟨Nat.le_trans (Zac hb) hk.1,hk.1,hk.2⟩),hB⟩)⟩;have HV_:Za (∀W:World,Below w.heap.size w W→Calls Tryz.prog 50 #[.slice MV (Zda l0 nV).length Nk] W fun e w'=>∃v0_:Value,e= .returned v0_∧Kd.R (Kd.int .i64) 3 w' w.heap.size (fun k_=>w.heap.size≤k_∧W.heap.size≤k_∧k_<w'.heap.size) v0_ fD∧Below W.heap.size W w'):=⟨fun W hb=>(Zax.calls k _ _ (Zda l0 nV) fD W (Kd.Zae Jd hb) Jn A13.out).mono (fun e w' ⟨v,he,hR,hB⟩=>⟨v,he,Kd.Zbk (Kd.Za5 (Kd.Zd1 hR) (fun k_ hk=>⟨Nat.le_trans (Zac hb) hk.2.1,hk.2.1,hk.2.2.1⟩)) (Zac hb),hB⟩)⟩;clear Jd Jn
 go_cut [5,6,7]from 11 (fun v5 v6 v7 wc=>∃(tV oo LG:Value),tV=v5∧oo=v6∧LG=v7∧Za (Kd.N (Kd.slice 3 (Kd.int .i64)) 24 wc w.heap.size (fun k_=>(w.heap.size≤k_)∧some k_≠(oo:Value).ownBlock∧some k_≠(LG:Value).ownBlock) tV gp)∧Za (Kd.R (Kd.int .i64) 3 wc w.heap.size (fun k_=>(w.heap.size≤k_)) oo fD)∧Za (Kd.N (Kd.slice 3 (Kd.int .i64)) 24 wc w.heap.size (fun k_=>(w.heap.size≤k_)∧some k_≠(tV:Value).ownBlock∧some k_≠(oo:Value).ownBlock) LG P7)∧Za (Below w.heap.size w wc))
 case first=>
  generalize hnv:(Zda l0 nV).length=nv at EK HV_
  go_region_held3 (fun w' => w'.cell? (QH.add nV.toNat) = some (.slice MV nv Nk) ∧ Below w.heap.size w w')
   (first|(go_split_ands;refine⟨?_,?_⟩<;>(first|go_keep|exact cellK9 hb (by assumption)|exact Zad (by assumption) hb|(repeat(first|exact Below.refl _ _|assumption|apply Za6|apply Zde|apply Zb3)))))
   (first|(go_at_call 29;refine(HG_.out _ ?_).mono ?_;(go_split_ands;repeat(first|exact Below.refl _ _|assumption|apply Za6|apply Zde|apply Zb3));rintro e w' ⟨tV,rfl,hG,hbG⟩;have hb:=hbG)|(go_at_call 50;refine(HV_.out _ ?_).mono ?_;(go_split_ands;repeat(first|exact Below.refl _ _|assumption|apply Za6|apply Zde|apply Zb3));rintro e w'' ⟨oo,rfl,hV,hbV⟩;have hb:=hbV))
  all_goals go_wp2
  all_goals go_meet
  ·have hd0 : w.drew.heap.size = w.heap.size := rfl
   have s1:=Zac hbG;have s2:=Zac hbV;have hN':=Kd.Zcs (Kd.Zcs hG hbV) (Za6 (Below.refl _ w'') (.cells #[] 24));have hR':=Kd.Zc hV (Za6 (Below.refl _ w'') (.cells #[] 24));have hl:=Kd.N_lt hG;refine⟨tV,oo,_,rfl,rfl,rfl,⟨Kd.Zb4 hN' (fun k_ hk=>⟨hk.1,fun e_=>by have:=(hV.1 k_ e_.symm).2.1;have:=hk.2.2;omega,fun e_=>by have e2:k_=w''.heap.size:=Option.some.inj e_;have:=hk.2.2;omega⟩)⟩,⟨Kd.Za5 hR' (fun k_ hk=>hk.1)⟩,⟨?_⟩,⟨?_⟩⟩
   ·rw [KF.out]
    exact N_empty (blk_new w'' _) (by go_split_ands;exact Nat.le_trans (Nat.le_trans (Nat.le_refl _) s1) s2) ⟨Nat.le_trans s1 s2,fun e_=>by have:=hl _ e_.symm;omega,fun e_=>by have:=(hV.1 _ e_.symm).2.2;omega⟩
   exact Za6 (Zad (Zad (Zde (Below.refl _ w)) hbG) hbV) _
  ·have hd0 : w.drew.heap.size = w.heap.size := rfl
   have hd1:(w'.alloc (.cells #[] 24)).heap.size=w'.heap.size+1:=by simp
   have s1:=Zac hbG;have s2:=Zac hbV;have hA:=Za6 (Below.refl _ w') (.cells #[] 24);have hN':=Kd.Zcs (Kd.Zcs hG hA) hbV;have hl:=Kd.N_lt hG;refine⟨tV,oo,_,rfl,rfl,rfl,⟨Kd.Zb4 hN' (fun k_ hk=>⟨hk.1,fun e_=>by have:=(hV.1 k_ e_.symm).2.1;have:=hk.2.2;omega,fun e_=>by have e2:k_=w'.heap.size:=Option.some.inj e_;have:=hk.2.2;omega⟩)⟩,⟨Kd.Za5 hV (fun k_ hk=>hk.1)⟩,⟨?_⟩,⟨?_⟩⟩
   ·rw [KF.out]
    exact N_empty (Zb8 (blk_new w' _) hbV) (by omega) ⟨by omega,fun e_=>by have:=hl _ e_.symm;omega,fun e_=>by have:=(hV.1 _ e_.symm).2.1;omega⟩
   exact Zad (Zad (Zad (Zde (Below.refl _ w)) hbG) hA) hbV
  have hd1:(w.alloc (.cells #[] 24)).drew.heap.size=w.heap.size+1:=by simp
  have s1:=Zac hbG;have s2:=Zac hbV;have hN':=Kd.Zcs hG hbV;have hl:=hG.1;refine⟨tV,oo,_,rfl,rfl,rfl,⟨Kd.Zb4 hN' (fun k_ hk=>⟨hk.1,fun e_=>by have:=(hV.1 k_ e_.symm).2.1;have:=hk.2.2;omega,fun e_=>by have e2:k_=w.heap.size:=Option.some.inj e_;have:=hk.2.1;omega⟩)⟩,⟨Kd.Za5 hV (fun k_ hk=>hk.1)⟩,⟨?_⟩,⟨?_⟩⟩
  ·rw [KF.out]
   exact N_empty (Zb8 (Zb8 (Zah (blk_new w _)) hbG) hbV) (by omega) ⟨by omega,fun e_=>by have:=(hl _ e_.symm).2.1;omega,fun e_=>by have:=(hV.1 _ e_.symm).2.1;omega⟩
  exact Zad (Zad (Zde (Za6 (Below.refl _ w) _)) hbG) hbV
 obtain⟨tV,oo,LG,rfl,rfl,rfl,Wm,Wn,Wo,HB9⟩:=hcut;clear HB;have HB:=HB9;clear HB9;go_wp2
 go_loopg [7,8] k (fun kq v7 v8 w'=>∃(iU:List (List Int)) (dN:Int),v8= .int .i64 dN∧Za (Zas.l0 kq gp fD iU dN=some r)∧Za (kq≤k)∧Za (Kd.N (Kd.slice 3 (Kd.int .i64)) 24 w' w.heap.size (fun k_=>(w.heap.size≤k_)∧some k_≠(oo:Value).ownBlock∧some k_≠(v7:Value).ownBlock) tV gp)∧Za (Kd.R (Kd.int .i64) 3 w' w.heap.size (fun k_=>(w.heap.size≤k_)) oo fD)∧Za (Kd.N (Kd.slice 3 (Kd.int .i64)) 24 w' w.heap.size (fun k_=>(w.heap.size≤k_)∧some k_≠(tV:Value).ownBlock∧some k_≠(oo:Value).ownBlock) v7 iU)∧Za (Below w.heap.size w w'))
 case atStart=>exact⟨(P7),(0),eS,H',⟨Nat.le_refl _⟩,⟨nM Wm.out⟩,⟨rM Wn.out⟩,⟨nM Wo.out⟩,⟨bM HB.out⟩⟩
 case round=>
  clear H';try clear c1
  try clear c2
  try clear p2
  try clear c3
  try clear eD
  try clear jc
  try clear c5
  try clear c6
  try clear p6
  try clear q6
  try clear hx6
  try clear c11
  try clear kR
  try clear c12
  try clear gL
  try clear EK
  try clear Oj
  try clear O1
  obtain⟨iU,dN,rfl,HA,HK1,aW,kQ,nT,HB⟩:=hrel
  cases gk with
  | zero => exact absurd HA.out (by simp [Zas.l0])
  |succ k1=>
   have H:=HA.out;clear HA;simp only[Zas.l0]at H;by_cases c20:dN<(gp.length:Int)
   case neg=>
    rw[if_neg c20]at H;have QM:decide (dN<(gp.length:Int))=false:=decide_eq_false c20;clear c20;obtain rfl:=sj H;obtain⟨iM,iN,G9⟩:=Kd.Zcu aW.out;subst G9;go_wp2;go_ret;exact⟨_,by first|rfl|(simp[Zdh,Zdi]<;>rfl)|(simp only[←hji10];first|rfl|(simp[Zdh,Zdi]<;>rfl))|(simp[*,Zdh,Zdi]<;>rfl),nM (Kd.Zb4 nT.out (fun _ hk=>hk.1)),bM HB.out⟩
   rw[if_pos c20]at H;have QM:decide (dN<(gp.length:Int))=true:=decide_eq_true c20;clear c20;have H':=Za.mk H;clear H;obtain⟨jV,ja,G7⟩:=Kd.Zcu aW.out;subst G7;go_wp2
   go_loopg [7,9] k1 (fun kq v7 v9 w'=>∃(bN:List (List Int)) (jN:Int),v9= .int .i64 jN∧Za (Zas.l1 kq gp fD bN dN jN=some r)∧Za (kq≤k1)∧Za (Kd.N (Kd.slice 3 (Kd.int .i64)) 24 w' w.heap.size (fun k_=>(w.heap.size≤k_)∧some k_≠(oo:Value).ownBlock∧some k_≠(v7:Value).ownBlock) (.slice jV gp.length ja) gp)∧Za (Kd.R (Kd.int .i64) 3 w' w.heap.size (fun k_=>(w.heap.size≤k_)) oo fD)∧Za (Kd.N (Kd.slice 3 (Kd.int .i64)) 24 w' w.heap.size (fun k_=>(w.heap.size≤k_)∧some k_≠((.slice jV gp.length ja):Value).ownBlock∧some k_≠(oo:Value).ownBlock) v7 bN)∧Za (Below w.heap.size w w'))
   case atStart=>exact⟨(iU),(0),eS,H',⟨Nat.le_refl _⟩,⟨nM aW.out⟩,⟨rM kQ.out⟩,⟨nM nT.out⟩,⟨bM HB.out⟩⟩
   case round=>
    clear H';try clear c1
    try clear c2
    try clear p2
    try clear c3
    try clear eD
    try clear jc
    try clear c5
    try clear c6
    try clear p6
    try clear q6
    try clear hx6
    try clear c11
    try clear kR
    try clear c12
    try clear gL
    try clear c20
    try clear QM
    try clear EK
    try clear p2
    try clear p6
    try clear Oj
    try clear q6
    try clear O1
    obtain⟨bN,jN,rfl,HA,HK2,aW,kQ,nT,HB⟩:=hrel
    cases gk with
    | zero => exact absurd HA.out (by simp [Zas.l1])
    |succ k2=>
     have H:=HA.out;clear HA;simp only[Zas.l1]at H;by_cases c22:jN<(fD.length:Int)
     case neg=>
      rw[if_neg c22]at H;have vS:decide (jN<(fD.length:Int))=false:=decide_eq_false c22;clear c22;have H':=Za.mk H;clear H;obtain⟨fw,fA,tO⟩:=Kd.Zbe kQ.out;subst tO;go_wp2
      go_roundg k2
      case measure=>have:=HK1.out;have:=HK2.out;omega
      case rel=>exact⟨(bN),(wrap64 (dN+1)),eS,H',⟨by have:=HK1.out;have:=HK2.out;omega⟩,⟨nM aW.out⟩,⟨rM kQ.out⟩,⟨nM nT.out⟩,⟨bM HB.out⟩⟩
     rw[if_pos c22]at H;have vS:decide (jN<(fD.length:Int))=true:=decide_eq_true c22;clear c22;obtain⟨Aq,D8⟩:∃y_:List Int,y_=(([]:List Int)):=⟨_,rfl⟩;replace H:(if 0≤dN then(if dN<(gp.length:Int)then(if Aq.length+(Zck gp dN).length<17592186044416 then((some (Aq++(Zck gp dN):List Int)).bind fun tX=>(if 0≤jN then(if tX.length<17592186044416 then(if bN.length<5864062014805 then(Zas.l1 k2 gp fD (bN++ [(tX++ [rd fD jN])]) dN (wrap64 (jN+1)))else(none))else(none))else(none)))else(none))else(none))else(none))=some r:=by first|(rw[D8];with_reducible exact H)|(have H2_:=(Option.bind_some _ _).symm.trans H;rw[D8];with_reducible exact H2_)|(have H2_:=(Option.bind_some _ _).symm.trans H;with_reducible exact H2_)|with_reducible exact H|(rw[D8];exact H)|exact H
     have QA:=Za.mk D8;clear D8;obtain⟨vT,H⟩:=ifT H;obtain⟨eva,H⟩:=ifT H;obtain⟨c25,H⟩:=ifP H;have Ww:=Za.mk c25;clear c25;obtain⟨tX,D9⟩:∃y_:List Int,y_=(Aq++(Zck gp dN)):=⟨_,rfl⟩;replace H:(if 0≤jN then(if tX.length<17592186044416 then(if bN.length<5864062014805 then(Zas.l1 k2 gp fD (bN++ [(tX++ [rd fD jN])]) dN (wrap64 (jN+1)))else(none))else(none))else(none))=some r:=by first|(rw[D9];with_reducible exact H)|(have H2_:=(Option.bind_some _ _).symm.trans H;rw[D9];with_reducible exact H2_)|(have H2_:=(Option.bind_some _ _).symm.trans H;with_reducible exact H2_)|with_reducible exact H|(rw[D9];exact H)|exact H
     have WT:=Za.mk D9;clear D9;obtain⟨yA,H⟩:=ifT H;obtain⟨c27,H⟩:=ifP H;have Wx:=Za.mk c27;clear c27;obtain⟨I6,DC⟩:∃y_:List Int,y_=(tX++ [rd fD jN]):=⟨_,rfl⟩;replace H:(if bN.length<5864062014805 then(Zas.l1 k2 gp fD (bN++ [I6]) dN (wrap64 (jN+1)))else(none))=some r:=by first|(rw[DC];with_reducible exact H)|(have H2_:=(Option.bind_some _ _).symm.trans H;rw[DC];with_reducible exact H2_)|(have H2_:=(Option.bind_some _ _).symm.trans H;with_reducible exact H2_)|with_reducible exact H|(rw[DC];exact H)|exact H
     have WU:=Za.mk DC;clear DC;obtain⟨c28,H⟩:=ifP H;have Bz:=Za.mk c28;clear c28;obtain⟨V9,DF⟩:∃y_:List (List Int),y_=(bN++ [I6]):=⟨_,rfl⟩;replace H:(Zas.l1 k2 gp fD V9 dN (wrap64 (jN+1)))=some r:=by first|(rw[DF];with_reducible exact H)|(have H2_:=(Option.bind_some _ _).symm.trans H;rw[DF];with_reducible exact H2_)|(have H2_:=(Option.bind_some _ _).symm.trans H;with_reducible exact H2_)|with_reducible exact H|(rw[DF];exact H)|exact H
     have WV:=Za.mk DF;clear DF;have H':=Za.mk H;clear H;obtain⟨Gu,qf,NP⟩:=Kd.Zbe kQ.out;subst NP
     go_wp2_with (first|((with_reducible refine Zao (N:=38) rfl ?_);refine Kd.Zdf (Kd.int .i64) _ 3 ?hg (N:=38) ?hd (xs:=([]:List Int)) (inner:= []) (ok:=fun _=>True) (okp:=fun _=>True) ?hr ?hp (fun _ hk=>hk) trivial (Below.refl _ _) (Nat.le_refl _) (by simp) ?_;(case hd=>rfl);(case hg=>rfl);(case hr=>first|(go_simp;done)|(go_simp;rfl));(case hp=>exact(Reps.none _ _));intro c8a w30 oU hb hg_ hnew_;clear hg_ hnew_;(first|rw[←QA.out]at oU|(simp only[Int.reduceToNat]at oU;rw[←QA.out]at oU));replace aW:=Za.mk (Kd.Zdm (nM aW.out) (Kd.Zct oU) hb);replace nT:=Za.mk (Kd.Zdm (nM nT.out) (Kd.Zct oU) hb);have PO:=Za.mk (Kd.Zbk (Kd.Ze9 (Kd.Zf (M:=fun k_=>(w.heap.size≤k_)) oU (Zac (bM HB.out)) (fun k_ h_=>h_)) (Kd.R_lt (rM kQ.out))) (Zac (bM HB.out)));replace kQ:=Za.mk (Kd.Zed (rM kQ.out) (Kd.Zct oU) hb);replace HB:=Za.mk (bS HB.out hb);clear hb oU;have LA:0≤(dN:Int):=odt;have LD:dN<(gp.length:Int):=odt;obtain⟨yx,cYa,dca,bla,Tt,Jo,Je⟩:=Zfs (Kd.Zbm aW.out).2.2 dN LA LD;cases bla;obtain⟨ce709,hce709,hMe709,hcc709⟩:=Kd.N_get aW.out [] dN LA (by first|exact LD|exact odt|(have e_:=(Kd.Zbm aW.out).1;omega));obtain⟨ua709_0,uc709_0,rfl,ul709_0,ge709_0⟩:=Kd.FK_slice_open hMe709;have hv709_0:=hcc709 0 _ rfl;rw[Nat.add_zero,show((Kd.slice 3 (Kd.int .i64))).sz=1 from rfl,Nat.mul_one]at hv709_0;replace hv709_0:=Option.some.inj (hv709_0.symm.trans Tt);injection hv709_0 with hva_ hvn_ hvc_;rw[hva_]at ge709_0;rw[hvc_]at ul709_0;have HL709_0:=Za.mk (show Kd.V (Kd.int .i64) 3 _ w.heap.size _ _ (Zck gp dN)from Kd.V_mk ul709_0 ge709_0);clear hva_ hvn_ hvc_ ge709_0 ul709_0;clear hcc709 hce709;have IR:=Za.mk Je;have cPa:=Za.mk Jo;clear Je Jo;replace LA:=eq_true LA;replace LD:=eq_true LD)|((with_reducible refine Zbl (b:= .append) (xs:=#[.tmp 38,.tmp 42]) rfl ?_);at_builtin;refine Kd.Zc9 (Kd.int .i64) (w0:=w) w.heap.size rfl (.tmp 38) (.tmp 42) 24 3 (.int .i64 0) 8 rfl Tryz.underlying24 info3 rfl (by decide) (by omega) c8a Aq (Zck gp dN) _ _ _ (fun k_=>(w.heap.size≤k_)∧some k_≠(.slice Gu fD.length qf:Value).ownBlock) (fun _=>False) rfl rfl ?aO ?aR (fun _ _ h=>h) (fun _ h=>h.elim) ?aF ?aB ?aS ?aL ?_;(case aR=>repeat(first|exact(by repeat(first|(with_reducible exact IR.out)|(with_reducible refine Kd.C_alloc ?_ _)|(with_reducible refine Kd.Zb7 ?_ _)|(with_reducible refine Kd.Zci ?_)|exact IR.out))|(with_reducible refine Kd.C_alloc ?_ _)|(with_reducible refine Kd.Zb7 ?_ _)|(with_reducible refine Kd.Zci ?_)));(case aB=>exact(bM HB.out));(case aF=>exact(fun k_ hk=>⟨(Nat.le_trans (Zac (bM HB.out)) hk),Kd.fresh' (Kd.R_lt (rM kQ.out)) k_ hk⟩));(case aO=>exact(rM (Kd.Za5 PO.out (fun _ hk=>⟨hk.1.1,hk.2⟩))));(case aS=>exact(Zac (bM HB.out)));(case aL=>have:=Ww.out;omega);intro c9a w32 ho hb hg hat;rw[←WT.out]at ho;replace aW:=Za.mk (Kd.Zfv (ok:=(fun k_=>(w.heap.size≤k_)∧some k_≠(.slice Gu fD.length qf:Value).ownBlock∧some k_≠(u7:Value).ownBlock)) (nM aW.out) hg hat);replace kQ:=Za.mk (Kd.Zdv (ok:=(fun k_=>(w.heap.size≤k_))) (rM kQ.out) hg hat);replace nT:=Za.mk (Kd.Zfv (ok:=(fun k_=>(w.heap.size≤k_)∧some k_≠(.slice (some yx) gp.length ja:Value).ownBlock∧some k_≠(.slice Gu fD.length qf:Value).ownBlock)) (nM nT.out) hg hat);replace HB:=Za.mk (hb);have PP:=Za.mk (ho);clear HL709_0 PO;clear ho hb hg hat;have Ol:0≤(jN:Int):=odt;have O3:jN<(fD.length:Int):=odt;obtain⟨sP,bma,cVa⟩:=Kd.Zbz (Kd.Zaq kQ.out).2.2 jN Ol O3;cases bma;replace Ol:=eq_true Ol;replace O3:=eq_true O3)|((with_reducible refine Zbl (b:= .append) (xs:=#[.tmp 44,.tmp 49]) rfl ?_);at_builtin;refine Kd.Zc8 (Kd.int .i64) (w0:=w) w.heap.size rfl (.tmp 44) (.tmp 49) 24 3 (.int .i64 0) 8 rfl Tryz.underlying24 info3 rfl (by decide) (by omega) c9a tX (rd fD jN) [.int .i64 (rd fD jN)] (fun k_=>(w.heap.size≤k_)∧some k_≠(.slice (some sP) fD.length qf:Value).ownBlock) (fun _=>False) rfl rfl ?aP (fun _ hk=>hk.elim) ?aF ?aO ?aB ?aS ?aL ?_;(case aP=>exact rfl);(case aB=>exact(bM HB.out));(case aF=>exact(fun k_ hk=>⟨(Nat.le_trans (Zac (bM HB.out)) hk),Kd.fresh' (Kd.R_lt (rM kQ.out)) k_ hk⟩));(case aO=>exact(rM PP.out));(case aS=>exact(Zac (bM HB.out)));(case aL=>have:=Wx.out;omega);intro oLa w33 ho hb hg hat;rw[←WU.out]at ho;replace aW:=Za.mk (Kd.Zfv (ok:=(fun k_=>(w.heap.size≤k_)∧some k_≠(.slice (some sP) fD.length qf:Value).ownBlock∧some k_≠(u7:Value).ownBlock)) (nM aW.out) hg hat);replace kQ:=Za.mk (Kd.Zdv (ok:=(fun k_=>(w.heap.size≤k_))) (rM kQ.out) hg hat);replace nT:=Za.mk (Kd.Zfv (ok:=(fun k_=>(w.heap.size≤k_)∧some k_≠(.slice (some yx) gp.length ja:Value).ownBlock∧some k_≠(.slice (some sP) fD.length qf:Value).ownBlock)) (nM nT.out) hg hat);replace HB:=Za.mk (hb);have Bv:=Za.mk (ho);clear PP;clear ho hb hg hat;obtain⟨TP,Ul,bsa⟩:=Kd.Zbe Bv.out;subst bsa)|((with_reducible refine Zbl (b:= .append) (xs:=#[.tmp 51,.tmp 53]) rfl ?_);at_builtin;refine Kd.N_append (Kd.slice 3 (Kd.int .i64)) (w0:=w) w.heap.size rfl (.tmp 51) (.tmp 53) 34 24 (.slice none 0 0) 24 rfl Tryz.underlying34 Zg8 rfl (by decide) (by omega) u7 bN I6 [.slice TP I6.length Ul] (fun k_=>(w.heap.size≤k_)∧some k_≠(.slice (some yx) gp.length ja:Value).ownBlock∧some k_≠(.slice (some sP) fD.length qf:Value).ownBlock) (fun k_=>((fun k_=>(w.heap.size≤k_)∧some k_≠(.slice (some yx) gp.length ja:Value).ownBlock∧some k_≠(.slice (some sP) fD.length qf:Value).ownBlock)) k_∧some k_≠(u7:Value).ownBlock) rfl rfl ?aP (fun _ hk=>hk) ?aF ?aO ?aB ?aS ?aL ?_;(case aP=>exact(by obtain⟨Aq_,cq_,eq_⟩:=Kd.Zbe Bv.out;(try subst eq_);exact Kd.Zel (Kd.Zaq (Kd.Za5 (ok':=(fun k_=>((fun k_=>(w.heap.size≤k_)∧some k_≠(.slice (some yx) gp.length ja:Value).ownBlock∧some k_≠(.slice (some sP) fD.length qf:Value).ownBlock)) k_∧some k_≠(u7:Value).ownBlock)) (Kd.Zdc (Kd.Zdc (Bv.out) (Kd.Ze4 aW.out) (by decide)) (Kd.Ze4 nT.out) (by decide)) (fun k_ hk=>⟨⟨hk.1.1.1,⟨hk.1.2,hk.1.1.2⟩⟩,hk.2⟩))).2.1 (Kd.R_F (Kd.Za5 (ok':=(fun k_=>((fun k_=>(w.heap.size≤k_)∧some k_≠(.slice (some yx) gp.length ja:Value).ownBlock∧some k_≠(.slice (some sP) fD.length qf:Value).ownBlock)) k_∧some k_≠(u7:Value).ownBlock)) (Kd.Zdc (Kd.Zdc (Bv.out) (Kd.Ze4 aW.out) (by decide)) (Kd.Ze4 nT.out) (by decide)) (fun k_ hk=>⟨⟨hk.1.1.1,⟨hk.1.2,hk.1.1.2⟩⟩,hk.2⟩)))));(case aB=>exact(bM HB.out));(case aF=>exact(fun k_ hk=>⟨(Nat.le_trans (Zac (bM HB.out)) hk),Kd.fresh' (Kd.N_lt (nM aW.out)) k_ hk,Kd.fresh' (Kd.R_lt (rM kQ.out)) k_ hk⟩));(case aO=>exact(nM (Kd.Zb4 nT.out (fun _ hk=>⟨hk.1.1,⟨hk.1.2.1,hk.1.2.2⟩⟩))));(case aS=>exact(Zac (bM HB.out)));(case aL=>have:=Bz.out;omega);intro oMa w34 ho hb hg hat;rw[←WV.out]at ho;replace aW:=Za.mk (Kd.Zfv (ok:=(fun k_=>(w.heap.size≤k_)∧some k_≠(.slice (some sP) fD.length qf:Value).ownBlock∧some k_≠(.slice TP I6.length Ul:Value).ownBlock)) (nM (Kd.Zb4 aW.out (fun _ hk=>⟨⟨hk.1.1,⟨hk.1.2.1,hk.2⟩⟩,hk.1.2.2⟩))) hg hat);replace kQ:=Za.mk (Kd.R_over' (rM kQ.out) (Kd.Ze4 (nM nT.out)) (by decide) hg);replace HB:=Za.mk (hb);have Wp:=Za.mk (ho);clear nT Bv;clear ho hb hg hat))
     go_roundg k2
     case measure=>have:=HK1.out;have:=HK2.out;omega
     case rel=>exact⟨(V9),(wrap64 (jN+1)),eS,H',⟨by have:=HK1.out;have:=HK2.out;omega⟩,⟨nM (Kd.Zb4 aW.out (fun _ hk=>⟨hk.1.1,⟨hk.1.2.1,hk.2⟩⟩))⟩,⟨rM (Kd.Za5 kQ.out (fun _ hk=>hk.1))⟩,⟨nM Wp.out⟩,⟨bM HB.out⟩⟩
end Go.Proofs.YtdpieallpbllkaaGreat.P
/- meaning.All and secateurref06.Grow in plain words: the lists of the domains' values that solve, in order. -/
namespace Go.Proofs.YtdpieallpbllkaaGreat.P
open Go.RowKit Go.Proofs.YtdpieallpbllkaaGreatW.PrintWords Go.Proofs.YtdpieallpbllkaaGreatW.PrintLast Go.Proofs.YtdpieallpbllkaaGreatW.PrintMore
theorem Zhq : ∀ {ds : List (List Rg)} {most n : Int}, 0 ≤ n → n ≤ most → smallG ds most n = true → n * (sizeV ds : Int) ≤ most
  | [], most, n, _, h, _ => by simp [sizeV]; omega
  |d::ds,most,n,h0,h1,h=>by
    rw[smallG]at h;by_cases q:n*((vals d).length:Int)>most
    · rw[if_pos q]at h;cases h
    rw[if_neg q]at h;have:=Zhq (Int.mul_nonneg h0 (by omega)) (by omega) h
    show n*(((vals d).length*sizeV ds:Nat):Int)≤most
    rw[Int.natCast_mul,←Int.mul_assoc];exact this
theorem smallG_le {m1 m2 : Int} (hm : m1 ≤ m2) : ∀ {ds : List (List Rg)} {n : Int}, smallG ds m1 n = true → smallG ds m2 n = true
  | [], _, _ => rfl
  |d::ds,n,h=>by
    rw[smallG]at h ⊢;by_cases q:n*((vals d).length:Int)>m1
    · rw[if_pos q]at h;cases h
    rw[if_neg q]at h;rw[if_neg (by omega)];exact smallG_le hm h
theorem vals_pos {d:List Rg} (h:Gd 1048576 (-1048576) d∧d≠ []):0<(vals d).length:=by
  rw[(Zgi h.1 h.2).2];exact Nat.succ_pos _
theorem sizeV_pos : ∀ {ds : List (List Rg)}, GdS ds → 0 < sizeV ds
  | [], _ => Nat.one_pos
  |d::ds,h=>Nat.mul_pos (vals_pos (h d List.mem_cons_self)) (sizeV_pos fun x hx=>h x (List.mem_cons_of_mem _ hx))
theorem Zgm : ∀ {ds : List (List Rg)}, GdS ds → ∀ n, sizeV (ds.take n) ≤ sizeV ds
  | [], _, n => by rw [List.take_nil]; exact Nat.le_refl _
  | d :: ds, h, 0 => sizeV_pos h
  |d::ds,h,n+1=>Nat.mul_le_mul_left _ (Zgm (fun x hx=>h x (List.mem_cons_of_mem _ hx)) n)
theorem prV_size {ds:List (List Rg)} {most:Int} (hm:1≤most) (h:smallG ds most 1=true):((prV ds).length:Int)≤most:=by
  have:=Zhq (by omega) hm h;rw[Zhi]
  omega
theorem bigV_ev : ∀ {ds : List (List Rg)} {n : Int}, (∀ d ∈ ds, Gd 1048576 (-1048576) d) → 0 ≤ n → n ≤ 65536 → Ev (fun k => bigV k ds n) (!smallG ds 65536 n)
  | [], _, _, _, _ => Ev.const rfl
  |d::ds,n,hd,h0,h1=>by
    have hg:=hd d List.mem_cons_self;have hv:=Zdx hg;have hm2:=Ze3 (a:=n) (A:=65536) h0 h1 (b:=((vals d).length:Int)) (B:=2097153) (by omega) (by omega);have hn2:=Int.mul_nonneg h0 (show(0:Int)≤((vals d).length:Int) by omega);have hw:wrap64 (n*((vals d).length:Int))=n*((vals d).length:Int):=w64 (by omega) (by omega);rw[smallG];unfold bigV;refine Ev.bind (Size_ev d hg (Int.le_refl _)) ?_;rw[hw];by_cases q:n*((vals d).length:Int)>65536
    · rw[if_pos q];exact Ev.Zaj q (Ev.const rfl)
    rw[if_neg q];exact Ev.Zat q (bigV_ev (fun x hx=>hd x (List.mem_cons_of_mem _ hx)) hn2 (by omega))
section
variable {V:List S55} {C:List S36} {gk:Int} {gv gc:List Int}
theorem solL_ev (hc:∀c ∈ C,conC (domsOf V) c=0) (hd:∀d ∈ domsOf V,Gd 1048576 (-1048576) d) (cs:∀c ∈ C,c.f1.length≤14∧c.f2.length≤14∧c.f5.length≤20∧∀r ∈ c.f5,r.length≤14) (ys:List (List Int)):Ev (fun k=>solL k V C gk gv gc ys) (ys.filter (solB V C)):=by
  obtain⟨k0,h⟩:=ev_all (F:=fun a k=>solF k V C gk gv gc a) (g:=solB V C) (l:=ys) (fun a _=>solves_ev hc hd cs a);refine⟨k0,fun k hk=> ?_⟩;have hh:=h k hk
  show solL k V C gk gv gc ys=_
  unfold solL;rw[if_pos]
  · congr 1
    refine List.filter_congr fun a ha=> ?_
    unfold selF;rw[show solF k V C gk gv gc a=some (solB V C a)from hh a ha]
    cases solB V C a<;>simp
  rw[List.all_eq_true];intro a ha;rw[show solF k V C gk gv gc a=some (solB V C a)from hh a ha]
  rfl
def solsV (V:List S55) (C:List S36):List (List Int):=(prV (domsOf V)).filter (solB V C)
theorem all_ev (ho:OkM V C gk gv gc) (h:chkE V C gk gv gc=0) (hs:smallG (domsOf V) 65536 1=true):Ev (fun k=>Zcj.f k V C gk gv gc) (solsV V C,0):=by
  have hg:=chkE_V h;have hd:∀d ∈ domsOf V,Gd 1048576 (-1048576) d:=fun d q=>(hg d q).1
  have hdl:=Zeu V;have hvs:=ho.vs;have hp:=prV_size (by omega) hs;unfold Zcj.f;have hc:=check_evB V C gk gv gc ho.sm.dm ho.okc (by have:=ho.gvl;omega) (by have:=ho.gcl;omega) ho.gw;rw[h]at hc;refine Ev.bind hc (Ev.Zaj rfl (Ev.bind (doms_ev V C gk gv gc (by omega) ho.sm.dm) (Ev.Zaj (by omega) (Ev.bind (bigV_ev hd (by omega) (by omega)) ?_))));rw[hs];refine Ev.Zat (by simp) ?_;exact Ev.bind (Ev.const (seqV_all hg (m:=70000) (by omega))) (Ev.bind (solL_ev (chkE_ok h) hd ho.cs _) (Ev.const rfl))
end
theorem grow_l1 (L : List (List Int)) (vs : List Int) (hL : L.length * vs.length ≤ 1000000) (hLn : L.length ≤ 1000000) (hr : ∀ r ∈ L, r.length ≤ 1000000) (hvl : vs.length ≤ 3000000) (i : Nat) (hi : i < L.length) (X : List (List Int)) :
    ∀(d j:Nat) (acc:List (List Int)),j+d=vs.length→acc.length≤i*vs.length+j→(Ev (fun k=>Zas.l0 k L vs (acc++(vs.drop j).map (fun v=>L[i]++ [v])) ((i+1:Nat):Int)) X)→Ev (fun k=>Zas.l1 k L vs acc (i:Int) (j:Int)) X
  |0,j,acc,h,ha,hX=>by
    rw[List.drop_eq_nil_of_le (by omega),List.map_nil,List.append_nil]at hX;exact Ev.step (fun k=>by rw[Zas.l1,if_neg (by omega),w1 (by omega)]) hX
  |d+1,j,acc,h,ha,hX=>by
    have hj:j<vs.length:=by omega
    have h1:(i+1)*vs.length≤L.length*vs.length:=Nat.mul_le_mul_right _ hi;rw[Nat.succ_mul]at h1;have hrow:=hr _ (List.getElem_mem hi);have e1:Zck L (i:Int)=L[i]:=rdL_n2 L i hi;have e2:rd vs (j:Int)=vs[j]:=Zc2 _ _ hj;rw[List.drop_eq_getElem_cons hj,List.map_cons]at hX
    refine Ev.step (fun k => by
      rw [Zas.l1, if_pos (by omega), Option.bind_some, if_pos (by omega), if_pos (by omega), e1, if_pos (by simp; omega), Option.bind_some, if_pos (by omega), if_pos (by simp; omega), if_pos (by omega), e2, List.nil_append, w1 (by omega)]) ?_
    exact grow_l1 L vs hL hLn hr hvl i hi X d (j+1) _ (by omega) (by rw[List.length_append,List.length_singleton];omega) (by rw[List.append_assoc];exact hX)
theorem grow_l0 (L : List (List Int)) (vs : List Int) (hL : L.length * vs.length ≤ 1000000) (hLn : L.length ≤ 1000000) (hr : ∀ r ∈ L, r.length ≤ 1000000) (hvl : vs.length ≤ 3000000) :
    ∀(d i:Nat) (acc:List (List Int)),i+d=L.length→acc.length≤i*vs.length→Ev (fun k=>Zas.l0 k L vs acc (i:Int)) (acc++(L.drop i).flatMap fun l=>vs.map fun v=>l++ [v])
  |0,i,acc,h,ha=>by
    rw[List.drop_eq_nil_of_le (by omega),List.flatMap_nil,List.append_nil];exact Ev.step (G:=fun _=>some acc) (fun k=>by rw[Zas.l0,if_neg (by omega)]) (Ev.const rfl)
  |d+1,i,acc,h,ha=>by
    have hi:i<L.length:=by omega
    rw[List.drop_eq_getElem_cons hi,List.flatMap_cons,←List.append_assoc];refine Ev.step (fun k=>by rw[Zas.l0,if_pos (by omega)]) ?_;refine grow_l1 L vs hL hLn hr hvl i hi _ vs.length 0 acc (by omega) (by omega) ?_;rw[List.drop_zero];exact grow_l0 L vs hL hLn hr hvl d (i+1) _ (by omega) (by rw[List.length_append,List.length_map,Nat.succ_mul];omega)
theorem grow_ev (D : List (List Rg)) (hg : GdS D) (hl : D.length ≤ 1000000) (hs : sizeV D ≤ 1000000) : ∀ n : Nat, n ≤ D.length → Ev (fun k => Zas.f k D (n : Int)) (growV D n)
  | 0, _ => Ev.step (G := fun _ => some [[]]) (fun k => by rw [Zas.f, if_pos (show ((0 : Nat) : Int) = 0 from rfl)]) (Ev.const rfl)
  |n+1,hn=>by
    have hi:n<D.length:=by omega
    have ih:=grow_ev D hg hl hs n (by omega);have hgn:=(hg _ (List.getElem_mem hi)).1;have er:Zda D (n:Int)=D[n]:=by simp[Zda,List.getD_eq_getElem?_getD,List.getElem?_eq_getElem hi]
    have hw:wrap64 (((n+1:Nat):Int) - 1)=(n:Int):=by rw[w64 (by omega) (by omega)];omega
    have hvl:=Zdx hgn;have e1:=Zgv D n (by omega);have e2:=Zgv D (n+1) hn;have hd:D.getD n []=D[n]:=by simp[List.getD_eq_getElem?_getD,List.getElem?_eq_getElem hi]
    have l1:(growV D n).length≤sizeV D:=by rw[e1,Zhi];exact Zgm hg n
    have l2:(growV D (n+1)).length≤sizeV D:=by rw[e2,Zhi];exact Zgm hg (n+1)
    rw[growV,Zg6 _ _ (vals D[n]).length (fun x _=>by rw[hd,List.length_map])]at l2
    have hr:∀r ∈ growV D n,r.length≤1000000:=fun r h=>by
      rw[e1]at h;have:=(Zhe.1 h).len;rw[this,List.length_take]
      omega
    refine Ev.step (fun k=>by rw[Zas.f,if_neg (by omega),hw]) (Ev.bind ih ?_);refine Ev.Zaj (by omega) (Ev.Zaj (by omega) ?_);rw[er];refine Ev.bind (Zib D[n] hgn (Int.le_refl _)) ?_;have:=grow_l0 (growV D n) (vals D[n]) (by omega) (by omega) hr (by omega) (growV D n).length 0 [] (by omega) (by simp);rw[List.drop_zero,List.nil_append]at this;rw[growV,hd];exact this
theorem grow_all {D:List (List Rg)} (hg:GdS D) (hl:D.length≤1000000) (hs:sizeV D≤1000000):Ev (fun k=>Zas.f k D (D.length:Int)) (prV D):=by
  have:=grow_ev D hg hl hs D.length (Nat.le_refl _);rw[Zgv D _ (Nat.le_refl _),List.take_length]at this;exact this
end Go.Proofs.YtdpieallpbllkaaGreat.P
namespace Go.Proofs.YtdpieallpbllkaaGreat.P
open Go.RowKit Go.Proofs.YtdpieallpbllkaaGreatW.PrintWords Go.Proofs.YtdpieallpbllkaaGreatW.PrintLast Go.Proofs.YtdpieallpbllkaaGreatW.PrintMore
attribute [local go_sem] Zcv Zcx Zdj Zdk Zcm Zcn Zcw Zcy
def Zc3.f (k:Nat) (ag:List (S55)) (aa:List (S36)) (ay:Int) (ak:List Int) (ah:List Int):Option (Bool):=(Zbo.f k ag aa ay ak ah 2000).bind fun jF=>(if jF.2.2.2.2.2=true then((Zcj.f k jF.1 ([]:List (S36)) 0 ([]:List Int) ([]:List Int)).bind fun BM=>((Za9.f k jF.1 jF.2.1 jF.2.2.1 jF.2.2.2.1 jF.2.2.2.2.1).bind fun xV=>((Zas.f k xV (jF.1.length:Int)).bind fun EP=>(if BM.2=0 then((Zar.f k BM.1 EP).bind fun Il=>(if Il=true then((Zb1.f k).bind fun Im=>(some Im))else(none)))else(none)))))else((Zb1.f k).bind fun Ik=>(some Ik)))
set_option maxRecDepth 100000 in
theorem Zc3.calls (k : Nat) (dU : Option Addr) (dO : Nat) (ag : List (S55)) (aM : Option Addr) (aJ : Nat) (aa : List (S36)) (ay : Int) (bF : Option Addr) (bG : Nat) (ak : List Int) (bz : Option Addr) (bA : Nat) (ah : List Int) (r : Bool) (w : World) (mf : Kd.C k55 w dU ag.length ag) (lX : ag.length ≤ dO) (dL : Kd.C k36 w aM aa.length aa) (dK : aa.length ≤ aJ) (jK : Kd.C (Kd.int .i64) w bF ak.length ak) (jH : ak.length ≤ bG) (jL : Kd.C (Kd.int .i64) w bz ah.length ah) (jJ : ah.length ≤ bA) (h : Zc3.f k ag aa ay ak ah = some r) :
  Calls Tryz.prog 9 #[.agg #[.slice dU ag.length dO,.slice aM aa.length aJ,.int .i64 ay,.slice bF ak.length bG,.slice bz ah.length bA]] w fun e w'=>e= .returned (.bool r)∧Below w.heap.size w w':=by
 have hu28:=Tryz.underlying28;have iF:=Za.mk mf;have oI:=Za.mk lX;clear mf lX;have dW:=Za.mk dL;have eO:=Za.mk dK;clear dL dK;have jQ:=Za.mk jK;have jO:=Za.mk jH;clear jK jH;have jR:=Za.mk jL;have jP:=Za.mk jJ;clear jL jJ;have HB:=Za.mk (Below.refl w.heap.size w);have H:((Zbo.f k ag aa ay ak ah 2000).bind fun jF=>(if jF.2.2.2.2.2=true then((Zcj.f k jF.1 ([]:List (S36)) 0 ([]:List Int) ([]:List Int)).bind fun BM=>((Za9.f k jF.1 jF.2.1 jF.2.2.1 jF.2.2.2.1 jF.2.2.2.2.1).bind fun xV=>((Zas.f k xV (jF.1.length:Int)).bind fun EP=>(if BM.2=0 then((Zar.f k BM.1 EP).bind fun Il=>(if Il=true then((Zb1.f k).bind fun Im=>(some Im))else(none)))else(none)))))else((Zb1.f k).bind fun Ik=>(some Ik))))=some r:=h;clear h;obtain⟨⟨dQ,iO,kw,jw,kY,cwa⟩,A2,H⟩:=bnd H;try dsimp only at H
 by_cases c3:cwa=true
 case neg=>
  replace c3:=Bool.eq_false_iff.mpr c3;subst c3;replace H:=ifF H;obtain⟨Ik,A30,H⟩:=bnd H;try dsimp only at H
  obtain rfl:=sj H;go_enter Tryz.func9,Tryz.ntmps9
  go_wp2_with (first|((with_reducible refine Zao (N:=1) rfl ?_);refine bx 1 #[.slice dU ag.length dO,.slice aM aa.length aJ,.int .i64 ay,.slice bF ak.length bG,.slice bz ah.length bA] 28 ?_;intro dE hg w31 hbox hb;have d9:=Za.mk (hbox);have VJ:=Za.mk ((gE hg HB.out:w.heap.size≤dE));replace HB:=Za.mk (bS HB.out hb);clear hb hbox hg;obtain⟨MN,MO,RY,Sa,Sb,Mo,Mq,Ru,Rv,Rw⟩:=cz5 d9.out)|((with_reducible refine Zak (f:=10) rfl ?_);refine gl 10 Tryz.func10 #[.agg #[.slice dU ag.length dO,.slice aM aa.length aJ,.int .i64 ay,.slice bF ak.length bG,.slice bz ah.length bA],.int .i64 2000] ?_;(with_reducible refine(Zbo.calls k _ _ ag _ _ aa ay _ _ ak _ _ ah 2000 dQ iO kw jw kY false _ (cM (Kd.Zae iF.out HB.out)) oI.out (cM (Kd.Zae dW.out HB.out)) eO.out (cM (Kd.Zae jQ.out HB.out)) jO.out (cM (Kd.Zae jR.out HB.out)) jP.out A2.out).mono ?_);rintro e w33 ⟨Ps,Pt,Aj,Ak,rfl,ho0,ho1,ho2,ho3,hb⟩;refine⟨_,rfl,?_⟩;have iV:=Za.mk (Kd.Zc0 (Kd.Zb4 (ok':=fun k_=>some k_≠(Pt:Value).ownBlock∧some k_≠(Aj:Value).ownBlock∧some k_≠(Ak:Value).ownBlock∧k_≠dE) ho0 (fun k_ hk_=>⟨hk_.2.1,hk_.2.2.1,hk_.2.2.2,(Kd.freshB (kM d9.out) k_ hk_.1)⟩)) (Zac (bM HB.out)));have iW:=Za.mk (Kd.Zc0 (Kd.Zb4 (ok':=fun k_=>some k_≠(Ps:Value).ownBlock∧some k_≠(Aj:Value).ownBlock∧some k_≠(Ak:Value).ownBlock∧k_≠dE) ho1 (fun k_ hk_=>⟨hk_.2.1,hk_.2.2.1,hk_.2.2.2,(Kd.freshB (kM d9.out) k_ hk_.1)⟩)) (Zac (bM HB.out)));have iX:=Za.mk (Kd.Zbk (Kd.Za5 (ok':=fun k_=>some k_≠(Ak:Value).ownBlock) ho2 (fun _ hk_=>hk_.2)) (Zac (bM HB.out)));have iY:=Za.mk (Kd.Zbk (Kd.Za5 (ok':=fun k_=>some k_≠(Aj:Value).ownBlock) ho3 (fun _ hk_=>hk_.2)) (Zac (bM HB.out)));replace d9:=Za.mk (kB d9.out hb);replace HB:=Za.mk (bS HB.out hb);(try clear hb);(try clear hb2);(try clear hk);(try clear hi);(try clear ho0);(try clear ho1);(try clear ho2);(try clear ho3);obtain⟨ik,iq,NR⟩:=Kd.Zcu iV.out;subst NR;obtain⟨a3a,a4a,a5a,a6a,a7a,Y1,Y2,Y3,Y4,Y5⟩:=cz5 d9.out;obtain⟨fw,fA,tO⟩:=Kd.Zcu iW.out;subst tO;obtain⟨iM,iN,G9⟩:=Kd.Zbe iX.out;subst G9;obtain⟨iG,iH,xG⟩:=Kd.Zbe iY.out;subst xG)|((with_reducible refine Zak (f:=11) rfl ?_);refine gl 15 Tryz.func11 #[] ?_;(with_reducible refine(Zb1.calls k Ik _ A30.out).mono ?_);rintro e w39 ⟨rfl,hb⟩;refine⟨_,rfl,?_⟩;replace HB:=Za.mk (bS HB.out hb);clear iV iW iX iY d9;(try clear hb);(try clear hb2);(try clear hk);(try clear hi)))
  go_ret;exact⟨eR,bM HB.out⟩
 subst c3;rw[if_pos rfl]at H;obtain⟨⟨UY,Pm⟩,A4,H⟩:=bnd H;try dsimp only at H
 obtain⟨xV,A5,H⟩:=bnd H;try dsimp only at H
 obtain⟨EP,A6,H⟩:=bnd H;try dsimp only at H
 obtain⟨c7,H⟩:=ifP H;have l9:(Pm==0)=true:=beq_iff_eq.mpr c7;have Gx:(Pm !=0)=false:=bne_eq_false_iff_eq.mpr c7;clear c7;obtain⟨Il,A8,H⟩:=bnd H;try dsimp only at H
 by_cases c9:Il=true
 case neg=>
  replace c9:=Bool.eq_false_iff.mpr c9;subst c9;replace H:=ifF H;exact absurd H (by simp)
 subst c9;rw[if_pos rfl]at H;obtain⟨Im,A10,H⟩:=bnd H;try dsimp only at H
 obtain rfl:=sj H;go_enter Tryz.func9,Tryz.ntmps9;try go_wp2_with (first|((with_reducible refine Zao (N:=1) rfl ?_);refine bx 1 #[.slice dU ag.length dO,.slice aM aa.length aJ,.int .i64 ay,.slice bF ak.length bG,.slice bz ah.length bA] 28 ?_;intro dE hg w11 hbox hb;have d9:=Za.mk (hbox);have VJ:=Za.mk ((gE hg HB.out:w.heap.size≤dE));replace HB:=Za.mk (bS HB.out hb);clear hb hbox hg;obtain⟨nN,nO,nP,nQ,nR,nD,nE,nG,nH,nI⟩:=cz5 d9.out)|((with_reducible refine Zak (f:=10) rfl ?_);refine gl 10 Tryz.func10 #[.agg #[.slice dU ag.length dO,.slice aM aa.length aJ,.int .i64 ay,.slice bF ak.length bG,.slice bz ah.length bA],.int .i64 2000] ?_;(with_reducible refine(Zbo.calls k _ _ ag _ _ aa ay _ _ ak _ _ ah 2000 dQ iO kw jw kY true _ (cM (Kd.Zae iF.out HB.out)) oI.out (cM (Kd.Zae dW.out HB.out)) eO.out (cM (Kd.Zae jQ.out HB.out)) jO.out (cM (Kd.Zae jR.out HB.out)) jP.out A2.out).mono ?_);rintro e w13 ⟨Ps,Pt,Aj,Ak,rfl,ho0,ho1,ho2,ho3,hb⟩;refine⟨_,rfl,?_⟩;have iV:=Za.mk (Kd.Zc0 (Kd.Zb4 (ok':=fun k_=>some k_≠(Pt:Value).ownBlock∧some k_≠(Aj:Value).ownBlock∧some k_≠(Ak:Value).ownBlock∧k_≠dE) ho0 (fun k_ hk_=>⟨hk_.2.1,hk_.2.2.1,hk_.2.2.2,(Kd.freshB (kM d9.out) k_ hk_.1)⟩)) (Zac (bM HB.out)));have iW:=Za.mk (Kd.Zc0 (Kd.Zb4 (ok':=fun k_=>some k_≠(Ps:Value).ownBlock∧some k_≠(Aj:Value).ownBlock∧some k_≠(Ak:Value).ownBlock∧k_≠dE) ho1 (fun k_ hk_=>⟨hk_.2.1,hk_.2.2.1,hk_.2.2.2,(Kd.freshB (kM d9.out) k_ hk_.1)⟩)) (Zac (bM HB.out)));have iX:=Za.mk (Kd.Zbk (Kd.Za5 (ok':=fun k_=>some k_≠(Ak:Value).ownBlock) ho2 (fun _ hk_=>hk_.2)) (Zac (bM HB.out)));have iY:=Za.mk (Kd.Zbk (Kd.Za5 (ok':=fun k_=>some k_≠(Aj:Value).ownBlock) ho3 (fun _ hk_=>hk_.2)) (Zac (bM HB.out)));replace d9:=Za.mk (kB d9.out hb);replace HB:=Za.mk (bS HB.out hb);(try clear hb);(try clear hb2);(try clear hk);(try clear hi);(try clear ho0);(try clear ho1);(try clear ho2);(try clear ho3);obtain⟨dY,dV,G5⟩:=Kd.Zcu iV.out;subst G5;obtain⟨xe,xg,xh,yX,yY,wF,wG,wH,yN,yO⟩:=cz5 d9.out;obtain⟨dG,dH,E9⟩:=Kd.Zcu iW.out;subst E9;obtain⟨ek,eu,zh⟩:=Kd.Zbe iX.out;subst zh;obtain⟨gG,gI,zi⟩:=Kd.Zbe iY.out;subst zi)|((with_reducible refine Zao (N:=4) rfl ?_);refine bx 4 #[.slice none 0 0,.slice none 0 0,.int .i64 0,.slice none 0 0,.slice none 0 0] 28 ?_;intro bI hg w19 hbox hb;replace iV:=Za.mk (Kd.Zcs (Kd.N_elderB (nM (Kd.Zb4 (Kd.Zcg (p:=⟨dE,4,none⟩) (Kd.Zcg (p:=⟨dE,3,none⟩) (Kd.Zcg (p:=⟨dE,2,none⟩) (Kd.Zcg (p:=⟨dE,1,none⟩) (Kd.Zcg (p:=⟨dE,0,none⟩) (Kd.Zb4 iV.out (fun k_ hk=>(⟨hk,hk.2.2.2⟩:_∧k_≠dE))) (fun _ hk=>hk.2) (.slice dY dQ.length dV)) (fun _ hk=>hk.2) (.slice dG iO.length dH)) (fun _ hk=>hk.2) (.int .i64 kw)) (fun _ hk=>hk.2) (.slice ek jw.length eu)) (fun _ hk=>hk.2) (.slice gG kY.length gI)) (fun _ h_=>h_.1))) bI (Nat.le_of_eq hg.symm)) hb);replace iW:=Za.mk (Kd.Zcs (Kd.N_elderB (nM (Kd.Zb4 (Kd.Zcg (p:=⟨dE,4,none⟩) (Kd.Zcg (p:=⟨dE,3,none⟩) (Kd.Zcg (p:=⟨dE,2,none⟩) (Kd.Zcg (p:=⟨dE,1,none⟩) (Kd.Zcg (p:=⟨dE,0,none⟩) (Kd.Zb4 iW.out (fun k_ hk=>(⟨hk,hk.2.2.2⟩:_∧k_≠dE))) (fun _ hk=>hk.2) (.slice dY dQ.length dV)) (fun _ hk=>hk.2) (.slice dG iO.length dH)) (fun _ hk=>hk.2) (.int .i64 kw)) (fun _ hk=>hk.2) (.slice ek jw.length eu)) (fun _ hk=>hk.2) (.slice gG kY.length gI)) (fun _ h_=>h_.1))) bI (Nat.le_of_eq hg.symm)) hb);replace iX:=Za.mk (Kd.Zc (rM (Kd.Za5 (Kd.Zbs (p:=⟨dE,4,none⟩) (Kd.Zbs (p:=⟨dE,3,none⟩) (Kd.Zbs (p:=⟨dE,2,none⟩) (Kd.Zbs (p:=⟨dE,1,none⟩) (Kd.Zbs (p:=⟨dE,0,none⟩) (Kd.Zca iX.out d9.out (by decide)) (fun _ hk=>hk.2) (.slice dY dQ.length dV)) (fun _ hk=>hk.2) (.slice dG iO.length dH)) (fun _ hk=>hk.2) (.int .i64 kw)) (fun _ hk=>hk.2) (.slice ek jw.length eu)) (fun _ hk=>hk.2) (.slice gG kY.length gI)) (fun _ h_=>h_.1))) hb);replace iY:=Za.mk (Kd.Zc (rM (Kd.Za5 (Kd.Zbs (p:=⟨dE,4,none⟩) (Kd.Zbs (p:=⟨dE,3,none⟩) (Kd.Zbs (p:=⟨dE,2,none⟩) (Kd.Zbs (p:=⟨dE,1,none⟩) (Kd.Zbs (p:=⟨dE,0,none⟩) (Kd.Zca iY.out d9.out (by decide)) (fun _ hk=>hk.2) (.slice dY dQ.length dV)) (fun _ hk=>hk.2) (.slice dG iO.length dH)) (fun _ hk=>hk.2) (.int .i64 kw)) (fun _ hk=>hk.2) (.slice ek jw.length eu)) (fun _ hk=>hk.2) (.slice gG kY.length gI)) (fun _ h_=>h_.1))) hb);have ji:=Za.mk (hbox);have eja:=Za.mk ((gE hg HB.out:w.heap.size≤bI));replace HB:=Za.mk (bS HB.out hb);have xD:=Za.mk ((by rw[hg];exact Nat.ne_of_lt (Zc5 (g:=dE) (o:= .cells #[.slice dY dQ.length dV,.slice dG iO.length dH,.int .i64 kw,.slice ek jw.length eu,.slice gG kY.length gI] 28 (0,0)) (by(with_reducible repeat(first|refine Zag ?_ _|refine Zah ?_|refine Zaa ?_ _));refine Zau (cs:=#[.slice dY dQ.length dV,.slice dG iO.length dH,.int .i64 kw,.slice ek jw.length eu,.slice bz ah.length bA]) ?_ 4 _ rfl;(with_reducible repeat(first|refine Zag ?_ _|refine Zah ?_|refine Zaa ?_ _));refine Zau (cs:=#[.slice dY dQ.length dV,.slice dG iO.length dH,.int .i64 kw,.slice bF ak.length bG,.slice bz ah.length bA]) ?_ 3 _ rfl;(with_reducible repeat(first|refine Zag ?_ _|refine Zah ?_|refine Zaa ?_ _));refine Zau (cs:=#[.slice dY dQ.length dV,.slice dG iO.length dH,.int .i64 ay,.slice bF ak.length bG,.slice bz ah.length bA]) ?_ 2 _ rfl;(with_reducible repeat(first|refine Zag ?_ _|refine Zah ?_|refine Zaa ?_ _));refine Zau (cs:=#[.slice dY dQ.length dV,.slice aM aa.length aJ,.int .i64 ay,.slice bF ak.length bG,.slice bz ah.length bA]) ?_ 1 _ rfl;(with_reducible repeat(first|refine Zag ?_ _|refine Zah ?_|refine Zaa ?_ _));refine Zau (cs:=#[.slice dU ag.length dO,.slice aM aa.length aJ,.int .i64 ay,.slice bF ak.length bG,.slice bz ah.length bA]) ?_ 0 _ rfl;(with_reducible repeat(first|refine Zag ?_ _|refine Zah ?_|refine Zaa ?_ _));exact d9.out)):dE≠bI));have Ng:=Za.mk ((by rw[hg];exact Nat.ne_of_gt (Zc5 (g:=dE) (o:= .cells #[.slice dY dQ.length dV,.slice dG iO.length dH,.int .i64 kw,.slice ek jw.length eu,.slice gG kY.length gI] 28 (0,0)) (by(with_reducible repeat(first|refine Zag ?_ _|refine Zah ?_|refine Zaa ?_ _));refine Zau (cs:=#[.slice dY dQ.length dV,.slice dG iO.length dH,.int .i64 kw,.slice ek jw.length eu,.slice bz ah.length bA]) ?_ 4 _ rfl;(with_reducible repeat(first|refine Zag ?_ _|refine Zah ?_|refine Zaa ?_ _));refine Zau (cs:=#[.slice dY dQ.length dV,.slice dG iO.length dH,.int .i64 kw,.slice bF ak.length bG,.slice bz ah.length bA]) ?_ 3 _ rfl;(with_reducible repeat(first|refine Zag ?_ _|refine Zah ?_|refine Zaa ?_ _));refine Zau (cs:=#[.slice dY dQ.length dV,.slice dG iO.length dH,.int .i64 ay,.slice bF ak.length bG,.slice bz ah.length bA]) ?_ 2 _ rfl;(with_reducible repeat(first|refine Zag ?_ _|refine Zah ?_|refine Zaa ?_ _));refine Zau (cs:=#[.slice dY dQ.length dV,.slice aM aa.length aJ,.int .i64 ay,.slice bF ak.length bG,.slice bz ah.length bA]) ?_ 1 _ rfl;(with_reducible repeat(first|refine Zag ?_ _|refine Zah ?_|refine Zaa ?_ _));refine Zau (cs:=#[.slice dU ag.length dO,.slice aM aa.length aJ,.int .i64 ay,.slice bF ak.length bG,.slice bz ah.length bA]) ?_ 0 _ rfl;(with_reducible repeat(first|refine Zag ?_ _|refine Zah ?_|refine Zaa ?_ _));exact d9.out)):bI≠dE));replace d9:=Za.mk (Zb8 (g:=dE) (o:= .cells #[.slice dY dQ.length dV,.slice dG iO.length dH,.int .i64 kw,.slice ek jw.length eu,.slice gG kY.length gI] 28 (0,0)) (by(with_reducible repeat(first|refine Zag ?_ _|refine Zah ?_|refine Zaa ?_ _));refine Zau (cs:=#[.slice dY dQ.length dV,.slice dG iO.length dH,.int .i64 kw,.slice ek jw.length eu,.slice bz ah.length bA]) ?_ 4 _ rfl;(with_reducible repeat(first|refine Zag ?_ _|refine Zah ?_|refine Zaa ?_ _));refine Zau (cs:=#[.slice dY dQ.length dV,.slice dG iO.length dH,.int .i64 kw,.slice bF ak.length bG,.slice bz ah.length bA]) ?_ 3 _ rfl;(with_reducible repeat(first|refine Zag ?_ _|refine Zah ?_|refine Zaa ?_ _));refine Zau (cs:=#[.slice dY dQ.length dV,.slice dG iO.length dH,.int .i64 ay,.slice bF ak.length bG,.slice bz ah.length bA]) ?_ 2 _ rfl;(with_reducible repeat(first|refine Zag ?_ _|refine Zah ?_|refine Zaa ?_ _));refine Zau (cs:=#[.slice dY dQ.length dV,.slice aM aa.length aJ,.int .i64 ay,.slice bF ak.length bG,.slice bz ah.length bA]) ?_ 1 _ rfl;(with_reducible repeat(first|refine Zag ?_ _|refine Zah ?_|refine Zaa ?_ _));refine Zau (cs:=#[.slice dU ag.length dO,.slice aM aa.length aJ,.int .i64 ay,.slice bF ak.length bG,.slice bz ah.length bA]) ?_ 0 _ rfl;(with_reducible repeat(first|refine Zag ?_ _|refine Zah ?_|refine Zaa ?_ _));exact d9.out) hb);clear hb hbox hg;have eJa:=Ng.out;have fja:=xD.out;obtain⟨Er,Es,MF,MG,MH,Ec,Ed,Mf,Mg,Mh⟩:=cz5 ji.out)|((with_reducible refine Zak (f:=24) rfl ?_);refine gl 21 Tryz.func24 #[.agg #[.slice dY dQ.length dV,.slice none 0 0,.int .i64 0,.slice none 0 0,.slice none 0 0]] ?_;(refine(Zcj.calls k _ _ dQ _ _ ([]:List (S36)) 0 _ _ ([]:List Int) _ _ ([]:List Int) UY Pm _ ?side1 ?side2 ?side3 ?side4 ?side5 ?side6 ?side7 ?side8 A4.out).mono ?_);(case side1=>refine(Kd.Zbm (e:=55) (base:=w.heap.size) (ok:=fun k_=>((some k_≠(.slice dG iO.length dH:Value).ownBlock∧(some k_≠(.slice ek jw.length eu:Value).ownBlock∧(some k_≠(.slice gG kY.length gI:Value).ownBlock∧k_≠dE)))∧k_≠bI)) (n:=dQ.length) (c:=dV) ?_).2.2;exact(nM (Kd.Zb4 (Kd.Zcg (p:=⟨bI,4,none⟩) (Kd.Zcg (p:=⟨bI,3,none⟩) (Kd.Zcg (p:=⟨bI,2,none⟩) (Kd.Zcg (p:=⟨bI,1,none⟩) (Kd.Zcg (p:=⟨bI,0,none⟩) (Kd.Zb4 iV.out (fun k_ hk=>(⟨hk,hk.2⟩:_∧k_≠bI))) (fun _ hk=>hk.2) (.slice dY dQ.length dV)) (fun _ hk=>hk.2) (.slice none 0 0)) (fun _ hk=>hk.2) (.int .i64 0)) (fun _ hk=>hk.2) (.slice none 0 0)) (fun _ hk=>hk.2) (.slice none 0 0)) (fun _ h_=>h_.1))));(case side2=>exact(Kd.Zbm iV.out).2.1);(case side3=>exact Kd.Zfq _ _);(case side4=>exact Nat.le_refl _);(case side5=>exact Kd.Zfq _ _);(case side6=>exact Nat.le_refl _);(case side7=>exact Kd.Zfq _ _);(case side8=>exact Nat.le_refl _);rintro e w22 ⟨Pv,rfl,ho0,hb⟩;refine⟨_,rfl,?_⟩;have mH:=Za.mk (Kd.Zc0 (Kd.Zb4 (ok':=fun k_=>some k_≠(.slice dY dQ.length dV:Value).ownBlock∧some k_≠(.slice dG iO.length dH:Value).ownBlock∧some k_≠(.slice ek jw.length eu:Value).ownBlock∧some k_≠(.slice gG kY.length gI:Value).ownBlock∧k_≠dE∧k_≠bI) (Kd.S_N (Kd.Ze6 ho0)) (fun k_ hk_=>⟨(Kd.fresh' (Kd.N_lt (nM (Kd.Zb4 (Kd.Zcg (p:=⟨bI,4,none⟩) (Kd.Zcg (p:=⟨bI,3,none⟩) (Kd.Zcg (p:=⟨bI,2,none⟩) (Kd.Zcg (p:=⟨bI,1,none⟩) (Kd.Zcg (p:=⟨bI,0,none⟩) (Kd.Zb4 iV.out (fun k_ hk=>(⟨hk,hk.2⟩:_∧k_≠bI))) (fun _ hk=>hk.2) (.slice dY dQ.length dV)) (fun _ hk=>hk.2) (.slice none 0 0)) (fun _ hk=>hk.2) (.int .i64 0)) (fun _ hk=>hk.2) (.slice none 0 0)) (fun _ hk=>hk.2) (.slice none 0 0)) (fun _ h_=>h_.1)))) k_ hk_.2.1),(Kd.fresh' (Kd.N_lt (nM (Kd.Zb4 (Kd.Zcg (p:=⟨bI,4,none⟩) (Kd.Zcg (p:=⟨bI,3,none⟩) (Kd.Zcg (p:=⟨bI,2,none⟩) (Kd.Zcg (p:=⟨bI,1,none⟩) (Kd.Zcg (p:=⟨bI,0,none⟩) (Kd.Zb4 iW.out (fun k_ hk=>(⟨hk,hk.2⟩:_∧k_≠bI))) (fun _ hk=>hk.2) (.slice dY dQ.length dV)) (fun _ hk=>hk.2) (.slice none 0 0)) (fun _ hk=>hk.2) (.int .i64 0)) (fun _ hk=>hk.2) (.slice none 0 0)) (fun _ hk=>hk.2) (.slice none 0 0)) (fun _ h_=>h_.1)))) k_ hk_.2.1),(Kd.fresh' (Kd.R_lt (rM (Kd.Za5 (Kd.Zbs (p:=⟨bI,4,none⟩) (Kd.Zbs (p:=⟨bI,3,none⟩) (Kd.Zbs (p:=⟨bI,2,none⟩) (Kd.Zbs (p:=⟨bI,1,none⟩) (Kd.Zbs (p:=⟨bI,0,none⟩) (Kd.Zca iX.out ji.out (by decide)) (fun _ hk=>hk.2) (.slice dY dQ.length dV)) (fun _ hk=>hk.2) (.slice none 0 0)) (fun _ hk=>hk.2) (.int .i64 0)) (fun _ hk=>hk.2) (.slice none 0 0)) (fun _ hk=>hk.2) (.slice none 0 0)) (fun _ h_=>h_.1)))) k_ hk_.2.1),(Kd.fresh' (Kd.R_lt (rM (Kd.Za5 (Kd.Zbs (p:=⟨bI,4,none⟩) (Kd.Zbs (p:=⟨bI,3,none⟩) (Kd.Zbs (p:=⟨bI,2,none⟩) (Kd.Zbs (p:=⟨bI,1,none⟩) (Kd.Zbs (p:=⟨bI,0,none⟩) (Kd.Zca iY.out ji.out (by decide)) (fun _ hk=>hk.2) (.slice dY dQ.length dV)) (fun _ hk=>hk.2) (.slice none 0 0)) (fun _ hk=>hk.2) (.int .i64 0)) (fun _ hk=>hk.2) (.slice none 0 0)) (fun _ hk=>hk.2) (.slice none 0 0)) (fun _ h_=>h_.1)))) k_ hk_.2.1),(Kd.freshB (g:=dE) (o:= .cells #[.slice dY dQ.length dV,.slice dG iO.length dH,.int .i64 kw,.slice ek jw.length eu,.slice gG kY.length gI] 28 (0,0)) (by(with_reducible repeat(first|exact d9.out|refine Zcr ?_ xD.out _|refine Zaa ?_ _|refine Zah ?_|refine Zag ?_ _))) k_ hk_.2.1),(Kd.freshB (g:=bI) (o:= .cells #[.slice dY dQ.length dV,.slice none 0 0,.int .i64 0,.slice none 0 0,.slice none 0 0] 28 (0,0)) (by(with_reducible repeat(first|refine Zag ?_ _|refine Zah ?_|refine Zaa ?_ _));refine Zau (cs:=#[.slice dY dQ.length dV,.slice none 0 0,.int .i64 0,.slice none 0 0,.slice none 0 0]) ?_ 4 _ rfl;(with_reducible repeat(first|refine Zag ?_ _|refine Zah ?_|refine Zaa ?_ _));refine Zau (cs:=#[.slice dY dQ.length dV,.slice none 0 0,.int .i64 0,.slice none 0 0,.slice none 0 0]) ?_ 3 _ rfl;(with_reducible repeat(first|refine Zag ?_ _|refine Zah ?_|refine Zaa ?_ _));refine Zau (cs:=#[.slice dY dQ.length dV,.slice none 0 0,.int .i64 0,.slice none 0 0,.slice none 0 0]) ?_ 2 _ rfl;(with_reducible repeat(first|refine Zag ?_ _|refine Zah ?_|refine Zaa ?_ _));refine Zau (cs:=#[.slice dY dQ.length dV,.slice none 0 0,.int .i64 0,.slice none 0 0,.slice none 0 0]) ?_ 1 _ rfl;(with_reducible repeat(first|refine Zag ?_ _|refine Zah ?_|refine Zaa ?_ _));refine Zau (cs:=#[.slice none 0 0,.slice none 0 0,.int .i64 0,.slice none 0 0,.slice none 0 0]) ?_ 0 _ rfl;(with_reducible repeat(first|refine Zag ?_ _|refine Zah ?_|refine Zaa ?_ _));exact ji.out) k_ hk_.2.1)⟩)) (Zac (bM HB.out)));replace iV:=Za.mk (Kd.Zdm (nM (Kd.Zb4 (Kd.Zcg (p:=⟨bI,4,none⟩) (Kd.Zcg (p:=⟨bI,3,none⟩) (Kd.Zcg (p:=⟨bI,2,none⟩) (Kd.Zcg (p:=⟨bI,1,none⟩) (Kd.Zcg (p:=⟨bI,0,none⟩) (Kd.Zb4 iV.out (fun k_ hk=>(⟨hk,hk.2⟩:_∧k_≠bI))) (fun _ hk=>hk.2) (.slice dY dQ.length dV)) (fun _ hk=>hk.2) (.slice none 0 0)) (fun _ hk=>hk.2) (.int .i64 0)) (fun _ hk=>hk.2) (.slice none 0 0)) (fun _ hk=>hk.2) (.slice none 0 0)) (fun _ h_=>h_.1))) (by first|exact Kd.Zew ho0|exact Kd.Zev ho0|exact Kd.Zct ho0) hb);replace iW:=Za.mk (Kd.Zdm (nM (Kd.Zb4 (Kd.Zcg (p:=⟨bI,4,none⟩) (Kd.Zcg (p:=⟨bI,3,none⟩) (Kd.Zcg (p:=⟨bI,2,none⟩) (Kd.Zcg (p:=⟨bI,1,none⟩) (Kd.Zcg (p:=⟨bI,0,none⟩) (Kd.Zb4 iW.out (fun k_ hk=>(⟨hk,hk.2⟩:_∧k_≠bI))) (fun _ hk=>hk.2) (.slice dY dQ.length dV)) (fun _ hk=>hk.2) (.slice none 0 0)) (fun _ hk=>hk.2) (.int .i64 0)) (fun _ hk=>hk.2) (.slice none 0 0)) (fun _ hk=>hk.2) (.slice none 0 0)) (fun _ h_=>h_.1))) (by first|exact Kd.Zew ho0|exact Kd.Zev ho0|exact Kd.Zct ho0) hb);replace iX:=Za.mk (Kd.Zc (rM (Kd.Za5 (Kd.Zbs (p:=⟨bI,4,none⟩) (Kd.Zbs (p:=⟨bI,3,none⟩) (Kd.Zbs (p:=⟨bI,2,none⟩) (Kd.Zbs (p:=⟨bI,1,none⟩) (Kd.Zbs (p:=⟨bI,0,none⟩) (Kd.Zca iX.out ji.out (by decide)) (fun _ hk=>hk.2) (.slice dY dQ.length dV)) (fun _ hk=>hk.2) (.slice none 0 0)) (fun _ hk=>hk.2) (.int .i64 0)) (fun _ hk=>hk.2) (.slice none 0 0)) (fun _ hk=>hk.2) (.slice none 0 0)) (fun _ h_=>h_.1))) hb);replace iY:=Za.mk (Kd.Zc (rM (Kd.Za5 (Kd.Zbs (p:=⟨bI,4,none⟩) (Kd.Zbs (p:=⟨bI,3,none⟩) (Kd.Zbs (p:=⟨bI,2,none⟩) (Kd.Zbs (p:=⟨bI,1,none⟩) (Kd.Zbs (p:=⟨bI,0,none⟩) (Kd.Zca iY.out ji.out (by decide)) (fun _ hk=>hk.2) (.slice dY dQ.length dV)) (fun _ hk=>hk.2) (.slice none 0 0)) (fun _ hk=>hk.2) (.int .i64 0)) (fun _ hk=>hk.2) (.slice none 0 0)) (fun _ hk=>hk.2) (.slice none 0 0)) (fun _ h_=>h_.1))) hb);replace d9:=Za.mk (Zb8 (g:=dE) (o:= .cells #[.slice dY dQ.length dV,.slice dG iO.length dH,.int .i64 kw,.slice ek jw.length eu,.slice gG kY.length gI] 28 (0,0)) (by(with_reducible repeat(first|exact d9.out|refine Zcr ?_ xD.out _|refine Zaa ?_ _|refine Zah ?_|refine Zag ?_ _))) hb);replace ji:=Za.mk (Zb8 (g:=bI) (o:= .cells #[.slice dY dQ.length dV,.slice none 0 0,.int .i64 0,.slice none 0 0,.slice none 0 0] 28 (0,0)) (by(with_reducible repeat(first|refine Zag ?_ _|refine Zah ?_|refine Zaa ?_ _));refine Zau (cs:=#[.slice dY dQ.length dV,.slice none 0 0,.int .i64 0,.slice none 0 0,.slice none 0 0]) ?_ 4 _ rfl;(with_reducible repeat(first|refine Zag ?_ _|refine Zah ?_|refine Zaa ?_ _));refine Zau (cs:=#[.slice dY dQ.length dV,.slice none 0 0,.int .i64 0,.slice none 0 0,.slice none 0 0]) ?_ 3 _ rfl;(with_reducible repeat(first|refine Zag ?_ _|refine Zah ?_|refine Zaa ?_ _));refine Zau (cs:=#[.slice dY dQ.length dV,.slice none 0 0,.int .i64 0,.slice none 0 0,.slice none 0 0]) ?_ 2 _ rfl;(with_reducible repeat(first|refine Zag ?_ _|refine Zah ?_|refine Zaa ?_ _));refine Zau (cs:=#[.slice dY dQ.length dV,.slice none 0 0,.int .i64 0,.slice none 0 0,.slice none 0 0]) ?_ 1 _ rfl;(with_reducible repeat(first|refine Zag ?_ _|refine Zah ?_|refine Zaa ?_ _));refine Zau (cs:=#[.slice none 0 0,.slice none 0 0,.int .i64 0,.slice none 0 0,.slice none 0 0]) ?_ 0 _ rfl;(with_reducible repeat(first|refine Zag ?_ _|refine Zah ?_|refine Zaa ?_ _));exact ji.out) hb);replace HB:=Za.mk (bS HB.out hb);(try clear hb);(try clear hb2);(try clear hk);(try clear hi);(try clear ho0)))
 replace iV:=Za.mk (Kd.Zfj iV.out);replace iW:=Za.mk (Kd.Zfj iW.out);replace iX:=Za.mk (Kd.Zgp iX.out);replace iY:=Za.mk (Kd.Zgp iY.out);replace mH:=Za.mk (Kd.Zfj mH.out);replace d9:=Za.mk (Zah d9.out);replace ji:=Za.mk (Zah ji.out);replace HB:=Za.mk (Zc4 HB.out);refine Zfp (n:=7) (S:=fun w'=>w'.cell? ⟨dE,0,none⟩=some (.slice dY dQ.length dV)∧w'.cell? ⟨dE,1,none⟩=some (.slice dG iO.length dH)∧w'.cell? ⟨dE,2,none⟩=some (.int .i64 kw)∧w'.cell? ⟨dE,3,none⟩=some (.slice ek jw.length eu)∧w'.cell? ⟨dE,4,none⟩=some (.slice gG kY.length gI)) (ds:= []) #[false,false,false,false,false,false,false] (by kernel_rfl) rfl rfl ⟨bc d9.out 0,bc d9.out 1,bc d9.out 2,bc d9.out 3,bc d9.out 4⟩ (fun hHeld=> ?_)
 generalize w22.drew=w23 at iV iW iX iY mH d9 ji HB hHeld ⊢
 refine pure_ (i:=2) (N:=some 26) (v:=?_) (a':=?_) #[false,false,true,false,false,false,false] rfl rfl (by kernel_rfl) (fun _ _ _ h=>h) (Or.inl ⟨by rfl,?_⟩) ?_ ?_;rotate_left
 ·intro w'
  go_simp
  with_reducible rfl
 rotate_left
 ·simp only [Act.put, List.setIfInBounds_toArray, List.set_cons_zero, List.set_cons_succ, Zd0, Zd8]
  rfl
 refine take_ (i:=0) (N:=some 24) (v:=?_) (a':=?_) #[true,false,true,false,false,false,false] rfl rfl (by kernel_rfl) (fun _ _ _ h=>h) (Or.inl ⟨by rfl,?_⟩) hHeld ?_ ?_;rotate_left
 ·rintro w' ⟨s0, s1, s2, s3, s4⟩
  go_simp
  with_reducible rfl
 rotate_left
 ·simp only [Act.put, List.setIfInBounds_toArray, List.set_cons_zero, List.set_cons_succ, Zd0, Zd8]
  rfl
 refine take_ (i:=3) (N:=some 27) (v:=?_) (a':=?_) #[true,false,true,true,false,false,false] rfl rfl (by kernel_rfl) (fun _ _ _ h=>h) (Or.inl ⟨by rfl,?_⟩) hHeld ?_ ?_;rotate_left
 ·rintro w' ⟨s0, s1, s2, s3, s4⟩
  go_simp
  with_reducible rfl
 rotate_left
 ·simp only [Act.put, List.setIfInBounds_toArray, List.set_cons_zero, List.set_cons_succ, Zd0, Zd8]
  rfl
 refine pure_ (i:=4) (N:=some 28) (v:=?_) (a':=?_) #[true,false,true,true,true,false,false] rfl rfl (by kernel_rfl) (fun _ _ _ h=>h) (Or.inl ⟨by rfl,?_⟩) ?_ ?_;rotate_left
 ·intro w'
  go_simp
  with_reducible rfl
 rotate_left
 ·simp only [Act.put, List.setIfInBounds_toArray, List.set_cons_zero, List.set_cons_succ, Zd0, Zd8]
  rfl
 refine one_ (i:=1) (N:=some 25) #[true,true,true,true,true,false,false] rfl rfl (by kernel_rfl) (by decide) (fun K hK=> ?_);refine gs Tryz.func22 #[.agg #[.slice dY dQ.length dV,.slice dG iO.length dH,.int .i64 kw,.slice ek jw.length eu,.slice gG kY.length gI]] ?_
 with_reducible refine(Za9.calls k (fun k_=>(((some k_≠(.slice dG iO.length dH:Value).ownBlock∧(some k_≠(.slice ek jw.length eu:Value).ownBlock∧(some k_≠(.slice gG kY.length gI:Value).ownBlock∧k_≠dE)))∧k_≠bI)∧some k_≠(Pv:Value).ownBlock)) _ _ dQ _ _ iO kw _ _ jw _ _ kY xV _ (Kd.N_V (iV.out)) (cM ((Kd.Zbm iW.out).2.2)) ((Kd.Zbm iW.out).2.1) (cM ((Kd.Zaq iX.out).2.2)) ((Kd.Zaq iX.out).2.1) (cM ((Kd.Zaq iY.out).2.2)) ((Kd.Zaq iY.out).2.1) A5.out).mono ?_
 rintro e w24 ⟨oNa,rfl,ho0,hb⟩;refine⟨_,rfl,?_⟩;replace iV:=Za.mk (Kd.Zdm (nM iV.out) (by first|exact Kd.Zew ho0|exact Kd.Zev ho0|exact Kd.Zct ho0) hb);have vO:=Za.mk (Kd.Zc0 (Kd.Zb4 (ok':=fun k_=>some k_≠(.slice dG iO.length dH:Value).ownBlock∧some k_≠(.slice ek jw.length eu:Value).ownBlock∧some k_≠(.slice gG kY.length gI:Value).ownBlock∧some k_≠(Pv:Value).ownBlock∧k_≠dE∧k_≠bI) ho0 (fun k_ hk_=>⟨Or.elim hk_ (fun hs_=>hs_.1.1.1) (fun hn_=>(Kd.fresh' (Kd.N_lt (nM iW.out)) k_ hn_)),Or.elim hk_ (fun hs_=>hs_.1.1.2.1) (fun hn_=>(Kd.fresh' (Kd.R_lt (rM iX.out)) k_ hn_)),Or.elim hk_ (fun hs_=>hs_.1.1.2.2.1) (fun hn_=>(Kd.fresh' (Kd.R_lt (rM iY.out)) k_ hn_)),Or.elim hk_ (fun hs_=>hs_.2) (fun hn_=>(Kd.fresh' (Kd.N_lt (nM mH.out)) k_ hn_)),Or.elim hk_ (fun hs_=>hs_.1.1.2.2.2) (fun hn_=>(Kd.freshB (kM d9.out) k_ hn_)),Or.elim hk_ (fun hs_=>hs_.1.2) (fun hn_=>(Kd.freshB (kM ji.out) k_ hn_))⟩)) (Zac (bM HB.out)));replace iW:=Za.mk (Kd.Zdm (nM iW.out) (by first|exact Kd.Zew ho0|exact Kd.Zev ho0|exact Kd.Zct ho0) hb);replace iX:=Za.mk (Kd.Zc (rM iX.out) hb);replace iY:=Za.mk (Kd.Zc (rM iY.out) hb);replace mH:=Za.mk (Kd.Zdm (nM mH.out) (by first|exact Kd.Zew ho0|exact Kd.Zev ho0|exact Kd.Zct ho0) hb);replace d9:=Za.mk (kB d9.out hb);replace ji:=Za.mk (kB ji.out hb);replace HB:=Za.mk (bS HB.out hb)
 (try clear hb)
 (try clear hb2)
 (try clear hk)
 (try clear hi)
 (try clear ho0)
 obtain⟨JP,Lm,Lp⟩:=Kd.Zcu vO.out
 (first|subst Lp|(injection Lp with f1_ f2_ f3_;have f4_:=f1_.symm;have f5_:=f3_.symm;clear f1_ f2_ f3_;subst f4_;subst f5_))
 refine hK.out _ _ ⟨bc d9.out 0,bc d9.out 1,bc d9.out 2,bc d9.out 3,bc d9.out 4⟩ (fun hHeld=> ?_);clear hK K;refine nmp 25 ?_;refine one_ (i:=5) (N:=some 29) #[true,true,true,true,true,true,false] rfl rfl (by kernel_rfl) (by decide) (fun K hK=> ?_);refine gs Tryz.func29 #[.slice JP xV.length Lm,.int .i64 (dQ.length:Int)] ?_
 with_reducible refine(Zas.calls k _ _ xV (dQ.length:Int) EP _ (cM ((Kd.Zbm vO.out).2.2)) ((Kd.Zbm vO.out).2.1) A6.out).mono ?_
 rintro e w26 ⟨oOa,rfl,ho0,hb⟩;refine⟨_,rfl,?_⟩;have Fy:=Za.mk (Kd.Zc0 (Kd.Zb4 (ok':=fun k_=>some k_≠(.slice dY dQ.length dV:Value).ownBlock∧some k_≠(.slice dG iO.length dH:Value).ownBlock∧some k_≠(.slice ek jw.length eu:Value).ownBlock∧some k_≠(.slice gG kY.length gI:Value).ownBlock∧some k_≠(Pv:Value).ownBlock∧some k_≠(.slice JP xV.length Lm:Value).ownBlock∧k_≠dE∧k_≠bI) ho0 (fun k_ hk_=>⟨(Kd.fresh' (Kd.N_lt (nM iV.out)) k_ hk_),(Kd.fresh' (Kd.N_lt (nM iW.out)) k_ hk_),(Kd.fresh' (Kd.R_lt (rM iX.out)) k_ hk_),(Kd.fresh' (Kd.R_lt (rM iY.out)) k_ hk_),(Kd.fresh' (Kd.N_lt (nM mH.out)) k_ hk_),(Kd.fresh' (Kd.N_lt (nM vO.out)) k_ hk_),(Kd.freshB (kM d9.out) k_ hk_),(Kd.freshB (kM ji.out) k_ hk_)⟩)) (Zac (bM HB.out)));replace iV:=Za.mk (Kd.Zdm (nM iV.out) (by first|exact Kd.Zew ho0|exact Kd.Zev ho0|exact Kd.Zct ho0) hb);replace iW:=Za.mk (Kd.Zdm (nM iW.out) (by first|exact Kd.Zew ho0|exact Kd.Zev ho0|exact Kd.Zct ho0) hb);replace iX:=Za.mk (Kd.Zc (rM iX.out) hb);replace iY:=Za.mk (Kd.Zc (rM iY.out) hb);replace mH:=Za.mk (Kd.Zdm (nM mH.out) (by first|exact Kd.Zew ho0|exact Kd.Zev ho0|exact Kd.Zct ho0) hb);replace vO:=Za.mk (Kd.Zdm (nM vO.out) (by first|exact Kd.Zew ho0|exact Kd.Zev ho0|exact Kd.Zct ho0) hb);replace d9:=Za.mk (kB d9.out hb);replace ji:=Za.mk (kB ji.out hb);replace HB:=Za.mk (bS HB.out hb)
 (try clear hb)
 (try clear hb2)
 (try clear hk)
 (try clear hi)
 (try clear ho0)
 refine hK.out _ _ ⟨bc d9.out 0,bc d9.out 1,bc d9.out 2,bc d9.out 3,bc d9.out 4⟩ (fun hHeld=> ?_);clear hK K;refine nmp 29 ?_;refine pure_ (i:=6) (N:=some 7) (v:=?_) (a':=?_) #[true,true,true,true,true,true,true] rfl rfl (by kernel_rfl) (fun _ _ _ h=>h) (Or.inl ⟨by rfl,?_⟩) ?_ ?_;rotate_left
 ·intro w'
  go_simp
  with_reducible rfl
 rotate_left
 ·simp only [Act.put, List.setIfInBounds_toArray, List.set_cons_zero, List.set_cons_succ, Zd0, Zd8]
  rfl
 refine Zhw (by kernel_rfl) ?_;obtain⟨TM,Uj,NN⟩:=Kd.Zcu mH.out;subst NN;obtain⟨Np,NB,G8⟩:=Kd.Zcu Fy.out;subst G8;try go_wp2_with (first|(go_at_call 25;(with_reducible refine(Zar.calls k _ _ UY _ _ EP true _ (cM ((Kd.Zbm mH.out).2.2)) ((Kd.Zbm mH.out).2.1) (cM ((Kd.Zbm Fy.out).2.2)) ((Kd.Zbm Fy.out).2.1) A8.out).mono ?_);rintro e w' ⟨rfl,⟨nd,rfl⟩⟩)|(go_at_call 11;(with_reducible refine(Zb1.calls k Im _ A10.out).mono ?_);rintro e w29 ⟨rfl,hb⟩;replace HB:=Za.mk (bS HB.out hb);clear iV iW iX iY mH vO Fy d9 ji;(try clear hb);(try clear hb2);(try clear hk);(try clear hi)))
 go_ret;exact⟨eR,bM HB.out⟩
end Go.Proofs.YtdpieallpbllkaaGreat.P
/- secateurlaw06.MeaningDoms: without constraints all lists of the domains' values solve. -/
namespace Go.Proofs.YtdpieallpbllkaaGreat.P
open Go.RowKit Go.Proofs.YtdpieallpbllkaaGreatW.PrintWords Go.Proofs.YtdpieallpbllkaaGreatW.PrintLast Go.Proofs.YtdpieallpbllkaaGreatW.PrintMore
theorem chkE_free {V:List S55} {C:List S36} {gk:Int} {gv gc:List Int} (h:chkE V C gk gv gc=0):chkE V [] 0 [] []=0:=by
  unfold chkE at h ⊢
  split at h
  · exact absurd h (by decide)
  rename_i q0
  split at h
  · rename_i q
    rw[if_neg (by simp;omega),if_pos q]
    rfl
  rename_i q;exact absurd h q
theorem okM_free {V : List S55} {C : List S36} {gk : Int} {gv gc : List Int} (h : OkM V C gk gv gc) : OkM V [] 0 [] [] where
  sm := { vs := h.sm.vs
          nm:=h.sm.nm
          dm:=h.sm.dm
          cl:=by simp
          cs:=fun c hc=>absurd hc List.not_mem_nil
          gv:=by simp
          gc := by simp }
  vs:=h.vs
  cl:=by simp
  cs:=fun c hc=>absurd hc List.not_mem_nil
  gvl:=by simp
  gcl:=by simp
  okc:=fun c hc=>absurd hc List.not_mem_nil
  gw:=fun c hc=>absurd hc List.not_mem_nil
theorem solsV_free (V:List S55):solsV V []=prV (domsOf V):=by
  unfold solsV;refine List.filter_eq_self.2 fun a ha=> ?_
  unfold solB;rw[Zgw.2 (Zhe.1 ha)]
  rfl
theorem mdoms_ev (x0:List S55) (x1:List S36) (x2:Int) (x3 x4:List Int) (ho:OkM (bV x0) (bC x1) x2 (x3.take 14) (x4.take 14)):Ev (fun k=>Zc3.f k x0 x1 x2 x3 x4) true:=by
  unfold Zc3.f;refine Ev.bind (right6_ev x0 x1 x2 x3 x4 ho 2000 (by omega)) ?_
  cases q:rightM (bV x0) (bC x1) x2 (x3.take 14) (x4.take 14) 2000 with
  | false => exact Ev.Zat (by simp) (Ev.bind Zh6 (Ev.const rfl))
  |true=>
    unfold rightM at q;rw[Bool.and_eq_true,decide_eq_true_eq]at q;obtain⟨q,hs⟩:=q;have hg:=chkE_V q;have hdl:=Zeu (bV x0);have hvs:=ho.vs;have hp:=prV_size (by omega) hs;have hA:=all_ev (okM_free ho) (chkE_free q) (smallG_le (by omega) hs);rw[solsV_free]at hA;have hG:=grow_all hg (by omega) (by rw[←Zhi];omega);rw[hdl]at hG;have hL:=ref_Lists (prV (domsOf (bV x0))) (prV (domsOf (bV x0))) (by omega) (fun r h=>by have:=(Zhe.1 h).len;omega);rw[decide_eq_true rfl]at hL;refine Ev.Zaj rfl (Ev.bind hA (Ev.bind (rdoms_ev (bV x0) (bC x1) x2 (x3.take 14) (x4.take 14) (by omega) (fun v hv=>by have:=ho.sm.dm v hv;omega)) (Ev.bind hG ?_)));exact Ev.Zaj rfl (Ev.bind hL (Ev.Zaj rfl (Ev.bind Zh6 (Ev.const rfl))))
theorem Zhb (A0 : Option Addr) (c0 : Nat) (x0 : List S55) (A1 : Option Addr) (c1 : Nat) (x1 : List S36) (x2 : Int) (A3 : Option Addr) (c3 : Nat) (x3 : List Int) (A4 : Option Addr) (c4 : Nat) (x4 : List Int) (W : World)
    (hC0:Kd.C k55 W A0 x0.length x0) (hc0:x0.length≤c0) (ok0:List.length x0*40≤140737488351232∧∀v ∈ x0,VarOk v) (hC1:Kd.C k36 W A1 x1.length x1) (hc1:x1.length≤c1) (ok1:List.length x1*104≤140737488351232∧∀c ∈ x1,ConOk c) (ok2:(Lit.int .i64 x2).wf=true)
    (hC3:Kd.C (Kd.int .i64) W A3 x3.length x3) (hc3:x3.length≤c3) (ok3:List.length x3*8≤140737488351232∧∀y ∈ x3,(Lit.int .i64 y).wf=true) (hC4:Kd.C (Kd.int .i64) W A4 x4.length x4) (hc4:x4.length≤c4) (ok4:List.length x4*8≤140737488351232∧∀y ∈ x4,(Lit.int .i64 y).wf=true):
    Calls Tryz.prog 9 #[.agg #[.slice A0 x0.length c0,.slice A1 x1.length c1,.int .i64 x2,.slice A3 x3.length c3,.slice A4 x4.length c4]] W fun e W'=>e= .returned (.bool true)∧Below W.heap.size W W':=by
  have ho:=okM_bound x0 x1 x2 x3 x4 ok1.2 ok4.2;obtain⟨k,hk⟩:=(mdoms_ev x0 x1 x2 x3 x4 ho).out;exact Zc3.calls k A0 c0 x0 A1 c1 x1 x2 A3 c3 x3 A4 c4 x4 true W hC0 hc0 hC1 hc1 hC3 hc3 hC4 hc4 hk
end Go.Proofs.YtdpieallpbllkaaGreat.P
/- What a datum of a statement's arguments holds: a number, a text, a row, a struct, whatever is nested: its cells read as a value of the kind; and how long its rows are at most (by the weight of the whole). -/
namespace Go.Proofs.YtdpieallpbllkaaGreat.P
open Go.RowKit Go.ChangeShapes Go.WideShapes Go.Proofs.YtdpieallpbllkaaGreatW.PrintWords
structure OpensZ {α : Type} (P : Program) (d : Kd α) (ok : α → Prop) (t : TypeId) : Prop where
  out : ∀ {H : Type} (enc : TypeId × Value → H) (w : World) (base : Nat) (sp : Nat → Bool) (held : Bool) (fuel : Nat) (cs : List Value) (x : DataW H × List MemPlace),
    DataW.trod enc P w base sp held fuel t cs=some x→(∀n ∈ x.1.weights P t,n≤reachBytes)→∃v:α,d.K w v cs∧ok v
theorem OpensZ.int {P:Program} {t:TypeId} {k:IntKind} (ht:P.underlying t=some (.int k)):OpensZ P (Kd.int k) (fun n=>(Lit.int k n).wf=true) t:=by
  refine⟨?_⟩;intro H enc w base sp held fuel cs x h hz;obtain⟨n,rfl,rfl,hw⟩:=DataW.trod_int ht h;exact⟨n,rfl,hw⟩
theorem OpensZ.bool {P:Program} {t:TypeId} (ht:P.underlying t=some .bool):OpensZ P Kd.bool (fun _=>True) t:=by
  refine⟨?_⟩;intro H enc w base sp held fuel cs x h hz;obtain⟨b,rfl,rfl⟩:=DataW.trod_bool ht h;exact⟨b,rfl,trivial⟩
theorem OpensZ.string {P:Program} {t:TypeId} (ht:P.underlying t=some .string):OpensZ P Kd.string (fun s=>s.size≤maxLen) t:=by
  refine⟨?_⟩;intro H enc w base sp held fuel cs x h hz;obtain⟨s,rfl,rfl,hs⟩:=DataW.trod_string ht h;exact⟨s,rfl,hs⟩
theorem OpensZ.iso {α β:Type} {P:Program} {d:Kd α} {ok:α→Prop} {t:TypeId} (h:OpensZ P d ok t) (f:β→α) (g:α→β) (hfg:∀a,f (g a)=a):OpensZ P (Kd.iso d f) (fun b=>ok (f b)) t:=by
  refine⟨?_⟩;intro H enc w base sp held fuel cs x hx hz;obtain⟨v,hK,hok⟩:=h.out enc w base sp held fuel cs x hx hz;exact⟨g v,by show d.K w (f (g v)) cs;rw[hfg];exact hK,by show ok (f (g v));rw[hfg];exact hok⟩
theorem Zg {H:Type} {P:Program} {t e:TypeId} (ht:P.underlying t=some (.slice e)) {el sp:List (DataW H)} :(DataW.slice el sp:DataW H).weights P t=(el.length+sp.length)*P.bytesOf e::(DataW.weightsAll P e el++DataW.weightsAll P e sp):=by simp[DataW.weights,ht]
theorem weights_agg {H:Type} {P:Program} {t:TypeId} {fs:Array Field} (ht:P.underlying t=some (.struct fs)) {ps:List (DataW H)} :(DataW.agg ps:DataW H).weights P t=DataW.weightsEach P (fs.toList.map (·.type)) ps:=by simp[DataW.weights,ht]
theorem Zfm {H : Type} {P : Program} {e : TypeId} {d : DataW H} : ∀ {l : List (DataW H)}, d ∈ l → ∀ {n : Nat}, n ∈ d.weights P e → n ∈ DataW.weightsAll P e l
  |x::l,hd,n,hn=>by
    simp only[DataW.weightsAll,List.mem_append]
    rcases List.mem_cons.1 hd with rfl|hd
    · exact .inl hn
    exact .inr (Zfm hd hn)
theorem choose_list {α:Type} {n:Nat} {R:Nat→α→Prop} (h:∀i,i<n→∃a,R i a):∃l:List α,l.length=n∧∀i (hi:i<l.length),R i l[i]:=by
  induction n with
  | zero => exact ⟨[], rfl, fun i hi => absurd hi (by simp)⟩
  |succ n ih=>
    obtain⟨l,hl,hR⟩:=ih (fun i hi=>h i (by omega));obtain⟨a,ha⟩:=h n (by omega);refine⟨l++ [a],by simp[hl],fun i hi=> ?_⟩
    rcases Nat.lt_or_ge i l.length with hlt|hge
    · rw [List.getElem_append_left hlt]
      exact hR i hlt
    have:i=l.length:=by simp at hi;omega
    subst this;rw[List.getElem_append_right (by omega)]
    simpa[hl] using ha
theorem addr_add (a:Addr) (i j:Nat):(a.add i).add j=a.add (i+j):=by
  by_cases h:i=0
  · subst h;simp[Addr.add]
  by_cases h2:j=0
  · subst h2;simp[Addr.add]
  simp[Addr.add,h,h2,Nat.add_assoc]
theorem OpensZ.row {α : Type} {P : Program} {d : Kd α} {ok : α → Prop} {t e : TypeId} {B : Nat} (ht : P.underlying t = some (.slice e)) (hc : P.cellsOf e = d.sz) (hB : P.bytesOf e = B) (h : OpensZ P d ok e) :
    OpensZ P (Kd.slice e d) (fun l=>l.length*B≤140737488351232∧∀x ∈ l,ok x) t:=by
  refine⟨?_⟩;intro H enc w base sp held fuel cs x hx hz
  rcases Go.Deep.open_slice ht hx with ⟨rfl,rfl⟩|⟨a,len,cap,m,n,D,Pl,rfl,hb,hl,hm,hmm,rfl,he⟩
  · exact⟨[],⟨none,0,rfl,Nat.le_refl _,rfl,by simp,fun h=>absurd h (by simp)⟩,by simp,fun x hx=>by simp at hx⟩
  have hlm:len≤m:=by rw[hmm];split<;>omega
  have each:∀i,i<len→∃v:α,ok v∧∃c,c.length=d.sz∧d.K w v c∧∀j u,c[j]? =some u→w.cell? (a.add (i*d.sz+j))=some u:=fun i hi=>by
    obtain⟨cs',h1,h2⟩:=he i (by omega)
    obtain ⟨v, hK, hok⟩ := h.out enc w base sp held n cs' _ h2 (fun q hq => hz q (by
      rw[Zg ht]
      refine List.mem_cons_of_mem _ (List.mem_append_left _ (Zfm (d := D i) (List.mem_map.2 ⟨i, List.mem_range.2 hi, rfl⟩) hq))))
    obtain⟨_,hlen,hcell⟩:=World.cells?_some h1;rw[hc]at hlen hcell;refine⟨v,hok,cs',hlen,hK,fun j u hu=> ?_⟩;have hj:j<d.sz:=by rw[←hlen];exact(List.getElem?_eq_some_iff.1 hu).1
    have:=hcell j hj;rw[hu]at this;rw[←this,addr_add]
  obtain⟨l,hll,hR⟩:=choose_list each;have hmax:cap≤9223372036854775807:=by unfold maxLen at hm;exact hm
  refine⟨l,⟨some a,cap,by rw[hll],by omega,rfl,by omega,fun _=>⟨a,rfl,fun j p hp=> ?_⟩⟩,?_,fun x hx=> ?_⟩
  · obtain ⟨hj, rfl⟩ := List.getElem?_eq_some_iff.1 hp
    obtain⟨_,c,h1,h2,h3⟩:=hR j hj;exact⟨c,h1,h2,h3⟩
  · have h3 := hz ((len + (m - len)) * P.bytesOf e) (by rw [Zg ht]; simp)
    rw[hB]at h3;rw[hll];exact Nat.le_trans (Nat.mul_le_mul_right _ (by omega)) h3
  obtain⟨i,hi,rfl⟩:=List.mem_iff_getElem.1 hx;exact(hR i hi).1
structure OpensZF {α : Type} (P : Program) (d : Kd α) (ok : α → Prop) (fs : List Field) (off : Nat) : Prop where
  out : ∀ {H : Type} (enc : TypeId × Value → H) (w : World) (base : Nat) (sp : Nat → Bool) (held : Bool) (fuel : Nat) (cs : List Value), cs.length = off + d.sz →
    (∀f ∈ fs,∃x,DataW.trod enc P w base sp held fuel f.type ((cs.drop f.offset).take (P.cellsOf f.type))=some x∧∀n ∈ x.1.weights P f.type,n≤reachBytes)→∃v:α,d.K w v (cs.drop off)∧ok v
theorem OpensZF.last {α:Type} {P:Program} {d:Kd α} {ok:α→Prop} {f:Field} {off:Nat} (ho:f.offset=off) (hc:P.cellsOf f.type=d.sz) (h:OpensZ P d ok f.type):OpensZF P d ok [f] off:=by
  refine⟨?_⟩;intro H enc w base sp held fuel cs hl hf;obtain⟨x,hx,hz⟩:=hf f (by simp);rw[ho,hc,List.take_of_length_le (by simp;omega)]at hx;exact h.out enc w base sp held fuel _ x hx hz
theorem OpensZF.cons {α β : Type} {P : Program} {d : Kd α} {ok : α → Prop} {d' : Kd β} {ok' : β → Prop} {f : Field} {fs : List Field} {off : Nat} (ho : f.offset = off) (hc : P.cellsOf f.type = d.sz) (h : OpensZ P d ok f.type) (h' : OpensZF P d' ok' fs (off + d.sz)) :
    OpensZF P (Kd.pair d d') (fun z=>ok z.1∧ok' z.2) (f::fs) off:=by
  refine⟨?_⟩;intro H enc w base sp held fuel cs hl hf;have hl':cs.length=off+(d.sz+d'.sz):=hl;obtain⟨x,hx,hz⟩:=hf f (by simp);obtain⟨v,hK,hok⟩:=h.out enc w base sp held fuel _ x hx hz;obtain⟨v',hK',hok'⟩:=h'.out enc w base sp held fuel cs (by omega) (fun g hg=>hf g (List.mem_cons_of_mem _ hg));rw[ho,hc]at hK;refine⟨(v,v'),⟨(cs.drop off).take d.sz,cs.drop (off+d.sz),?_,hK,hK'⟩,hok,hok'⟩;rw[←List.drop_drop,List.take_append_drop]
theorem OpensZ.struct {α:Type} {P:Program} {d:Kd α} {ok:α→Prop} {t:TypeId} {fs:List Field} (ht:P.underlying t=some (.struct fs.toArray)) (hc:P.cellsOf t=d.sz) (h:OpensZF P d ok fs 0):OpensZ P d ok t:=by
  refine⟨?_⟩;intro H enc w base sp held fuel cs x hx hz;obtain⟨xs,n,rfl,rfl,hl,hxl,hf⟩:=DataW.trod_struct ht hx
  have := h.out enc w base sp held n cs (by omega) (fun f hf' => by
    obtain⟨i,hi,rfl⟩:=List.mem_iff_getElem.1 hf';have:=hf i fs[i] (by simp[hi]);have hix:i<xs.length:=by simp at hxl;omega
    rw[List.getElem?_eq_getElem hix]at this;refine⟨xs[i],by simpa using this,fun q hq=>hz q ?_⟩;rw[weights_agg ht]
    exact DataW.weights_mem_each (j := i) (t := fs[i].type) (d := xs[i].1) (by simp [hi]) (by simp [hix]) q hq)
  simpa using this
theorem OpensZ.arg {α H : Type} {P : Program} {d : Kd α} {ok : List α → Prop} {e t : TypeId} (h : OpensZ P (Kd.slice e d) ok t) {enc : TypeId × Value → H} {w : World} {base : Nat} {sp : Nat → Bool} {held : Bool} {A : Option Addr} {len cap : Nat} {dt : DataW H} {ps : List MemPlace}
    (hT:DataW.Trod enc P w base sp held t (.slice A len cap) dt ps) (hz:∀n ∈ dt.weights P t,n≤reachBytes):∃l:List α,l.length=len∧l.length≤cap∧d.C w A l.length l∧ok l:=by
  obtain⟨fuel,hf⟩:=hT;obtain⟨l,⟨A',c,hcs,hl,hC⟩,hok⟩:=h.out enc w base sp held fuel _ _ hf hz
  simp[Value.cells]at hcs
  obtain⟨rfl,rfl,rfl⟩:=hcs;exact⟨l,rfl,hl,hC,hok⟩
theorem each_weights {H:Type} {P:Program} {ts:List TypeId} {ds:List (DataW H)} (h:(DataW.weightsEach P ts ds).all (· ≤reachBytes)=true) {j:Nat} {t:TypeId} {d:DataW H} (ht:ts[j]? =some t) (hd:ds[j]? =some d):∀n ∈ d.weights P t,n≤reachBytes:=fun n hn=>by
  have:=List.all_eq_true.1 h n (DataW.weights_mem_each ht hd n hn)
  simpa using this
end Go.Proofs.YtdpieallpbllkaaGreat.P
namespace Go.Proofs.YtdpieallpbllkaaGreat.meaningDoms
open Go.ChangeShapes Go.WideShapes Go.ChangeAt Go.RowKit
open Go.ChangeMaps (open_string shut_string)
open Go.Proofs.YtdpieallpbllkaaGreat.P
open Go.Proofs.YtdpieallpbllkaaGreatW.PrintWords
theorem own:ownKnob Tryz.prog.godebug=none:=by kernel_rfl
theorem laidOut:laidOutB Tryz.prog=true:=by kernel_rfl
theorem o_string:OpensZ Tryz.prog Kd.string (fun s=>ByteArray.size s≤maxLen) 9:=OpensZ.string Tryz.underlying9
theorem o_int:OpensZ Tryz.prog (Kd.int .i64) (fun n=>(Lit.int .i64 n).wf=true) 3:=OpensZ.int Tryz.underlying3
theorem p_api_Range:OpensZ Tryz.prog (Kd.pair (Kd.int .i64) (Kd.int .i64)) (fun z=>((Lit.int .i64 (z).1).wf=true∧(Lit.int .i64 (z).2).wf=true)) 82:=by
 refine OpensZ.struct (d:=(Kd.pair (Kd.int .i64) (Kd.int .i64))) Tryz.underlying82 (by kernel_rfl) ?_;refine OpensZF.cons (d:=(Kd.int .i64)) (ok:=fun v_:Int=>(Lit.int .i64 v_).wf=true) (ok':=fun z_:(Int)=>(Lit.int .i64 z_).wf=true) (by kernel_rfl) (by kernel_rfl) o_int ?_;exact OpensZF.last (d:=(Kd.int .i64)) (ok:=fun v_:Int=>(Lit.int .i64 v_).wf=true) (by kernel_rfl) (by kernel_rfl) o_int
theorem o_api_Range:OpensZ Tryz.prog k82 (fun b:S82=>((Lit.int .i64 (b).f0).wf=true∧(Lit.int .i64 (b).f1).wf=true)) 82:=OpensZ.iso p_api_Range (fun x:S82=>(x.f0,x.f1)) (fun z=>⟨z.1,z.2⟩) (fun _=>rfl)
theorem o_Lapi_Range:OpensZ Tryz.prog (Kd.slice 82 k82) (fun l=>(List.length l*16≤140737488351232∧∀y1_ ∈ l,((Lit.int .i64 (y1_).f0).wf=true∧(Lit.int .i64 (y1_).f1).wf=true))) 53:=OpensZ.row Tryz.underlying53 (by kernel_rfl) (by kernel_rfl) o_api_Range
theorem p_api_Var:OpensZ Tryz.prog (Kd.pair Kd.string (Kd.slice 82 k82)) (fun z=>(ByteArray.size (z).1≤maxLen∧(List.length (z).2*16≤140737488351232∧∀y1_ ∈ (z).2,((Lit.int .i64 (y1_).f0).wf=true∧(Lit.int .i64 (y1_).f1).wf=true)))) 55:=by
 refine OpensZ.struct (d:=(Kd.pair Kd.string (Kd.slice 82 k82))) Tryz.underlying55 (by kernel_rfl) ?_;refine OpensZF.cons (d:=Kd.string) (ok:=fun v_:ByteArray=>ByteArray.size v_≤maxLen) (ok':=fun z_:((List S82))=>(List.length z_*16≤140737488351232∧∀y1_ ∈ z_,((Lit.int .i64 (y1_).f0).wf=true∧(Lit.int .i64 (y1_).f1).wf=true))) (by kernel_rfl) (by kernel_rfl) o_string ?_;exact OpensZF.last (d:=(Kd.slice 82 k82)) (ok:=fun v_:(List S82)=>(List.length v_*16≤140737488351232∧∀y1_ ∈ v_,((Lit.int .i64 (y1_).f0).wf=true∧(Lit.int .i64 (y1_).f1).wf=true))) (by kernel_rfl) (by kernel_rfl) o_Lapi_Range
theorem o_api_Var:OpensZ Tryz.prog k55 (fun b:S55=>(ByteArray.size (b).f0≤maxLen∧(List.length (b).f1*16≤140737488351232∧∀y1_ ∈ (b).f1,((Lit.int .i64 (y1_).f0).wf=true∧(Lit.int .i64 (y1_).f1).wf=true)))) 55:=OpensZ.iso p_api_Var (fun x:S55=>(x.f0,x.f1)) (fun z=>⟨z.1,z.2⟩) (fun _=>rfl)
theorem o_Lapi_Var:OpensZ Tryz.prog (Kd.slice 55 k55) (fun l=>(List.length l*40≤140737488351232∧∀y1_ ∈ l,(ByteArray.size (y1_).f0≤maxLen∧(List.length (y1_).f1*16≤140737488351232∧∀y2_ ∈ (y1_).f1,((Lit.int .i64 (y2_).f0).wf=true∧(Lit.int .i64 (y2_).f1).wf=true))))) 22:=OpensZ.row Tryz.underlying22 (by kernel_rfl) (by kernel_rfl) o_api_Var
theorem o_Lint:OpensZ Tryz.prog (Kd.slice 3 (Kd.int .i64)) (fun l=>(List.length l*8≤140737488351232∧∀y1_ ∈ l,(Lit.int .i64 y1_).wf=true)) 24:=OpensZ.row Tryz.underlying24 (by kernel_rfl) (by kernel_rfl) o_int
theorem o_LLint:OpensZ Tryz.prog (Kd.slice 24 (Kd.slice 3 (Kd.int .i64))) (fun l=>(List.length l*24≤140737488351232∧∀y1_ ∈ l,(List.length y1_*8≤140737488351232∧∀y2_ ∈ y1_,(Lit.int .i64 y2_).wf=true))) 34:=OpensZ.row Tryz.underlying34 (by kernel_rfl) (by kernel_rfl) o_Lint
theorem p_api_Con:OpensZ Tryz.prog (Kd.pair (Kd.int .i64) (Kd.pair (Kd.slice 3 (Kd.int .i64)) (Kd.pair (Kd.slice 3 (Kd.int .i64)) (Kd.pair (Kd.int .i64) (Kd.pair (Kd.int .i64) (Kd.pair (Kd.slice 24 (Kd.slice 3 (Kd.int .i64))) (Kd.int .i64))))))) (fun z=>((Lit.int .i64 (z).1).wf=true∧((List.length ((z).2).1*8≤140737488351232∧∀y1_ ∈ ((z).2).1,(Lit.int .i64 y1_).wf=true)∧((List.length (((z).2).2).1*8≤140737488351232∧∀y1_ ∈ (((z).2).2).1,(Lit.int .i64 y1_).wf=true)∧((Lit.int .i64 ((((z).2).2).2).1).wf=true∧((Lit.int .i64 (((((z).2).2).2).2).1).wf=true∧((List.length ((((((z).2).2).2).2).2).1*24≤140737488351232∧∀y1_ ∈ ((((((z).2).2).2).2).2).1,(List.length y1_*8≤140737488351232∧∀y2_ ∈ y1_,(Lit.int .i64 y2_).wf=true))∧(Lit.int .i64 ((((((z).2).2).2).2).2).2).wf=true))))))) 36:=by
 refine OpensZ.struct (d:=(Kd.pair (Kd.int .i64) (Kd.pair (Kd.slice 3 (Kd.int .i64)) (Kd.pair (Kd.slice 3 (Kd.int .i64)) (Kd.pair (Kd.int .i64) (Kd.pair (Kd.int .i64) (Kd.pair (Kd.slice 24 (Kd.slice 3 (Kd.int .i64))) (Kd.int .i64)))))))) Tryz.underlying36 (by kernel_rfl) ?_;refine OpensZF.cons (d:=(Kd.int .i64)) (ok:=fun v_:Int=>(Lit.int .i64 v_).wf=true) (ok':=fun z_:((List Int) × (List Int) × Int × Int × (List (List Int)) × Int)=>((List.length (z_).1*8≤140737488351232∧∀y1_ ∈ (z_).1,(Lit.int .i64 y1_).wf=true)∧((List.length ((z_).2).1*8≤140737488351232∧∀y1_ ∈ ((z_).2).1,(Lit.int .i64 y1_).wf=true)∧((Lit.int .i64 (((z_).2).2).1).wf=true∧((Lit.int .i64 ((((z_).2).2).2).1).wf=true∧((List.length (((((z_).2).2).2).2).1*24≤140737488351232∧∀y1_ ∈ (((((z_).2).2).2).2).1,(List.length y1_*8≤140737488351232∧∀y2_ ∈ y1_,(Lit.int .i64 y2_).wf=true))∧(Lit.int .i64 (((((z_).2).2).2).2).2).wf=true)))))) (by kernel_rfl) (by kernel_rfl) o_int ?_;refine OpensZF.cons (d:=(Kd.slice 3 (Kd.int .i64))) (ok:=fun v_:(List Int)=>(List.length v_*8≤140737488351232∧∀y1_ ∈ v_,(Lit.int .i64 y1_).wf=true)) (ok':=fun z_:((List Int) × Int × Int × (List (List Int)) × Int)=>((List.length (z_).1*8≤140737488351232∧∀y1_ ∈ (z_).1,(Lit.int .i64 y1_).wf=true)∧((Lit.int .i64 ((z_).2).1).wf=true∧((Lit.int .i64 (((z_).2).2).1).wf=true∧((List.length ((((z_).2).2).2).1*24≤140737488351232∧∀y1_ ∈ ((((z_).2).2).2).1,(List.length y1_*8≤140737488351232∧∀y2_ ∈ y1_,(Lit.int .i64 y2_).wf=true))∧(Lit.int .i64 ((((z_).2).2).2).2).wf=true))))) (by kernel_rfl) (by kernel_rfl) o_Lint ?_;refine OpensZF.cons (d:=(Kd.slice 3 (Kd.int .i64))) (ok:=fun v_:(List Int)=>(List.length v_*8≤140737488351232∧∀y1_ ∈ v_,(Lit.int .i64 y1_).wf=true)) (ok':=fun z_:(Int × Int × (List (List Int)) × Int)=>((Lit.int .i64 (z_).1).wf=true∧((Lit.int .i64 ((z_).2).1).wf=true∧((List.length (((z_).2).2).1*24≤140737488351232∧∀y1_ ∈ (((z_).2).2).1,(List.length y1_*8≤140737488351232∧∀y2_ ∈ y1_,(Lit.int .i64 y2_).wf=true))∧(Lit.int .i64 (((z_).2).2).2).wf=true)))) (by kernel_rfl) (by kernel_rfl) o_Lint ?_;refine OpensZF.cons (d:=(Kd.int .i64)) (ok:=fun v_:Int=>(Lit.int .i64 v_).wf=true) (ok':=fun z_:(Int × (List (List Int)) × Int)=>((Lit.int .i64 (z_).1).wf=true∧((List.length ((z_).2).1*24≤140737488351232∧∀y1_ ∈ ((z_).2).1,(List.length y1_*8≤140737488351232∧∀y2_ ∈ y1_,(Lit.int .i64 y2_).wf=true))∧(Lit.int .i64 ((z_).2).2).wf=true))) (by kernel_rfl) (by kernel_rfl) o_int ?_;refine OpensZF.cons (d:=(Kd.int .i64)) (ok:=fun v_:Int=>(Lit.int .i64 v_).wf=true) (ok':=fun z_:((List (List Int)) × Int)=>((List.length (z_).1*24≤140737488351232∧∀y1_ ∈ (z_).1,(List.length y1_*8≤140737488351232∧∀y2_ ∈ y1_,(Lit.int .i64 y2_).wf=true))∧(Lit.int .i64 (z_).2).wf=true)) (by kernel_rfl) (by kernel_rfl) o_int ?_;refine OpensZF.cons (d:=(Kd.slice 24 (Kd.slice 3 (Kd.int .i64)))) (ok:=fun v_:(List (List Int))=>(List.length v_*24≤140737488351232∧∀y1_ ∈ v_,(List.length y1_*8≤140737488351232∧∀y2_ ∈ y1_,(Lit.int .i64 y2_).wf=true))) (ok':=fun z_:(Int)=>(Lit.int .i64 z_).wf=true) (by kernel_rfl) (by kernel_rfl) o_LLint ?_;exact OpensZF.last (d:=(Kd.int .i64)) (ok:=fun v_:Int=>(Lit.int .i64 v_).wf=true) (by kernel_rfl) (by kernel_rfl) o_int
theorem o_api_Con:OpensZ Tryz.prog k36 (fun b:S36=>((Lit.int .i64 (b).f0).wf=true∧(List.length (b).f1*8≤140737488351232∧∀y1_ ∈ (b).f1,(Lit.int .i64 y1_).wf=true)∧(List.length (b).f2*8≤140737488351232∧∀y1_ ∈ (b).f2,(Lit.int .i64 y1_).wf=true)∧(Lit.int .i64 (b).f3).wf=true∧(Lit.int .i64 (b).f4).wf=true∧(List.length (b).f5*24≤140737488351232∧∀y1_ ∈ (b).f5,(List.length y1_*8≤140737488351232∧∀y2_ ∈ y1_,(Lit.int .i64 y2_).wf=true))∧(Lit.int .i64 (b).f6).wf=true)) 36:=OpensZ.iso p_api_Con (fun x:S36=>(x.f0,x.f1,x.f2,x.f3,x.f4,x.f5,x.f6)) (fun z=>⟨z.1,z.2.1,z.2.2.1,z.2.2.2.1,z.2.2.2.2.1,z.2.2.2.2.2.1,z.2.2.2.2.2.2⟩) (fun _=>rfl)
theorem o_Lapi_Con:OpensZ Tryz.prog (Kd.slice 36 k36) (fun l=>(List.length l*104≤140737488351232∧∀y1_ ∈ l,((Lit.int .i64 (y1_).f0).wf=true∧(List.length (y1_).f1*8≤140737488351232∧∀y2_ ∈ (y1_).f1,(Lit.int .i64 y2_).wf=true)∧(List.length (y1_).f2*8≤140737488351232∧∀y2_ ∈ (y1_).f2,(Lit.int .i64 y2_).wf=true)∧(Lit.int .i64 (y1_).f3).wf=true∧(Lit.int .i64 (y1_).f4).wf=true∧(List.length (y1_).f5*24≤140737488351232∧∀y2_ ∈ (y1_).f5,(List.length y2_*8≤140737488351232∧∀y3_ ∈ y2_,(Lit.int .i64 y3_).wf=true))∧(Lit.int .i64 (y1_).f6).wf=true))) 23:=OpensZ.row Tryz.underlying23 (by kernel_rfl) (by kernel_rfl) o_api_Con
theorem p_api_Goal:OpensZ Tryz.prog (Kd.pair (Kd.int .i64) (Kd.pair (Kd.slice 3 (Kd.int .i64)) (Kd.slice 3 (Kd.int .i64)))) (fun z=>((Lit.int .i64 (z).1).wf=true∧((List.length ((z).2).1*8≤140737488351232∧∀y1_ ∈ ((z).2).1,(Lit.int .i64 y1_).wf=true)∧(List.length ((z).2).2*8≤140737488351232∧∀y1_ ∈ ((z).2).2,(Lit.int .i64 y1_).wf=true)))) 26:=by
 refine OpensZ.struct (d:=(Kd.pair (Kd.int .i64) (Kd.pair (Kd.slice 3 (Kd.int .i64)) (Kd.slice 3 (Kd.int .i64))))) Tryz.underlying26 (by kernel_rfl) ?_;refine OpensZF.cons (d:=(Kd.int .i64)) (ok:=fun v_:Int=>(Lit.int .i64 v_).wf=true) (ok':=fun z_:((List Int) × (List Int))=>((List.length (z_).1*8≤140737488351232∧∀y1_ ∈ (z_).1,(Lit.int .i64 y1_).wf=true)∧(List.length (z_).2*8≤140737488351232∧∀y1_ ∈ (z_).2,(Lit.int .i64 y1_).wf=true))) (by kernel_rfl) (by kernel_rfl) o_int ?_;refine OpensZF.cons (d:=(Kd.slice 3 (Kd.int .i64))) (ok:=fun v_:(List Int)=>(List.length v_*8≤140737488351232∧∀y1_ ∈ v_,(Lit.int .i64 y1_).wf=true)) (ok':=fun z_:((List Int))=>(List.length z_*8≤140737488351232∧∀y1_ ∈ z_,(Lit.int .i64 y1_).wf=true)) (by kernel_rfl) (by kernel_rfl) o_Lint ?_;exact OpensZF.last (d:=(Kd.slice 3 (Kd.int .i64))) (ok:=fun v_:(List Int)=>(List.length v_*8≤140737488351232∧∀y1_ ∈ v_,(Lit.int .i64 y1_).wf=true)) (by kernel_rfl) (by kernel_rfl) o_Lint
theorem p_api_Model:OpensZ Tryz.prog (Kd.pair (Kd.slice 55 k55) (Kd.pair (Kd.slice 36 k36) (Kd.pair (Kd.int .i64) (Kd.pair (Kd.slice 3 (Kd.int .i64)) (Kd.slice 3 (Kd.int .i64)))))) (fun z=>((List.length (z).1*40≤140737488351232∧∀y1_ ∈ (z).1,(ByteArray.size (y1_).f0≤maxLen∧(List.length (y1_).f1*16≤140737488351232∧∀y2_ ∈ (y1_).f1,((Lit.int .i64 (y2_).f0).wf=true∧(Lit.int .i64 (y2_).f1).wf=true))))∧((List.length ((z).2).1*104≤140737488351232∧∀y1_ ∈ ((z).2).1,((Lit.int .i64 (y1_).f0).wf=true∧(List.length (y1_).f1*8≤140737488351232∧∀y2_ ∈ (y1_).f1,(Lit.int .i64 y2_).wf=true)∧(List.length (y1_).f2*8≤140737488351232∧∀y2_ ∈ (y1_).f2,(Lit.int .i64 y2_).wf=true)∧(Lit.int .i64 (y1_).f3).wf=true∧(Lit.int .i64 (y1_).f4).wf=true∧(List.length (y1_).f5*24≤140737488351232∧∀y2_ ∈ (y1_).f5,(List.length y2_*8≤140737488351232∧∀y3_ ∈ y2_,(Lit.int .i64 y3_).wf=true))∧(Lit.int .i64 (y1_).f6).wf=true))∧((Lit.int .i64 (((z).2).2).1).wf=true∧((List.length ((((z).2).2).2).1*8≤140737488351232∧∀y1_ ∈ ((((z).2).2).2).1,(Lit.int .i64 y1_).wf=true)∧(List.length ((((z).2).2).2).2*8≤140737488351232∧∀y1_ ∈ ((((z).2).2).2).2,(Lit.int .i64 y1_).wf=true)))))) 28:=by
 refine OpensZ.struct (d:=(Kd.pair (Kd.slice 55 k55) (Kd.pair (Kd.slice 36 k36) (Kd.pair (Kd.int .i64) (Kd.pair (Kd.slice 3 (Kd.int .i64)) (Kd.slice 3 (Kd.int .i64))))))) Tryz.underlying28 (by kernel_rfl) ?_;refine OpensZF.cons (d:=(Kd.slice 55 k55)) (ok:=fun v_:(List S55)=>(List.length v_*40≤140737488351232∧∀y1_ ∈ v_,(ByteArray.size (y1_).f0≤maxLen∧(List.length (y1_).f1*16≤140737488351232∧∀y2_ ∈ (y1_).f1,((Lit.int .i64 (y2_).f0).wf=true∧(Lit.int .i64 (y2_).f1).wf=true))))) (ok':=fun z_:((List S36) × (Int × (List Int) × (List Int)))=>((List.length (z_).1*104≤140737488351232∧∀y1_ ∈ (z_).1,((Lit.int .i64 (y1_).f0).wf=true∧(List.length (y1_).f1*8≤140737488351232∧∀y2_ ∈ (y1_).f1,(Lit.int .i64 y2_).wf=true)∧(List.length (y1_).f2*8≤140737488351232∧∀y2_ ∈ (y1_).f2,(Lit.int .i64 y2_).wf=true)∧(Lit.int .i64 (y1_).f3).wf=true∧(Lit.int .i64 (y1_).f4).wf=true∧(List.length (y1_).f5*24≤140737488351232∧∀y2_ ∈ (y1_).f5,(List.length y2_*8≤140737488351232∧∀y3_ ∈ y2_,(Lit.int .i64 y3_).wf=true))∧(Lit.int .i64 (y1_).f6).wf=true))∧((Lit.int .i64 ((z_).2).1).wf=true∧((List.length (((z_).2).2).1*8≤140737488351232∧∀y1_ ∈ (((z_).2).2).1,(Lit.int .i64 y1_).wf=true)∧(List.length (((z_).2).2).2*8≤140737488351232∧∀y1_ ∈ (((z_).2).2).2,(Lit.int .i64 y1_).wf=true))))) (by kernel_rfl) (by kernel_rfl) o_Lapi_Var ?_;refine OpensZF.cons (d:=(Kd.slice 36 k36)) (ok:=fun v_:(List S36)=>(List.length v_*104≤140737488351232∧∀y1_ ∈ v_,((Lit.int .i64 (y1_).f0).wf=true∧(List.length (y1_).f1*8≤140737488351232∧∀y2_ ∈ (y1_).f1,(Lit.int .i64 y2_).wf=true)∧(List.length (y1_).f2*8≤140737488351232∧∀y2_ ∈ (y1_).f2,(Lit.int .i64 y2_).wf=true)∧(Lit.int .i64 (y1_).f3).wf=true∧(Lit.int .i64 (y1_).f4).wf=true∧(List.length (y1_).f5*24≤140737488351232∧∀y2_ ∈ (y1_).f5,(List.length y2_*8≤140737488351232∧∀y3_ ∈ y2_,(Lit.int .i64 y3_).wf=true))∧(Lit.int .i64 (y1_).f6).wf=true))) (ok':=fun z_:((Int × (List Int) × (List Int)))=>((Lit.int .i64 (z_).1).wf=true∧((List.length ((z_).2).1*8≤140737488351232∧∀y1_ ∈ ((z_).2).1,(Lit.int .i64 y1_).wf=true)∧(List.length ((z_).2).2*8≤140737488351232∧∀y1_ ∈ ((z_).2).2,(Lit.int .i64 y1_).wf=true)))) (by kernel_rfl) (by kernel_rfl) o_Lapi_Con ?_;exact OpensZF.last (d:=(Kd.pair (Kd.int .i64) (Kd.pair (Kd.slice 3 (Kd.int .i64)) (Kd.slice 3 (Kd.int .i64))))) (ok:=fun v_:(Int × (List Int) × (List Int))=>((Lit.int .i64 (v_).1).wf=true∧((List.length ((v_).2).1*8≤140737488351232∧∀y1_ ∈ ((v_).2).1,(Lit.int .i64 y1_).wf=true)∧(List.length ((v_).2).2*8≤140737488351232∧∀y1_ ∈ ((v_).2).2,(Lit.int .i64 y1_).wf=true)))) (by kernel_rfl) (by kernel_rfl) p_api_Goal
set_option maxRecDepth 100000 in
theorem lifted (os : Os) (started : os.Started) (H : Type) (enc : TypeId × Value → H) :
  ReturnsInHanded {} Tryz.checked os 9 .any (Rows.meaningDomsSpec.pre6 enc Tryz.prog Tryz.f9 Rows.meaningDomsRow.domain false) (Rows.meaningDomsSpec.post enc Tryz.prog Tryz.f9 false true false false):=by
 refine returnsInHanded_of_change_sized (C := Tryz.checked) own started (by kernel_rfl) Tryz.func9
  (ChangeSpec.witness6 (enc:=enc) (C:=Tryz.checked) false ⟨#[],#[.agg #[.slice none 0 0,.slice none 0 0,.int .i64 0,.slice none 0 0,.slice none 0 0]],[]⟩ 8 (by kernel_rfl) (by kernel_rfl) (by kernel_rfl) (by kernel_rfl)) ?_
 intro W base args ds gs before hval0 hW hcnd hsz0 _;have hsz:(DataW.weightsEach Tryz.prog (Tryz.f9.params.toList++Rows.meaningDomsSpec.plain.varTypes Tryz.prog) (ds++gs)).all (· ≤reachBytes)=true:=hsz0;have hval:∀(j:Nat) t v,Tryz.f9.params[j]? =some t→args[j]? =some v→Value.okWide Tryz.prog W .any base t v:=hval0;have hW':=hW;obtain⟨p,q,hA0,hV,rfl,hfz,hnd⟩:=hW;have hA:DataW.TrodAll enc Tryz.prog W 0 (fun _=>true) true Tryz.f9.params.toList args.toList ds p:=hA0;rw[Tryz.params9]at hA hval hsz;obtain⟨v0,vs0,d0,ds0,p0,q0,hargs,rfl,rfl,h0,r0⟩:=trodAll_cons hA;obtain⟨rfl,rfl,rfl⟩:=trodAll_nil r0;obtain rfl:args=#[v0]:=by cases args;simp_all
 obtain⟨rfl,rfl⟩:=trodVars_none hV;have k0:=h0;have lt0:∀x ∈ p0,x.block<W.heap.size:=by obtain⟨m,hm⟩:=k0;exact DataW.trod_lt m _ _ _ hm
 obtain⟨cs0,rfl,_⟩:=okWide_struct Tryz.underlying28 (hval 0 28 v0 rfl rfl);obtain⟨fu0,hf0⟩:=h0;obtain⟨⟨x0,⟨x1,⟨x2,⟨x3,x4⟩⟩⟩⟩,hK0,⟨ok0,⟨ok1,⟨ok2,⟨ok3,ok4⟩⟩⟩⟩⟩:=p_api_Model.out _ _ _ _ _ _ _ _ hf0 (each_weights hsz (j:=0) (t:=28) rfl rfl);obtain⟨_,_,e,⟨A0,c0,rfl,hc0,hC0⟩,⟨_,_,rfl,⟨A1,c1,rfl,hc1,hC1⟩,⟨_,_,rfl,rfl,⟨_,_,rfl,⟨A3,c3,rfl,hc3,hC3⟩,⟨A4,c4,rfl,hc4,hC4⟩⟩⟩⟩⟩:=hK0
 obtain rfl:cs0=#[.slice A0 x0.length c0,.slice A1 x1.length c1,.int .i64 x2,.slice A3 x3.length c3,.slice A4 x4.length c4]:=by
  apply Array.ext'
  simpa[Value.cells] using e
 clear hA0 hval0 hsz0 hsz;refine(P.Zhb A0 c0 x0 A1 c1 x1 x2 A3 c3 x3 A4 c4 x4 W hC0 hc0 ok0 hC1 hc1 ok1 ok2 hC3 hc3 ok3 hC4 hc4 ok4).mono fun e W' ⟨he,bel⟩=> ?_
 subst he;exact⟨_,rfl,_,_,_,[],_,[],hW',trodAll_mk1 (shut_bool Tryz.underlying4 _),(trodAll_cons_mk (Below.trod laidOut (by kernel_rfl) (of_decide_eq_true (by kernel_rfl)) k0 bel lt0) trodAll_mk0),rfl,bel.frame _,fun h=>by cases h⟩
theorem over:Rows.meaningDomsRow.holds Tryz.pinned (OpenSpec.ofChange Rows.meaningDomsSpec):=
 OpenClaim.holds_of_wide 9 Tryz.f9 rfl rfl rfl rfl rfl rfl rfl ⟨rfl, rfl, rfl, rfl, rfl⟩ rfl rfl rfl rfl rfl (by kernel_rfl) Tryz.func9 (by kernel_rfl)
  (of_decide_eq_true (by kernel_rfl)) (by unfold Func.isWrapper;first|(rw[if_pos (by decide+kernel)];kernel_rfl)|(rw[if_neg (by decide+kernel)];exact⟨rfl,rfl⟩))
  (fun os started H enc _=>lifted os started H enc)
theorem proved:Rows.MeaningDomsSaid:=over
end Go.Proofs.YtdpieallpbllkaaGreat.meaningDoms
namespace Go.Proofs.YtdpieallpbllkaaGreat
theorem meaningDoms_holds:Rows.MeaningDomsSaid:=meaningDoms.proved
end Go.Proofs.YtdpieallpbllkaaGreat
