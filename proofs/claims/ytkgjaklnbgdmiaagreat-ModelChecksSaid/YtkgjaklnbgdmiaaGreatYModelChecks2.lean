/- Proved: the statement ModelChecks. Conditions: none but those of the statement. -/
import Derived.Test.YtkgjaklnbgdmiaaGreatYModelChecks1
import Derived.Test.YtkgjaklnbgdmiaaGreatZ2
import Derived.Test.YtkgjaklnbgdmiaaGreatZ1
/- A model no larger than a statement can hold, in plain words. -/
set_option linter.unusedSimpArgs false
set_option linter.unusedVariables false
set_option maxHeartbeats 8000000
namespace Go.Proofs.YtkgjaklnbgdmiaaGreat.P
open Go.RowKit Go.Proofs.YtkgjaklnbgdmiaaGreatW.PrintWords Go.Proofs.YtkgjaklnbgdmiaaGreatW.PrintLast Go.Proofs.YtkgjaklnbgdmiaaGreatW.PrintMore
theorem Zgs (a:Nat) (b:Int) (c:Nat) (h:b=c):mn (a:Int) b=((min a c:Nat):Int):=by
  subst h;unfold mn
  split<;>omega
theorem Zgt {α:Type} (l:List α) (b:Int) (c:Nat) (h:b=c):l.take (mn (l.length:Int) b).toNat=l.take c:=by
  rw[Zgs _ _ _ h,Int.toNat_natCast];by_cases q:l.length≤c;rotate_left
  · rw[Nat.min_eq_right (by omega)]
  rw[Nat.min_eq_left q,List.take_length,List.take_of_length_le q]
theorem Zfd (l : List (List Int)) (hl : l.length ≤ 1000000) (hr : ∀ r ∈ l, r.length ≤ 1000000) : ∀ (d n : Nat) (acc : List (List Int)), n + d = l.length → acc.length ≤ n → Ev (fun k => Zbe.l0 k l acc (n : Int)) (acc ++ l.drop n)
  |0,n,acc,h,ha=>by
    obtain rfl:n=l.length:=by omega
    rw[List.drop_length,List.append_nil];exact Ev.step (G:=fun _=>some acc) (fun k=>by rw[Zbe.l0,if_neg (by omega)]) (Ev.const rfl)
  |d+1,n,acc,h,ha=>by
    have hn:n<l.length:=by omega
    have hw:wrap64 ((n:Int)+1)=((n+1:Nat):Int):=w1 (by omega);have hrd:Zca l (n:Int)=l[n]:=by simp[Zca,List.getD_eq_getElem?_getD,List.getElem?_eq_getElem hn]
    have hq:=hr _ (List.getElem_mem hn);have ih:=Zfd l hl hr d (n+1) (acc++ [l[n]]) (by omega) (by simp;omega);rw[List.append_assoc,List.singleton_append,←List.drop_eq_getElem_cons hn]at ih;refine Ev.step (fun k=>by rw[Zbe.l0,if_pos (by omega),hrd]) (Ev.bind (a:=([]:List Int)) (Ev.const rfl) ?_);rw[hw,List.nil_append];refine Ev.Zan (Int.natCast_nonneg n) ?_;refine Ev.Zan ?_ ?_
    · show 0 + l[n].length < _
      omega
    refine Ev.Zan ?_ ih
    omega
theorem ref_nums4 (l:List (List Int)) (hl:l.length≤1000000) (hr:∀r ∈ l,r.length≤1000000):Ev (fun k=>Zbe.f k l) l:=Zfd l hl hr l.length 0 [] (by omega) (by simp)
theorem ref_own4 (a0:Int) (l1 l2:List Int) (a3 a4:Int) (l5:List (List Int)) (a6:Int) (h1:l1.length≤1000000) (h2:l2.length≤1000000) (hl:l5.length≤1000000) (hr:∀r ∈ l5,r.length≤1000000):Ev (fun k=>Zb3.f k a0 l1 l2 a3 a4 l5 a6) (a0,l1,l2,a3,a4,l5,a6):=by
  unfold Zb3.f;refine Ev.bind (a:=([]:List Int)) (Ev.const rfl) (Ev.Zan (by simp;omega) (Ev.bind (a:=([]:List Int)) (Ev.const rfl) (Ev.Zan (by simp;omega) (Ev.bind (ref_nums4 l5 hl hr) (Ev.const ?_)))))
  simp
def bV1 (v:S37):S37:=⟨v.f0.extract 0 (min v.f0.size 20),v.f1.take 12⟩
def bC1 (c:S40):S40:=⟨c.f0,c.f1.take 14,c.f2.take 14,c.f3,c.f4,cutR c.f5,c.f6⟩
def bV (l:List S37):List S37:=(l.take 10).map bV1
def bC (l:List S40):List S40:=(l.take 16).map bC1
theorem cutR_len (l:List (List Int)):(cutR l).length≤20:=by
  unfold cutR;rw[List.length_map,List.length_take]
  omega
theorem cutR_row (l:List (List Int)):∀r ∈ cutR l,r.length≤14:=by
  intro r hr;unfold cutR at hr;obtain⟨x,_,rfl⟩:=List.mem_map.1 hr;rw[List.length_take]
  omega
section
variable (vars:List S37) (cons:List S40) (gk:Int) (gv gc:List Int) (V:List S37)
theorem bound_end (x:Int) (acc:List S40):Ev (fun k=>Zag.j3 k x false vars cons gk gv gc V acc gk gv gc) (V,acc,gk,gv.take 14,gc.take 14):=by
  have e1:=Zgt gv 14 14 rfl;have e2:=Zgt gc 14 14 rfl;have m1:=Zgs gv.length 14 14 rfl;have m2:=Zgs gc.length 14 14 rfl;refine Ev.step (fun k=>by rw[Zag.j3,if_neg (by simp)]) ?_;rw[e1,e2];refine Ev.bind (a:=([]:List Int)) (Ev.const rfl) (Ev.Zan (by omega) (Ev.Zan (by omega) (Ev.Zan (by simp[List.length_take];omega) ?_)));refine Ev.bind (a:=([]:List Int)) (Ev.const rfl) (Ev.Zan (by omega) (Ev.Zan (by omega) (Ev.Zan (by simp[List.length_take];omega) (Ev.const rfl))))
theorem bound_l1 : ∀ (d n : Nat) (acc : List S40), n + d = min 16 cons.length → acc.length ≤ n → Ev (fun k => Zag.l1 k (n : Int) vars cons gk gv gc V acc gk gv gc) (V, acc ++ ((cons.take 16).drop n).map bC1, gk, gv.take 14, gc.take 14)
  |0,n,acc,h,ha=>by
    have e:(cons.take 16).drop n= []:=List.drop_eq_nil_of_le (by rw[List.length_take];omega);rw[e,List.map_nil,List.append_nil];by_cases q:n<cons.length;rotate_left
    · exact Ev.step (fun k=>by rw[Zag.l1,if_neg (by omega)]) (bound_end vars cons gk gv gc V _ _)
    have d1:decide ((n:Int)<16)=false:=decide_eq_false (by omega);exact Ev.step (fun k=>by rw[Zag.l1,if_pos (by omega),d1]) (bound_end vars cons gk gv gc V _ _)
  |d+1,n,acc,h,ha=>by
    have hn:n<cons.length:=by omega
    have h16:n<16:=by omega
    have d1:decide ((n:Int)<16)=true:=decide_eq_true (by omega);have hw:wrap64 ((n:Int)+1)=((n+1:Nat):Int):=w1 (by omega);have hrd:Zac cons (n:Int)=cons[n]:=by simp[Zac,List.getD_eq_getElem?_getD,List.getElem?_eq_getElem hn]
    have ih:=bound_l1 d (n+1) (acc++ [bC1 cons[n]]) (by omega) (by simp;omega)
    have hd:(cons.take 16).drop n=cons[n]::(cons.take 16).drop (n+1):=by
      rw[List.drop_eq_getElem_cons (by rw[List.length_take];omega),List.getElem_take]
    rw[hd,List.map_cons];rw[List.append_assoc,List.singleton_append]at ih;have m1:=Zgs cons[n].f1.length 14 14 rfl;have m2:=Zgs cons[n].f2.length 14 14 rfl;refine Ev.step (fun k=>by rw[Zag.l1,if_pos (by omega),d1]) (Ev.step (fun k=>by rw[Zag.j3,if_pos rfl,hrd]) ?_);rw[Zgt cons[n].f1 14 14 rfl,Zgt cons[n].f2 14 14 rfl];refine Ev.Zan (by omega) (Ev.Zan (by omega) (Ev.Zan (by omega) (Ev.Zan (by omega) (Ev.Zan (by omega) (Ev.Zan (by omega) ?_)))));refine Ev.bind (a:=cutR cons[n].f5) (Ev.const rfl) (Ev.bind (ref_own4 _ _ _ _ _ _ _ (by rw[List.length_take];omega) (by rw[List.length_take];omega) (by have:=cutR_len cons[n].f5;omega) (fun r hr=>by have:=cutR_row _ r hr;omega)) (Ev.Zan (by omega) ?_));rw[hw];exact ih
theorem bound_j1:Ev (fun k=>Zag.j1 k vars cons gk gv gc V gk gv gc) (V,bC cons,gk,gv.take 14,gc.take 14):=
  Ev.step (fun k=>by rw[Zag.j1];rfl) (bound_l1 vars cons gk gv gc V (min 16 cons.length) 0 [] (by omega) (by simp))
end
theorem bound_l0 (vars : List S37) (cons : List S40) (gk : Int) (gv gc : List Int) : ∀ (d n : Nat) (acc : List S37), n + d = min 10 vars.length → acc.length ≤ n → Ev (fun k => Zag.l0 k (n : Int) vars cons gk gv gc acc gk gv gc) (acc ++ ((vars.take 10).drop n).map bV1, bC cons, gk, gv.take 14, gc.take 14)
  |0,n,acc,h,ha=>by
    have e:(vars.take 10).drop n= []:=List.drop_eq_nil_of_le (by rw[List.length_take];omega);rw[e,List.map_nil,List.append_nil];by_cases q:n<vars.length;rotate_left
    · exact Ev.step (fun k=>by rw[Zag.l0,if_neg (by omega)]) (bound_j1 vars cons gk gv gc _)
    exact Ev.step (fun k=>by rw[Zag.l0,if_pos (by omega),if_neg (by omega)]) (bound_j1 vars cons gk gv gc _)
  |d+1,n,acc,h,ha=>by
    have hn:n<vars.length:=by omega
    have hw:wrap64 ((n:Int)+1)=((n+1:Nat):Int):=w1 (by omega);have hrd:Zaq vars (n:Int)=vars[n]:=by simp[Zaq,List.getD_eq_getElem?_getD,List.getElem?_eq_getElem hn]
    have ih:=bound_l0 vars cons gk gv gc d (n+1) (acc++ [bV1 vars[n]]) (by omega) (by simp;omega)
    have hd:(vars.take 10).drop n=vars[n]::(vars.take 10).drop (n+1):=by
      rw[List.drop_eq_getElem_cons (by rw[List.length_take];omega),List.getElem_take]
    rw[hd,List.map_cons];rw[List.append_assoc,List.singleton_append]at ih;have m1:=Zgs vars[n].f0.size 20 20 rfl;have m2:=Zgs vars[n].f1.length 12 12 rfl;refine Ev.step (fun k=>by rw[Zag.l0,if_pos (by omega),if_pos (by omega),hrd]) ?_;rw[Zgt vars[n].f1 12 12 rfl];refine Ev.Zan (by omega) (Ev.Zan (by omega) (Ev.Zan (by omega) ?_));refine Ev.bind (a:=([]:List S59)) (Ev.const rfl) (Ev.Zan (by omega) (Ev.Zan (by omega) (Ev.bind (a:=vars[n].f1.take 12) (Ev.const rfl) (Ev.Zan (by simp[List.length_take];omega) (Ev.Zan (by omega) ?_)))));rw[hw,m1,Int.toNat_natCast,List.nil_append];exact ih
theorem bound_ev (vars:List S37) (cons:List S40) (gk:Int) (gv gc:List Int):Ev (fun k=>Zag.f k vars cons gk gv gc) (bV vars,bC cons,gk,gv.take 14,gc.take 14):=bound_l0 vars cons gk gv gc (min 10 vars.length) 0 [] (by omega) (by simp)
end Go.Proofs.YtkgjaklnbgdmiaaGreat.P
/- What comes in, within its bounds: what Bound makes of it is small. -/
namespace Go.Proofs.YtkgjaklnbgdmiaaGreat.P
open Go.RowKit Go.Proofs.YtkgjaklnbgdmiaaGreatW.PrintWords Go.Proofs.YtkgjaklnbgdmiaaGreatW.PrintLast Go.Proofs.YtkgjaklnbgdmiaaGreatW.PrintMore
def VarOk (v:S37):Prop:=ByteArray.size v.f0≤maxLen∧(List.length v.f1*16≤140737488351232∧∀y2_ ∈ v.f1,((Lit.int .i64 (y2_).f0).wf=true∧(Lit.int .i64 (y2_).f1).wf=true))
def ConOk (c:S40):Prop:=(Lit.int .i64 c.f0).wf=true∧(List.length c.f1*8≤140737488351232∧∀y2_ ∈ c.f1,(Lit.int .i64 y2_).wf=true)∧(List.length c.f2*8≤140737488351232∧∀y2_ ∈ c.f2,(Lit.int .i64 y2_).wf=true)∧(Lit.int .i64 c.f3).wf=true∧(Lit.int .i64 c.f4).wf=true∧(List.length c.f5*24≤140737488351232∧∀y2_ ∈ c.f5,(List.length y2_*8≤140737488351232∧∀y3_ ∈ y2_,(Lit.int .i64 y3_).wf=true))∧(Lit.int .i64 c.f6).wf=true
theorem bV_mem {vars:List S37} {v:S37} (h:v ∈ bV vars):∃x ∈ vars,v=bV1 x:=by
  obtain⟨x,hx,e⟩:=List.mem_map.1 h;exact⟨x,List.mem_of_mem_take hx,e.symm⟩
theorem bC_mem {cons:List S40} {c:S40} (h:c ∈ bC cons):∃x ∈ cons,c=bC1 x:=by
  obtain⟨x,hx,e⟩:=List.mem_map.1 h;exact⟨x,List.mem_of_mem_take hx,e.symm⟩
theorem bV_length (vars:List S37):(bV vars).length≤10:=by
  unfold bV;rw[List.length_map,List.length_take]
  omega
theorem bC_length (cons:List S40):(bC cons).length≤16:=by
  unfold bC;rw[List.length_map,List.length_take]
  omega
theorem bV_dom {vars:List S37} :∀v ∈ bV vars,v.f1.length≤12:=by
  intro v h;obtain⟨x,_,rfl⟩:=bV_mem h
  show(x.f1.take 12).length≤12
  rw[List.length_take]
  omega
theorem bC_small {cons:List S40} :∀c ∈ bC cons,c.f1.length≤14∧c.f2.length≤14∧c.f5.length≤20∧∀r ∈ c.f5,r.length≤14:=by
  intro c h;obtain⟨x,_,rfl⟩:=bC_mem h;exact⟨by show(x.f1.take 14).length≤14;rw[List.length_take];omega,by show(x.f2.take 14).length≤14;rw[List.length_take];omega,cutR_len x.f5,cutR_row x.f5⟩
theorem okC_bC {cons:List S40} (h:∀c ∈ cons,ConOk c):∀c ∈ bC cons,okC c:=by
  intro c hc;obtain⟨s1,s2,_,_⟩:=bC_small c hc;obtain⟨x,hx,rfl⟩:=bC_mem hc;obtain⟨_,_,⟨_,h2⟩,_,h4,_,_⟩:=h x hx;exact⟨by omega,by omega,fun y hy=>(wf64 (h2 y (List.mem_of_mem_take hy))).1,(wf64 h4).1⟩
theorem bV_dom6 {vars:List S37} :∀v ∈ bV vars,v.f1.length≤1000000:=fun v h=>by have:=bV_dom v h;omega
theorem take14 (l:List Int):(l.take 14).length≤1000000:=by rw[List.length_take];omega
theorem take14w {l:List Int} (h:∀y ∈ l,(Lit.int .i64 y).wf=true):∀c ∈ l.take 14,-9223372036854775808≤c:=fun y hy=>(wf64 (h y (List.mem_of_mem_take hy))).1
end Go.Proofs.YtkgjaklnbgdmiaaGreat.P
namespace Go.Proofs.YtkgjaklnbgdmiaaGreat.P
open Go.RowKit Go.Proofs.YtkgjaklnbgdmiaaGreatW.PrintWords Go.Proofs.YtkgjaklnbgdmiaaGreatW.PrintLast Go.Proofs.YtkgjaklnbgdmiaaGreatW.PrintMore
attribute [local go_sem] Zci Zck Zc3 Zc4 Zcb Zcc Zcj Zcl
mutual
def Zal.l0 : Nat → List Int → List Int → Int → Option (List Int)
 | 0, _, _, _ => none
 |k+1,x0,x3,x4=>if x4<(x0.length:Int)then(if 0≤x4 then((Zbg.f k x3 (rd x0 x4)).bind fun Eg=>(Zal.l1 k x0 x3 x4 (([]:List Int)) Eg 0))else(none))else(some x3)
def Zal.l1 : Nat → List Int → List Int → Int → List Int → Bool → Int → Option (List Int)
 | 0, _, _, _, _, _, _ => none
 |k+1,x0,x3,x4,x5,x6,x7=>if x7<(x3.length:Int)then(if x6=true then(if 0≤x7 then(if x5.length<17592186044416 then(Zal.l1 k x0 x3 x4 (x5++ [rd x3 x7]) x6 (wrap64 (x7+1)))else(none))else(none))else(if 0≤x4 then(if x4<(x0.length:Int)then(if 0≤x7 then(if(rd x0 x4)<(rd x3 x7)then(if x5.length<17592186044416 then((some (x5++ [rd x0 x4]:List Int)).bind fun Cq=>(if Cq.length<17592186044416 then(Zal.l1 k x0 x3 x4 (Cq++ [rd x3 x7]) true (wrap64 (x7+1)))else(none)))else(none))else(if x5.length<17592186044416 then(Zal.l1 k x0 x3 x4 (x5++ [rd x3 x7]) x6 (wrap64 (x7+1)))else(none)))else(none))else(none))else(none)))else(if x6=true then(Zal.l0 k x0 x5 (wrap64 (x4+1)))else(if 0≤x4 then(if x4<(x0.length:Int)then(if x5.length<17592186044416 then(Zal.l0 k x0 (x5++ [rd x0 x4]) (wrap64 (x4+1)))else(none))else(none))else(none)))
end
def Zal.f (k:Nat) (l0:List Int):Option (List Int):=Zal.l0 k l0 (([]:List Int)) 0
set_option maxRecDepth 100000 in
theorem Zal.calls (k : Nat) (A0 : Option Addr) (c0 : Nat) (l0 : List Int) (r : List Int) (w : World) (hr0 : Kd.C (Kd.int .i64) w A0 l0.length l0) (hc0 : l0.length ≤ c0) (h : Zal.f k l0 = some r) :
  Calls Tryz.prog 68 #[.slice A0 l0.length c0] w fun e w'=>∃v0_:Value,e= .returned (v0_)∧Kd.R (Kd.int .i64) 3 w' w.heap.size (fun _=>True) v0_ r∧Below w.heap.size w w':=by
 have HR0:=Za.mk hr0;have HC0:=Za.mk hc0;clear hr0 hc0;have HB:=Za.mk (Below.refl w.heap.size w);have H:(Zal.l0 k l0 (([]:List Int)) 0)=some r:=h;clear h;obtain⟨bBa,IR⟩:∃y_:List Int,y_=(([]:List Int)):=⟨_,rfl⟩;replace H:(Zal.l0 k l0 bBa 0)=some r:=by first|(rw[IR];with_reducible exact H)|(have H2_:=(Option.bind_some _ _).symm.trans H;rw[IR];with_reducible exact H2_)|(have H2_:=(Option.bind_some _ _).symm.trans H;with_reducible exact H2_)|with_reducible exact H|(rw[IR];exact H)|exact H
 have Es:=Za.mk IR;clear IR;have H':=Za.mk H;clear H;go_enter Tryz.func68,Tryz.ntmps68
 go_wp2_with (first|((with_reducible refine Zap (N:=8) rfl ?_);refine Kd.Zdf (Kd.int .i64) _ 3 ?hg (N:=8) ?hd (xs:=([]:List Int)) (inner:= []) (ok:=fun _=>True) (okp:=fun _=>True) ?hr ?hp (fun _ hk=>hk) trivial (Below.refl _ _) (Nat.le_refl _) (by simp) ?_;(case hd=>rfl);(case hg=>rfl);(case hr=>first|(go_simp;done)|(go_simp;rfl));(case hp=>exact(Reps.none _ _));intro bua w2 ho3 hb hg_ hnew_;clear hg_ hnew_;(first|rw[←Es.out]at ho3|(simp only[Int.reduceToNat]at ho3;rw[←Es.out]at ho3));have PQ:=Za.mk (Kd.Zbp ho3 (Zaj (bM HB.out)));replace HB:=Za.mk (bS HB.out hb);clear hb ho3))
 repeat(go_quiet (first|((with_reducible refine Zap (N:=8) rfl ?_);refine Kd.Zdf (Kd.int .i64) _ 3 ?hg (N:=8) ?hd (xs:=([]:List Int)) (inner:= []) (ok:=fun _=>True) (okp:=fun _=>True) ?hr ?hp (fun _ hk=>hk) trivial (Below.refl _ _) (Nat.le_refl _) (by simp) ?_;(case hd=>rfl);(case hg=>rfl);(case hr=>first|(go_simp;done)|(go_simp;rfl));(case hp=>exact(Reps.none _ _));intro bua w2 ho3 hb hg_ hnew_;clear hg_ hnew_;(first|rw[←Es.out]at ho3|(simp only[Int.reduceToNat]at ho3;rw[←Es.out]at ho3));have PQ:=Za.mk (Kd.Zbp ho3 (Zaj (bM HB.out)));replace HB:=Za.mk (bS HB.out hb);clear hb ho3));try go_wp2_with (first|((with_reducible refine Zap (N:=8) rfl ?_);refine Kd.Zdf (Kd.int .i64) _ 3 ?hg (N:=8) ?hd (xs:=([]:List Int)) (inner:= []) (ok:=fun _=>True) (okp:=fun _=>True) ?hr ?hp (fun _ hk=>hk) trivial (Below.refl _ _) (Nat.le_refl _) (by simp) ?_;(case hd=>rfl);(case hg=>rfl);(case hr=>first|(go_simp;done)|(go_simp;rfl));(case hp=>exact(Reps.none _ _));intro bua w2 ho3 hb hg_ hnew_;clear hg_ hnew_;(first|rw[←Es.out]at ho3|(simp only[Int.reduceToNat]at ho3;rw[←Es.out]at ho3));have PQ:=Za.mk (Kd.Zbp ho3 (Zaj (bM HB.out)));replace HB:=Za.mk (bS HB.out hb);clear hb ho3)))
 go_loopg [3,4] k (fun kq v3 v4 w'=>∃(ah:List Int) (az:Int),v4= .int .i64 az∧Za (Zal.l0 kq l0 ah az=some r)∧Za (kq≤k)∧Za (Kd.R (Kd.int .i64) 3 w' w.heap.size (fun _=>True) v3 ah)∧Za (Below w.heap.size w w'))
 case atStart=>exact⟨(bBa),(0),eS,H',⟨Nat.le_refl _⟩,⟨rM PQ.out⟩,⟨bM HB.out⟩⟩
 case round=>
  clear H';try clear p2
  obtain⟨ah,az,rfl,HA,HK1,bL,HB⟩:=hrel
  cases gk with
  | zero => exact absurd HA.out (by simp [Zal.l0])
  |succ k1=>
   have H:=HA.out;clear HA;simp only[Zal.l0]at H;by_cases c4:az<(l0.length:Int)
   case neg=>
    rw[if_neg c4]at H;have dV:decide (az<(l0.length:Int))=false:=decide_eq_false c4;clear c4;obtain rfl:=sj H;go_wp2
    repeat(go_quiet (fail);try go_wp2)
    go_ret;exact⟨_,eR,rM bL.out,bM HB.out⟩
   rw[if_pos c4]at H;have dV:decide (az<(l0.length:Int))=true:=decide_eq_true c4;clear c4;obtain⟨bCa,IU⟩:∃y_:List Int,y_=(([]:List Int)):=⟨_,rfl⟩;replace H:(if 0≤az then((Zbg.f k1 ah (rd l0 az)).bind fun Eg=>(Zal.l1 k1 l0 ah az bCa Eg 0))else(none))=some r:=by first|(rw[IU];with_reducible exact H)|(have H2_:=(Option.bind_some _ _).symm.trans H;rw[IU];with_reducible exact H2_)|(have H2_:=(Option.bind_some _ _).symm.trans H;with_reducible exact H2_)|with_reducible exact H|(rw[IU];exact H)|exact H
   have Et:=Za.mk IU;clear IU;obtain⟨dS,H⟩:=ifT H;obtain⟨Eg,A6,H⟩:=bnd H;try dsimp only at H
   have H':=Za.mk H;clear H
   go_wp2_with (first|((with_reducible refine Zap (N:=15) rfl ?_);refine Kd.Zdf (Kd.int .i64) _ 3 ?hg (N:=15) ?hd (xs:=([]:List Int)) (inner:= []) (ok:=fun _=>True) (okp:=fun _=>True) ?hr ?hp (fun _ hk=>hk) trivial (Below.refl _ _) (Nat.le_refl _) (by simp) ?_;(case hd=>rfl);(case hg=>rfl);(case hr=>first|(go_simp;done)|(go_simp;rfl));(case hp=>exact(Reps.none _ _));intro bva w7 ho8 hb hg_ hnew_;clear hg_ hnew_;(first|rw[←Et.out]at ho8|(simp only[Int.reduceToNat]at ho8;rw[←Et.out]at ho8));have PR:=Za.mk (Kd.Zbp (Kd.Zcs ho8 (Kd.R_lt (rM bL.out))) (Zaj (bM HB.out)));replace bL:=Za.mk (Kd.Zce (rM bL.out) (Kd.Zb4 ho8) hb);replace HB:=Za.mk (bS HB.out hb);clear hb ho8;have uU:0≤(az:Int):=odt;have uV:az<(l0.length:Int):=odt;obtain⟨Eu,e344,pM⟩:=Kd.Zb0 HR0.out az uU uV;cases e344;replace pM:=hB HB.out pM;replace uU:=eq_true uU;replace uV:=eq_true uV;obtain⟨Ao9,co9,eo9⟩:=Kd.Za9 bL.out;subst eo9)|(go_at_call 73;(with_reducible refine(Zbg.calls k1 _ _ ah (rd l0 az) Eg _ (cM ((Kd.Za3 bL.out).2.2)) ((Kd.Za3 bL.out).2.1) A6.out).mono ?_);rintro e w' ⟨rfl,⟨nd,rfl⟩⟩;(try first|exact⟨rfl,_,World.drewN_drewN _ _ _⟩|exact⟨rfl,_,Eq.trans (World.drewN_drewN _ _ _) (congrArg (World.drewN _) (Nat.add_assoc _ _ _))⟩)))
   repeat(go_quiet (first|((with_reducible refine Zap (N:=15) rfl ?_);refine Kd.Zdf (Kd.int .i64) _ 3 ?hg (N:=15) ?hd (xs:=([]:List Int)) (inner:= []) (ok:=fun _=>True) (okp:=fun _=>True) ?hr ?hp (fun _ hk=>hk) trivial (Below.refl _ _) (Nat.le_refl _) (by simp) ?_;(case hd=>rfl);(case hg=>rfl);(case hr=>first|(go_simp;done)|(go_simp;rfl));(case hp=>exact(Reps.none _ _));intro bva w7 ho8 hb hg_ hnew_;clear hg_ hnew_;(first|rw[←Et.out]at ho8|(simp only[Int.reduceToNat]at ho8;rw[←Et.out]at ho8));have PR:=Za.mk (Kd.Zbp (Kd.Zcs ho8 (Kd.R_lt (rM bL.out))) (Zaj (bM HB.out)));replace bL:=Za.mk (Kd.Zce (rM bL.out) (Kd.Zb4 ho8) hb);replace HB:=Za.mk (bS HB.out hb);clear hb ho8;have uU:0≤(az:Int):=odt;have uV:az<(l0.length:Int):=odt;obtain⟨Eu,e344,pM⟩:=Kd.Zb0 HR0.out az uU uV;cases e344;replace pM:=hB HB.out pM;replace uU:=eq_true uU;replace uV:=eq_true uV;obtain⟨Ao9,co9,eo9⟩:=Kd.Za9 bL.out;subst eo9)|(go_at_call 73;(with_reducible refine(Zbg.calls k1 _ _ ah (rd l0 az) Eg _ (cM ((Kd.Za3 bL.out).2.2)) ((Kd.Za3 bL.out).2.1) A6.out).mono ?_);rintro e w' ⟨rfl,⟨nd,rfl⟩⟩;(try first|exact⟨rfl,_,World.drewN_drewN _ _ _⟩|exact⟨rfl,_,Eq.trans (World.drewN_drewN _ _ _) (congrArg (World.drewN _) (Nat.add_assoc _ _ _))⟩)));try go_wp2_with (first|((with_reducible refine Zap (N:=15) rfl ?_);refine Kd.Zdf (Kd.int .i64) _ 3 ?hg (N:=15) ?hd (xs:=([]:List Int)) (inner:= []) (ok:=fun _=>True) (okp:=fun _=>True) ?hr ?hp (fun _ hk=>hk) trivial (Below.refl _ _) (Nat.le_refl _) (by simp) ?_;(case hd=>rfl);(case hg=>rfl);(case hr=>first|(go_simp;done)|(go_simp;rfl));(case hp=>exact(Reps.none _ _));intro bva w7 ho8 hb hg_ hnew_;clear hg_ hnew_;(first|rw[←Et.out]at ho8|(simp only[Int.reduceToNat]at ho8;rw[←Et.out]at ho8));have PR:=Za.mk (Kd.Zbp (Kd.Zcs ho8 (Kd.R_lt (rM bL.out))) (Zaj (bM HB.out)));replace bL:=Za.mk (Kd.Zce (rM bL.out) (Kd.Zb4 ho8) hb);replace HB:=Za.mk (bS HB.out hb);clear hb ho8;have uU:0≤(az:Int):=odt;have uV:az<(l0.length:Int):=odt;obtain⟨Eu,e344,pM⟩:=Kd.Zb0 HR0.out az uU uV;cases e344;replace pM:=hB HB.out pM;replace uU:=eq_true uU;replace uV:=eq_true uV;obtain⟨Ao9,co9,eo9⟩:=Kd.Za9 bL.out;subst eo9)|(go_at_call 73;(with_reducible refine(Zbg.calls k1 _ _ ah (rd l0 az) Eg _ (cM ((Kd.Za3 bL.out).2.2)) ((Kd.Za3 bL.out).2.1) A6.out).mono ?_);rintro e w' ⟨rfl,⟨nd,rfl⟩⟩;(try first|exact⟨rfl,_,World.drewN_drewN _ _ _⟩|exact⟨rfl,_,Eq.trans (World.drewN_drewN _ _ _) (congrArg (World.drewN _) (Nat.add_assoc _ _ _))⟩))))
   go_loopg [5,6,7] k1 (fun kq v5 v6 v7 w'=>∃(aD:List Int) (af:Bool) (eP:Int),v6= .bool af∧v7= .int .i64 eP∧Za (Zal.l1 kq l0 ah az aD af eP=some r)∧Za (kq≤k1)∧Za (Kd.R (Kd.int .i64) 3 w' w.heap.size (fun k_=>some k_≠(v5:Value).ownBlock) (.slice Ao9 ah.length co9) ah)∧Za (Kd.R (Kd.int .i64) 3 w' w.heap.size (fun k_=>some k_≠((.slice Ao9 ah.length co9):Value).ownBlock) v5 aD)∧Za (Below w.heap.size w w'))
   case atStart=>exact⟨(bCa),(Eg),(0),eS,eS,H',⟨Nat.le_refl _⟩,⟨rM (Kd.Zaw bL.out (fun _ hk=>hk.2))⟩,⟨rM (Kd.Zaw PR.out (fun _ hk=>hk.2))⟩,⟨bM HB.out⟩⟩
   case round=>
    clear H';try clear p2
    try clear p3
    try clear q3
    try clear hx3
    try clear c4
    try clear dV
    try clear c5
    try clear dS
    try clear c6
    try clear pM
    try clear p2
    try clear uU
    try clear uV
    obtain⟨aD,af,eP,rfl,rfl,HA,HK2,bL,bY,HB⟩:=hrel
    cases gk with
    | zero => exact absurd HA.out (by simp [Zal.l1])
    |succ k2=>
     have H:=HA.out;clear HA;simp only[Zal.l1]at H;by_cases c10:eP<(ah.length:Int)
     case neg=>
      rw[if_neg c10]at H;have qP:decide (eP<(ah.length:Int))=false:=decide_eq_false c10;clear c10;by_cases c25:af=true
      case pos=>
       subst c25;rw[if_pos rfl]at H;have H':=Za.mk H;clear H;go_wp2
       repeat(go_quiet (fail);try go_wp2)
       go_roundg k2
       case measure=>have:=HK1.out;have:=HK2.out;omega
       case rel=>exact⟨(aD),(wrap64 (az+1)),eS,H',⟨by have:=HK1.out;have:=HK2.out;omega⟩,⟨rM (Kd.Zaw bY.out (fun _ hk=>trivial))⟩,⟨bM HB.out⟩⟩
      replace c25:=Bool.eq_false_iff.mpr c25;subst c25;replace H:=ifF H;obtain⟨H9,H⟩:=ifT H;obtain⟨lka,H⟩:=ifT H;obtain⟨c28,H⟩:=ifP H;have Qe:=Za.mk c28;clear c28;obtain⟨bGa,Ja⟩:∃y_:List Int,y_=(aD++ [rd l0 az]):=⟨_,rfl⟩;replace H:(Zal.l0 k2 l0 bGa (wrap64 (az+1)))=some r:=by first|(rw[Ja];with_reducible exact H)|(have H2_:=(Option.bind_some _ _).symm.trans H;rw[Ja];with_reducible exact H2_)|(have H2_:=(Option.bind_some _ _).symm.trans H;with_reducible exact H2_)|with_reducible exact H|(rw[Ja];exact H)|exact H
      have Qk:=Za.mk Ja;clear Ja;have H':=Za.mk H;clear H;have Uv:0≤(az:Int):=odt;have UA:az<(l0.length:Int):=odt;obtain⟨cPa,ifa,Ph⟩:=Kd.Zb0 HR0.out az Uv UA;obtain rfl:Eu=cPa:=(by injection ifa);replace Ph:=hB HB.out Ph;replace Uv:=eq_true Uv;replace UA:=eq_true UA
      go_wp2_with (first|((with_reducible refine Zbk (b:= .append) (xs:=#[.tmp 57,.tmp 62]) rfl ?_);at_builtin;refine Kd.Zct (Kd.int .i64) (w0:=w) w.heap.size rfl (.tmp 57) (.tmp 62) 24 3 (.int .i64 0) 8 rfl Tryz.underlying24 info3 rfl (by decide) (by omega) u5 aD (rd l0 az) [.int .i64 (rd l0 az)] (fun k_=>some k_≠(.slice Ao9 ah.length co9:Value).ownBlock) (fun _=>False) rfl rfl ?aP (fun _ hk=>hk.elim) ?aF ?aO ?aB ?aS ?aL ?_;(case aP=>exact rfl);(case aB=>exact(bM HB.out));(case aF=>exact(fun k_ hk=>Kd.fresh' (Kd.R_lt (rM bL.out)) k_ hk));(case aO=>exact(rM bY.out));(case aS=>exact(Zaj (bM HB.out)));(case aL=>have:=Qe.out;omega);intro bza w29 ho hb hg hat;rw[←Qk.out]at ho;replace bL:=Za.mk (Kd.Zc8 (ok:=(fun _=>True)) (rM (Kd.Zaw bL.out (fun _ hk=>⟨trivial,hk⟩))) hg hat);replace HB:=Za.mk (hb);have PV:=Za.mk (ho);clear bY;clear ho hb hg hat))
      repeat(go_quiet (first|((with_reducible refine Zbk (b:= .append) (xs:=#[.tmp 57,.tmp 62]) rfl ?_);at_builtin;refine Kd.Zct (Kd.int .i64) (w0:=w) w.heap.size rfl (.tmp 57) (.tmp 62) 24 3 (.int .i64 0) 8 rfl Tryz.underlying24 info3 rfl (by decide) (by omega) u5 aD (rd l0 az) [.int .i64 (rd l0 az)] (fun k_=>some k_≠(.slice Ao9 ah.length co9:Value).ownBlock) (fun _=>False) rfl rfl ?aP (fun _ hk=>hk.elim) ?aF ?aO ?aB ?aS ?aL ?_;(case aP=>exact rfl);(case aB=>exact(bM HB.out));(case aF=>exact(fun k_ hk=>Kd.fresh' (Kd.R_lt (rM bL.out)) k_ hk));(case aO=>exact(rM bY.out));(case aS=>exact(Zaj (bM HB.out)));(case aL=>have:=Qe.out;omega);intro bza w29 ho hb hg hat;rw[←Qk.out]at ho;replace bL:=Za.mk (Kd.Zc8 (ok:=(fun _=>True)) (rM (Kd.Zaw bL.out (fun _ hk=>⟨trivial,hk⟩))) hg hat);replace HB:=Za.mk (hb);have PV:=Za.mk (ho);clear bY;clear ho hb hg hat));try go_wp2_with (first|((with_reducible refine Zbk (b:= .append) (xs:=#[.tmp 57,.tmp 62]) rfl ?_);at_builtin;refine Kd.Zct (Kd.int .i64) (w0:=w) w.heap.size rfl (.tmp 57) (.tmp 62) 24 3 (.int .i64 0) 8 rfl Tryz.underlying24 info3 rfl (by decide) (by omega) u5 aD (rd l0 az) [.int .i64 (rd l0 az)] (fun k_=>some k_≠(.slice Ao9 ah.length co9:Value).ownBlock) (fun _=>False) rfl rfl ?aP (fun _ hk=>hk.elim) ?aF ?aO ?aB ?aS ?aL ?_;(case aP=>exact rfl);(case aB=>exact(bM HB.out));(case aF=>exact(fun k_ hk=>Kd.fresh' (Kd.R_lt (rM bL.out)) k_ hk));(case aO=>exact(rM bY.out));(case aS=>exact(Zaj (bM HB.out)));(case aL=>have:=Qe.out;omega);intro bza w29 ho hb hg hat;rw[←Qk.out]at ho;replace HB:=Za.mk (hb);have PV:=Za.mk (ho);clear bL bY;clear ho hb hg hat)))
      go_roundg k2
      case measure=>have:=HK1.out;have:=HK2.out;omega
      case rel=>exact⟨(bGa),(wrap64 (az+1)),eS,H',⟨by have:=HK1.out;have:=HK2.out;omega⟩,⟨rM (Kd.Zaw PV.out (fun _ hk=>trivial))⟩,⟨bM HB.out⟩⟩
     rw[if_pos c10]at H;have qP:decide (eP<(ah.length:Int))=true:=decide_eq_true c10;clear c10;by_cases c11:af=true
     case pos=>
      subst c11;rw[if_pos rfl]at H;obtain⟨ll,H⟩:=ifT H;obtain⟨c13,H⟩:=ifP H;have Qa:=Za.mk c13;clear c13;obtain⟨bDa,IV⟩:∃y_:List Int,y_=(aD++ [rd ah eP]):=⟨_,rfl⟩;replace H:(Zal.l1 k2 l0 ah az bDa true (wrap64 (eP+1)))=some r:=by first|(rw[IV];with_reducible exact H)|(have H2_:=(Option.bind_some _ _).symm.trans H;rw[IV];with_reducible exact H2_)|(have H2_:=(Option.bind_some _ _).symm.trans H;with_reducible exact H2_)|with_reducible exact H|(rw[IV];exact H)|exact H
      have Qg:=Za.mk IV;clear IV;have H':=Za.mk H;clear H;have Us:0≤(eP:Int):=odt;have U7:eP<(ah.length:Int):=odt;obtain⟨Qn,rfl,j9a⟩:=Kd.Zb0 (Kd.Za3 bL.out).2.2 eP Us U7;replace Us:=eq_true Us;replace U7:=eq_true U7
      go_wp2_with (first|((with_reducible refine Zbk (b:= .append) (xs:=#[.tmp 48,.tmp 53]) rfl ?_);at_builtin;refine Kd.Zct (Kd.int .i64) (w0:=w) w.heap.size rfl (.tmp 48) (.tmp 53) 24 3 (.int .i64 0) 8 rfl Tryz.underlying24 info3 rfl (by decide) (by omega) u5 aD (rd ah eP) [.int .i64 (rd ah eP)] (fun k_=>some k_≠(.slice (some Qn) ah.length co9:Value).ownBlock) (fun _=>False) rfl rfl ?aP (fun _ hk=>hk.elim) ?aF ?aO ?aB ?aS ?aL ?_;(case aP=>exact rfl);(case aB=>exact(bM HB.out));(case aF=>exact(fun k_ hk=>Kd.fresh' (Kd.R_lt (rM bL.out)) k_ hk));(case aO=>exact(rM bY.out));(case aS=>exact(Zaj (bM HB.out)));(case aL=>have:=Qa.out;omega);intro bwa w14 ho hb hg hat;rw[←Qg.out]at ho;replace bL:=Za.mk (Kd.Zc8 (ok:=(fun _=>True)) (rM (Kd.Zaw bL.out (fun _ hk=>⟨trivial,hk⟩))) hg hat);replace HB:=Za.mk (hb);have PS:=Za.mk (ho);clear bY;clear ho hb hg hat))
      repeat(go_quiet (first|((with_reducible refine Zbk (b:= .append) (xs:=#[.tmp 48,.tmp 53]) rfl ?_);at_builtin;refine Kd.Zct (Kd.int .i64) (w0:=w) w.heap.size rfl (.tmp 48) (.tmp 53) 24 3 (.int .i64 0) 8 rfl Tryz.underlying24 info3 rfl (by decide) (by omega) u5 aD (rd ah eP) [.int .i64 (rd ah eP)] (fun k_=>some k_≠(.slice (some Qn) ah.length co9:Value).ownBlock) (fun _=>False) rfl rfl ?aP (fun _ hk=>hk.elim) ?aF ?aO ?aB ?aS ?aL ?_;(case aP=>exact rfl);(case aB=>exact(bM HB.out));(case aF=>exact(fun k_ hk=>Kd.fresh' (Kd.R_lt (rM bL.out)) k_ hk));(case aO=>exact(rM bY.out));(case aS=>exact(Zaj (bM HB.out)));(case aL=>have:=Qa.out;omega);intro bwa w14 ho hb hg hat;rw[←Qg.out]at ho;replace bL:=Za.mk (Kd.Zc8 (ok:=(fun _=>True)) (rM (Kd.Zaw bL.out (fun _ hk=>⟨trivial,hk⟩))) hg hat);replace HB:=Za.mk (hb);have PS:=Za.mk (ho);clear bY;clear ho hb hg hat));try go_wp2_with (first|((with_reducible refine Zbk (b:= .append) (xs:=#[.tmp 48,.tmp 53]) rfl ?_);at_builtin;refine Kd.Zct (Kd.int .i64) (w0:=w) w.heap.size rfl (.tmp 48) (.tmp 53) 24 3 (.int .i64 0) 8 rfl Tryz.underlying24 info3 rfl (by decide) (by omega) u5 aD (rd ah eP) [.int .i64 (rd ah eP)] (fun k_=>some k_≠(.slice (some Qn) ah.length co9:Value).ownBlock) (fun _=>False) rfl rfl ?aP (fun _ hk=>hk.elim) ?aF ?aO ?aB ?aS ?aL ?_;(case aP=>exact rfl);(case aB=>exact(bM HB.out));(case aF=>exact(fun k_ hk=>Kd.fresh' (Kd.R_lt (rM bL.out)) k_ hk));(case aO=>exact(rM bY.out));(case aS=>exact(Zaj (bM HB.out)));(case aL=>have:=Qa.out;omega);intro bwa w14 ho hb hg hat;rw[←Qg.out]at ho;replace bL:=Za.mk (Kd.Zc8 (ok:=(fun _=>True)) (rM (Kd.Zaw bL.out (fun _ hk=>⟨trivial,hk⟩))) hg hat);replace HB:=Za.mk (hb);have PS:=Za.mk (ho);clear bY;clear ho hb hg hat)))
      go_roundg k2
      case measure=>have:=HK1.out;have:=HK2.out;omega
      case rel=>exact⟨(bDa),(true),(wrap64 (eP+1)),eS,eS,H',⟨by have:=HK1.out;have:=HK2.out;omega⟩,⟨rM (Kd.Zaw bL.out (fun _ hk=>hk.2))⟩,⟨rM PS.out⟩,⟨bM HB.out⟩⟩
     replace c11:=Bool.eq_false_iff.mpr c11;subst c11;replace H:=ifF H;obtain⟨lU,H⟩:=ifT H;obtain⟨xK,H⟩:=ifT H;obtain⟨Ex,H⟩:=ifT H;by_cases c18:(rd l0 az)<(rd ah eP)
     case neg=>
      rw[if_neg c18]at H;have nO:decide ((rd l0 az)<(rd ah eP))=false:=decide_eq_false c18;clear c18;obtain⟨c23,H⟩:=ifP H;have Qc:=Za.mk c23;clear c23;obtain⟨bFa,IY⟩:∃y_:List Int,y_=(aD++ [rd ah eP]):=⟨_,rfl⟩;replace H:(Zal.l1 k2 l0 ah az bFa false (wrap64 (eP+1)))=some r:=by first|(rw[IY];with_reducible exact H)|(have H2_:=(Option.bind_some _ _).symm.trans H;rw[IY];with_reducible exact H2_)|(have H2_:=(Option.bind_some _ _).symm.trans H;with_reducible exact H2_)|with_reducible exact H|(rw[IY];exact H)|exact H
      have Qj:=Za.mk IY;clear IY;have H':=Za.mk H;clear H;have FO:0≤(az:Int):=odt;have Gi:az<(l0.length:Int):=odt;obtain⟨Qo,TN,AB⟩:=Kd.Zb0 HR0.out az FO Gi;obtain rfl:Eu=Qo:=(by injection TN);replace AB:=hB HB.out AB;replace FO:=eq_true FO;replace Gi:=eq_true Gi;have FP:0≤(eP:Int):=odt;have Gj:eP<(ah.length:Int):=odt;obtain⟨oI,rfl,Yd⟩:=Kd.Zb0 (Kd.Za3 bL.out).2.2 eP FP Gj;replace FP:=eq_true FP;replace Gj:=eq_true Gj;have Uu:0≤(eP:Int):=odt;have U9:eP<(ah.length:Int):=odt;obtain⟨cOa,iea,jAa⟩:=Kd.Zb0 (Kd.Za3 bL.out).2.2 eP Uu U9;obtain rfl:oI=cOa:=(by injection iea);replace Uu:=eq_true Uu;replace U9:=eq_true U9
      go_wp2_with (first|((with_reducible refine Zbk (b:= .append) (xs:=#[.tmp 48,.tmp 53]) rfl ?_);at_builtin;refine Kd.Zct (Kd.int .i64) (w0:=w) w.heap.size rfl (.tmp 48) (.tmp 53) 24 3 (.int .i64 0) 8 rfl Tryz.underlying24 info3 rfl (by decide) (by omega) u5 aD (rd ah eP) [.int .i64 (rd ah eP)] (fun k_=>some k_≠(.slice (some oI) ah.length co9:Value).ownBlock) (fun _=>False) rfl rfl ?aP (fun _ hk=>hk.elim) ?aF ?aO ?aB ?aS ?aL ?_;(case aP=>exact rfl);(case aB=>exact(bM HB.out));(case aF=>exact(fun k_ hk=>Kd.fresh' (Kd.R_lt (rM bL.out)) k_ hk));(case aO=>exact(rM bY.out));(case aS=>exact(Zaj (bM HB.out)));(case aL=>have:=Qc.out;omega);intro bya w24 ho hb hg hat;rw[←Qj.out]at ho;replace bL:=Za.mk (Kd.Zc8 (ok:=(fun _=>True)) (rM (Kd.Zaw bL.out (fun _ hk=>⟨trivial,hk⟩))) hg hat);replace HB:=Za.mk (hb);have PU:=Za.mk (ho);clear bY;clear ho hb hg hat))
      repeat(go_quiet (first|((with_reducible refine Zbk (b:= .append) (xs:=#[.tmp 48,.tmp 53]) rfl ?_);at_builtin;refine Kd.Zct (Kd.int .i64) (w0:=w) w.heap.size rfl (.tmp 48) (.tmp 53) 24 3 (.int .i64 0) 8 rfl Tryz.underlying24 info3 rfl (by decide) (by omega) u5 aD (rd ah eP) [.int .i64 (rd ah eP)] (fun k_=>some k_≠(.slice (some oI) ah.length co9:Value).ownBlock) (fun _=>False) rfl rfl ?aP (fun _ hk=>hk.elim) ?aF ?aO ?aB ?aS ?aL ?_;(case aP=>exact rfl);(case aB=>exact(bM HB.out));(case aF=>exact(fun k_ hk=>Kd.fresh' (Kd.R_lt (rM bL.out)) k_ hk));(case aO=>exact(rM bY.out));(case aS=>exact(Zaj (bM HB.out)));(case aL=>have:=Qc.out;omega);intro bya w24 ho hb hg hat;rw[←Qj.out]at ho;replace bL:=Za.mk (Kd.Zc8 (ok:=(fun _=>True)) (rM (Kd.Zaw bL.out (fun _ hk=>⟨trivial,hk⟩))) hg hat);replace HB:=Za.mk (hb);have PU:=Za.mk (ho);clear bY;clear ho hb hg hat));try go_wp2_with (first|((with_reducible refine Zbk (b:= .append) (xs:=#[.tmp 48,.tmp 53]) rfl ?_);at_builtin;refine Kd.Zct (Kd.int .i64) (w0:=w) w.heap.size rfl (.tmp 48) (.tmp 53) 24 3 (.int .i64 0) 8 rfl Tryz.underlying24 info3 rfl (by decide) (by omega) u5 aD (rd ah eP) [.int .i64 (rd ah eP)] (fun k_=>some k_≠(.slice (some oI) ah.length co9:Value).ownBlock) (fun _=>False) rfl rfl ?aP (fun _ hk=>hk.elim) ?aF ?aO ?aB ?aS ?aL ?_;(case aP=>exact rfl);(case aB=>exact(bM HB.out));(case aF=>exact(fun k_ hk=>Kd.fresh' (Kd.R_lt (rM bL.out)) k_ hk));(case aO=>exact(rM bY.out));(case aS=>exact(Zaj (bM HB.out)));(case aL=>have:=Qc.out;omega);intro bya w24 ho hb hg hat;rw[←Qj.out]at ho;replace bL:=Za.mk (Kd.Zc8 (ok:=(fun _=>True)) (rM (Kd.Zaw bL.out (fun _ hk=>⟨trivial,hk⟩))) hg hat);replace HB:=Za.mk (hb);have PU:=Za.mk (ho);clear bY;clear ho hb hg hat)))
      go_roundg k2
      case measure=>have:=HK1.out;have:=HK2.out;omega
      case rel=>exact⟨(bFa),(false),(wrap64 (eP+1)),eS,eS,H',⟨by have:=HK1.out;have:=HK2.out;omega⟩,⟨rM (Kd.Zaw bL.out (fun _ hk=>hk.2))⟩,⟨rM PU.out⟩,⟨bM HB.out⟩⟩
     rw[if_pos c18]at H;have nO:decide ((rd l0 az)<(rd ah eP))=true:=decide_eq_true c18;clear c18;obtain⟨c19,H⟩:=ifP H;have Qb:=Za.mk c19;clear c19;obtain⟨Cq,IW⟩:∃y_:List Int,y_=(aD++ [rd l0 az]):=⟨_,rfl⟩;replace H:(if Cq.length<17592186044416 then(Zal.l1 k2 l0 ah az (Cq++ [rd ah eP]) true (wrap64 (eP+1)))else(none))=some r:=by first|(rw[IW];with_reducible exact H)|(have H2_:=(Option.bind_some _ _).symm.trans H;rw[IW];with_reducible exact H2_)|(have H2_:=(Option.bind_some _ _).symm.trans H;with_reducible exact H2_)|with_reducible exact H|(rw[IW];exact H)|exact H
     have Qh:=Za.mk IW;clear IW;obtain⟨c20,H⟩:=ifP H;have Ho:=Za.mk c20;clear c20;obtain⟨bEa,IX⟩:∃y_:List Int,y_=(Cq++ [rd ah eP]):=⟨_,rfl⟩;replace H:(Zal.l1 k2 l0 ah az bEa true (wrap64 (eP+1)))=some r:=by first|(rw[IX];with_reducible exact H)|(have H2_:=(Option.bind_some _ _).symm.trans H;rw[IX];with_reducible exact H2_)|(have H2_:=(Option.bind_some _ _).symm.trans H;with_reducible exact H2_)|with_reducible exact H|(rw[IX];exact H)|exact H
     have Qi:=Za.mk IX;clear IX;have H':=Za.mk H;clear H;have FO:0≤(az:Int):=odt;have Gi:az<(l0.length:Int):=odt;obtain⟨Qo,TN,AB⟩:=Kd.Zb0 HR0.out az FO Gi;obtain rfl:Eu=Qo:=(by injection TN);replace AB:=hB HB.out AB;replace FO:=eq_true FO;replace Gi:=eq_true Gi;have FP:0≤(eP:Int):=odt;have Gj:eP<(ah.length:Int):=odt;obtain⟨oI,rfl,Yd⟩:=Kd.Zb0 (Kd.Za3 bL.out).2.2 eP FP Gj;replace FP:=eq_true FP;replace Gj:=eq_true Gj;have Ut:0≤(az:Int):=odt;have U8:az<(l0.length:Int):=odt;obtain⟨cNa,ida,Pf⟩:=Kd.Zb0 HR0.out az Ut U8;obtain rfl:Eu=cNa:=(by injection ida);replace Pf:=hB HB.out Pf;replace Ut:=eq_true Ut;replace U8:=eq_true U8
     go_wp2_with (first|((with_reducible refine Zbk (b:= .append) (xs:=#[.tmp 41,.tmp 46]) rfl ?_);at_builtin;refine Kd.Zct (Kd.int .i64) (w0:=w) w.heap.size rfl (.tmp 41) (.tmp 46) 24 3 (.int .i64 0) 8 rfl Tryz.underlying24 info3 rfl (by decide) (by omega) u5 aD (rd l0 az) [.int .i64 (rd l0 az)] (fun k_=>some k_≠(.slice (some oI) ah.length co9:Value).ownBlock) (fun _=>False) rfl rfl ?aP (fun _ hk=>hk.elim) ?aF ?aO ?aB ?aS ?aL ?_;(case aP=>exact rfl);(case aB=>exact(bM HB.out));(case aF=>exact(fun k_ hk=>Kd.fresh' (Kd.R_lt (rM bL.out)) k_ hk));(case aO=>exact(rM bY.out));(case aS=>exact(Zaj (bM HB.out)));(case aL=>have:=Qb.out;omega);intro N9 w21 ho hb hg hat;rw[←Qh.out]at ho;replace bL:=Za.mk (Kd.Zc8 (ok:=(fun _=>True)) (rM (Kd.Zaw bL.out (fun _ hk=>⟨trivial,hk⟩))) hg hat);replace HB:=Za.mk (hb);have xw:=Za.mk (ho);clear bY;clear ho hb hg hat;have wU:0≤(eP:Int):=odt;have xe:eP<(ah.length:Int):=odt;obtain⟨Hq,ME,Pg⟩:=Kd.Zb0 (Kd.Za3 bL.out).2.2 eP wU xe;obtain rfl:oI=Hq:=(by injection ME);replace wU:=eq_true wU;replace xe:=eq_true xe)|((with_reducible refine Zbk (b:= .append) (xs:=#[.tmp 48,.tmp 53]) rfl ?_);at_builtin;refine Kd.Zct (Kd.int .i64) (w0:=w) w.heap.size rfl (.tmp 48) (.tmp 53) 24 3 (.int .i64 0) 8 rfl Tryz.underlying24 info3 rfl (by decide) (by omega) N9 Cq (rd ah eP) [.int .i64 (rd ah eP)] (fun k_=>some k_≠(.slice (some oI) ah.length co9:Value).ownBlock) (fun _=>False) rfl rfl ?aP (fun _ hk=>hk.elim) ?aF ?aO ?aB ?aS ?aL ?_;(case aP=>exact rfl);(case aB=>exact(bM HB.out));(case aF=>exact(fun k_ hk=>Kd.fresh' (Kd.R_lt (rM bL.out)) k_ hk));(case aO=>exact(rM xw.out));(case aS=>exact(Zaj (bM HB.out)));(case aL=>have:=Ho.out;omega);intro bxa w22 ho hb hg hat;rw[←Qi.out]at ho;replace bL:=Za.mk (Kd.Zc8 (ok:=(fun _=>True)) (rM bL.out) hg hat);replace HB:=Za.mk (hb);have PT:=Za.mk (ho);clear xw;clear ho hb hg hat))
     repeat(go_quiet (first|((with_reducible refine Zbk (b:= .append) (xs:=#[.tmp 41,.tmp 46]) rfl ?_);at_builtin;refine Kd.Zct (Kd.int .i64) (w0:=w) w.heap.size rfl (.tmp 41) (.tmp 46) 24 3 (.int .i64 0) 8 rfl Tryz.underlying24 info3 rfl (by decide) (by omega) u5 aD (rd l0 az) [.int .i64 (rd l0 az)] (fun k_=>some k_≠(.slice (some oI) ah.length co9:Value).ownBlock) (fun _=>False) rfl rfl ?aP (fun _ hk=>hk.elim) ?aF ?aO ?aB ?aS ?aL ?_;(case aP=>exact rfl);(case aB=>exact(bM HB.out));(case aF=>exact(fun k_ hk=>Kd.fresh' (Kd.R_lt (rM bL.out)) k_ hk));(case aO=>exact(rM bY.out));(case aS=>exact(Zaj (bM HB.out)));(case aL=>have:=Qb.out;omega);intro N9 w21 ho hb hg hat;rw[←Qh.out]at ho;replace bL:=Za.mk (Kd.Zc8 (ok:=(fun _=>True)) (rM (Kd.Zaw bL.out (fun _ hk=>⟨trivial,hk⟩))) hg hat);replace HB:=Za.mk (hb);have xw:=Za.mk (ho);clear bY;clear ho hb hg hat;have wU:0≤(eP:Int):=odt;have xe:eP<(ah.length:Int):=odt;obtain⟨Hq,ME,Pg⟩:=Kd.Zb0 (Kd.Za3 bL.out).2.2 eP wU xe;obtain rfl:oI=Hq:=(by injection ME);replace wU:=eq_true wU;replace xe:=eq_true xe)|((with_reducible refine Zbk (b:= .append) (xs:=#[.tmp 48,.tmp 53]) rfl ?_);at_builtin;refine Kd.Zct (Kd.int .i64) (w0:=w) w.heap.size rfl (.tmp 48) (.tmp 53) 24 3 (.int .i64 0) 8 rfl Tryz.underlying24 info3 rfl (by decide) (by omega) N9 Cq (rd ah eP) [.int .i64 (rd ah eP)] (fun k_=>some k_≠(.slice (some oI) ah.length co9:Value).ownBlock) (fun _=>False) rfl rfl ?aP (fun _ hk=>hk.elim) ?aF ?aO ?aB ?aS ?aL ?_;(case aP=>exact rfl);(case aB=>exact(bM HB.out));(case aF=>exact(fun k_ hk=>Kd.fresh' (Kd.R_lt (rM bL.out)) k_ hk));(case aO=>exact(rM xw.out));(case aS=>exact(Zaj (bM HB.out)));(case aL=>have:=Ho.out;omega);intro bxa w22 ho hb hg hat;rw[←Qi.out]at ho;replace bL:=Za.mk (Kd.Zc8 (ok:=(fun _=>True)) (rM bL.out) hg hat);replace HB:=Za.mk (hb);have PT:=Za.mk (ho);clear xw;clear ho hb hg hat));try go_wp2_with (first|((with_reducible refine Zbk (b:= .append) (xs:=#[.tmp 41,.tmp 46]) rfl ?_);at_builtin;refine Kd.Zct (Kd.int .i64) (w0:=w) w.heap.size rfl (.tmp 41) (.tmp 46) 24 3 (.int .i64 0) 8 rfl Tryz.underlying24 info3 rfl (by decide) (by omega) u5 aD (rd l0 az) [.int .i64 (rd l0 az)] (fun k_=>some k_≠(.slice (some oI) ah.length co9:Value).ownBlock) (fun _=>False) rfl rfl ?aP (fun _ hk=>hk.elim) ?aF ?aO ?aB ?aS ?aL ?_;(case aP=>exact rfl);(case aB=>exact(bM HB.out));(case aF=>exact(fun k_ hk=>Kd.fresh' (Kd.R_lt (rM bL.out)) k_ hk));(case aO=>exact(rM bY.out));(case aS=>exact(Zaj (bM HB.out)));(case aL=>have:=Qb.out;omega);intro N9 w21 ho hb hg hat;rw[←Qh.out]at ho;replace bL:=Za.mk (Kd.Zc8 (ok:=(fun _=>True)) (rM (Kd.Zaw bL.out (fun _ hk=>⟨trivial,hk⟩))) hg hat);replace HB:=Za.mk (hb);have xw:=Za.mk (ho);clear bY;clear ho hb hg hat;have wU:0≤(eP:Int):=odt;have xe:eP<(ah.length:Int):=odt;obtain⟨Hq,ME,Pg⟩:=Kd.Zb0 (Kd.Za3 bL.out).2.2 eP wU xe;obtain rfl:oI=Hq:=(by injection ME);replace wU:=eq_true wU;replace xe:=eq_true xe)|((with_reducible refine Zbk (b:= .append) (xs:=#[.tmp 48,.tmp 53]) rfl ?_);at_builtin;refine Kd.Zct (Kd.int .i64) (w0:=w) w.heap.size rfl (.tmp 48) (.tmp 53) 24 3 (.int .i64 0) 8 rfl Tryz.underlying24 info3 rfl (by decide) (by omega) N9 Cq (rd ah eP) [.int .i64 (rd ah eP)] (fun k_=>some k_≠(.slice (some oI) ah.length co9:Value).ownBlock) (fun _=>False) rfl rfl ?aP (fun _ hk=>hk.elim) ?aF ?aO ?aB ?aS ?aL ?_;(case aP=>exact rfl);(case aB=>exact(bM HB.out));(case aF=>exact(fun k_ hk=>Kd.fresh' (Kd.R_lt (rM bL.out)) k_ hk));(case aO=>exact(rM xw.out));(case aS=>exact(Zaj (bM HB.out)));(case aL=>have:=Ho.out;omega);intro bxa w22 ho hb hg hat;rw[←Qi.out]at ho;replace bL:=Za.mk (Kd.Zc8 (ok:=(fun _=>True)) (rM bL.out) hg hat);replace HB:=Za.mk (hb);have PT:=Za.mk (ho);clear xw;clear ho hb hg hat)))
     go_roundg k2
     case measure=>have:=HK1.out;have:=HK2.out;omega
     case rel=>exact⟨(bEa),(true),(wrap64 (eP+1)),eS,eS,H',⟨by have:=HK1.out;have:=HK2.out;omega⟩,⟨rM (Kd.Zaw bL.out (fun _ hk=>hk.2))⟩,⟨rM PT.out⟩,⟨bM HB.out⟩⟩
end Go.Proofs.YtkgjaklnbgdmiaaGreat.P
/- The document's Sorted: numbers in order, each once. -/
namespace Go.Proofs.YtkgjaklnbgdmiaaGreat.P
open Go.RowKit Go.Proofs.YtkgjaklnbgdmiaaGreatW.PrintWords Go.Proofs.YtkgjaklnbgdmiaaGreatW.PrintLast Go.Proofs.YtkgjaklnbgdmiaaGreatW.PrintMore
def ins2 (x : Int) : Bool → List Int → List Int
  | p, [] => if p then [] else [x]
  |p,y::l=>if p=false∧x<y then x::y::ins2 x true l else y::ins2 x p l
theorem Zgm (x : Int) : ∀ l, ins2 x true l = l
  | [] => by simp [ins2]
  |y::l=>by simp[ins2,Zgm x l]
theorem Zhf (x : Int) : ∀ l, x ∉ l → ins2 x false l = insU x l
  | [], _ => by simp [ins2, insU]
  |y::l,h=>by
    have h1:x≠y:=fun e=>h (by simp[e])
    have h2:x ∉ l:=fun e=>h (List.mem_cons_of_mem _ e)
    unfold ins2 insU;by_cases hlt:x<y
    · simp[hlt,Zgm]
    simp[hlt,h1,Zhf x l h2]
theorem insU_mem (x : Int) : ∀ l, SS l → x ∈ l → insU x l = l
  |y::l,h,hx=>by
    obtain⟨hy,hl⟩:=List.pairwise_cons.1 h;unfold insU
    rcases List.mem_cons.1 hx with rfl|hx
    · simp
    have:=hy x hx;rw[if_neg (by omega),if_neg (by omega),insU_mem x l hl hx]
theorem ref_Sorted_l1 (x0 out : List Int) (i : Nat) (hi : i < x0.length) (ho : out.length < 17592186044000) {b : List Int} : ∀ (m n : Nat) (next : List Int) (p : Bool), n + m = out.length → next.length ≤ n + p.toNat →
    Ev (fun k=>Zal.l0 k x0 (next++ins2 x0[i] p (out.drop n)) (wrap64 ((i:Int)+1))) b→Ev (fun k=>Zal.l1 k x0 out (i:Int) next p (n:Int)) b:=by
  intro m
  induction m with
  |zero=>
    intro n next p h hn hE;rw[drop_nil' h]at hE
    cases p with
    |true=>
      simp only[ins2,if_true,List.append_nil]at hE;exact Ev.step (fun k=>by rw[Zal.l1,if_neg (by omega),if_pos rfl]) hE
    |false=>
      simp only[Bool.toNat_false,Nat.add_zero]at hn;simp only[ins2,Bool.false_eq_true,if_false]at hE;exact Ev.step (fun k=>by rw[Zal.l1,if_neg (by omega),if_neg (by simp),if_pos (by omega),if_pos (by omega),if_pos (by omega),Zdo x0 i hi]) hE
  |succ m ih=>
    intro n next p h hn hE;have hlt:n<out.length:=by omega
    rw[List.drop_eq_getElem_cons hlt]at hE
    cases p with
    |true=>
      simp only[Bool.toNat_true]at hn;have e:ins2 x0[i] true (out[n]::out.drop (n+1))=out[n]::ins2 x0[i] true (out.drop (n+1)):=by simp[ins2]
      rw[e]at hE
      exact Ev.step (fun k => by rw [Zal.l1, if_pos (by omega), if_pos rfl, if_pos (by omega), if_pos (by omega), Zdo out n hlt, w1 (by omega)])
        (ih (n+1) (next++ [out[n]]) true (by omega) (by simp;omega) (by simpa using hE))
    |false=>
      simp only[Bool.toNat_false,Nat.add_zero]at hn;by_cases hx:x0[i]<out[n];rotate_left
      · have e : ins2 x0[i] false (out[n] :: out.drop (n + 1)) = out[n] :: ins2 x0[i] false (out.drop (n + 1)) := by simp [ins2, hx]
        rw[e]at hE
        exact Ev.step (fun k => by rw [Zal.l1, if_pos (by omega), if_neg (by simp), if_pos (by omega), if_pos (by omega), if_pos (by omega), Zdo x0 i hi, Zdo out n hlt, if_neg hx, if_pos (by omega), w1 (by omega)])
          (ih (n+1) (next++ [out[n]]) false (by omega) (by simp;omega) (by simpa using hE))
      have e:ins2 x0[i] false (out[n]::out.drop (n+1))=x0[i]::out[n]::ins2 x0[i] true (out.drop (n+1)):=by simp[ins2,hx]
      rw[e]at hE
      exact Ev.step (fun k => by rw [Zal.l1, if_pos (by omega), if_neg (by simp), if_pos (by omega), if_pos (by omega), if_pos (by omega), Zdo x0 i hi, Zdo out n hlt, if_pos hx, if_pos (by omega), Option.bind_some, if_pos (by simp; omega), w1 (by omega)])
        (ih (n+1) ((next++ [x0[i]])++ [out[n]]) true (by omega) (by simp;omega) (by simpa using hE))
theorem foldl_ins : ∀ (l acc : List Int), SS acc → SS (l.foldl (fun a x => insU x a) acc) ∧ ∀ z, z ∈ l.foldl (fun a x => insU x a) acc ↔ z ∈ acc ∨ z ∈ l
  | [], acc, h => ⟨h, fun z => by simp⟩
  |x::l,acc,h=>by
    obtain⟨h1,h2⟩:=foldl_ins l (insU x acc) (insU_ss x acc h);refine⟨h1,fun z=> ?_⟩;rw[List.foldl_cons,h2 z,Zf9,List.mem_cons]
    constructor
    · rintro ((h | h) | h)
      · exact .inr (.inl h)
      · exact .inl h
      exact .inr (.inr h)
    rintro(h|h|h)
    · exact .inl (.inr h)
    · exact .inl (.inl h)
    exact .inr h
theorem foldl_sd (l:List Int):l.foldl (fun a x=>insU x a) []=sd l:=by
  obtain⟨h1,h2⟩:=foldl_ins l [] List.Pairwise.nil;exact(sd_eq h1 (fun z=>by rw[h2 z];simp)).symm
theorem ref_Sorted_l0 (l : List Int) (hl : l.length < 17592186044000) : ∀ (m n : Nat) (acc : List Int), n + m = l.length → acc.length ≤ n → SS acc →
    Ev (fun k=>Zal.l0 k l acc (n:Int)) ((l.drop n).foldl (fun a x=>insU x a) acc):=by
  intro m
  induction m with
  |zero=>
    intro n acc h _ _;rw[drop_nil' h];exact Ev.step (G:=fun _=>some acc) (fun k=>by rw[Zal.l0,if_neg (by omega)]) (Ev.const rfl)
  |succ m ih=>
    intro n acc h ha hs;have hn:n<l.length:=by omega
    have e:(l.drop n).foldl (fun a x=>insU x a) acc=(l.drop (n+1)).foldl (fun a x=>insU x a) (insU l[n] acc):=by rw[List.drop_eq_getElem_cons hn,List.foldl_cons]
    rw[e];have hi:=Zfi l[n] acc
    have e2:ins2 l[n] (decide (l[n] ∈ acc)) acc=insU l[n] acc:=by
      by_cases hx:l[n] ∈ acc;rotate_left
      · rw[decide_eq_false hx,Zhf _ _ hx]
      rw[decide_eq_true hx,Zgm,insU_mem _ _ hs hx]
    refine Ev.step (fun k=>by rw[Zal.l0,if_pos (by omega),if_pos (by omega),Zdo l n hn]) (Ev.bind (ref_Has acc l[n] (by omega)) ?_);refine ref_Sorted_l1 l acc n hn (by omega) acc.length 0 [] (decide (l[n] ∈ acc)) (by omega) (by simp) ?_;rw[List.nil_append,List.drop_zero,e2,w1 (by omega)];exact ih (n+1) _ (by omega) (by omega) (insU_ss _ _ hs)
theorem Zhh (l:List Int) (hl:l.length<17592186044000):Ev (fun k=>Zal.f k l) (sd l):=by
  rw[←foldl_sd];exact ref_Sorted_l0 l hl l.length 0 [] (by omega) (by simp) List.Pairwise.nil
end Go.Proofs.YtkgjaklnbgdmiaaGreat.P
namespace Go.Proofs.YtkgjaklnbgdmiaaGreat.P
open Go.RowKit Go.Proofs.YtkgjaklnbgdmiaaGreatW.PrintWords Go.Proofs.YtkgjaklnbgdmiaaGreatW.PrintLast Go.Proofs.YtkgjaklnbgdmiaaGreatW.PrintMore
attribute [local go_sem] Zci Zck Zc3 Zc4 Zcb Zcc Zcj Zcl
def Zc2.f (k:Nat) (bB:Int) (aa:List Int) (aT:List Int) (bz:Int) (bG:Int) (aW:List (List Int)) (bH:Int):Option (List Int):=(some (([]:List Int):List Int)).bind fun uW=>(if uW.length+aa.length<17592186044416 then((some (uW++aa:List Int)).bind fun nU=>(if bB=4 then(if nU.length<17592186044416 then((Zal.f k (nU++ [bH])).bind fun xk=>(some xk))else(none))else((Zal.f k nU).bind fun BU=>(some BU))))else(none))
set_option maxRecDepth 100000 in
theorem Zc2.calls (k : Nat) (bB : Int) (aI : Option Addr) (aG : Nat) (aa : List Int) (dJ : Option Addr) (dK : Nat) (aT : List Int) (bz : Int) (bG : Int) (dI : Option Addr) (dH : Nat) (aW : List (List Int)) (bH : Int) (r : List Int) (w : World) (eO : Kd.C (Kd.int .i64) w aI aa.length aa) (eH : aa.length ≤ aG) (kE : Kd.C (Kd.int .i64) w dJ aT.length aT) (kw : aT.length ≤ dK) (kJ : Kd.C (Kd.slice 3 (Kd.int .i64)) w dI aW.length aW) (kD : aW.length ≤ dH) (h : Zc2.f k bB aa aT bz bG aW bH = some r) :
  Calls Tryz.prog 38 #[.agg #[.int .i64 bB,.slice aI aa.length aG,.slice dJ aT.length dK,.int .i64 bz,.int .i64 bG,.slice dI aW.length dH,.int .i64 bH]] w fun e w'=>∃v0_:Value,e= .returned (v0_)∧Kd.R (Kd.int .i64) 3 w' w.heap.size (fun _=>True) v0_ r∧Below w.heap.size w w':=by
 have hu40:=Tryz.underlying40;have fE:=Za.mk eO;have gU:=Za.mk eH;clear eO eH;have nL:=Za.mk kE;have oG:=Za.mk kw;clear kE kw;have lS:=Za.mk kJ;have qN:=Za.mk kD;clear kJ kD;have HB:=Za.mk (Below.refl w.heap.size w);have H:((some (([]:List Int):List Int)).bind fun uW=>(if uW.length+aa.length<17592186044416 then((some (uW++aa:List Int)).bind fun nU=>(if bB=4 then(if nU.length<17592186044416 then((Zal.f k (nU++ [bH])).bind fun xk=>(some xk))else(none))else((Zal.f k nU).bind fun BU=>(some BU))))else(none)))=some r:=h;clear h;obtain⟨uW,Jb⟩:∃y_:List Int,y_=(([]:List Int)):=⟨_,rfl⟩;replace H:(if uW.length+aa.length<17592186044416 then((some (uW++aa:List Int)).bind fun nU=>(if bB=4 then(if nU.length<17592186044416 then((Zal.f k (nU++ [bH])).bind fun xk=>(some xk))else(none))else((Zal.f k nU).bind fun BU=>(some BU))))else(none))=some r:=by first|(rw[Jb];with_reducible exact H)|(have H2_:=(Option.bind_some _ _).symm.trans H;rw[Jb];with_reducible exact H2_)|(have H2_:=(Option.bind_some _ _).symm.trans H;with_reducible exact H2_)|with_reducible exact H|(rw[Jb];exact H)|exact H
 have La:=Za.mk Jb;clear Jb;by_cases c2:uW.length+aa.length<17592186044416
 case neg=>
  rw[if_neg c2]at H;exact absurd H (by simp)
 rw[if_pos c2]at H;have Bz:=Za.mk c2;clear c2;obtain⟨nU,Jc⟩:∃y_:List Int,y_=(uW++aa):=⟨_,rfl⟩;replace H:(if bB=4 then(if nU.length<17592186044416 then((Zal.f k (nU++ [bH])).bind fun xk=>(some xk))else(none))else((Zal.f k nU).bind fun BU=>(some BU)))=some r:=by first|(rw[Jc];with_reducible exact H)|(have H2_:=(Option.bind_some _ _).symm.trans H;rw[Jc];with_reducible exact H2_)|(have H2_:=(Option.bind_some _ _).symm.trans H;with_reducible exact H2_)|with_reducible exact H|(rw[Jc];exact H)|exact H
 have VG:=Za.mk Jc;clear Jc;by_cases c3:bB=4
 case neg=>
  rw[if_neg c3]at H;have gL:(bB==4)=false:=beq_eq_false_iff_ne.mpr c3;have lV:(bB !=4)=true:=bne_iff_ne.mpr c3;obtain⟨BU,A15,H⟩:=bnd H;try dsimp only at H
  obtain rfl:=sj H;go_enter Tryz.func38,Tryz.ntmps38
  go_wp2_with (first|((with_reducible refine Zap (N:=1) rfl ?_);refine bx 1 #[.int .i64 bB,.slice aI aa.length aG,.slice dJ aT.length dK,.int .i64 bz,.int .i64 bG,.slice dI aW.length dH,.int .i64 bH] 40 ?_;intro QN hg w16 hbox hb;have mI:=Za.mk (hbox);have bNa:=Za.mk ((gE hg HB.out:w.heap.size≤QN));replace HB:=Za.mk (bS HB.out hb);clear hb hbox hg)|((with_reducible refine Zap (N:=4) rfl ?_);refine Kd.Zdf (Kd.int .i64) _ 3 ?hg (N:=4) ?hd (xs:=([]:List Int)) (inner:= []) (ok:=fun _=>True) (okp:=fun _=>True) ?hr ?hp (fun _ hk=>hk) trivial (Below.refl _ _) (Nat.le_refl _) (by simp) ?_;(case hd=>rfl);(case hg=>rfl);(case hr=>first|(go_simp;done)|(go_simp;rfl));(case hp=>exact(Reps.none _ _));intro Vd w17 MQ hb hg_ hnew_;clear hg_ hnew_;(first|rw[←La.out]at MQ|(simp only[Int.reduceToNat]at MQ;rw[←La.out]at MQ));have Bw:=Za.mk (Kd.Zbp MQ (Zaj (bM HB.out)));replace mI:=Za.mk (kB mI.out hb);replace HB:=Za.mk (bS HB.out hb);clear hb MQ;obtain⟨F4,F5,F6,F7,F8,fNa,fOa,Fe,Ff,Fg,Fh,Fj,ega,eha⟩:=cz7 mI.out)|((with_reducible refine Zbk (b:= .append) (xs:=#[.tmp 4,.tmp 6]) rfl ?_);at_builtin;refine Kd.Zcx (Kd.int .i64) (w0:=w) w.heap.size rfl (.tmp 4) (.tmp 6) 24 3 (.int .i64 0) 8 rfl Tryz.underlying24 info3 rfl (by decide) (by omega) Vd uW aa _ _ _ (fun _=>True) (fun _=>False) rfl rfl ?aO ?aR (fun _ _ h=>h) (fun _ h=>h.elim) ?aF ?aB ?aS ?aL ?_;(case aR=>repeat(first|exact(Kd.Zaf fE.out HB.out)|(with_reducible refine Kd.C_alloc ?_ _)|(with_reducible refine Kd.Zcm ?_ _)|(with_reducible refine Kd.C_drew ?_)));(case aB=>exact(bM HB.out));(case aF=>exact(fun _ _=>trivial));(case aO=>exact(rM Bw.out));(case aS=>exact(Zaj (bM HB.out)));(case aL=>have:=Bz.out;omega);intro b0a w20 ho hb hg hat;rw[←VG.out]at ho;replace mI:=Za.mk (kG mI.out hg (Kd.R_ne Bw.out mI.out (by decide)));replace HB:=Za.mk (hb);have xx:=Za.mk (ho);clear Bw;clear ho hb hg hat;obtain⟨J3,J4,RQ,RS,RV,RX,RY,Jp,Jq,Rh,Ri,Rj,Rk,Rl⟩:=cz7 mI.out;obtain⟨hIa,hRa,ila⟩:=Kd.Za9 xx.out;subst ila)|((with_reducible refine Zat (f:=68) rfl ?_);refine gl 17 Tryz.func68 #[.slice hIa nU.length hRa] ?_;(with_reducible refine(Zal.calls k _ _ nU BU _ (cM ((Kd.Za3 xx.out).2.2)) ((Kd.Za3 xx.out).2.1) A15.out).mono ?_);rintro e w23 ⟨uka,rfl,ho0,hb⟩;refine⟨_,rfl,?_⟩;have cea:=Za.mk (Kd.Zbp (Kd.Zcs ho0 (Kd.R_lt (rM xx.out))) (Zaj (bM HB.out)));replace HB:=Za.mk (bS HB.out hb);clear xx mI;(try clear hb);(try clear hb2);(try clear hk);(try clear hi);(try clear ho0)))
  go_ret;exact⟨_,eR,rM (Kd.Zaw cea.out (fun _ hk=>trivial)),bM HB.out⟩
 rw[if_pos c3]at H;have gL:(bB==4)=true:=beq_iff_eq.mpr c3;have lV:(bB !=4)=false:=bne_eq_false_iff_eq.mpr c3;clear c3;obtain⟨c4,H⟩:=ifP H;have hPa:=Za.mk c4;clear c4;obtain⟨Vg,Jd⟩:∃y_:List Int,y_=(nU++ [bH]):=⟨_,rfl⟩;replace H:((Zal.f k Vg).bind fun xk=>(some xk))=some r:=by first|(rw[Jd];with_reducible exact H)|(have H2_:=(Option.bind_some _ _).symm.trans H;rw[Jd];with_reducible exact H2_)|(have H2_:=(Option.bind_some _ _).symm.trans H;with_reducible exact H2_)|with_reducible exact H|(rw[Jd];exact H)|exact H
 have cEa:=Za.mk Jd;clear Jd;obtain⟨xk,A5,H⟩:=bnd H;try dsimp only at H
 obtain rfl:=sj H;go_enter Tryz.func38,Tryz.ntmps38
 go_wp2_with (first|((with_reducible refine Zap (N:=1) rfl ?_);refine bx 1 #[.int .i64 bB,.slice aI aa.length aG,.slice dJ aT.length dK,.int .i64 bz,.int .i64 bG,.slice dI aW.length dH,.int .i64 bH] 40 ?_;intro QN hg w6 hbox hb;have mI:=Za.mk (hbox);have bNa:=Za.mk ((gE hg HB.out:w.heap.size≤QN));replace HB:=Za.mk (bS HB.out hb);clear hb hbox hg)|((with_reducible refine Zap (N:=4) rfl ?_);refine Kd.Zdf (Kd.int .i64) _ 3 ?hg (N:=4) ?hd (xs:=([]:List Int)) (inner:= []) (ok:=fun _=>True) (okp:=fun _=>True) ?hr ?hp (fun _ hk=>hk) trivial (Below.refl _ _) (Nat.le_refl _) (by simp) ?_;(case hd=>rfl);(case hg=>rfl);(case hr=>first|(go_simp;done)|(go_simp;rfl));(case hp=>exact(Reps.none _ _));intro Vd w7 ho8 hb hg_ hnew_;clear hg_ hnew_;(first|rw[←La.out]at ho8|(simp only[Int.reduceToNat]at ho8;rw[←La.out]at ho8));have Bw:=Za.mk (Kd.Zbp ho8 (Zaj (bM HB.out)));replace mI:=Za.mk (kB mI.out hb);replace HB:=Za.mk (bS HB.out hb);clear hb ho8;obtain⟨KE,KF,KG,NL,NM,NN,NP,K8,K9,KA,NH,NI,NJ,NK⟩:=cz7 mI.out)|((with_reducible refine Zbk (b:= .append) (xs:=#[.tmp 4,.tmp 6]) rfl ?_);at_builtin;refine Kd.Zcx (Kd.int .i64) (w0:=w) w.heap.size rfl (.tmp 4) (.tmp 6) 24 3 (.int .i64 0) 8 rfl Tryz.underlying24 info3 rfl (by decide) (by omega) Vd uW aa _ _ _ (fun _=>True) (fun _=>False) rfl rfl ?aO ?aR (fun _ _ h=>h) (fun _ h=>h.elim) ?aF ?aB ?aS ?aL ?_;(case aR=>repeat(first|exact(Kd.Zaf fE.out HB.out)|(with_reducible refine Kd.C_alloc ?_ _)|(with_reducible refine Kd.Zcm ?_ _)|(with_reducible refine Kd.C_drew ?_)));(case aB=>exact(bM HB.out));(case aF=>exact(fun _ _=>trivial));(case aO=>exact(rM Bw.out));(case aS=>exact(Zaj (bM HB.out)));(case aL=>have:=Bz.out;omega);intro b0a w10 ho hb hg hat;rw[←VG.out]at ho;replace mI:=Za.mk (kG mI.out hg (Kd.R_ne Bw.out mI.out (by decide)));replace HB:=Za.mk (hb);have xx:=Za.mk (ho);clear Bw;clear ho hb hg hat;obtain⟨LV,LW,RN,WX,WY,pYa,qaa,Lp,Lr,Rb,Wx,Wy,mKa,mLa⟩:=cz7 mI.out)|((with_reducible refine Zbk (b:= .append) (xs:=#[.tmp 11,.tmp 14]) rfl ?_);at_builtin;refine Kd.Zct (Kd.int .i64) (w0:=w) w.heap.size rfl (.tmp 11) (.tmp 14) 24 3 (.int .i64 0) 8 rfl Tryz.underlying24 info3 rfl (by decide) (by omega) b0a nU bH [.int .i64 bH] (fun _=>True) (fun _=>False) rfl rfl ?aP (fun _ hk=>hk.elim) ?aF ?aO ?aB ?aS ?aL ?_;(case aP=>exact rfl);(case aB=>exact(bM HB.out));(case aF=>exact(fun _ _=>trivial));(case aO=>exact(rM xx.out));(case aS=>exact(Zaj (bM HB.out)));(case aL=>have:=hPa.out;omega);intro uia w12 ho hb hg hat;rw[←cEa.out]at ho;replace HB:=Za.mk (hb);have Hf:=Za.mk (ho);clear mI xx;clear ho hb hg hat;obtain⟨dA,dz,DX⟩:=Kd.Za9 Hf.out;subst DX)|((with_reducible refine Zat (f:=68) rfl ?_);refine gl 17 Tryz.func68 #[.slice dA Vg.length dz] ?_;(with_reducible refine(Zal.calls k _ _ Vg xk _ (cM ((Kd.Za3 Hf.out).2.2)) ((Kd.Za3 Hf.out).2.1) A5.out).mono ?_);rintro e w14 ⟨uja,rfl,ho0,hb⟩;refine⟨_,rfl,?_⟩;have cda:=Za.mk (Kd.Zbp (Kd.Zcs ho0 (Kd.R_lt (rM Hf.out))) (Zaj (bM HB.out)));replace HB:=Za.mk (bS HB.out hb);clear Hf;(try clear hb);(try clear hb2);(try clear hk);(try clear hi);(try clear ho0)))
 go_ret;exact⟨_,eR,rM (Kd.Zaw cda.out (fun _ hk=>trivial)),bM HB.out⟩
mutual
def Za0.l0 : Nat → List Int → Int → Option (Bool)
 | 0, _, _ => none
 |k+1,x0,x3=>if x3<(x0.length:Int)then(Za0.l1 k x0 x3 0)else(some true)
def Za0.l1 : Nat → List Int → Int → Int → Option (Bool)
 | 0, _, _, _ => none
 |k+1,x0,x3,x4=>if x4<x3 then(if 0≤x3 then(if x3<(x0.length:Int)then(if 0≤x4 then(if x4<(x0.length:Int)then(if(rd x0 x3)=(rd x0 x4)then(some false)else(Za0.l1 k x0 x3 (wrap64 (x4+1))))else(none))else(none))else(none))else(none))else(Za0.l0 k x0 (wrap64 (x3+1)))
end
def Za0.f (k:Nat) (l0:List Int):Option (Bool):=Za0.l0 k l0 0
set_option maxRecDepth 100000 in
theorem Za0.calls (k : Nat) (A0 : Option Addr) (c0 : Nat) (l0 : List Int) (r : Bool) (w : World) (hr0 : Kd.C (Kd.int .i64) w A0 l0.length l0) (hc0 : l0.length ≤ c0) (h : Za0.f k l0 = some r) :
  Calls Tryz.prog 69 #[.slice A0 l0.length c0] w fun e w'=>e= .returned (.bool r)∧Za1 w w':=by
 have HR0:=Za.mk hr0;have HC0:=Za.mk hc0;clear hr0 hc0;have H:(Za0.l0 k l0 0)=some r:=h;clear h;have H':=Za.mk H;clear H;go_enter Tryz.func69,Tryz.ntmps69;go_wp2
 repeat(go_quiet (fail);try go_wp2)
 go_loopg [3] k (fun kq v3 w'=>∃(ah:Int),v3= .int .i64 ah∧Za (Za0.l0 kq l0 ah=some r)∧Za (kq≤k)∧Za1 w w')
 case atStart=>exact⟨(0),eS,H',⟨Nat.le_refl _⟩,by repeat(first|exact Za1.refl _|apply Za1.step)⟩
 case round=>
  clear H';obtain⟨ah,rfl,HA,HK1,⟨m1,rfl⟩⟩:=hrel
  cases gk with
  | zero => exact absurd HA.out (by simp [Za0.l0])
  |succ k1=>
   have H:=HA.out;clear HA;simp only[Za0.l0]at H;by_cases c2:ah<(l0.length:Int)
   case neg=>
    rw[if_neg c2]at H;have mh:decide (ah<(l0.length:Int))=false:=decide_eq_false c2;clear c2;obtain rfl:=sj H;go_wp2
    repeat(go_quiet (fail);try go_wp2)
    go_ret;exact⟨eS,by repeat(first|exact Za1.refl _|apply Za1.step)⟩
   rw[if_pos c2]at H;have mh:decide (ah<(l0.length:Int))=true:=decide_eq_true c2;clear c2;have H':=Za.mk H;clear H;go_wp2
   repeat(go_quiet (fail);try go_wp2)
   go_loopg [4] k1 (fun kq v4 w'=>∃(ig:Int),v4= .int .i64 ig∧Za (Za0.l1 kq l0 ah ig=some r)∧Za (kq≤k1)∧Za1 w w')
   case atStart=>exact⟨(0),eS,H',⟨Nat.le_refl _⟩,by repeat(first|exact Za1.refl _|apply Za1.step)⟩
   case round=>
    clear H';try clear c2
    try clear mh
    try clear p2
    obtain⟨ig,rfl,HA,HK2,⟨m2,rfl⟩⟩:=hrel
    cases gk with
    | zero => exact absurd HA.out (by simp [Za0.l1])
    |succ k2=>
     have H:=HA.out;clear HA;simp only[Za0.l1]at H;by_cases c3:ig<ah
     case neg=>
      rw[if_neg c3]at H;have gL:decide (ig<ah)=false:=decide_eq_false c3;clear c3;have H':=Za.mk H;clear H;go_wp2
      repeat(go_quiet (fail);try go_wp2)
      go_roundg k2
      case measure=>have:=HK1.out;have:=HK2.out;omega
      case rel=>exact⟨(wrap64 (ah+1)),eS,H',⟨by have:=HK1.out;have:=HK2.out;omega⟩,by repeat(first|exact Za1.refl _|apply Za1.step)⟩
     rw[if_pos c3]at H;have gL:decide (ig<ah)=true:=decide_eq_true c3;clear c3;obtain⟨dV,H⟩:=ifT H;obtain⟨dS,H⟩:=ifT H;obtain⟨jh,H⟩:=ifT H;obtain⟨mV,H⟩:=ifT H;by_cases c8:(rd l0 ah)=(rd l0 ig)
     case pos=>
      rw[if_pos c8]at H;have nP:((rd l0 ah)==(rd l0 ig))=true:=beq_iff_eq.mpr c8;have BH:((rd l0 ah) !=(rd l0 ig))=false:=bne_eq_false_iff_eq.mpr c8;clear c8;obtain rfl:=sj H;have FQ:0≤(ah:Int):=odt;have Gl:ah<(l0.length:Int):=odt;obtain⟨Qp,rfl,Ye⟩:=Kd.Zb0 HR0.out ah FQ Gl;replace FQ:=eq_true FQ;replace Gl:=eq_true Gl;have FR:0≤(ig:Int):=odt;have Gm:ig<(l0.length:Int):=odt;obtain⟨Qq,TP,Yf⟩:=Kd.Zb0 HR0.out ig FR Gm;obtain rfl:Qp=Qq:=(by injection TP);replace FR:=eq_true FR;replace Gm:=eq_true Gm;go_wp2
      repeat(go_quiet (fail);try go_wp2)
      go_ret;exact⟨eS,by repeat(first|exact Za1.refl _|apply Za1.step)⟩
     rw[if_neg c8]at H;have nP:((rd l0 ah)==(rd l0 ig))=false:=beq_eq_false_iff_ne.mpr c8;have BH:((rd l0 ah) !=(rd l0 ig))=true:=bne_iff_ne.mpr c8;have H':=Za.mk H;clear H;have FQ:0≤(ah:Int):=odt;have Gl:ah<(l0.length:Int):=odt;obtain⟨Qp,rfl,Ye⟩:=Kd.Zb0 HR0.out ah FQ Gl;replace FQ:=eq_true FQ;replace Gl:=eq_true Gl;have FR:0≤(ig:Int):=odt;have Gm:ig<(l0.length:Int):=odt;obtain⟨Qq,TP,Yf⟩:=Kd.Zb0 HR0.out ig FR Gm;obtain rfl:Qp=Qq:=(by injection TP);replace FR:=eq_true FR;replace Gm:=eq_true Gm;go_wp2
     repeat(go_quiet (fail);try go_wp2)
     go_roundg k2
     case measure=>have:=HK1.out;have:=HK2.out;omega
     case rel=>exact⟨(wrap64 (ig+1)),eS,H',⟨by have:=HK1.out;have:=HK2.out;omega⟩,by repeat(first|exact Za1.refl _|apply Za1.step)⟩
def Zbv.f (k:Nat) (bB:Int) (aa:List Int) (aT:List Int) (bz:Int) (bG:Int) (aW:List (List Int)) (bH:Int):Option (Bool):=(Za0.f k aa).bind fun Nn=>(if Nn=true then(if(aa.length:Int)>0 then(if(aa.length:Int)=(aT.length:Int)then((Zbg.f k aT 0).bind fun Np=>(some (!Np)))else(some false))else(some false))else(some false))
set_option maxRecDepth 100000 in
theorem Zbv.calls (k : Nat) (bB : Int) (aI : Option Addr) (aG : Nat) (aa : List Int) (dJ : Option Addr) (dK : Nat) (aT : List Int) (bz : Int) (bG : Int) (dI : Option Addr) (dH : Nat) (aW : List (List Int)) (bH : Int) (r : Bool) (w : World) (eO : Kd.C (Kd.int .i64) w aI aa.length aa) (eH : aa.length ≤ aG) (kE : Kd.C (Kd.int .i64) w dJ aT.length aT) (kw : aT.length ≤ dK) (kJ : Kd.C (Kd.slice 3 (Kd.int .i64)) w dI aW.length aW) (kD : aW.length ≤ dH) (h : Zbv.f k bB aa aT bz bG aW bH = some r) :
  Calls Tryz.prog 70 #[.agg #[.int .i64 bB,.slice aI aa.length aG,.slice dJ aT.length dK,.int .i64 bz,.int .i64 bG,.slice dI aW.length dH,.int .i64 bH]] w fun e w'=>e= .returned (.bool r)∧Below w.heap.size w w':=by
 have hu40:=Tryz.underlying40;have fE:=Za.mk eO;have gU:=Za.mk eH;clear eO eH;have nL:=Za.mk kE;have oG:=Za.mk kw;clear kE kw;have lS:=Za.mk kJ;have qN:=Za.mk kD;clear kJ kD;have HB:=Za.mk (Below.refl w.heap.size w);have H:((Za0.f k aa).bind fun Nn=>(if Nn=true then(if(aa.length:Int)>0 then(if(aa.length:Int)=(aT.length:Int)then((Zbg.f k aT 0).bind fun Np=>(some (!Np)))else(some false))else(some false))else(some false)))=some r:=h;clear h;obtain⟨Nn,A2,H⟩:=bnd H;try dsimp only at H
 by_cases c3:Nn=true
 case neg=>
  replace c3:=Bool.eq_false_iff.mpr c3;subst c3;replace H:=ifF H;obtain rfl:=sj H;go_enter Tryz.func70,Tryz.ntmps70
  go_wp2_with (first|((with_reducible refine Zap (N:=1) rfl ?_);(try(refine Zb9 (by rfl) ?_;dsimp only));refine bx 1 #[.int .i64 bB,.slice aI aa.length aG,.slice dJ aT.length dK,.int .i64 bz,.int .i64 bG,.slice dI aW.length dH,.int .i64 bH] 40 ?_;intro BQ hg w13 hbox hb;have Br:=Za.mk (hbox);have PI:=Za.mk ((gE hg HB.out:w.heap.size≤BQ));replace HB:=Za.mk (bS HB.out hb);clear hb hbox hg;obtain⟨uJ,uK,ym,CK,CU,RO,RP,uC,uD,xO,Ci,Cj,Re,Rf⟩:=cz7 Br.out)|((with_reducible refine Zat (f:=69) rfl ?_);refine gl 5 Tryz.func69 #[.slice aI aa.length aG] ?_;(with_reducible refine(Za0.calls k _ _ aa false _ (cM (Kd.Zaf fE.out HB.out)) gU.out A2.out).mono ?_);rintro e w' ⟨rfl,⟨nd,rfl⟩⟩;refine⟨_,rfl,?_⟩))
  go_ret;exact⟨eR,bM HB.out⟩
 subst c3;rw[if_pos rfl]at H;by_cases c4:(aa.length:Int)>0
 case neg=>
  rw[if_neg c4]at H;have dV:decide (0<(aa.length:Int))=false:=decide_eq_false c4;have um:decide (0<aa.length)=false:=decide_eq_false (by omega);clear c4;obtain rfl:=sj H;go_enter Tryz.func70,Tryz.ntmps70
  go_wp2_with (first|((with_reducible refine Zap (N:=1) rfl ?_);(try(refine Zb9 (by rfl) ?_;dsimp only));refine bx 1 #[.int .i64 bB,.slice aI aa.length aG,.slice dJ aT.length dK,.int .i64 bz,.int .i64 bG,.slice dI aW.length dH,.int .i64 bH] 40 ?_;intro BQ hg w11 hbox hb;have Br:=Za.mk (hbox);have PI:=Za.mk ((gE hg HB.out:w.heap.size≤BQ));replace HB:=Za.mk (bS HB.out hb);clear hb hbox hg;obtain⟨tF,tH,tJ,tK,tL,yj,yl,sU,sV,sW,tq,tu,xM,xN⟩:=cz7 Br.out)|((with_reducible refine Zat (f:=69) rfl ?_);refine gl 5 Tryz.func69 #[.slice aI aa.length aG] ?_;(with_reducible refine(Za0.calls k _ _ aa true _ (cM (Kd.Zaf fE.out HB.out)) gU.out A2.out).mono ?_);rintro e w' ⟨rfl,⟨nd,rfl⟩⟩;refine⟨_,rfl,?_⟩))
  go_ret;exact⟨eR,bM HB.out⟩
 rw[if_pos c4]at H;have dV:decide (0<(aa.length:Int))=true:=decide_eq_true c4;have um:decide (0<aa.length)=true:=decide_eq_true (by omega);clear c4;by_cases c5:(aa.length:Int)=(aT.length:Int)
 case neg=>
  rw[if_neg c5]at H;have dS:((aa.length:Int)==(aT.length:Int))=false:=beq_eq_false_iff_ne.mpr c5;have oV:((aa.length:Int) !=(aT.length:Int))=true:=bne_iff_ne.mpr c5;have QK:(aa.length==aT.length)=false:=by first|simpa using c5|(simp at c5 ⊢;omega)
  obtain rfl:=sj H;go_enter Tryz.func70,Tryz.ntmps70
  go_wp2_with (first|((with_reducible refine Zap (N:=1) rfl ?_);(try(refine Zb9 (by rfl) ?_;dsimp only));refine bx 1 #[.int .i64 bB,.slice aI aa.length aG,.slice dJ aT.length dK,.int .i64 bz,.int .i64 bG,.slice dI aW.length dH,.int .i64 bH] 40 ?_;intro BQ hg w9 hbox hb;have Br:=Za.mk (hbox);have PI:=Za.mk ((gE hg HB.out:w.heap.size≤BQ));replace HB:=Za.mk (bS HB.out hb);clear hb hbox hg;obtain⟨qy,qz,q8,qW,qX,CF,CJ,qp,qw,qx,qU,qV,Cf,Cg⟩:=cz7 Br.out)|((with_reducible refine Zat (f:=69) rfl ?_);refine gl 5 Tryz.func69 #[.slice aI aa.length aG] ?_;(with_reducible refine(Za0.calls k _ _ aa true _ (cM (Kd.Zaf fE.out HB.out)) gU.out A2.out).mono ?_);rintro e w' ⟨rfl,⟨nd,rfl⟩⟩;refine⟨_,rfl,?_⟩))
  go_ret;exact⟨eR,bM HB.out⟩
 rw[if_pos c5]at H;have dS:((aa.length:Int)==(aT.length:Int))=true:=beq_iff_eq.mpr c5;have oV:((aa.length:Int) !=(aT.length:Int))=false:=bne_eq_false_iff_eq.mpr c5;have QK:(aa.length==aT.length)=true:=by first|simpa using c5|(simp at c5 ⊢;omega)
 clear c5;obtain⟨Np,A6,H⟩:=bnd H;try dsimp only at H
 obtain rfl:=sj H;go_enter Tryz.func70,Tryz.ntmps70
 go_wp2_with (first|((with_reducible refine Zap (N:=1) rfl ?_);(try(refine Zb9 (by rfl) ?_;dsimp only));refine bx 1 #[.int .i64 bB,.slice aI aa.length aG,.slice dJ aT.length dK,.int .i64 bz,.int .i64 bG,.slice dI aW.length dH,.int .i64 bH] 40 ?_;intro BQ hg w7 hbox hb;have Br:=Za.mk (hbox);have PI:=Za.mk ((gE hg HB.out:w.heap.size≤BQ));replace HB:=Za.mk (bS HB.out hb);clear hb hbox hg;obtain⟨Dj,Dk,Dl,Dm,Dn,Ej,El,Cy,Cz,C8,C9,CE,Eh,Ei⟩:=cz7 Br.out)|((with_reducible refine Zat (f:=69) rfl ?_);refine gl 5 Tryz.func69 #[.slice aI aa.length aG] ?_;(with_reducible refine(Za0.calls k _ _ aa true _ (cM (Kd.Zaf fE.out HB.out)) gU.out A2.out).mono ?_);rintro e w' ⟨rfl,⟨nd,rfl⟩⟩;refine⟨_,rfl,?_⟩)|(go_at_call 73;(with_reducible refine(Zbg.calls k _ _ aT 0 Np _ (cM (Kd.Zaf nL.out (bM HB.out))) oG.out A6.out).mono ?_);rintro e w' ⟨rfl,⟨nd,rfl⟩⟩))
 go_ret;exact⟨eR,bM HB.out⟩
mutual
def Zbc.l0 : Nat → Int → Int → List Int → List Int → Int → Int → List (List Int) → Int → Option (Bool)
 | 0, _, _, _, _, _, _, _, _ => none
 |k+1,x3,EO,Be,EQ,ER,ES,ou,ET=>if x3<(ou.length:Int)then(if 0≤x3 then(if((Zca ou x3).length:Int)=(Be.length:Int)then(Zbc.l1 k x3 0 EO Be EQ ER ES ou ET)else(some false))else(none))else(some (decide ((ou.length:Int)≤1024)))
def Zbc.l1 : Nat → Int → Int → Int → List Int → List Int → Int → Int → List (List Int) → Int → Option (Bool)
 | 0, _, _, _, _, _, _, _, _, _ => none
 |k+1,x3,x4,EO,Be,EQ,ER,ES,ou,ET=>if 0≤x3 then(if x3<(ou.length:Int)then(if x4<((Zca ou x3).length:Int)then(if 0≤x4 then((Zbb.f (rd (Zca ou x3) x4)).bind fun UH=>(if UH=true then(Zbc.l1 k x3 (wrap64 (x4+1)) EO Be EQ ER ES ou ET)else(some false)))else(none))else(Zbc.l0 k (wrap64 (x3+1)) EO Be EQ ER ES ou ET))else(none))else(none)
end
def Zbc.f (k:Nat) (bB:Int) (aa:List Int) (aT:List Int) (bz:Int) (bG:Int) (aW:List (List Int)) (bH:Int):Option (Bool):=Zbc.l0 k 0 bB aa aT bz bG aW bH
set_option maxRecDepth 100000 in
theorem Zbc.calls (k : Nat) (bB : Int) (aI : Option Addr) (aG : Nat) (aa : List Int) (dJ : Option Addr) (dK : Nat) (aT : List Int) (bz : Int) (bG : Int) (dI : Option Addr) (dH : Nat) (aW : List (List Int)) (bH : Int) (r : Bool) (w : World) (eO : Kd.C (Kd.int .i64) w aI aa.length aa) (eH : aa.length ≤ aG) (kE : Kd.C (Kd.int .i64) w dJ aT.length aT) (kw : aT.length ≤ dK) (kJ : Kd.C (Kd.slice 3 (Kd.int .i64)) w dI aW.length aW) (kD : aW.length ≤ dH) (h : Zbc.f k bB aa aT bz bG aW bH = some r) :
  Calls Tryz.prog 71 #[.agg #[.int .i64 bB,.slice aI aa.length aG,.slice dJ aT.length dK,.int .i64 bz,.int .i64 bG,.slice dI aW.length dH,.int .i64 bH]] w fun e w'=>e= .returned (.bool r)∧Below w.heap.size w w':=by
 have hu40:=Tryz.underlying40;have fE:=Za.mk eO;have gU:=Za.mk eH;clear eO eH;have nL:=Za.mk kE;have oG:=Za.mk kw;clear kE kw;have lS:=Za.mk kJ;have qN:=Za.mk kD;clear kJ kD;have HB:=Za.mk (Below.refl w.heap.size w);have H:(Zbc.l0 k 0 bB aa aT bz bG aW bH)=some r:=h;clear h;have H':=Za.mk H;clear H;go_enter Tryz.func71,Tryz.ntmps71
 go_wp2_with (first|((with_reducible refine Zap (N:=1) rfl ?_);refine bx 1 #[.int .i64 bB,.slice aI aa.length aG,.slice dJ aT.length dK,.int .i64 bz,.int .i64 bG,.slice dI aW.length dH,.int .i64 bH] 40 ?_;intro BR hg w2 hbox hb;have oD:=Za.mk (hbox);have Vi:=Za.mk ((gE hg HB.out:w.heap.size≤BR));replace HB:=Za.mk (bS HB.out hb);clear hb hbox hg))
 repeat(go_quiet (first|((with_reducible refine Zap (N:=1) rfl ?_);refine bx 1 #[.int .i64 bB,.slice aI aa.length aG,.slice dJ aT.length dK,.int .i64 bz,.int .i64 bG,.slice dI aW.length dH,.int .i64 bH] 40 ?_;intro BR hg w2 hbox hb;have oD:=Za.mk (hbox);have Vi:=Za.mk ((gE hg HB.out:w.heap.size≤BR));replace HB:=Za.mk (bS HB.out hb);clear hb hbox hg));try go_wp2_with (first|((with_reducible refine Zap (N:=1) rfl ?_);refine bx 1 #[.int .i64 bB,.slice aI aa.length aG,.slice dJ aT.length dK,.int .i64 bz,.int .i64 bG,.slice dI aW.length dH,.int .i64 bH] 40 ?_;intro BR hg w2 hbox hb;have oD:=Za.mk (hbox);have Vi:=Za.mk ((gE hg HB.out:w.heap.size≤BR));replace HB:=Za.mk (bS HB.out hb);clear hb hbox hg)))
 go_loopg [3] k (fun kq v3 w'=>∃(ah:Int),v3= .int .i64 ah∧Za (Zbc.l0 kq ah bB aa aT bz bG aW bH=some r)∧Za (kq≤k)∧Za (w'.heap[BR]? =some (.cells #[.int .i64 bB,(.slice aI aa.length aG),(.slice dJ aT.length dK),.int .i64 bz,.int .i64 bG,(.slice dI aW.length dH),.int .i64 bH] 40 (0,0)))∧Za (Below w.heap.size w w'))
 case atStart=>exact⟨(0),eS,H',⟨Nat.le_refl _⟩,⟨by(with_reducible repeat(first|refine Zab ?_ _|refine Zad ?_|refine Zaa ?_ _));exact oD.out⟩,⟨bM HB.out⟩⟩
 case round=>
  clear H';try clear p2
  obtain⟨ah,rfl,HA,HK1,oD,HB⟩:=hrel
  cases gk with
  | zero => exact absurd HA.out (by simp [Zbc.l0])
  |succ k1=>
   have H:=HA.out;clear HA;simp only[Zbc.l0]at H;by_cases c3:ah<(aW.length:Int)
   case neg=>
    rw[if_neg c3]at H;have gL:decide (ah<(aW.length:Int))=false:=decide_eq_false c3;clear c3;obtain rfl:=sj H;obtain⟨yu,yw,F3,Jz,J2,Xa,Xb,xS,xU,Fb,Jn,Jo,Wz,W9⟩:=cz7 oD.out;go_wp2
    repeat(go_quiet (fail);try go_wp2)
    go_ret;exact⟨eR,bM HB.out⟩
   rw[if_pos c3]at H;have gL:decide (ah<(aW.length:Int))=true:=decide_eq_true c3;clear c3;obtain⟨dV,H⟩:=ifT H;by_cases c5:((Zca aW ah).length:Int)=(aa.length:Int)
   case neg=>
    rw[if_neg c5]at H;have dS:(((Zca aW ah).length:Int)==(aa.length:Int))=false:=beq_eq_false_iff_ne.mpr c5;have oV:(((Zca aW ah).length:Int) !=(aa.length:Int))=true:=bne_iff_ne.mpr c5;have QK:((Zca aW ah).length==aa.length)=false:=by first|simpa using c5|(simp at c5 ⊢;omega)
    obtain rfl:=sj H;obtain⟨uL,uM,uN,vG,vH,Fy,Fz,uE,uF,uG,vE,vF,EY,Fa⟩:=cz7 oD.out;have aIa:(0≤(ah:Int))=True:=teq;have aSa:(ah<(aW.length:Int))=True:=teq;obtain⟨BA,YB,YW,rfl,vR,zy,yV⟩:=Ze6 lS.out ah odt odt;replace vR:=hB HB.out vR;have XP:=Za.mk yV;have X8:=Za.mk zy;clear yV zy;go_wp2
    repeat(go_quiet (fail);try go_wp2)
    go_ret;exact⟨eR,bM HB.out⟩
   rw[if_pos c5]at H;have dS:(((Zca aW ah).length:Int)==(aa.length:Int))=true:=beq_iff_eq.mpr c5;have oV:(((Zca aW ah).length:Int) !=(aa.length:Int))=false:=bne_eq_false_iff_eq.mpr c5;have QK:((Zca aW ah).length==aa.length)=true:=by first|simpa using c5|(simp at c5 ⊢;omega)
   clear c5;have H':=Za.mk H;clear H;obtain⟨nH,nI,nW,qI,qJ,KC,KD,nE,nG,nV,qG,qH,K6,K7⟩:=cz7 oD.out;have aIa:(0≤(ah:Int))=True:=teq;have aSa:(ah<(aW.length:Int))=True:=teq;obtain⟨BA,YB,YW,rfl,vR,zy,yV⟩:=Ze6 lS.out ah odt odt;replace vR:=hB HB.out vR;have XP:=Za.mk yV;have X8:=Za.mk zy;clear yV zy;go_wp2
   repeat(go_quiet (fail);try go_wp2)
   go_loopg [4] k1 (fun kq v4 w'=>∃(ig:Int),v4= .int .i64 ig∧Za (Zbc.l1 kq ah ig bB aa aT bz bG aW bH=some r)∧Za (kq≤k1)∧Za (w'.heap[BR]? =some (.cells #[.int .i64 bB,(.slice aI aa.length aG),(.slice dJ aT.length dK),.int .i64 bz,.int .i64 bG,(.slice (some BA) aW.length dH),.int .i64 bH] 40 (0,0)))∧Za (Below w.heap.size w w'))
   case atStart=>exact⟨(0),eS,H',⟨Nat.le_refl _⟩,⟨by(with_reducible repeat(first|refine Zab ?_ _|refine Zad ?_|refine Zaa ?_ _));exact oD.out⟩,⟨bM HB.out⟩⟩
   case round=>
    clear H';try clear p2
    try clear c3
    try clear gL
    try clear p3
    try clear q3
    try clear hx3
    try clear c4
    try clear dV
    try clear c5
    try clear dS
    try clear oV
    try clear QK
    try clear nH nI nW qI qJ KC KD nE nG nV qG qH K6 K7
    try clear vR
    try clear p2
    try clear aIa
    try clear aSa
    obtain⟨ig,rfl,HA,HK2,oD,HB⟩:=hrel
    cases gk with
    | zero => exact absurd HA.out (by simp [Zbc.l1])
    |succ k2=>
     have H:=HA.out;clear HA;simp only[Zbc.l1]at H;obtain⟨mV,H⟩:=ifT H;obtain⟨nP,H⟩:=ifT H;by_cases c9:ig<((Zca aW ah).length:Int)
     case neg=>
      rw[if_neg c9]at H;have yG:decide (ig<((Zca aW ah).length:Int))=false:=decide_eq_false c9;clear c9;have H':=Za.mk H;clear H;obtain⟨yn,yo,yt,CW,CX,Fw,Fx,xP,xQ,xR,Ck,Cm,EW,EX⟩:=cz7 oD.out;have aJa:(0≤(ah:Int))=True:=teq;have aTa:(ah<(aW.length:Int))=True:=teq;obtain⟨Hr,SX,Tw,MF,nY,rH,rD⟩:=Ze6 lS.out ah odt odt;obtain rfl:BA=Hr:=(by injection MF);replace nY:=hB HB.out nY;have Oa:=Za.mk rD;have NQ:=Za.mk rH;clear rD rH;go_wp2
      repeat(go_quiet (fail);try go_wp2)
      go_roundg k2
      case measure=>have:=HK1.out;have:=HK2.out;omega
      case rel=>exact⟨(wrap64 (ah+1)),eS,H',⟨by have:=HK1.out;have:=HK2.out;omega⟩,⟨by(with_reducible repeat(first|refine Zab ?_ _|refine Zad ?_|refine Zaa ?_ _));exact oD.out⟩,⟨bM HB.out⟩⟩
     rw[if_pos c9]at H;have yG:decide (ig<((Zca aW ah).length:Int))=true:=decide_eq_true c9;clear c9;obtain⟨qP,H⟩:=ifT H;obtain⟨UH,A11,H⟩:=bnd H;try dsimp only at H
     by_cases c12:UH=true
     case pos=>
      subst c12;rw[if_pos rfl]at H;have H':=Za.mk H;clear H;obtain⟨LX,LY,Ma,Mc,Md,fLa,fMa,Ls,Lt,Lu,Lv,Lx,eea,efa⟩:=cz7 oD.out;have aJa:(0≤(ah:Int))=True:=teq;have aTa:(ah<(aW.length:Int))=True:=teq;obtain⟨Hr,SX,Tw,MF,nY,rH,rD⟩:=Ze6 lS.out ah odt odt;obtain rfl:BA=Hr:=(by injection MF);replace nY:=hB HB.out nY;have Oa:=Za.mk rD;have NQ:=Za.mk rH;clear rD rH;have iEa:(0≤(ah:Int))=True:=teq;have iTa:(ah<(aW.length:Int))=True:=teq;obtain⟨Qr,YC,YX,TQ,uw,zz,yX⟩:=Ze6 lS.out ah odt odt;obtain rfl:BA=Qr:=(by injection TQ);replace uw:=hB HB.out uw;have JN:=Za.mk yX;have X9:=Za.mk zz;clear yX zz;have ea_:=Option.some.inj (nY.symm.trans uw)
      injection ea_ with ea_ en_ ec_
      subst ea_;subst ec_;clear en_;have FT:0≤(ig:Int):=odt;have Gn:ig<((Zca aW ah).length:Int):=odt;obtain⟨cQa,rfl,AC⟩:=Kd.Zb0 JN.out ig FT Gn;replace AC:=hB HB.out AC;replace FT:=eq_true FT;replace Gn:=eq_true Gn
      go_wp2_with (first|(go_at_call 36;(with_reducible refine(Zbb.calls (rd (Zca aW ah) ig) true _ A11.out).mono ?_);rintro e w' ⟨rfl,⟨nd,rfl⟩⟩;(try first|exact⟨rfl,_,World.drewN_drewN _ _ _⟩|exact⟨rfl,_,Eq.trans (World.drewN_drewN _ _ _) (congrArg (World.drewN _) (Nat.add_assoc _ _ _))⟩)))
      repeat(go_quiet (first|(go_at_call 36;(with_reducible refine(Zbb.calls (rd (Zca aW ah) ig) true _ A11.out).mono ?_);rintro e w' ⟨rfl,⟨nd,rfl⟩⟩;(try first|exact⟨rfl,_,World.drewN_drewN _ _ _⟩|exact⟨rfl,_,Eq.trans (World.drewN_drewN _ _ _) (congrArg (World.drewN _) (Nat.add_assoc _ _ _))⟩)));try go_wp2_with (first|(go_at_call 36;(with_reducible refine(Zbb.calls (rd (Zca aW ah) ig) true _ A11.out).mono ?_);rintro e w' ⟨rfl,⟨nd,rfl⟩⟩;(try first|exact⟨rfl,_,World.drewN_drewN _ _ _⟩|exact⟨rfl,_,Eq.trans (World.drewN_drewN _ _ _) (congrArg (World.drewN _) (Nat.add_assoc _ _ _))⟩))))
      go_roundg k2
      case measure=>have:=HK1.out;have:=HK2.out;omega
      case rel=>exact⟨(wrap64 (ig+1)),eS,H',⟨by have:=HK1.out;have:=HK2.out;omega⟩,⟨by(with_reducible repeat(first|refine Zab ?_ _|refine Zad ?_|refine Zaa ?_ _));exact oD.out⟩,⟨bM HB.out⟩⟩
     replace c12:=Bool.eq_false_iff.mpr c12;subst c12;replace H:=ifF H;obtain rfl:=sj H;obtain⟨uJ,uK,ym,CK,CU,RO,RP,uC,uD,xO,Ci,Cj,Re,Rf⟩:=cz7 oD.out;have aJa:(0≤(ah:Int))=True:=teq;have aTa:(ah<(aW.length:Int))=True:=teq;obtain⟨Hr,SX,Tw,MF,nY,rH,rD⟩:=Ze6 lS.out ah odt odt;obtain rfl:BA=Hr:=(by injection MF);replace nY:=hB HB.out nY;have Oa:=Za.mk rD;have NQ:=Za.mk rH;clear rD rH;have iEa:(0≤(ah:Int))=True:=teq;have iTa:(ah<(aW.length:Int))=True:=teq;obtain⟨Qr,YC,YX,TQ,uw,zz,yX⟩:=Ze6 lS.out ah odt odt;obtain rfl:BA=Qr:=(by injection TQ);replace uw:=hB HB.out uw;have JN:=Za.mk yX;have X9:=Za.mk zz;clear yX zz;have ea_:=Option.some.inj (nY.symm.trans uw)
     injection ea_ with ea_ en_ ec_
     subst ea_;subst ec_;clear en_;have FT:0≤(ig:Int):=odt;have Gn:ig<((Zca aW ah).length:Int):=odt;obtain⟨cQa,rfl,AC⟩:=Kd.Zb0 JN.out ig FT Gn;replace AC:=hB HB.out AC;replace FT:=eq_true FT;replace Gn:=eq_true Gn
     go_wp2_with (first|(go_at_call 36;(with_reducible refine(Zbb.calls (rd (Zca aW ah) ig) false _ A11.out).mono ?_);rintro e w' ⟨rfl,⟨nd,rfl⟩⟩;(try first|exact⟨rfl,_,World.drewN_drewN _ _ _⟩|exact⟨rfl,_,Eq.trans (World.drewN_drewN _ _ _) (congrArg (World.drewN _) (Nat.add_assoc _ _ _))⟩)))
     repeat(go_quiet (first|(go_at_call 36;(with_reducible refine(Zbb.calls (rd (Zca aW ah) ig) false _ A11.out).mono ?_);rintro e w' ⟨rfl,⟨nd,rfl⟩⟩;(try first|exact⟨rfl,_,World.drewN_drewN _ _ _⟩|exact⟨rfl,_,Eq.trans (World.drewN_drewN _ _ _) (congrArg (World.drewN _) (Nat.add_assoc _ _ _))⟩)));try go_wp2_with (first|(go_at_call 36;(with_reducible refine(Zbb.calls (rd (Zca aW ah) ig) false _ A11.out).mono ?_);rintro e w' ⟨rfl,⟨nd,rfl⟩⟩;(try first|exact⟨rfl,_,World.drewN_drewN _ _ _⟩|exact⟨rfl,_,Eq.trans (World.drewN_drewN _ _ _) (congrArg (World.drewN _) (Nat.add_assoc _ _ _))⟩))))
     go_ret;exact⟨eR,bM HB.out⟩
def Zbd.l0 : Nat → List (S59) → Int → Option (Bool)
 | 0, _, _ => none
 |k+1,x0,x3=>if x3<(x0.length:Int)then(if 0≤x3 then(if((Zba x0 x3).f0)<0 then(some false)else(if((Zba x0 x3).f1)>1 then(some false)else(Zbd.l0 k x0 (wrap64 (x3+1)))))else(none))else(some true)
def Zbd.f (k:Nat) (l0:List (S59)):Option (Bool):=Zbd.l0 k l0 0
set_option maxRecDepth 100000 in
theorem Zbd.calls (k : Nat) (A0 : Option Addr) (c0 : Nat) (l0 : List (S59)) (r : Bool) (w : World) (hr0 : Kd.C k59 w A0 l0.length l0) (hc0 : l0.length ≤ c0) (h : Zbd.f k l0 = some r) :
  Calls Tryz.prog 72 #[.slice A0 l0.length c0] w fun e w'=>e= .returned (.bool r)∧Za1 w w':=by
 have HR0:=Za.mk hr0;have HC0:=Za.mk hc0;clear hr0 hc0;have H:(Zbd.l0 k l0 0)=some r:=h;clear h;have H':=Za.mk H;clear H;go_enter Tryz.func72,Tryz.ntmps72;go_wp2
 go_loopg [3] k (fun kq v3 w'=>∃(ah:Int),v3= .int .i64 ah∧Za (Zbd.l0 kq l0 ah=some r)∧Za (kq≤k)∧Za1 w w')
 case atStart=>exact⟨(0),eS,H',⟨Nat.le_refl _⟩,by repeat(first|exact Za1.refl _|apply Za1.step)⟩
 case round=>
  clear H';obtain⟨ah,rfl,HA,HK1,⟨m1,rfl⟩⟩:=hrel
  cases gk with
  | zero => exact absurd HA.out (by simp [Zbd.l0])
  |succ k1=>
   have H:=HA.out;clear HA;simp only[Zbd.l0]at H;by_cases c2:ah<(l0.length:Int)
   case neg=>
    rw[if_neg c2]at H;have mh:decide (ah<(l0.length:Int))=false:=decide_eq_false c2;clear c2;obtain rfl:=sj H;go_wp2;go_ret;exact⟨eS,by repeat(first|exact Za1.refl _|apply Za1.step)⟩
   rw[if_pos c2]at H;have mh:decide (ah<(l0.length:Int))=true:=decide_eq_true c2;clear c2;obtain⟨gL,H⟩:=ifT H;by_cases c4:((Zba l0 ah).f0)<0
   case pos=>
    rw[if_pos c4]at H;have dV:decide (((Zba l0 ah).f0)<0)=true:=decide_eq_true c4;clear c4;obtain rfl:=sj H;have aKa:(0≤(ah:Int))=True:=teq;have aUa:(ah<(l0.length:Int))=True:=teq;obtain⟨Lb,rfl,Pi,Pj⟩:=Zd0 HR0.out ah odt odt;go_wp2;go_ret;exact⟨eS,by repeat(first|exact Za1.refl _|apply Za1.step)⟩
   rw[if_neg c4]at H;have dV:decide (((Zba l0 ah).f0)<0)=false:=decide_eq_false c4;clear c4;by_cases c5:((Zba l0 ah).f1)>1
   case pos=>
    rw[if_pos c5]at H;have dS:decide (1<((Zba l0 ah).f1))=true:=decide_eq_true c5;clear c5;obtain rfl:=sj H;have aKa:(0≤(ah:Int))=True:=teq;have aUa:(ah<(l0.length:Int))=True:=teq;obtain⟨Lb,rfl,Pi,Pj⟩:=Zd0 HR0.out ah odt odt;have iFa:(0≤(ah:Int))=True:=teq;have iUa:(ah<(l0.length:Int))=True:=teq;obtain⟨Qs,TR,Yg,Yh⟩:=Zd0 HR0.out ah odt odt;obtain rfl:Lb=Qs:=(by injection TR);go_wp2;go_ret;exact⟨eS,by repeat(first|exact Za1.refl _|apply Za1.step)⟩
   rw[if_neg c5]at H;have dS:decide (1<((Zba l0 ah).f1))=false:=decide_eq_false c5;clear c5;have H':=Za.mk H;clear H;have aKa:(0≤(ah:Int))=True:=teq;have aUa:(ah<(l0.length:Int))=True:=teq;obtain⟨Lb,rfl,Pi,Pj⟩:=Zd0 HR0.out ah odt odt;have iFa:(0≤(ah:Int))=True:=teq;have iUa:(ah<(l0.length:Int))=True:=teq;obtain⟨Qs,TR,Yg,Yh⟩:=Zd0 HR0.out ah odt odt;obtain rfl:Lb=Qs:=(by injection TR);go_wp2
   go_roundg k1
   case measure=>have:=HK1.out;omega
   case rel=>exact⟨(wrap64 (ah+1)),eS,H',⟨by have:=HK1.out;omega⟩,by repeat(first|exact Za1.refl _|apply Za1.step)⟩
def Zbs.l0 : Nat → List (List (S59)) → Int → Int → List Int → List Int → Int → Int → List (List Int) → Int → Option (Bool)
 | 0, _, _, _, _, _, _, _, _, _ => none
 |k+1,x0,x5,Pp,wm,Bf,Pq,Ps,Pt,Pv=>if x5<(wm.length:Int)then(if 0≤x5 then(if 0≤(rd wm x5)then(if(rd wm x5)<(x0.length:Int)then((Zbd.f k (Ze x0 (rd wm x5))).bind fun UI=>(if UI=true then(if x5<(Bf.length:Int)then(if(rd Bf x5)=1 then(Zbs.l0 k x0 (wrap64 (x5+1)) Pp wm Bf Pq Ps Pt Pv)else(if(rd Bf x5)=(-1)then(Zbs.l0 k x0 (wrap64 (x5+1)) Pp wm Bf Pq Ps Pt Pv)else(some false)))else(none))else(some false)))else(none))else(none))else(none))else(some true)
def Zbs.f (k:Nat) (l0:List (List (S59))) (aN:Int) (ay:List Int) (aX:List Int) (df:Int) (dh:Int) (bE:List (List Int)) (cO:Int):Option (Bool):=Zbs.l0 k l0 0 aN ay aX df dh bE cO
set_option maxRecDepth 100000 in
theorem Zbs.calls (k : Nat) (A0 : Option Addr) (c0 : Nat) (l0 : List (List (S59))) (aN : Int) (eF : Option Addr) (dU : Nat) (ay : List Int) (fG : Option Addr) (fH : Nat) (aX : List Int) (df : Int) (dh : Int) (jv : Option Addr) (j5 : Nat) (bE : List (List Int)) (cO : Int) (r : Bool) (w : World) (hr0 : Kd.C (Kd.slice 59 k59) w A0 l0.length l0) (hc0 : l0.length ≤ c0) (lD : Kd.C (Kd.int .i64) w eF ay.length ay) (l9 : ay.length ≤ dU) (mO : Kd.C (Kd.int .i64) w fG aX.length aX) (mM : aX.length ≤ fH) (sQ : Kd.C (Kd.slice 3 (Kd.int .i64)) w jv bE.length bE) (sP : bE.length ≤ j5) (h : Zbs.f k l0 aN ay aX df dh bE cO = some r) :
  Calls Tryz.prog 74 #[.slice A0 l0.length c0,.agg #[.int .i64 aN,.slice eF ay.length dU,.slice fG aX.length fH,.int .i64 df,.int .i64 dh,.slice jv bE.length j5,.int .i64 cO]] w fun e w'=>e= .returned (.bool r)∧Below w.heap.size w w':=by
 have hu40:=Tryz.underlying40;have HR0:=Za.mk hr0;have HC0:=Za.mk hc0;clear hr0 hc0;have gz:=Za.mk lD;have iE:=Za.mk l9;clear lD l9;have gM:=Za.mk mO;have iW:=Za.mk mM;clear mO mM;have lT:=Za.mk sQ;have lK:=Za.mk sP;clear sQ sP;have HB:=Za.mk (Below.refl w.heap.size w);have H:(Zbs.l0 k l0 0 aN ay aX df dh bE cO)=some r:=h;clear h;have H':=Za.mk H;clear H;go_enter Tryz.func74,Tryz.ntmps74
 go_wp2_with (first|((with_reducible refine Zap (N:=3) rfl ?_);refine bx 3 #[.int .i64 aN,.slice eF ay.length dU,.slice fG aX.length fH,.int .i64 df,.int .i64 dh,.slice jv bE.length j5,.int .i64 cO] 40 ?_;intro We hg w3 hbox hb;have vz:=Za.mk (hbox);have kJa:=Za.mk ((gE hg HB.out:w.heap.size≤We));replace HB:=Za.mk (bS HB.out hb);clear hb hbox hg))
 go_loopg [5] k (fun kq v5 w'=>∃(aH:Int),v5= .int .i64 aH∧Za (Zbs.l0 kq l0 aH aN ay aX df dh bE cO=some r)∧Za (kq≤k)∧Za (w'.heap[We]? =some (.cells #[.int .i64 aN,(.slice eF ay.length dU),(.slice fG aX.length fH),.int .i64 df,.int .i64 dh,(.slice jv bE.length j5),.int .i64 cO] 40 (0,0)))∧Za (Below w.heap.size w w'))
 case atStart=>exact⟨(0),eS,H',⟨Nat.le_refl _⟩,⟨by(with_reducible repeat(first|refine Zab ?_ _|refine Zad ?_|refine Zaa ?_ _));exact vz.out⟩,⟨bM HB.out⟩⟩
 case round=>
  clear H';try clear c1
  try clear p2
  obtain⟨aH,rfl,HA,HK1,vz,HB⟩:=hrel
  cases gk with
  | zero => exact absurd HA.out (by simp [Zbs.l0])
  |succ k1=>
   have H:=HA.out;clear HA;simp only[Zbs.l0]at H;by_cases c4:aH<(ay.length:Int)
   case neg=>
    rw[if_neg c4]at H;have dV:decide (aH<(ay.length:Int))=false:=decide_eq_false c4;clear c4;obtain rfl:=sj H;obtain⟨yu,yw,F3,Jz,J2,Xa,Xb,xS,xU,Fb,Jn,Jo,Wz,W9⟩:=cz7 vz.out;go_wp2;go_ret;exact⟨eR,bM HB.out⟩
   rw[if_pos c4]at H;have dV:decide (aH<(ay.length:Int))=true:=decide_eq_true c4;clear c4;obtain⟨dS,H⟩:=ifT H;obtain⟨jh,H⟩:=ifT H;obtain⟨mV,H⟩:=ifT H;obtain⟨UI,A8,H⟩:=bnd H;try dsimp only at H
   by_cases c9:UI=true
   case neg=>
    replace c9:=Bool.eq_false_iff.mpr c9;subst c9;replace H:=ifF H;obtain rfl:=sj H;obtain⟨uL,uM,uN,vG,vH,Fy,Fz,uE,uF,uG,vE,vF,EY,Fa⟩:=cz7 vz.out;have rq:0≤(aH:Int):=odt;have ry:aH<(ay.length:Int):=odt;obtain⟨Qt,rfl,ng⟩:=Kd.Zb0 gz.out aH rq ry;replace ng:=hB HB.out ng;replace rq:=eq_true rq;replace ry:=eq_true ry;have Uw:(0≤((rd ay aH):Int))=True:=teq;have UB:((rd ay aH)<(l0.length:Int))=True:=teq;obtain⟨Qu,wJ,wP,rfl,ni,mX,mW⟩:=at_L4 HR0.out (rd ay aH) odt odt;replace ni:=hB HB.out ni;have uf:=Za.mk mW;have tN:=Za.mk mX;clear mW mX
    go_wp2_with (first|((with_reducible refine Zat (f:=72) rfl ?_);refine gl 21 Tryz.func72 #[.slice wJ (Ze l0 (rd ay aH)).length wP] ?_;(with_reducible refine(Zbd.calls k1 _ _ (Ze l0 (rd ay aH)) false _ (cM (Kd.Zaf uf.out HB.out)) tN.out A8.out).mono ?_);rintro e w' ⟨rfl,⟨nd,rfl⟩⟩;refine⟨_,rfl,?_⟩))
    go_ret;exact⟨eR,bM HB.out⟩
   subst c9;rw[if_pos rfl]at H;obtain⟨qP,H⟩:=ifT H;by_cases c11:(rd aX aH)=1
   case pos=>
    rw[if_pos c11]at H;have qQ:((rd aX aH)==1)=true:=beq_iff_eq.mpr c11;have dha:((rd aX aH) !=1)=false:=bne_eq_false_iff_eq.mpr c11;clear c11;have H':=Za.mk H;clear H;obtain⟨tF,tH,tJ,tK,tL,yj,yl,sU,sV,sW,tq,tu,xM,xN⟩:=cz7 vz.out;have rq:0≤(aH:Int):=odt;have ry:aH<(ay.length:Int):=odt;obtain⟨Qt,rfl,ng⟩:=Kd.Zb0 gz.out aH rq ry;replace ng:=hB HB.out ng;replace rq:=eq_true rq;replace ry:=eq_true ry;have Uw:(0≤((rd ay aH):Int))=True:=teq;have UB:((rd ay aH)<(l0.length:Int))=True:=teq;obtain⟨Qu,wJ,wP,rfl,ni,mX,mW⟩:=at_L4 HR0.out (rd ay aH) odt odt;replace ni:=hB HB.out ni;have uf:=Za.mk mW;have tN:=Za.mk mX;clear mW mX
    go_wp2_with (first|((with_reducible refine Zat (f:=72) rfl ?_);refine gl 21 Tryz.func72 #[.slice wJ (Ze l0 (rd ay aH)).length wP] ?_;(with_reducible refine(Zbd.calls k1 _ _ (Ze l0 (rd ay aH)) true _ (cM (Kd.Zaf uf.out HB.out)) tN.out A8.out).mono ?_);rintro e w' ⟨rfl,⟨nd,rfl⟩⟩;refine⟨_,rfl,?_⟩;have wV:0≤(aH:Int):=odt;have xg:aH<(aX.length:Int):=odt;obtain⟨Lc,MG,rQ⟩:=Kd.Zb0 gM.out aH wV xg;cases MG;replace rQ:=hB HB.out rQ;replace wV:=eq_true wV;replace xg:=eq_true xg))
    go_roundg k1
    case measure=>have:=HK1.out;omega
    case rel=>exact⟨(wrap64 (aH+1)),eS,H',⟨by have:=HK1.out;omega⟩,⟨by(with_reducible repeat(first|refine Zab ?_ _|refine Zad ?_|refine Zaa ?_ _));exact vz.out⟩,⟨bM HB.out⟩⟩
   rw[if_neg c11]at H;have qQ:((rd aX aH)==1)=false:=beq_eq_false_iff_ne.mpr c11;have dha:((rd aX aH) !=1)=true:=bne_iff_ne.mpr c11;by_cases c13:(rd aX aH)=(-1)
   case neg=>
    rw[if_neg c13]at H;have qR:((rd aX aH)==(-1))=false:=beq_eq_false_iff_ne.mpr c13;have QB:((rd aX aH) !=(-1))=true:=bne_iff_ne.mpr c13;obtain rfl:=sj H;obtain⟨yn,yo,yt,CW,CX,Fw,Fx,xP,xQ,xR,Ck,Cm,EW,EX⟩:=cz7 vz.out;have rq:0≤(aH:Int):=odt;have ry:aH<(ay.length:Int):=odt;obtain⟨Qt,rfl,ng⟩:=Kd.Zb0 gz.out aH rq ry;replace ng:=hB HB.out ng;replace rq:=eq_true rq;replace ry:=eq_true ry;have Uw:(0≤((rd ay aH):Int))=True:=teq;have UB:((rd ay aH)<(l0.length:Int))=True:=teq;obtain⟨Qu,wJ,wP,rfl,ni,mX,mW⟩:=at_L4 HR0.out (rd ay aH) odt odt;replace ni:=hB HB.out ni;have uf:=Za.mk mW;have tN:=Za.mk mX;clear mW mX
    go_wp2_with (first|((with_reducible refine Zat (f:=72) rfl ?_);refine gl 21 Tryz.func72 #[.slice wJ (Ze l0 (rd ay aH)).length wP] ?_;(with_reducible refine(Zbd.calls k1 _ _ (Ze l0 (rd ay aH)) true _ (cM (Kd.Zaf uf.out HB.out)) tN.out A8.out).mono ?_);rintro e w' ⟨rfl,⟨nd,rfl⟩⟩;refine⟨_,rfl,?_⟩;have wV:0≤(aH:Int):=odt;have xg:aH<(aX.length:Int):=odt;obtain⟨Lc,MG,rQ⟩:=Kd.Zb0 gM.out aH wV xg;cases MG;replace rQ:=hB HB.out rQ;replace wV:=eq_true wV;replace xg:=eq_true xg;have FU:0≤(aH:Int):=odt;have Gp:aH<(aX.length:Int):=odt;obtain⟨Qv,TS,AJ⟩:=Kd.Zb0 gM.out aH FU Gp;obtain rfl:Lc=Qv:=(by injection TS);replace AJ:=hB HB.out AJ;replace FU:=eq_true FU;replace Gp:=eq_true Gp))
    go_ret;exact⟨eR,bM HB.out⟩
   rw[if_pos c13]at H;have qR:((rd aX aH)==(-1))=true:=beq_iff_eq.mpr c13;have QB:((rd aX aH) !=(-1))=false:=bne_eq_false_iff_eq.mpr c13;clear c13;have H':=Za.mk H;clear H;obtain⟨uJ,uK,ym,CK,CU,RO,RP,uC,uD,xO,Ci,Cj,Re,Rf⟩:=cz7 vz.out;have rq:0≤(aH:Int):=odt;have ry:aH<(ay.length:Int):=odt;obtain⟨Qt,rfl,ng⟩:=Kd.Zb0 gz.out aH rq ry;replace ng:=hB HB.out ng;replace rq:=eq_true rq;replace ry:=eq_true ry;have Uw:(0≤((rd ay aH):Int))=True:=teq;have UB:((rd ay aH)<(l0.length:Int))=True:=teq;obtain⟨Qu,wJ,wP,rfl,ni,mX,mW⟩:=at_L4 HR0.out (rd ay aH) odt odt;replace ni:=hB HB.out ni;have uf:=Za.mk mW;have tN:=Za.mk mX;clear mW mX
   go_wp2_with (first|((with_reducible refine Zat (f:=72) rfl ?_);refine gl 21 Tryz.func72 #[.slice wJ (Ze l0 (rd ay aH)).length wP] ?_;(with_reducible refine(Zbd.calls k1 _ _ (Ze l0 (rd ay aH)) true _ (cM (Kd.Zaf uf.out HB.out)) tN.out A8.out).mono ?_);rintro e w' ⟨rfl,⟨nd,rfl⟩⟩;refine⟨_,rfl,?_⟩;have wV:0≤(aH:Int):=odt;have xg:aH<(aX.length:Int):=odt;obtain⟨Lc,MG,rQ⟩:=Kd.Zb0 gM.out aH wV xg;cases MG;replace rQ:=hB HB.out rQ;replace wV:=eq_true wV;replace xg:=eq_true xg;have FU:0≤(aH:Int):=odt;have Gp:aH<(aX.length:Int):=odt;obtain⟨Qv,TS,AJ⟩:=Kd.Zb0 gM.out aH FU Gp;obtain rfl:Lc=Qv:=(by injection TS);replace AJ:=hB HB.out AJ;replace FU:=eq_true FU;replace Gp:=eq_true Gp))
   go_roundg k1
   case measure=>have:=HK1.out;omega
   case rel=>exact⟨(wrap64 (aH+1)),eS,H',⟨by have:=HK1.out;omega⟩,⟨by(with_reducible repeat(first|refine Zab ?_ _|refine Zad ?_|refine Zaa ?_ _));exact vz.out⟩,⟨bM HB.out⟩⟩
mutual
def Zar.j0 : Nat → List (List (S59)) → Bool → Int → List Int → List Int → Int → Int → List (List Int) → Int → Option (Bool)
 | 0, _, _, _, _, _, _, _, _, _ => none
 |k+1,x0,x5,iM,iN,lg,kN,lF,iO,je=>if x5=true then(Zar.j1 k x0 x5 ((lg.length:Int)==0) iM iN lg kN lF iO je)else(Zar.j1 k x0 x5 false iM iN lg kN lF iO je)
def Zar.j1 : Nat → List (List (S59)) → Bool → Bool → Int → List Int → List Int → Int → Int → List (List Int) → Int → Option (Bool)
 | 0, _, _, _, _, _, _, _, _, _, _ => none
 |k+1,x0,x5,x6,iM,iN,lg,kN,lF,iO,je=>if kN≥0 then(Zar.j2 k x0 x5 x6 (decide (kN≤2)) iM iN lg kN lF iO je)else(Zar.j2 k x0 x5 x6 false iM iN lg kN lF iO je)
def Zar.j2 : Nat → List (List (S59)) → Bool → Bool → Bool → Int → List Int → List Int → Int → Int → List (List Int) → Int → Option (Bool)
 | 0, _, _, _, _, _, _, _, _, _, _, _ => none
 |k+1,x0,x5,x6,x7,iM,iN,lg,kN,lF,iO,je=>if(iN.length:Int)>0 then((Za0.f k iN).bind fun QX=>(Zar.j3 k x0 x5 x6 x7 QX iM iN lg kN lF iO je))else(Zar.j3 k x0 x5 x6 x7 false iM iN lg kN lF iO je)
def Zar.j3 : Nat → List (List (S59)) → Bool → Bool → Bool → Bool → Int → List Int → List Int → Int → Int → List (List Int) → Int → Option (Bool)
 | 0, _, _, _, _, _, _, _, _, _, _, _, _ => none
 |k+1,x0,x5,x6,x7,x8,iM,iN,lg,kN,lF,iO,je=>if iM=0 then(if(iO.length:Int)=0 then((Zbv.f k iM iN lg kN lF iO je).bind fun UJ=>(if UJ=true then(if x7=true then(some (je==0))else(some false))else(some false)))else(some false))else(if iM=1 then(if(iO.length:Int)=0 then(if x6=true then(some x8)else(some false))else(some false))else(if iM=2 then(if x6=true then(if x8=true then((Zbc.f k iM iN lg kN lF iO je).bind fun UK=>(some UK))else(some false))else(some false))else(if iM=3 then(if(iO.length:Int)=0 then(if x6=true then(if x8=true then(some (decide ((iN.length:Int)≥3)))else(some false))else(some false))else(some false))else(if iM=4 then(if(iO.length:Int)=0 then((Zbv.f k iM iN lg kN lF iO je).bind fun UL=>(if UL=true then(if x7=true then(if 0≤je then(if je<(x0.length:Int)then((Zbd.f k (Ze x0 je)).bind fun UM=>(if UM=true then((Zbg.f k iN je).bind fun UN=>(some (!UN)))else(some false)))else(none))else(none))else(some false))else(some false)))else(some false))else(if iM=5 then(if(iO.length:Int)=0 then(if x5=true then((Zbv.f k iM iN lg kN lF iO je).bind fun UO=>(if UO=true then((Zbs.f k x0 iM iN lg kN lF iO je).bind fun UQ=>(some UQ))else(some false)))else(some false))else(some false))else(if(iO.length:Int)=0 then(if x6=true then(if(iN.length:Int)≥2 then(some (((iN.length:Int)%2)==0))else(some false))else(some false))else(some false)))))))
end
def Zar.f (k:Nat) (l0:List (List (S59))) (aN:Int) (ay:List Int) (aX:List Int) (df:Int) (dh:Int) (bE:List (List Int)) (cO:Int):Option (Bool):=if df=0 then(if dh=0 then(Zar.j0 k l0 (cO==0) aN ay aX df dh bE cO)else(Zar.j0 k l0 false aN ay aX df dh bE cO))else(Zar.j0 k l0 false aN ay aX df dh bE cO)
set_option maxRecDepth 100000 in
theorem Zar.calls (k : Nat) (A0 : Option Addr) (c0 : Nat) (l0 : List (List (S59))) (aN : Int) (eF : Option Addr) (dU : Nat) (ay : List Int) (fG : Option Addr) (fH : Nat) (aX : List Int) (df : Int) (dh : Int) (jv : Option Addr) (j5 : Nat) (bE : List (List Int)) (cO : Int) (r : Bool) (w : World) (hr0 : Kd.C (Kd.slice 59 k59) w A0 l0.length l0) (hc0 : l0.length ≤ c0) (lD : Kd.C (Kd.int .i64) w eF ay.length ay) (l9 : ay.length ≤ dU) (mO : Kd.C (Kd.int .i64) w fG aX.length aX) (mM : aX.length ≤ fH) (sQ : Kd.C (Kd.slice 3 (Kd.int .i64)) w jv bE.length bE) (sP : bE.length ≤ j5) (h : Zar.f k l0 aN ay aX df dh bE cO = some r) :
  Calls Tryz.prog 39 #[.slice A0 l0.length c0,.agg #[.int .i64 aN,.slice eF ay.length dU,.slice fG aX.length fH,.int .i64 df,.int .i64 dh,.slice jv bE.length j5,.int .i64 cO]] w fun e w'=>e= .returned (.bool r)∧Below w.heap.size w w':=by
 have hu40:=Tryz.underlying40;have HR0:=Za.mk hr0;have HC0:=Za.mk hc0;clear hr0 hc0;have gz:=Za.mk lD;have iE:=Za.mk l9;clear lD l9;have gM:=Za.mk mO;have iW:=Za.mk mM;clear mO mM;have lT:=Za.mk sQ;have lK:=Za.mk sP;clear sQ sP;have HB:=Za.mk (Below.refl w.heap.size w);have H:(if df=0 then(if dh=0 then(Zar.j0 k l0 (cO==0) aN ay aX df dh bE cO)else(Zar.j0 k l0 false aN ay aX df dh bE cO))else(Zar.j0 k l0 false aN ay aX df dh bE cO))=some r:=h;clear h;have HC3:=Za.mk H;clear H;go_enter Tryz.func39,Tryz.ntmps39
 go_upto_region 1 with (first|((with_reducible refine Zap (N:=3) rfl ?_);(try(refine Zb9 (by rfl) ?_;dsimp only));refine bx 3 #[.int .i64 aN,.slice eF ay.length dU,.slice fG aX.length fH,.int .i64 df,.int .i64 dh,.slice jv bE.length j5,.int .i64 cO] 40 ?_;intro Ic hg w4 hbox hb;have dx:=Za.mk (hbox);have kKa:=Za.mk ((gE hg HB.out:w.heap.size≤Ic));replace HB:=Za.mk (bS HB.out hb);clear hb hbox hg))
 (try simp only[Act.put,List.setIfInBounds_toArray,List.set_cons_zero,List.set_cons_succ])
 go_cut [5] (fun v5 wc=>∃(kq:Nat) (aD:Bool),v5= .bool aD∧Za (Zar.j0 kq l0 aD aN ay aX df dh bE cO=some r)∧Za (kq≤k)∧Za (wc.heap[Ic]? =some (.cells #[.int .i64 aN,(.slice eF ay.length dU),(.slice fG aX.length fH),.int .i64 df,.int .i64 dh,(.slice jv bE.length j5),.int .i64 cO] 40 (0,0)))∧Za (Below w.heap.size w wc))
 case first=>
  have H:=HC3.out;clear HC3;by_cases c5:df=0
  case neg=>
   rw[if_neg c5]at H;have dS:(df==0)=false:=beq_eq_false_iff_ne.mpr c5;have oV:(df !=0)=true:=bne_iff_ne.mpr c5
   (first|rw[dS]|(simp only[Zdk,Zdn];rw[dS])|skip)
   have H':=Za.mk H;clear H;obtain⟨KE,KF,KG,NL,NM,NN,NP,K8,K9,KA,NH,NI,NJ,NK⟩:=cz7 dx.out;go_wp2
   go_meet
   case rel=>exact⟨_,(false),eS,H',⟨by first|omega|exact Nat.le_refl _⟩,⟨by(with_reducible repeat(first|refine Zab ?_ _|refine Zad ?_|refine Zaa ?_ _));exact dx.out⟩,⟨bM HB.out⟩⟩
  rw[if_pos c5]at H;have dS:(df==0)=true:=beq_iff_eq.mpr c5;have oV:(df !=0)=false:=bne_eq_false_iff_eq.mpr c5;clear c5
  (first|rw[dS]|(simp only[Zdk,Zdn];rw[dS])|skip)
  by_cases c6:dh=0
  case neg=>
   rw[if_neg c6]at H;have jh:(dh==0)=false:=beq_eq_false_iff_ne.mpr c6;have qY:(dh !=0)=true:=bne_iff_ne.mpr c6;have H':=Za.mk H;clear H;obtain⟨Dj,Dk,Dl,Dm,Dn,Ej,El,Cy,Cz,C8,C9,CE,Eh,Ei⟩:=cz7 dx.out;go_wp2
   go_meet
   case rel=>exact⟨_,(false),eS,H',⟨by first|omega|exact Nat.le_refl _⟩,⟨by(with_reducible repeat(first|refine Zab ?_ _|refine Zad ?_|refine Zaa ?_ _));exact dx.out⟩,⟨bM HB.out⟩⟩
  rw[if_pos c6]at H;have jh:(dh==0)=true:=beq_iff_eq.mpr c6;have qY:(dh !=0)=false:=bne_eq_false_iff_eq.mpr c6;clear c6;have H':=Za.mk H;clear H;obtain⟨vk,vo,Di,GM,GN,GQ,GR,uX,uY,Cx,GI,GJ,GK,GL⟩:=cz7 dx.out;go_wp2
  go_meet
  case rel=>exact⟨_,((cO==0)),eS,H',⟨by first|omega|exact Nat.le_refl _⟩,⟨by(with_reducible repeat(first|refine Zab ?_ _|refine Zad ?_|refine Zaa ?_ _));exact dx.out⟩,⟨bM HB.out⟩⟩
 case rest=>
  clear HC3;try clear c1
  try clear p2
  try clear c3
  try clear c5
  try clear dS
  try clear oV
  try clear c6
  try clear jh
  try clear qY
  try clear vk vo Di GM GN GQ GR uX uY Cx GI GJ GK GL
  try clear Dj Dk Dl Dm Dn Ej El Cy Cz C8 C9 CE Eh Ei
  try clear KE KF KG NL NM NN NP K8 K9 KA NH NI NJ NK
  obtain⟨kq,aD,rfl,HA,HJ2,dx,HB⟩:=hcut
  cases kq with
  | zero => exact absurd HA.out (by simp [Zar.j0])
  |succ kj2=>
   have H:=HA.out;clear HA;simp only[Zar.j0]at H;have TC:=Za.mk H;clear H
   go_upto_region 2 with (fail)
   go_cut [6] (fun v6 wc=>∃(kq:Nat) (Ce:Bool),v6= .bool Ce∧Za (Zar.j1 kq l0 aD Ce aN ay aX df dh bE cO=some r)∧Za (kq≤kj2)∧Za (wc.heap[Ic]? =some (.cells #[.int .i64 aN,(.slice eF ay.length dU),(.slice fG aX.length fH),.int .i64 df,.int .i64 dh,(.slice jv bE.length j5),.int .i64 cO] 40 (0,0)))∧Za (Below w.heap.size w wc))
   case first=>
    have H:=TC.out;clear TC;by_cases c11:aD=true
    case pos=>
     subst c11;rw[if_pos rfl]at H;have H':=Za.mk H;clear H;obtain⟨tF,tH,tJ,tK,tL,yj,yl,sU,sV,sW,tq,tu,xM,xN⟩:=cz7 dx.out;go_wp2
     go_meet
     case rel=>exact⟨_,(((aX.length:Int)==0)),eS,H',⟨by have:=HJ2.out;first|omega|exact Nat.le_refl _⟩,⟨by(with_reducible repeat(first|refine Zab ?_ _|refine Zad ?_|refine Zaa ?_ _));exact dx.out⟩,⟨bM HB.out⟩⟩
    replace c11:=Bool.eq_false_iff.mpr c11;subst c11;replace H:=ifF H;have H':=Za.mk H;clear H;go_wp2
    go_meet
    case rel=>exact⟨_,(false),eS,H',⟨by have:=HJ2.out;first|omega|exact Nat.le_refl _⟩,⟨by(with_reducible repeat(first|refine Zab ?_ _|refine Zad ?_|refine Zaa ?_ _));exact dx.out⟩,⟨bM HB.out⟩⟩
   case rest=>
    clear TC;try clear c1
    try clear p2
    try clear c3
    try clear c5
    try clear dS
    try clear oV
    try clear c6
    try clear jh
    try clear qY
    try clear c11
    try clear tF tH tJ tK tL yj yl sU sV sW tq tu xM xN
    try clear vk vo Di GM GN GQ GR uX uY Cx GI GJ GK GL
    try clear Dj Dk Dl Dm Dn Ej El Cy Cz C8 C9 CE Eh Ei
    try clear KE KF KG NL NM NN NP K8 K9 KA NH NI NJ NK
    try clear p2
    obtain⟨kq,Ce,rfl,HA,HJ9,dx,HB⟩:=hcut
    cases kq with
    | zero => exact absurd HA.out (by simp [Zar.j1])
    |succ kj9=>
     have H:=HA.out;clear HA;simp only[Zar.j1]at H;have TE:=Za.mk H;clear H
     go_upto_region 3 with (fail)
     go_cut [7] (fun v7 wc=>∃(kq:Nat) (EU:Bool),v7= .bool EU∧Za (Zar.j2 kq l0 aD Ce EU aN ay aX df dh bE cO=some r)∧Za (kq≤kj9)∧Za (wc.heap[Ic]? =some (.cells #[.int .i64 aN,(.slice eF ay.length dU),(.slice fG aX.length fH),.int .i64 df,.int .i64 dh,(.slice jv bE.length j5),.int .i64 cO] 40 (0,0)))∧Za (Below w.heap.size w wc))
     case first=>
      have H:=TE.out;clear TE;by_cases c14:df≥0
      case neg=>
       rw[if_neg c14]at H;have nN:decide (0≤df)=false:=decide_eq_false c14;clear c14
       (first|rw[nN]|(simp only[Zdk,Zdn];rw[nN])|skip)
       have H':=Za.mk H;clear H;obtain⟨uL,uM,uN,vG,vH,Fy,Fz,uE,uF,uG,vE,vF,EY,Fa⟩:=cz7 dx.out;go_wp2
       go_meet
       case rel=>exact⟨_,(false),eS,H',⟨by have:=HJ2.out;have:=HJ9.out;first|omega|exact Nat.le_refl _⟩,⟨by(with_reducible repeat(first|refine Zab ?_ _|refine Zad ?_|refine Zaa ?_ _));exact dx.out⟩,⟨bM HB.out⟩⟩
      rw[if_pos c14]at H;have nN:decide (0≤df)=true:=decide_eq_true c14;clear c14
      (first|rw[nN]|(simp only[Zdk,Zdn];rw[nN])|skip)
      have H':=Za.mk H;clear H;obtain⟨yn,yo,yt,CW,CX,Fw,Fx,xP,xQ,xR,Ck,Cm,EW,EX⟩:=cz7 dx.out;go_wp2
      go_meet
      case rel=>exact⟨_,(decide (df≤2)),eS,H',⟨by have:=HJ2.out;have:=HJ9.out;first|omega|exact Nat.le_refl _⟩,⟨by(with_reducible repeat(first|refine Zab ?_ _|refine Zad ?_|refine Zaa ?_ _));exact dx.out⟩,⟨bM HB.out⟩⟩
     case rest=>
      clear TE;try clear c1
      try clear p2
      try clear c3
      try clear c5
      try clear dS
      try clear oV
      try clear c6
      try clear jh
      try clear qY
      try clear c11
      try clear c14
      try clear nN
      try clear tF tH tJ tK tL yj yl sU sV sW tq tu xM xN
      try clear yn yo yt CW CX Fw Fx xP xQ xR Ck Cm EW EX
      try clear uL uM uN vG vH Fy Fz uE uF uG vE vF EY Fa
      try clear vk vo Di GM GN GQ GR uX uY Cx GI GJ GK GL
      try clear Dj Dk Dl Dm Dn Ej El Cy Cz C8 C9 CE Eh Ei
      try clear KE KF KG NL NM NN NP K8 K9 KA NH NI NJ NK
      try clear p2
      obtain⟨kq,EU,rfl,HA,HJ12,dx,HB⟩:=hcut
      cases kq with
      | zero => exact absurd HA.out (by simp [Zar.j2])
      |succ kj12=>
       have H:=HA.out;clear HA;simp only[Zar.j2]at H;have TF:=Za.mk H;clear H
       go_upto_region 4 with (fail)
       go_cut [8] (fun v8 wc=>∃(kq:Nat) (Jm:Bool),v8= .bool Jm∧Za (Zar.j3 kq l0 aD Ce EU Jm aN ay aX df dh bE cO=some r)∧Za (kq≤kj12)∧Za (wc.heap[Ic]? =some (.cells #[.int .i64 aN,(.slice eF ay.length dU),(.slice fG aX.length fH),.int .i64 df,.int .i64 dh,(.slice jv bE.length j5),.int .i64 cO] 40 (0,0)))∧Za (Below w.heap.size w wc))
       case first=>
        have H:=TF.out;clear TF;by_cases c18:(ay.length:Int)>0
        case neg=>
         rw[if_neg c18]at H;have nO:decide (0<(ay.length:Int))=false:=decide_eq_false c18;have vB:decide (0<ay.length)=false:=decide_eq_false (by omega);clear c18
         (first|rw[nO]|(simp only[Zdk,Zdn];rw[nO])|skip)
         have H':=Za.mk H;clear H;obtain⟨J3,J4,RQ,RS,RV,RX,RY,Jp,Jq,Rh,Ri,Rj,Rk,Rl⟩:=cz7 dx.out;go_wp2
         go_meet
         case rel=>exact⟨_,(false),eS,H',⟨by have:=HJ2.out;have:=HJ9.out;have:=HJ12.out;first|omega|exact Nat.le_refl _⟩,⟨by(with_reducible repeat(first|refine Zab ?_ _|refine Zad ?_|refine Zaa ?_ _));exact dx.out⟩,⟨bM HB.out⟩⟩
        rw[if_pos c18]at H;have nO:decide (0<(ay.length:Int))=true:=decide_eq_true c18;have vB:decide (0<ay.length)=true:=decide_eq_true (by omega);clear c18
        (first|rw[nO]|(simp only[Zdk,Zdn];rw[nO])|skip)
        obtain⟨QX,A19,H⟩:=bnd H;try dsimp only at H
        have H':=Za.mk H;clear H;obtain⟨uO,uP,yx,CY,Da,Xe,Xf,uH,uI,xV,Cn,Co,WC,WE⟩:=cz7 dx.out
        go_wp2_with (first|(go_at_call 69;(with_reducible refine(Za0.calls kj12 _ _ ay QX _ (cM (Kd.Zaf gz.out HB.out)) iE.out A19.out).mono ?_);rintro e w' ⟨rfl,⟨nd,rfl⟩⟩))
        go_meet
        case rel=>exact⟨_,(QX),eS,H',⟨by have:=HJ2.out;have:=HJ9.out;have:=HJ12.out;first|omega|exact Nat.le_refl _⟩,⟨by(with_reducible repeat(first|refine Zab ?_ _|refine Zad ?_|refine Zaa ?_ _));exact dx.out⟩,⟨bM HB.out⟩⟩
       case rest=>
        clear TF;try clear c1
        try clear p2
        try clear c3
        try clear c5
        try clear dS
        try clear oV
        try clear c6
        try clear jh
        try clear qY
        try clear c11
        try clear c14
        try clear nN
        try clear c18
        try clear nO
        try clear vB
        try clear tF tH tJ tK tL yj yl sU sV sW tq tu xM xN
        try clear yn yo yt CW CX Fw Fx xP xQ xR Ck Cm EW EX
        try clear uL uM uN vG vH Fy Fz uE uF uG vE vF EY Fa
        try clear uO uP yx CY Da Xe Xf uH uI xV Cn Co WC WE
        try clear J3 J4 RQ RS RV RX RY Jp Jq Rh Ri Rj Rk Rl
        try clear vk vo Di GM GN GQ GR uX uY Cx GI GJ GK GL
        try clear Dj Dk Dl Dm Dn Ej El Cy Cz C8 C9 CE Eh Ei
        try clear KE KF KG NL NM NN NP K8 K9 KA NH NI NJ NK
        try clear p2
        obtain⟨kq,Jm,rfl,HA,HJ16,dx,HB⟩:=hcut
        cases kq with
        | zero => exact absurd HA.out (by simp [Zar.j3])
        |succ kj16=>
         have H:=HA.out;clear HA;simp only[Zar.j3]at H;by_cases c22:aN=0
         case pos=>
          rw[if_pos c22]at H;have H7:(aN==0)=true:=beq_iff_eq.mpr c22;have QG:(aN !=0)=false:=bne_eq_false_iff_eq.mpr c22;clear c22;by_cases c23:(bE.length:Int)=0
          case neg=>
           rw[if_neg c23]at H;have uB:((bE.length:Int)==0)=false:=beq_eq_false_iff_ne.mpr c23;have Le:((bE.length:Int) !=0)=true:=bne_iff_ne.mpr c23;have VQ:¬(bE= []):=fun h_=>c23 (by rw[h_];rfl)
           obtain rfl:=sj H;obtain⟨gba,gca,gda,gea,gfa,gga,gha,eta,eua,eva,ewa,exa,eya,eza⟩:=cz7 dx.out;go_wp2;go_ret;exact⟨eR,bM HB.out⟩
          rw[if_pos c23]at H;have uB:((bE.length:Int)==0)=true:=beq_iff_eq.mpr c23;have Le:((bE.length:Int) !=0)=false:=bne_eq_false_iff_eq.mpr c23;clear c23;obtain⟨UJ,A24,H⟩:=bnd H;try dsimp only at H
          by_cases c25:UJ=true
          case neg=>
           replace c25:=Bool.eq_false_iff.mpr c25;subst c25;replace H:=ifF H;obtain rfl:=sj H;obtain⟨Mm,Mo,qma,qna,qoa,qpa,qqa,LH,LJ,mXa,mYa,naa,nba,nca⟩:=cz7 dx.out
           go_wp2_with (first|(go_at_call 70;(with_reducible refine(Zbv.calls kj16 aN _ _ ay _ _ aX df dh _ _ bE cO false _ (cM (Kd.Zaf gz.out HB.out)) iE.out (cM (Kd.Zaf gM.out HB.out)) iW.out (cM (Kd.Zaf lT.out HB.out)) lK.out A24.out).mono ?_);rintro e w33 ⟨rfl,hb⟩;replace HB:=Za.mk (bS HB.out hb);clear dx;(try clear hb);(try clear hb2);(try clear hk);(try clear hi)))
           go_ret;exact⟨eR,bM HB.out⟩
          subst c25;rw[if_pos rfl]at H;by_cases c26:EU=true
          case pos=>
           subst c26;rw[if_pos rfl]at H;obtain rfl:=sj H;obtain⟨Sk,Sl,Xg,Xh,Xi,qka,qla,Ru,Rv,WF,WG,WH,mVa,mWa⟩:=cz7 dx.out
           go_wp2_with (first|(go_at_call 70;(with_reducible refine(Zbv.calls kj16 aN _ _ ay _ _ aX df dh _ _ bE cO true _ (cM (Kd.Zaf gz.out HB.out)) iE.out (cM (Kd.Zaf gM.out HB.out)) iW.out (cM (Kd.Zaf lT.out HB.out)) lK.out A24.out).mono ?_);rintro e w28 ⟨rfl,hb⟩;replace dx:=Za.mk (kB dx.out hb);replace HB:=Za.mk (bS HB.out hb);(try clear hb);(try clear hb2);(try clear hk);(try clear hi);obtain⟨yE,yF,Sm,Sn,Sq,fRa,fSa,yg,yh,Rw,Rx,Ry,eka,ela⟩:=cz7 dx.out))
           go_ret;exact⟨eR,bM HB.out⟩
          replace c26:=Bool.eq_false_iff.mpr c26;subst c26;replace H:=ifF H;obtain rfl:=sj H;obtain⟨Mk,Ml,Sr,Su,Sv,fTa,fUa,LF,LG,Rz,R3,R4,ema,ena⟩:=cz7 dx.out
          go_wp2_with (first|(go_at_call 70;(with_reducible refine(Zbv.calls kj16 aN _ _ ay _ _ aX df dh _ _ bE cO true _ (cM (Kd.Zaf gz.out HB.out)) iE.out (cM (Kd.Zaf gM.out HB.out)) iW.out (cM (Kd.Zaf lT.out HB.out)) lK.out A24.out).mono ?_);rintro e w31 ⟨rfl,hb⟩;replace HB:=Za.mk (bS HB.out hb);clear dx;(try clear hb);(try clear hb2);(try clear hk);(try clear hi)))
          go_ret;exact⟨eR,bM HB.out⟩
         rw[if_neg c22]at H;have H7:(aN==0)=false:=beq_eq_false_iff_ne.mpr c22;have QG:(aN !=0)=true:=bne_iff_ne.mpr c22;by_cases c35:aN=1
         case pos=>
          rw[if_pos c35]at H;have QH:(aN==1)=true:=beq_iff_eq.mpr c35;have dla:(aN !=1)=false:=bne_eq_false_iff_eq.mpr c35;clear c35;by_cases c36:(bE.length:Int)=0
          case neg=>
           rw[if_neg c36]at H;have VV:((bE.length:Int)==0)=false:=beq_eq_false_iff_ne.mpr c36;have dma:((bE.length:Int) !=0)=true:=bne_iff_ne.mpr c36;have lna:¬(bE= []):=fun h_=>c36 (by rw[h_];rfl)
           obtain rfl:=sj H;obtain⟨gva,gwa,gxa,gya,gza,g0a,g1a,eCa,eDa,eEa,eFa,eGa,eHa,eIa⟩:=cz7 dx.out;go_wp2;go_ret;exact⟨eR,bM HB.out⟩
          rw[if_pos c36]at H;have VV:((bE.length:Int)==0)=true:=beq_iff_eq.mpr c36;have dma:((bE.length:Int) !=0)=false:=bne_eq_false_iff_eq.mpr c36;clear c36;by_cases c37:Ce=true
          case pos=>
           subst c37;rw[if_pos rfl]at H;obtain rfl:=sj H;obtain⟨SB,SC,Xl,Xm,Xn,qya,qza,RA,RB,WK,WL,WM,nka,nla⟩:=cz7 dx.out;go_wp2;go_ret;exact⟨eR,bM HB.out⟩
          replace c37:=Bool.eq_false_iff.mpr c37;subst c37;replace H:=ifF H;obtain rfl:=sj H;obtain⟨gpa,gqa,gra,gta,gua,q0a,q1a,e7a,e8a,e9a,eAa,eBa,nma,nna⟩:=cz7 dx.out;go_wp2;go_ret;exact⟨eR,bM HB.out⟩
         rw[if_neg c35]at H;have QH:(aN==1)=false:=beq_eq_false_iff_ne.mpr c35;have dla:(aN !=1)=true:=bne_iff_ne.mpr c35;by_cases c41:aN=2
         case pos=>
          rw[if_pos c41]at H;have dpa:(aN==2)=true:=beq_iff_eq.mpr c41;have dqa:(aN !=2)=false:=bne_eq_false_iff_eq.mpr c41;clear c41;by_cases c42:Ce=true
          case neg=>
           replace c42:=Bool.eq_false_iff.mpr c42;subst c42;replace H:=ifF H;obtain rfl:=sj H;obtain⟨gEa,gFa,gGa,gHa,gIa,qDa,qEa,eVa,eWa,eXa,eYa,faa,nza,n0a⟩:=cz7 dx.out;go_wp2;go_ret;exact⟨eR,bM HB.out⟩
          subst c42;rw[if_pos rfl]at H;by_cases c43:Jm=true
          case neg=>
           replace c43:=Bool.eq_false_iff.mpr c43;subst c43;replace H:=ifF H;obtain rfl:=sj H;obtain⟨q6a,q7a,q8a,q9a,qAa,qBa,qCa,nsa,nta,nua,nva,nwa,nxa,nya⟩:=cz7 dx.out;go_wp2;go_ret;exact⟨eR,bM HB.out⟩
          subst c43;rw[if_pos rfl]at H;obtain⟨UK,A44,H⟩:=bnd H;try dsimp only at H
          obtain rfl:=sj H;obtain⟨J7,J8,J9,JA,JB,g7a,g8a,Jt,Ju,Jv,Jw,Jy,eOa,ePa⟩:=cz7 dx.out
          go_wp2_with (first|(go_at_call 71;(with_reducible refine(Zbc.calls kj16 aN _ _ ay _ _ aX df dh _ _ bE cO UK _ (cM (Kd.Zaf gz.out HB.out)) iE.out (cM (Kd.Zaf gM.out HB.out)) iW.out (cM (Kd.Zaf lT.out HB.out)) lK.out A44.out).mono ?_);rintro e w46 ⟨rfl,hb⟩;replace HB:=Za.mk (bS HB.out hb);clear dx;(try clear hb);(try clear hb2);(try clear hk);(try clear hi)))
          go_ret;exact⟨eR,bM HB.out⟩
         rw[if_neg c41]at H;have dpa:(aN==2)=false:=beq_eq_false_iff_ne.mpr c41;have dqa:(aN !=2)=true:=bne_iff_ne.mpr c41;by_cases c49:aN=3
         case pos=>
          rw[if_pos c49]at H;have dta:(aN==3)=true:=beq_iff_eq.mpr c49;have dua:(aN !=3)=false:=bne_eq_false_iff_eq.mpr c49;clear c49;by_cases c50:(bE.length:Int)=0
          case neg=>
           rw[if_neg c50]at H;have dva:((bE.length:Int)==0)=false:=beq_eq_false_iff_ne.mpr c50;have dwa:((bE.length:Int) !=0)=true:=bne_iff_ne.mpr c50;have lpa:¬(bE= []):=fun h_=>c50 (by rw[h_];rfl)
           obtain rfl:=sj H;obtain⟨qVa,qWa,qXa,qYa,raa,rba,rca,nHa,nIa,nJa,nKa,nLa,nMa,nNa⟩:=cz7 dx.out;go_wp2;go_ret;exact⟨eR,bM HB.out⟩
          rw[if_pos c50]at H;have dva:((bE.length:Int)==0)=true:=beq_iff_eq.mpr c50;have dwa:((bE.length:Int) !=0)=false:=bne_eq_false_iff_eq.mpr c50;clear c50;by_cases c51:Ce=true
          case neg=>
           replace c51:=Bool.eq_false_iff.mpr c51;subst c51;replace H:=ifF H;obtain rfl:=sj H;obtain⟨gVa,gWa,gXa,gYa,haa,qTa,qUa,foa,fpa,fqa,fra,fsa,nFa,nGa⟩:=cz7 dx.out;go_wp2;go_ret;exact⟨eR,bM HB.out⟩
          subst c51;rw[if_pos rfl]at H;by_cases c52:Jm=true
          case pos=>
           subst c52;rw[if_pos rfl]at H;obtain rfl:=sj H;obtain⟨Xo,Xp,Xq,Xr,Xt,qKa,qLa,WN,WO,WP,WQ,WR,n6a,n7a⟩:=cz7 dx.out;go_wp2;go_ret;exact⟨eR,bM HB.out⟩
          replace c52:=Bool.eq_false_iff.mpr c52;subst c52;replace H:=ifF H;obtain rfl:=sj H;obtain⟨qMa,qNa,qOa,qPa,qQa,qRa,qSa,n8a,n9a,nAa,nBa,nCa,nDa,nEa⟩:=cz7 dx.out;go_wp2;go_ret;exact⟨eR,bM HB.out⟩
         rw[if_neg c49]at H;have dta:(aN==3)=false:=beq_eq_false_iff_ne.mpr c49;have dua:(aN !=3)=true:=bne_iff_ne.mpr c49;by_cases c57:aN=4
         case pos=>
          rw[if_pos c57]at H;have dxa:(aN==4)=true:=beq_iff_eq.mpr c57;have dya:(aN !=4)=false:=bne_eq_false_iff_eq.mpr c57;clear c57;by_cases c58:(bE.length:Int)=0
          case neg=>
           rw[if_neg c58]at H;have VW:((bE.length:Int)==0)=false:=beq_eq_false_iff_ne.mpr c58;have VX:((bE.length:Int) !=0)=true:=bne_iff_ne.mpr c58;have lsa:¬(bE= []):=fun h_=>c58 (by rw[h_];rfl)
           obtain rfl:=sj H;obtain⟨rGa,rHa,rIa,rJa,rKa,rLa,rMa,o1a,o2a,o3a,o4a,o5a,o6a,o7a⟩:=cz7 dx.out;go_wp2;go_ret;exact⟨eR,bM HB.out⟩
          rw[if_pos c58]at H;have VW:((bE.length:Int)==0)=true:=beq_iff_eq.mpr c58;have VX:((bE.length:Int) !=0)=false:=bne_eq_false_iff_eq.mpr c58;clear c58;obtain⟨UL,A59,H⟩:=bnd H;try dsimp only at H
          by_cases c60:UL=true
          case neg=>
           replace c60:=Bool.eq_false_iff.mpr c60;subst c60;replace H:=ifF H;obtain rfl:=sj H;obtain⟨h4a,h5a,h6a,h7a,h8a,h9a,hAa,f9a,fAa,fBa,fCa,fDa,fEa,fFa⟩:=cz7 dx.out
           go_wp2_with (first|(go_at_call 70;(with_reducible refine(Zbv.calls kj16 aN _ _ ay _ _ aX df dh _ _ bE cO false _ (cM (Kd.Zaf gz.out HB.out)) iE.out (cM (Kd.Zaf gM.out HB.out)) iW.out (cM (Kd.Zaf lT.out HB.out)) lK.out A59.out).mono ?_);rintro e w76 ⟨rfl,hb⟩;replace HB:=Za.mk (bS HB.out hb);clear dx;(try clear hb);(try clear hb2);(try clear hk);(try clear hi)))
           go_ret;exact⟨eR,bM HB.out⟩
          subst c60;rw[if_pos rfl]at H;by_cases c61:EU=true
          case neg=>
           replace c61:=Bool.eq_false_iff.mpr c61;subst c61;replace H:=ifF H;obtain rfl:=sj H;obtain⟨hqa,hta,hua,hwa,h0a,h2a,h3a,f2a,f3a,f4a,f5a,f6a,f7a,f8a⟩:=cz7 dx.out
           go_wp2_with (first|(go_at_call 70;(with_reducible refine(Zbv.calls kj16 aN _ _ ay _ _ aX df dh _ _ bE cO true _ (cM (Kd.Zaf gz.out HB.out)) iE.out (cM (Kd.Zaf gM.out HB.out)) iW.out (cM (Kd.Zaf lT.out HB.out)) lK.out A59.out).mono ?_);rintro e w74 ⟨rfl,hb⟩;replace HB:=Za.mk (bS HB.out hb);clear dx;(try clear hb);(try clear hb2);(try clear hk);(try clear hi)))
           go_ret;exact⟨eR,bM HB.out⟩
          subst c61;rw[if_pos rfl]at H;obtain⟨QL,H⟩:=ifT H;obtain⟨dza,H⟩:=ifT H;obtain⟨UM,A64,H⟩:=bnd H;try dsimp only at H
          by_cases c65:UM=true
          case neg=>
           replace c65:=Bool.eq_false_iff.mpr c65;subst c65;replace H:=ifF H;obtain rfl:=sj H;obtain⟨r2a,r3a,r4a,r5a,r6a,r7a,r8a,ona,ooa,opa,oqa,ora,osa,ota⟩:=cz7 dx.out
           go_wp2_with (first|(go_at_call 70;(with_reducible refine(Zbv.calls kj16 aN _ _ ay _ _ aX df dh _ _ bE cO true _ (cM (Kd.Zaf gz.out HB.out)) iE.out (cM (Kd.Zaf gM.out HB.out)) iW.out (cM (Kd.Zaf lT.out HB.out)) lK.out A59.out).mono ?_);rintro e w71 ⟨rfl,hb⟩;replace dx:=Za.mk (kB dx.out hb);replace HB:=Za.mk (bS HB.out hb);(try clear hb);(try clear hb2);(try clear hk);(try clear hi);obtain⟨r9a,rAa,rBa,rCa,rDa,rEa,rFa,oua,ova,owa,oxa,oya,oza,o0a⟩:=cz7 dx.out;have FV:0≤(cO:Int):=odt;have Gq:cO<(l0.length:Int):=odt;obtain⟨cRa,YD,YY,TT,AL,z8,yY⟩:=at_L4 HR0.out cO FV Gq;cases TT;replace AL:=hB HB.out AL;have JO:=Za.mk yY;have JC:=Za.mk z8;clear yY z8;replace FV:=eq_true FV;replace Gq:=eq_true Gq)|(go_at_call 72;(with_reducible refine(Zbd.calls kj16 _ _ (Ze l0 cO) false _ (cM (Kd.Zaf JO.out HB.out)) JC.out A64.out).mono ?_);rintro e w' ⟨rfl,⟨nd,rfl⟩⟩))
           go_ret;exact⟨eR,bM HB.out⟩
          subst c65;rw[if_pos rfl]at H;obtain⟨UN,A66,H⟩:=bnd H;try dsimp only at H
          obtain rfl:=sj H;obtain⟨ria,rja,rka,rla,rma,rna,roa,nTa,nUa,nVa,nWa,nXa,nYa,oaa⟩:=cz7 dx.out
          go_wp2_with (first|(go_at_call 70;(with_reducible refine(Zbv.calls kj16 aN _ _ ay _ _ aX df dh _ _ bE cO true _ (cM (Kd.Zaf gz.out HB.out)) iE.out (cM (Kd.Zaf gM.out HB.out)) iW.out (cM (Kd.Zaf lT.out HB.out)) lK.out A59.out).mono ?_);rintro e w68 ⟨rfl,hb⟩;replace dx:=Za.mk (kB dx.out hb);replace HB:=Za.mk (bS HB.out hb);(try clear hb);(try clear hb2);(try clear hk);(try clear hi);obtain⟨rua,rva,rxa,rya,rza,r0a,r1a,oga,oha,oia,oja,oka,ola,oma⟩:=cz7 dx.out;have FV:0≤(cO:Int):=odt;have Gq:cO<(l0.length:Int):=odt;obtain⟨cRa,YD,YY,TT,AL,z8,yY⟩:=at_L4 HR0.out cO FV Gq;cases TT;replace AL:=hB HB.out AL;have JO:=Za.mk yY;have JC:=Za.mk z8;clear yY z8;replace FV:=eq_true FV;replace Gq:=eq_true Gq)|(go_at_call 72;(with_reducible refine(Zbd.calls kj16 _ _ (Ze l0 cO) true _ (cM (Kd.Zaf JO.out HB.out)) JC.out A64.out).mono ?_);rintro e w' ⟨rfl,⟨nd,rfl⟩⟩)|(go_at_call 73;(with_reducible refine(Zbg.calls kj16 _ _ ay cO UN _ (cM (Kd.Zaf gz.out (bM HB.out))) iE.out A66.out).mono ?_);rintro e w' ⟨rfl,⟨nd,rfl⟩⟩))
          go_ret;exact⟨eR,bM HB.out⟩
         rw[if_neg c57]at H;have dxa:(aN==4)=false:=beq_eq_false_iff_ne.mpr c57;have dya:(aN !=4)=true:=bne_iff_ne.mpr c57;by_cases c78:aN=5
         case neg=>
          rw[if_neg c78]at H;have d0a:(aN==5)=false:=beq_eq_false_iff_ne.mpr c78;have d1a:(aN !=5)=true:=bne_iff_ne.mpr c78;by_cases c92:(bE.length:Int)=0
          case neg=>
           rw[if_neg c92]at H;have d4a:((bE.length:Int)==0)=false:=beq_eq_false_iff_ne.mpr c92;have d5a:((bE.length:Int) !=0)=true:=bne_iff_ne.mpr c92;have l4a:¬(bE= []):=fun h_=>c92 (by rw[h_];rfl)
           obtain rfl:=sj H;obtain⟨tia,tja,tka,tla,tma,tna,toa,pRa,pSa,pTa,pUa,pVa,pWa,pXa⟩:=cz7 dx.out;go_wp2;go_ret;exact⟨eR,bM HB.out⟩
          rw[if_pos c92]at H;have d4a:((bE.length:Int)==0)=true:=beq_iff_eq.mpr c92;have d5a:((bE.length:Int) !=0)=false:=bne_eq_false_iff_eq.mpr c92;clear c92;by_cases c93:Ce=true
          case neg=>
           replace c93:=Bool.eq_false_iff.mpr c93;subst c93;replace H:=ifF H;obtain rfl:=sj H;obtain⟨tba,tca,tda,tea,tfa,tga,tha,pKa,pLa,pMa,pNa,pOa,pPa,pQa⟩:=cz7 dx.out;go_wp2;go_ret;exact⟨eR,bM HB.out⟩
          subst c93;rw[if_pos rfl]at H;by_cases c94:(ay.length:Int)≥2
          case neg=>
           rw[if_neg c94]at H;have VY:decide (2≤(ay.length:Int))=false:=decide_eq_false c94;have Wd:decide (2≤ay.length)=false:=decide_eq_false (by omega);clear c94;obtain rfl:=sj H;obtain⟨sTa,sUa,sVa,sWa,sXa,sYa,taa,pDa,pEa,pFa,pGa,pHa,pIa,pJa⟩:=cz7 dx.out;go_wp2;go_ret;exact⟨eR,bM HB.out⟩
          rw[if_pos c94]at H;have VY:decide (2≤(ay.length:Int))=true:=decide_eq_true c94;have Wd:decide (2≤ay.length)=true:=decide_eq_true (by omega);clear c94;obtain rfl:=sj H;obtain⟨sMa,sNa,sOa,sPa,sQa,sRa,sSa,p6a,p7a,p8a,p9a,pAa,pBa,pCa⟩:=cz7 dx.out;go_wp2;go_ret;exact⟨eR,bM HB.out⟩
         rw[if_pos c78]at H;have d0a:(aN==5)=true:=beq_iff_eq.mpr c78;have d1a:(aN !=5)=false:=bne_eq_false_iff_eq.mpr c78;clear c78;by_cases c79:(bE.length:Int)=0
         case neg=>
          rw[if_neg c79]at H;have d2a:((bE.length:Int)==0)=false:=beq_eq_false_iff_ne.mpr c79;have d3a:((bE.length:Int) !=0)=true:=bne_iff_ne.mpr c79;have lza:¬(bE= []):=fun h_=>c79 (by rw[h_];rfl)
          obtain rfl:=sj H;obtain⟨sFa,sGa,sHa,sIa,sJa,sKa,sLa,pza,p0a,p1a,p2a,p3a,p4a,p5a⟩:=cz7 dx.out;go_wp2;go_ret;exact⟨eR,bM HB.out⟩
         rw[if_pos c79]at H;have d2a:((bE.length:Int)==0)=true:=beq_iff_eq.mpr c79;have d3a:((bE.length:Int) !=0)=false:=bne_eq_false_iff_eq.mpr c79;clear c79;by_cases c80:aD=true
         case neg=>
          replace c80:=Bool.eq_false_iff.mpr c80;subst c80;replace H:=ifF H;obtain rfl:=sj H;obtain⟨s8a,s9a,sAa,sBa,sCa,sDa,sEa,psa,pta,pua,pva,pwa,pxa,pya⟩:=cz7 dx.out;go_wp2;go_ret;exact⟨eR,bM HB.out⟩
         subst c80;rw[if_pos rfl]at H;obtain⟨UO,A81,H⟩:=bnd H;try dsimp only at H
         by_cases c82:UO=true
         case neg=>
          replace c82:=Bool.eq_false_iff.mpr c82;subst c82;replace H:=ifF H;obtain rfl:=sj H;obtain⟨swa,sxa,sya,sza,s0a,s1a,s2a,pga,pha,pia,pja,pka,pla,pma⟩:=cz7 dx.out
          go_wp2_with (first|(go_at_call 70;(with_reducible refine(Zbv.calls kj16 aN _ _ ay _ _ aX df dh _ _ bE cO false _ (cM (Kd.Zaf gz.out HB.out)) iE.out (cM (Kd.Zaf gM.out HB.out)) iW.out (cM (Kd.Zaf lT.out HB.out)) lK.out A81.out).mono ?_);rintro e w89 ⟨rfl,hb⟩;replace HB:=Za.mk (bS HB.out hb);clear dx;(try clear hb);(try clear hb2);(try clear hk);(try clear hi)))
          go_ret;exact⟨eR,bM HB.out⟩
         subst c82;rw[if_pos rfl]at H;obtain⟨UQ,A83,H⟩:=bnd H;try dsimp only at H
         obtain rfl:=sj H;obtain⟨sma,sna,soa,spa,sqa,sra,sta,oWa,oXa,oYa,paa,pba,pca,pda⟩:=cz7 dx.out
         go_wp2_with (first|(go_at_call 70;(with_reducible refine(Zbv.calls kj16 aN _ _ ay _ _ aX df dh _ _ bE cO true _ (cM (Kd.Zaf gz.out HB.out)) iE.out (cM (Kd.Zaf gM.out HB.out)) iW.out (cM (Kd.Zaf lT.out HB.out)) lK.out A81.out).mono ?_);rintro e w85 ⟨rfl,hb⟩;replace dx:=Za.mk (kB dx.out hb);replace HB:=Za.mk (bS HB.out hb);(try clear hb);(try clear hb2);(try clear hk);(try clear hi);obtain⟨hCa,hDa,hFa,hGa,hHa,sua,sva,fGa,fHa,fIa,fJa,fKa,pea,pfa⟩:=cz7 dx.out)|(go_at_call 74;(with_reducible refine(Zbs.calls kj16 _ _ l0 aN _ _ ay _ _ aX df dh _ _ bE cO UQ _ (cM (Kd.Zaf HR0.out HB.out)) HC0.out (cM (Kd.Zaf gz.out HB.out)) iE.out (cM (Kd.Zaf gM.out HB.out)) iW.out (cM (Kd.Zaf lT.out HB.out)) lK.out A83.out).mono ?_);rintro e w87 ⟨rfl,hb⟩;replace HB:=Za.mk (bS HB.out hb);clear dx;(try clear hb);(try clear hb2);(try clear hk);(try clear hi)))
         go_ret;exact⟨eR,bM HB.out⟩
mutual
def Zaz.j0 : Nat → List Int → Int → Int → Bool → Option (Bool)
 | 0, _, _, _, _ => none
 |k+1,x0,x1,x5,x15=>if x15=true then(some true)else(Zaz.l0 k x0 (wrap64 (x5 - (mx x1 (wrap64 (-x1))))) 0)
def Zaz.l0 : Nat → List Int → Int → Int → Option (Bool)
 | 0, _, _, _ => none
 |k+1,x0,x5,x6=>if x6<(x0.length:Int)then(if 0≤x6 then(if(rd x0 x6)>4398046511104 then(Zaz.j2 k x0 x5 x6 true)else(Zaz.j2 k x0 x5 x6 (decide ((rd x0 x6)<(-4398046511104)))))else(none))else(some false)
def Zaz.j2 : Nat → List Int → Int → Int → Bool → Option (Bool)
 | 0, _, _, _, _ => none
 |k+1,x0,x5,x6,x39=>if x39=true then(some true)else(if 0≤x6 then(if x6<(x0.length:Int)then(if(wrap64 (x5 - (wrap64 ((mx (rd x0 x6) (wrap64 (-(rd x0 x6))))*1048576))))<0 then(some true)else(Zaz.l0 k x0 (wrap64 (x5 - (wrap64 ((mx (rd x0 x6) (wrap64 (-(rd x0 x6))))*1048576)))) (wrap64 (x6+1))))else(none))else(none))
end
def Zaz.f (k:Nat) (l0:List Int) (a1:Int):Option (Bool):=if a1>4611686018427387904 then(Zaz.j0 k l0 a1 4611686018427387904 true)else(Zaz.j0 k l0 a1 4611686018427387904 (decide (a1<(-4611686018427387904))))
set_option maxRecDepth 100000 in
theorem Zaz.calls (k : Nat) (A0 : Option Addr) (c0 : Nat) (l0 : List Int) (a1 : Int) (r : Bool) (w : World) (hr0 : Kd.C (Kd.int .i64) w A0 l0.length l0) (hc0 : l0.length ≤ c0) (h : Zaz.f k l0 a1 = some r) :
  Calls Tryz.prog 40 #[.slice A0 l0.length c0,.int .i64 a1] w fun e w'=>e= .returned (.bool r)∧Below w.heap.size w w':=by
 have HR0:=Za.mk hr0;have HC0:=Za.mk hc0;clear hr0 hc0;have HB:=Za.mk (Below.refl w.heap.size w);have H:(if a1>4611686018427387904 then(Zaz.j0 k l0 a1 4611686018427387904 true)else(Zaz.j0 k l0 a1 4611686018427387904 (decide (a1<(-4611686018427387904)))))=some r:=h;clear h;have HC3:=Za.mk H;clear H;go_enter Tryz.func40,Tryz.ntmps40
 go_upto_region 2 with (fail)
 repeat(go_quiet (fail);go_upto_region 2 with (fail))
 go_cut [15] (fun v15 wc=>∃(kq:Nat) (Lh:Bool),v15= .bool Lh∧Za (Zaz.j0 kq l0 a1 4611686018427387904 Lh=some r)∧Za (kq≤k)∧Za (Below w.heap.size w wc))
 case first=>
  have H:=HC3.out;clear HC3;by_cases c4:a1>4611686018427387904
  case neg=>
   rw[if_neg c4]at H;have dV:decide (4611686018427387904<a1)=false:=decide_eq_false c4;clear c4
   (first|rw[dV]|(simp only[Zdk,Zdn];rw[dV])|skip)
   have H':=Za.mk H;clear H;go_wp2
   repeat(go_quiet (fail);try go_wp2)
   go_meet
   case rel=>exact⟨_,(decide (a1<(-4611686018427387904))),eS,H',⟨by first|omega|exact Nat.le_refl _⟩,⟨bM HB.out⟩⟩
  rw[if_pos c4]at H;have dV:decide (4611686018427387904<a1)=true:=decide_eq_true c4;clear c4
  (first|rw[dV]|(simp only[Zdk,Zdn];rw[dV])|skip)
  have H':=Za.mk H;clear H;go_wp2
  repeat(go_quiet (fail);try go_wp2)
  go_meet
  case rel=>exact⟨_,(true),eS,H',⟨by first|omega|exact Nat.le_refl _⟩,⟨bM HB.out⟩⟩
 case rest=>
  clear HC3;try clear p2
  try clear c4
  try clear dV
  obtain⟨kq,Lh,rfl,HA,HJ2,HB⟩:=hcut
  cases kq with
  | zero => exact absurd HA.out (by simp [Zaz.j0])
  |succ kj2=>
   have H:=HA.out;clear HA;simp only[Zaz.j0]at H;by_cases c5:Lh=true
   case pos=>
    subst c5;rw[if_pos rfl]at H;obtain rfl:=sj H;go_wp2
    repeat(go_quiet (fail);try go_wp2)
    go_ret;exact⟨eR,bM HB.out⟩
   replace c5:=Bool.eq_false_iff.mpr c5;subst c5;replace H:=ifF H;obtain⟨ji6,hji6⟩:∃j_:Int,(mx a1 (wrap64 (-a1)))=j_:=⟨_,rfl⟩;replace H:(Zaz.l0 kj2 l0 (wrap64 (4611686018427387904 - (ji6))) 0)=some r:=by first|(rw[hji6]at H;exact H)|(simp only[hji6]at H ⊢;exact H)
   have hji6_:(if a1<(wrap64 (-a1))then(wrap64 (-a1))else a1)=ji6:=hji6;have H':=Za.mk H;clear H;go_wp2
   repeat(go_quiet (fail);try go_wp2)
   go_loopg [5,6] kj2 (fun kq v5 v6 w'=>∃(aD:Int) (af:Int),v5= .int .i64 aD∧v6= .int .i64 af∧Za (Zaz.l0 kq l0 aD af=some r)∧Za (kq≤kj2)∧Za (Below w.heap.size w w'))
   case atStart=>exact⟨(wrap64 (4611686018427387904 - (ji6))),(0),(by first|rfl|(simp;done)|(simp only[←hji6]<;>(first|rfl|simp))|(simp[*];done)),eS,H',⟨Nat.le_refl _⟩,⟨bM HB.out⟩⟩
   case round=>
    clear H';try clear p2
    try clear c4
    try clear dV
    try clear c5
    try clear p6
    try clear p2
    obtain⟨aD,af,rfl,rfl,HA,HK2,HB⟩:=hrel
    cases gk with
    | zero => exact absurd HA.out (by simp [Zaz.l0])
    |succ k2=>
     have H:=HA.out;clear HA;simp only[Zaz.l0]at H;by_cases c7:af<(l0.length:Int)
     case neg=>
      rw[if_neg c7]at H;have mV:decide (af<(l0.length:Int))=false:=decide_eq_false c7;clear c7;obtain rfl:=sj H;go_wp2
      repeat(go_quiet (fail);try go_wp2)
      go_ret;exact⟨by first|rfl|(simp[Zdi,Zdj]<;>rfl)|(simp only[←hji6];first|rfl|(simp[Zdi,Zdj]<;>rfl))|(simp[*,Zdi,Zdj]<;>rfl),bM HB.out⟩
     rw[if_pos c7]at H;have mV:decide (af<(l0.length:Int))=true:=decide_eq_true c7;clear c7;have HC8:=Za.mk H;clear H
     go_upto_region 8 with (fail)
     repeat(go_quiet (fail);go_upto_region 8 with (fail))
     go_cut [39] (fun v39 wc=>∃(kq:Nat) (Ll:Bool),v39= .bool Ll∧Za (Zaz.j2 kq l0 aD af Ll=some r)∧Za (kq≤k2)∧Za (Below w.heap.size w wc))
     case first=>
      have H:=HC8.out;clear HC8;obtain⟨yG,H⟩:=ifT H
      (first|rw[yG]|(simp only[Zdk,Zdn];rw[yG])|skip)
      by_cases c10:(rd l0 af)>4398046511104
      case pos=>
       rw[if_pos c10]at H;have qP:decide (4398046511104<(rd l0 af))=true:=decide_eq_true c10;clear c10;have H':=Za.mk H;clear H;have Ea:0≤(af:Int):=odt;have Eb:af<(l0.length:Int):=odt;obtain⟨VL,rfl,vS⟩:=Kd.Zb0 HR0.out af Ea Eb;replace vS:=hB HB.out vS;replace Ea:=eq_true Ea;replace Eb:=eq_true Eb;go_wp2
       repeat(go_quiet (fail);try go_wp2)
       go_meet
       case rel=>exact⟨_,(true),eS,H',⟨by have:=HJ2.out;have:=HK2.out;first|omega|exact Nat.le_refl _⟩,⟨bM HB.out⟩⟩
      rw[if_neg c10]at H;have qP:decide (4398046511104<(rd l0 af))=false:=decide_eq_false c10;clear c10;have H':=Za.mk H;clear H;have Ea:0≤(af:Int):=odt;have Eb:af<(l0.length:Int):=odt;obtain⟨VL,rfl,vS⟩:=Kd.Zb0 HR0.out af Ea Eb;replace vS:=hB HB.out vS;replace Ea:=eq_true Ea;replace Eb:=eq_true Eb;have QT:0≤(af:Int):=odt;have QV:af<(l0.length:Int):=odt;obtain⟨cSa,iga,JX⟩:=Kd.Zb0 HR0.out af QT QV;obtain rfl:VL=cSa:=(by injection iga);replace JX:=hB HB.out JX;replace QT:=eq_true QT;replace QV:=eq_true QV;go_wp2
      repeat(go_quiet (fail);try go_wp2)
      go_meet
      case rel=>exact⟨_,(decide ((rd l0 af)<(-4398046511104))),eS,H',⟨by have:=HJ2.out;have:=HK2.out;first|omega|exact Nat.le_refl _⟩,⟨bM HB.out⟩⟩
     case rest=>
      clear HC8;try clear c1
      try clear p2
      try clear c4
      try clear dV
      try clear p4
      try clear q4
      try clear hx4
      try clear c5
      try clear p6
      try clear c7
      try clear mV
      try clear c9
      try clear yG
      try clear c10
      try clear qP
      try clear vS
      try clear JX
      try clear p2
      try clear Ea
      try clear QT
      try clear p6
      try clear Eb
      try clear QV
      obtain⟨kq,Ll,rfl,HA,HJ7,HB⟩:=hcut
      cases kq with
      | zero => exact absurd HA.out (by simp [Zaz.j2])
      |succ kj7=>
       have H:=HA.out;clear HA;simp only[Zaz.j2]at H;by_cases c11:Ll=true
       case pos=>
        subst c11;rw[if_pos rfl]at H;obtain rfl:=sj H;go_wp2
        repeat(go_quiet (fail);try go_wp2)
        go_ret;exact⟨by first|rfl|(simp[Zdi,Zdj]<;>rfl)|(simp only[←hji6];first|rfl|(simp[Zdi,Zdj]<;>rfl))|(simp[*,Zdi,Zdj]<;>rfl),bM HB.out⟩
       replace c11:=Bool.eq_false_iff.mpr c11;subst c11;replace H:=ifF H;obtain⟨ll,H⟩:=ifT H;obtain⟨qR,H⟩:=ifT H;obtain⟨mi,hji14⟩:∃j_:Int,(mx (rd l0 af) (wrap64 (-(rd l0 af))))=j_:=⟨_,rfl⟩;replace H:(if(wrap64 (aD - (wrap64 ((mi)*1048576))))<0 then(some true)else(Zaz.l0 kj7 l0 (wrap64 (aD - (wrap64 ((mi)*1048576)))) (wrap64 (af+1))))=some r:=by first|(rw[hji14]at H;exact H)|(simp only[hji14]at H ⊢;exact H)
       have hji14_:(if(rd l0 af)<(wrap64 (-(rd l0 af)))then(wrap64 (-(rd l0 af)))else(rd l0 af))=mi:=hji14;by_cases c15:(wrap64 (aD - (wrap64 ((mi)*1048576))))<0
       case pos=>
        rw[if_pos c15]at H;have lU:decide ((wrap64 (aD - (wrap64 ((mi)*1048576))))<0)=true:=decide_eq_true c15;clear c15;obtain rfl:=sj H;have FW:0≤(af:Int):=odt;have Gr:af<(l0.length:Int):=odt;obtain⟨Qw,rfl,AO⟩:=Kd.Zb0 HR0.out af FW Gr;replace AO:=hB HB.out AO;replace FW:=eq_true FW;replace Gr:=eq_true Gr;have FX:0≤(af:Int):=odt;have Gs:af<(l0.length:Int):=odt;obtain⟨Qx,TU,AP⟩:=Kd.Zb0 HR0.out af FX Gs;obtain rfl:Qw=Qx:=(by injection TU);replace AP:=hB HB.out AP;replace FX:=eq_true FX;replace Gs:=eq_true Gs;go_wp2
        repeat(go_quiet (fail);try go_wp2)
        go_ret;exact⟨by first|rfl|(simp[Zdi,Zdj]<;>rfl)|(simp only[←hji6,←hji14];first|rfl|(simp[Zdi,Zdj]<;>rfl))|(simp[*,Zdi,Zdj]<;>rfl),bM HB.out⟩
       rw[if_neg c15]at H;have lU:decide ((wrap64 (aD - (wrap64 ((mi)*1048576))))<0)=false:=decide_eq_false c15;clear c15;have H':=Za.mk H;clear H;have FW:0≤(af:Int):=odt;have Gr:af<(l0.length:Int):=odt;obtain⟨Qw,rfl,AO⟩:=Kd.Zb0 HR0.out af FW Gr;replace AO:=hB HB.out AO;replace FW:=eq_true FW;replace Gr:=eq_true Gr;have FX:0≤(af:Int):=odt;have Gs:af<(l0.length:Int):=odt;obtain⟨Qx,TU,AP⟩:=Kd.Zb0 HR0.out af FX Gs;obtain rfl:Qw=Qx:=(by injection TU);replace AP:=hB HB.out AP;replace FX:=eq_true FX;replace Gs:=eq_true Gs;go_wp2
       repeat(go_quiet (fail);try go_wp2)
       go_roundg kj7
       case measure=>have:=HJ2.out;have:=HK2.out;have:=HJ7.out;omega
       case rel=>exact⟨(wrap64 (aD - (wrap64 ((mi)*1048576)))),(wrap64 (af+1)),(by first|rfl|(simp;done)|(simp only[←hji14]<;>(first|rfl|simp))|(simp[*];done)),eS,H',⟨by have:=HJ2.out;have:=HK2.out;have:=HJ7.out;omega⟩,⟨bM HB.out⟩⟩
mutual
def Zay.j0 : Nat → List (List (S59)) → Bool → Int → List Int → List Int → Int → Int → List (List Int) → Int → Option (Int)
 | 0, _, _, _, _, _, _, _, _, _ => none
 |k+1,x0,x14,Bg,Bh,wu,Bi,ww,Bj,Bl=>if x14=true then(some 44)else((Zc2.f k Bg Bh wu Bi ww Bj Bl).bind fun nS=>(Zay.l0 k x0 nS 0 Bg Bh wu Bi ww Bj Bl))
def Zay.l0 : Nat → List (List (S59)) → List Int → Int → Int → List Int → List Int → Int → Int → List (List Int) → Int → Option (Int)
 | 0, _, _, _, _, _, _, _, _, _, _ => none
 |k+1,x0,x5,x6,Bg,Bh,wu,Bi,ww,Bj,Bl=>if x6<(x5.length:Int)then(if 0≤x6 then(if(rd x5 x6)<0 then(some 43)else(if(rd x5 x6)≥(x0.length:Int)then(some 43)else(Zay.l0 k x0 x5 (wrap64 (x6+1)) Bg Bh wu Bi ww Bj Bl)))else(none))else((Zar.f k x0 Bg Bh wu Bi ww Bj Bl).bind fun UR=>(if UR=true then((Zaz.f k wu ww).bind fun UT=>(if UT=true then(some 45)else(some 0)))else(some 44)))
end
def Zay.f (k:Nat) (l0:List (List (S59))) (aN:Int) (ay:List Int) (aX:List Int) (df:Int) (dh:Int) (bE:List (List Int)) (cO:Int):Option (Int):=if aN<0 then(Zay.j0 k l0 true aN ay aX df dh bE cO)else(Zay.j0 k l0 (decide (aN>6)) aN ay aX df dh bE cO)
set_option maxRecDepth 100000 in
theorem Zay.calls (k : Nat) (A0 : Option Addr) (c0 : Nat) (l0 : List (List (S59))) (aN : Int) (eF : Option Addr) (dU : Nat) (ay : List Int) (fG : Option Addr) (fH : Nat) (aX : List Int) (df : Int) (dh : Int) (jv : Option Addr) (j5 : Nat) (bE : List (List Int)) (cO : Int) (r : Int) (w : World) (hr0 : Kd.C (Kd.slice 59 k59) w A0 l0.length l0) (hc0 : l0.length ≤ c0) (lD : Kd.C (Kd.int .i64) w eF ay.length ay) (l9 : ay.length ≤ dU) (mO : Kd.C (Kd.int .i64) w fG aX.length aX) (mM : aX.length ≤ fH) (sQ : Kd.C (Kd.slice 3 (Kd.int .i64)) w jv bE.length bE) (sP : bE.length ≤ j5) (h : Zay.f k l0 aN ay aX df dh bE cO = some r) :
  Calls Tryz.prog 19 #[.slice A0 l0.length c0,.agg #[.int .i64 aN,.slice eF ay.length dU,.slice fG aX.length fH,.int .i64 df,.int .i64 dh,.slice jv bE.length j5,.int .i64 cO]] w fun e w'=>e= .returned (.int .i64 r)∧Below w.heap.size w w':=by
 have hu40:=Tryz.underlying40;have HR0:=Za.mk hr0;have HC0:=Za.mk hc0;clear hr0 hc0;have gz:=Za.mk lD;have iE:=Za.mk l9;clear lD l9;have gM:=Za.mk mO;have iW:=Za.mk mM;clear mO mM;have lT:=Za.mk sQ;have lK:=Za.mk sP;clear sQ sP;have HB:=Za.mk (Below.refl w.heap.size w);have H:(if aN<0 then(Zay.j0 k l0 true aN ay aX df dh bE cO)else(Zay.j0 k l0 (decide (aN>6)) aN ay aX df dh bE cO))=some r:=h;clear h;have HC3:=Za.mk H;clear H;go_enter Tryz.func19,Tryz.ntmps19
 go_upto_region 1 with (first|((with_reducible refine Zap (N:=3) rfl ?_);(try(refine Zb9 (by rfl) ?_;dsimp only));refine bx 3 #[.int .i64 aN,.slice eF ay.length dU,.slice fG aX.length fH,.int .i64 df,.int .i64 dh,.slice jv bE.length j5,.int .i64 cO] 40 ?_;intro QO hg w4 hbox hb;have kg:=Za.mk (hbox);have kLa:=Za.mk ((gE hg HB.out:w.heap.size≤QO));replace HB:=Za.mk (bS HB.out hb);clear hb hbox hg))
 (try simp only[Act.put,List.setIfInBounds_toArray,List.set_cons_zero,List.set_cons_succ])
 go_cut [14] (fun v14 wc=>∃(kq:Nat) (Lg:Bool),v14= .bool Lg∧Za (Zay.j0 kq l0 Lg aN ay aX df dh bE cO=some r)∧Za (kq≤k)∧Za (wc.heap[QO]? =some (.cells #[.int .i64 aN,(.slice eF ay.length dU),(.slice fG aX.length fH),.int .i64 df,.int .i64 dh,(.slice jv bE.length j5),.int .i64 cO] 40 (0,0)))∧Za (Below w.heap.size w wc))
 case first=>
  have H:=HC3.out;clear HC3;by_cases c5:aN<0
  case neg=>
   rw[if_neg c5]at H;have dS:decide (aN<0)=false:=decide_eq_false c5;clear c5
   (first|rw[dS]|(simp only[Zdk,Zdn];rw[dS])|skip)
   have H':=Za.mk H;clear H;obtain⟨vk,vo,Di,GM,GN,GQ,GR,uX,uY,Cx,GI,GJ,GK,GL⟩:=cz7 kg.out;go_wp2
   go_meet
   case rel=>exact⟨_,(decide (aN>6)),eS,H',⟨by first|omega|exact Nat.le_refl _⟩,⟨by(with_reducible repeat(first|refine Zab ?_ _|refine Zad ?_|refine Zaa ?_ _));exact kg.out⟩,⟨bM HB.out⟩⟩
  rw[if_pos c5]at H;have dS:decide (aN<0)=true:=decide_eq_true c5;clear c5
  (first|rw[dS]|(simp only[Zdk,Zdn];rw[dS])|skip)
  have H':=Za.mk H;clear H;obtain⟨nH,nI,nW,qI,qJ,KC,KD,nE,nG,nV,qG,qH,K6,K7⟩:=cz7 kg.out;go_wp2
  go_meet
  case rel=>exact⟨_,(true),eS,H',⟨by first|omega|exact Nat.le_refl _⟩,⟨by(with_reducible repeat(first|refine Zab ?_ _|refine Zad ?_|refine Zaa ?_ _));exact kg.out⟩,⟨bM HB.out⟩⟩
 case rest=>
  clear HC3;try clear c1
  try clear p2
  try clear c5
  try clear dS
  try clear nH nI nW qI qJ KC KD nE nG nV qG qH K6 K7
  try clear vk vo Di GM GN GQ GR uX uY Cx GI GJ GK GL
  obtain⟨kq,Lg,rfl,HA,HJ2,kg,HB⟩:=hcut
  cases kq with
  | zero => exact absurd HA.out (by simp [Zay.j0])
  |succ kj2=>
   have H:=HA.out;clear HA;simp only[Zay.j0]at H;by_cases c8:Lg=true
   case pos=>
    subst c8;rw[if_pos rfl]at H;obtain rfl:=sj H;go_wp2;go_ret;exact⟨eR,bM HB.out⟩
   replace c8:=Bool.eq_false_iff.mpr c8;subst c8;replace H:=ifF H;obtain⟨nS,A9,H⟩:=bnd H;try dsimp only at H
   have H':=Za.mk H;clear H;obtain⟨qy,qz,q8,qW,qX,CF,CJ,qp,qw,qx,qU,qV,Cf,Cg⟩:=cz7 kg.out
   go_wp2_with (first|((with_reducible refine Zat (f:=38) rfl ?_);refine gl 16 Tryz.func38 #[.agg #[.int .i64 aN,.slice eF ay.length dU,.slice fG aX.length fH,.int .i64 df,.int .i64 dh,.slice jv bE.length j5,.int .i64 cO]] ?_;(with_reducible refine(Zc2.calls kj2 aN _ _ ay _ _ aX df dh _ _ bE cO nS _ (cM (Kd.Zaf gz.out HB.out)) iE.out (cM (Kd.Zaf gM.out HB.out)) iW.out (cM (Kd.Zaf lT.out HB.out)) lK.out A9.out).mono ?_);rintro e w11 ⟨jpa,rfl,ho0,hb⟩;refine⟨_,rfl,?_⟩;have cfa:=Za.mk (Kd.Zbp ho0 (Zaj (bM HB.out)));replace kg:=Za.mk (kB kg.out hb);replace HB:=Za.mk (bS HB.out hb);(try clear hb);(try clear hb2);(try clear hk);(try clear hi);(try clear ho0)))
   go_loopg [6] kj2 (fun kq v6 w'=>∃(af:Int),v6= .int .i64 af∧Za (Zay.l0 kq l0 nS af aN ay aX df dh bE cO=some r)∧Za (kq≤kj2)∧Za (Kd.R (Kd.int .i64) 3 w' w.heap.size (fun _=>True) jpa nS)∧Za (w'.heap[QO]? =some (.cells #[.int .i64 aN,(.slice eF ay.length dU),(.slice fG aX.length fH),.int .i64 df,.int .i64 dh,(.slice jv bE.length j5),.int .i64 cO] 40 (0,0)))∧Za (Below w.heap.size w w'))
   case atStart=>exact⟨(0),eS,H',⟨Nat.le_refl _⟩,⟨rM cfa.out⟩,⟨by(with_reducible repeat(first|refine Zab ?_ _|refine Zad ?_|refine Zaa ?_ _));exact kg.out⟩,⟨bM HB.out⟩⟩
   case round=>
    clear H';try clear c1
    try clear p2
    try clear c3
    try clear c5
    try clear dS
    try clear c8
    try clear qy qz q8 qW qX CF CJ qp qw qx qU qV Cf Cg
    try clear nH nI nW qI qJ KC KD nE nG nV qG qH K6 K7
    try clear vk vo Di GM GN GQ GR uX uY Cx GI GJ GK GL
    try clear p2
    obtain⟨af,rfl,HA,HK2,bY,kg,HB⟩:=hrel
    cases gk with
    | zero => exact absurd HA.out (by simp [Zay.l0])
    |succ k2=>
     have H:=HA.out;clear HA;simp only[Zay.l0]at H;by_cases c12:af<(nS.length:Int)
     case neg=>
      rw[if_neg c12]at H;have ll:decide (af<(nS.length:Int))=false:=decide_eq_false c12;clear c12;obtain⟨UR,A19,H⟩:=bnd H;try dsimp only at H
      by_cases c20:UR=true
      case neg=>
       replace c20:=Bool.eq_false_iff.mpr c20;subst c20;replace H:=ifF H;obtain rfl:=sj H;obtain⟨YQ,ama,Uf⟩:=Kd.Za9 bY.out;subst Uf;obtain⟨gba,gca,gda,gea,gfa,gga,gha,eta,eua,eva,ewa,exa,eya,eza⟩:=cz7 kg.out
       go_wp2_with (first|((with_reducible refine Zat (f:=39) rfl ?_);refine gl 39 Tryz.func39 #[.slice A0 l0.length c0,.agg #[.int .i64 aN,.slice eF ay.length dU,.slice fG aX.length fH,.int .i64 df,.int .i64 dh,.slice jv bE.length j5,.int .i64 cO]] ?_;(with_reducible refine(Zar.calls k2 _ _ l0 aN _ _ ay _ _ aX df dh _ _ bE cO false _ (cM (Kd.Zaf HR0.out HB.out)) HC0.out (cM (Kd.Zaf gz.out HB.out)) iE.out (cM (Kd.Zaf gM.out HB.out)) iW.out (cM (Kd.Zaf lT.out HB.out)) lK.out A19.out).mono ?_);rintro e w35 ⟨rfl,hb⟩;refine⟨_,rfl,?_⟩;replace HB:=Za.mk (bS HB.out hb);clear bY kg;(try clear hb);(try clear hb2);(try clear hk);(try clear hi)))
       go_ret;exact⟨eR,bM HB.out⟩
      subst c20;rw[if_pos rfl]at H;obtain⟨UT,A21,H⟩:=bnd H;try dsimp only at H
      by_cases c22:UT=true
      case pos=>
       subst c22;rw[if_pos rfl]at H;obtain rfl:=sj H;obtain⟨jF,jG,MK⟩:=Kd.Za9 bY.out;subst MK;obtain⟨F9,FB,FC,FD,FE,qga,qha,Fp,Fq,Fs,Fu,Fv,mRa,mSa⟩:=cz7 kg.out
       go_wp2_with (first|((with_reducible refine Zat (f:=39) rfl ?_);refine gl 39 Tryz.func39 #[.slice A0 l0.length c0,.agg #[.int .i64 aN,.slice eF ay.length dU,.slice fG aX.length fH,.int .i64 df,.int .i64 dh,.slice jv bE.length j5,.int .i64 cO]] ?_;(with_reducible refine(Zar.calls k2 _ _ l0 aN _ _ ay _ _ aX df dh _ _ bE cO true _ (cM (Kd.Zaf HR0.out HB.out)) HC0.out (cM (Kd.Zaf gz.out HB.out)) iE.out (cM (Kd.Zaf gM.out HB.out)) iW.out (cM (Kd.Zaf lT.out HB.out)) lK.out A19.out).mono ?_);rintro e w25 ⟨rfl,hb⟩;refine⟨_,rfl,?_⟩;replace kg:=Za.mk (kB kg.out hb);replace HB:=Za.mk (bS HB.out hb);clear bY;(try clear hb);(try clear hb2);(try clear hk);(try clear hi);obtain⟨J5,J6,Mh,Mi,Mj,fPa,fQa,Jr,Js,LB,LC,LD,eia,eja⟩:=cz7 kg.out)|((with_reducible refine Zat (f:=40) rfl ?_);refine gl 45 Tryz.func40 #[.slice fG aX.length fH,.int .i64 dh] ?_;(with_reducible refine(Zaz.calls k2 _ _ aX dh true _ (cM (Kd.Zaf gM.out HB.out)) iW.out A21.out).mono ?_);rintro e w27 ⟨rfl,hb⟩;refine⟨_,rfl,?_⟩;replace HB:=Za.mk (bS HB.out hb);clear kg;(try clear hb);(try clear hb2);(try clear hk);(try clear hi)))
       go_ret;exact⟨eR,bM HB.out⟩
      replace c22:=Bool.eq_false_iff.mpr c22;subst c22;replace H:=ifF H;obtain rfl:=sj H;obtain⟨tpa,tua,ioa⟩:=Kd.Za9 bY.out;subst ioa;obtain⟨yE,yF,Sm,Sn,Sq,fRa,fSa,yg,yh,Rw,Rx,Ry,eka,ela⟩:=cz7 kg.out
      go_wp2_with (first|((with_reducible refine Zat (f:=39) rfl ?_);refine gl 39 Tryz.func39 #[.slice A0 l0.length c0,.agg #[.int .i64 aN,.slice eF ay.length dU,.slice fG aX.length fH,.int .i64 df,.int .i64 dh,.slice jv bE.length j5,.int .i64 cO]] ?_;(with_reducible refine(Zar.calls k2 _ _ l0 aN _ _ ay _ _ aX df dh _ _ bE cO true _ (cM (Kd.Zaf HR0.out HB.out)) HC0.out (cM (Kd.Zaf gz.out HB.out)) iE.out (cM (Kd.Zaf gM.out HB.out)) iW.out (cM (Kd.Zaf lT.out HB.out)) lK.out A19.out).mono ?_);rintro e w30 ⟨rfl,hb⟩;refine⟨_,rfl,?_⟩;replace kg:=Za.mk (kB kg.out hb);replace HB:=Za.mk (bS HB.out hb);clear bY;(try clear hb);(try clear hb2);(try clear hk);(try clear hi);obtain⟨Sw,Sy,Sz,S9,SA,fVa,fWa,R5,R6,R7,R8,R9,eoa,epa⟩:=cz7 kg.out)|((with_reducible refine Zat (f:=40) rfl ?_);refine gl 45 Tryz.func40 #[.slice fG aX.length fH,.int .i64 dh] ?_;(with_reducible refine(Zaz.calls k2 _ _ aX dh false _ (cM (Kd.Zaf gM.out HB.out)) iW.out A21.out).mono ?_);rintro e w32 ⟨rfl,hb⟩;refine⟨_,rfl,?_⟩;replace HB:=Za.mk (bS HB.out hb);clear kg;(try clear hb);(try clear hb2);(try clear hk);(try clear hi)))
      go_ret;exact⟨eR,bM HB.out⟩
     rw[if_pos c12]at H;have ll:decide (af<(nS.length:Int))=true:=decide_eq_true c12;clear c12;obtain⟨qR,H⟩:=ifT H;by_cases c14:(rd nS af)<0
     case pos=>
      rw[if_pos c14]at H;have nN:decide ((rd nS af)<0)=true:=decide_eq_true c14;clear c14;obtain rfl:=sj H;obtain⟨jg,iX,BN⟩:=Kd.Za9 bY.out;subst BN;have wW:0≤(af:Int):=odt;have xh:af<(nS.length:Int):=odt;obtain⟨Ld,rfl,Pk⟩:=Kd.Zb0 (Kd.Za3 bY.out).2.2 af wW xh;replace wW:=eq_true wW;replace xh:=eq_true xh;go_wp2;go_ret;exact⟨eR,bM HB.out⟩
     rw[if_neg c14]at H;have nN:decide ((rd nS af)<0)=false:=decide_eq_false c14;clear c14;by_cases c16:(rd nS af)≥(l0.length:Int)
     case pos=>
      rw[if_pos c16]at H;have xK:decide ((l0.length:Int)≤(rd nS af))=true:=decide_eq_true c16;clear c16;obtain rfl:=sj H;obtain⟨fe,eQ,wR⟩:=Kd.Za9 bY.out;subst wR;have wW:0≤(af:Int):=odt;have xh:af<(nS.length:Int):=odt;obtain⟨Ld,rfl,Pk⟩:=Kd.Zb0 (Kd.Za3 bY.out).2.2 af wW xh;replace wW:=eq_true wW;replace xh:=eq_true xh;have FY:0≤(af:Int):=odt;have Gt:af<(nS.length:Int):=odt;obtain⟨Qy,TV,Yi⟩:=Kd.Zb0 (Kd.Za3 bY.out).2.2 af FY Gt;obtain rfl:Ld=Qy:=(by injection TV);replace FY:=eq_true FY;replace Gt:=eq_true Gt;go_wp2;go_ret;exact⟨eR,bM HB.out⟩
     rw[if_neg c16]at H;have xK:decide ((l0.length:Int)≤(rd nS af))=false:=decide_eq_false c16;clear c16;have H':=Za.mk H;clear H;obtain⟨gT,gW,DY⟩:=Kd.Za9 bY.out;subst DY;have wW:0≤(af:Int):=odt;have xh:af<(nS.length:Int):=odt;obtain⟨Ld,rfl,Pk⟩:=Kd.Zb0 (Kd.Za3 bY.out).2.2 af wW xh;replace wW:=eq_true wW;replace xh:=eq_true xh;have FY:0≤(af:Int):=odt;have Gt:af<(nS.length:Int):=odt;obtain⟨Qy,TV,Yi⟩:=Kd.Zb0 (Kd.Za3 bY.out).2.2 af FY Gt;obtain rfl:Ld=Qy:=(by injection TV);replace FY:=eq_true FY;replace Gt:=eq_true Gt;go_wp2
     go_roundg k2
     case measure=>have:=HJ2.out;have:=HK2.out;omega
     case rel=>exact⟨(wrap64 (af+1)),eS,H',⟨by have:=HJ2.out;have:=HK2.out;omega⟩,⟨rM bY.out⟩,⟨by(with_reducible repeat(first|refine Zab ?_ _|refine Zad ?_|refine Zaa ?_ _));exact kg.out⟩,⟨bM HB.out⟩⟩
def Zbm.j0 : Nat → List (List (S59)) → Bool → Int → List Int → List Int → Option (Int)
 | 0, _, _, _, _, _ => none
 |k+1,x0,x12,Y2,Pw,Px=>if x12=true then((Zay.f k x0 0 Pw Px 0 0 ([]:List (List Int)) 0).bind fun UU=>(some UU))else(if Y2=0 then(if(Pw.length:Int)>0 then(some 44)else(if(Px.length:Int)>0 then(some 44)else(some 0)))else(some 44))
def Zbm.f (k:Nat) (l0:List (List (S59))) (aN:Int) (ay:List Int) (aX:List Int):Option (Int):=if aN=1 then(Zbm.j0 k l0 true aN ay aX)else(Zbm.j0 k l0 (aN==2) aN ay aX)
set_option maxRecDepth 100000 in
theorem Zbm.calls (k : Nat) (A0 : Option Addr) (c0 : Nat) (l0 : List (List (S59))) (aN : Int) (eF : Option Addr) (dU : Nat) (ay : List Int) (fG : Option Addr) (fH : Nat) (aX : List Int) (r : Int) (w : World) (hr0 : Kd.C (Kd.slice 59 k59) w A0 l0.length l0) (hc0 : l0.length ≤ c0) (lD : Kd.C (Kd.int .i64) w eF ay.length ay) (l9 : ay.length ≤ dU) (mO : Kd.C (Kd.int .i64) w fG aX.length aX) (mM : aX.length ≤ fH) (h : Zbm.f k l0 aN ay aX = some r) :
  Calls Tryz.prog 20 #[.slice A0 l0.length c0,.agg #[.int .i64 aN,.slice eF ay.length dU,.slice fG aX.length fH]] w fun e w'=>e= .returned (.int .i64 r)∧Below w.heap.size w w':=by
 have hu26:=Tryz.underlying26;have hu40:=Tryz.underlying40;have HR0:=Za.mk hr0;have HC0:=Za.mk hc0;clear hr0 hc0;have gz:=Za.mk lD;have iE:=Za.mk l9;clear lD l9;have gM:=Za.mk mO;have iW:=Za.mk mM;clear mO mM;have HB:=Za.mk (Below.refl w.heap.size w);have H:(if aN=1 then(Zbm.j0 k l0 true aN ay aX)else(Zbm.j0 k l0 (aN==2) aN ay aX))=some r:=h;clear h;have HC3:=Za.mk H;clear H;go_enter Tryz.func20,Tryz.ntmps20
 go_upto_region 1 with (first|((with_reducible refine Zap (N:=3) rfl ?_);(try(refine Zb9 (by rfl) ?_;dsimp only));refine bx 3 #[.int .i64 aN,.slice eF ay.length dU,.slice fG aX.length fH] 26 ?_;intro Wh hg w4 hbox hb;have sw:=Za.mk (hbox);have kMa:=Za.mk ((gE hg HB.out:w.heap.size≤Wh));replace HB:=Za.mk (bS HB.out hb);clear hb hbox hg))
 (try simp only[Act.put,List.setIfInBounds_toArray,List.set_cons_zero,List.set_cons_succ])
 go_cut [12] (fun v12 wc=>∃(kq:Nat) (Lf:Bool),v12= .bool Lf∧Za (Zbm.j0 kq l0 Lf aN ay aX=some r)∧Za (kq≤k)∧Za (wc.heap[Wh]? =some (.cells #[.int .i64 aN,(.slice eF ay.length dU),(.slice fG aX.length fH)] 26 (0,0)))∧Za (Below w.heap.size w wc))
 case first=>
  have H:=HC3.out;clear HC3;by_cases c5:aN=1
  case neg=>
   rw[if_neg c5]at H;have dS:(aN==1)=false:=beq_eq_false_iff_ne.mpr c5;have oV:(aN !=1)=true:=bne_iff_ne.mpr c5
   (first|rw[dS]|(simp only[Zdk,Zdn];rw[dS])|skip)
   have H':=Za.mk H;clear H;obtain⟨vk,vo,Di,uX,uY,Cx⟩:=cz3 sw.out;go_wp2
   go_meet
   case rel=>exact⟨_,((aN==2)),eS,H',⟨by first|omega|exact Nat.le_refl _⟩,⟨by(with_reducible repeat(first|refine Zab ?_ _|refine Zad ?_|refine Zaa ?_ _));exact sw.out⟩,⟨bM HB.out⟩⟩
  rw[if_pos c5]at H;have dS:(aN==1)=true:=beq_iff_eq.mpr c5;have oV:(aN !=1)=false:=bne_eq_false_iff_eq.mpr c5;clear c5
  (first|rw[dS]|(simp only[Zdk,Zdn];rw[dS])|skip)
  have H':=Za.mk H;clear H;obtain⟨nH,nI,nW,nE,nG,nV⟩:=cz3 sw.out;go_wp2
  go_meet
  case rel=>exact⟨_,(true),eS,H',⟨by first|omega|exact Nat.le_refl _⟩,⟨by(with_reducible repeat(first|refine Zab ?_ _|refine Zad ?_|refine Zaa ?_ _));exact sw.out⟩,⟨bM HB.out⟩⟩
 case rest=>
  clear HC3;try clear c1
  try clear c2
  try clear p2
  try clear c5
  try clear dS
  try clear oV
  try clear nH nI nW nE nG nV
  try clear vk vo Di uX uY Cx
  obtain⟨kq,Lf,rfl,HA,HJ2,sw,HB⟩:=hcut
  cases kq with
  | zero => exact absurd HA.out (by simp [Zbm.j0])
  |succ kj2=>
   have H:=HA.out;clear HA;simp only[Zbm.j0]at H;by_cases c8:Lf=true
   case pos=>
    subst c8;rw[if_pos rfl]at H;obtain⟨UU,A9,H⟩:=bnd H;try dsimp only at H
    obtain rfl:=sj H;obtain⟨qy,qz,q8,qp,qw,qx⟩:=cz3 sw.out
    go_wp2_with (first|((with_reducible refine Zat (f:=19) rfl ?_);refine gl 19 Tryz.func19 #[.slice A0 l0.length c0,.agg #[.int .i64 0,.slice eF ay.length dU,.slice fG aX.length fH,.int .i64 0,.int .i64 0,.slice none 0 0,.int .i64 0]] ?_;(refine(Zay.calls kj2 _ _ l0 0 _ _ ay _ _ aX 0 0 _ _ ([]:List (List Int)) 0 UU _ ?side1 ?side2 ?side3 ?side4 ?side5 ?side6 ?side7 ?side8 A9.out).mono ?_);(case side1=>repeat(first|exact(Kd.Zaf HR0.out HB.out)|(with_reducible refine Kd.C_alloc ?_ _)|(with_reducible refine Kd.Zcm ?_ _)|(with_reducible refine Kd.C_drew ?_)));(case side2=>exact HC0.out);(case side3=>repeat(first|exact(Kd.Zaf gz.out HB.out)|(with_reducible refine Kd.C_alloc ?_ _)|(with_reducible refine Kd.Zcm ?_ _)|(with_reducible refine Kd.C_drew ?_)));(case side4=>exact iE.out);(case side5=>repeat(first|exact(Kd.Zaf gM.out HB.out)|(with_reducible refine Kd.C_alloc ?_ _)|(with_reducible refine Kd.Zcm ?_ _)|(with_reducible refine Kd.C_drew ?_)));(case side6=>exact iW.out);(case side7=>exact Kd.C_nil _ _);(case side8=>exact Nat.le_refl _);rintro e w11 ⟨rfl,hb⟩;refine⟨_,rfl,?_⟩;replace HB:=Za.mk (bS HB.out hb);clear sw;(try clear hb);(try clear hb2);(try clear hk);(try clear hi)))
    go_ret;exact⟨eR,bM HB.out⟩
   replace c8:=Bool.eq_false_iff.mpr c8;subst c8;replace H:=ifF H;by_cases c12:aN=0
   case neg=>
    rw[if_neg c12]at H;have ll:(aN==0)=false:=beq_eq_false_iff_ne.mpr c12;have Ew:(aN !=0)=true:=bne_iff_ne.mpr c12;obtain rfl:=sj H;obtain⟨Xc,Xd,qba,WA,WB,mMa⟩:=cz3 sw.out;go_wp2;go_ret;exact⟨eR,bM HB.out⟩
   rw[if_pos c12]at H;have ll:(aN==0)=true:=beq_iff_eq.mpr c12;have Ew:(aN !=0)=false:=bne_eq_false_iff_eq.mpr c12;clear c12;by_cases c13:(ay.length:Int)>0
   case pos=>
    rw[if_pos c13]at H;have qR:decide (0<(ay.length:Int))=true:=decide_eq_true c13;have QB:decide (0<ay.length)=true:=decide_eq_true (by omega);clear c13;obtain rfl:=sj H;obtain⟨uJ,uK,ym,uC,uD,xO⟩:=cz3 sw.out;go_wp2;go_ret;exact⟨eR,bM HB.out⟩
   rw[if_neg c13]at H;have qR:decide (0<(ay.length:Int))=false:=decide_eq_false c13;have QB:decide (0<ay.length)=false:=decide_eq_false (by omega);clear c13;by_cases c15:(aX.length:Int)>0
   case neg=>
    rw[if_neg c15]at H;have lU:decide (0<(aX.length:Int))=false:=decide_eq_false c15;have BC:decide (0<aX.length)=false:=decide_eq_false (by omega);clear c15;obtain rfl:=sj H;obtain⟨yu,yw,F3,xS,xU,Fb⟩:=cz3 sw.out;go_wp2;go_ret;exact⟨eR,bM HB.out⟩
   rw[if_pos c15]at H;have lU:decide (0<(aX.length:Int))=true:=decide_eq_true c15;have BC:decide (0<aX.length)=true:=decide_eq_true (by omega);clear c15;obtain rfl:=sj H;obtain⟨uL,uM,uN,uE,uF,uG⟩:=cz3 sw.out;go_wp2;go_ret;exact⟨eR,bM HB.out⟩
end Go.Proofs.YtkgjaklnbgdmiaaGreat.P
/- May a constraint be, by the document: the same as model.Con. -/
namespace Go.Proofs.YtkgjaklnbgdmiaaGreat.P
open Go.RowKit Go.Proofs.YtkgjaklnbgdmiaaGreatW.PrintWords Go.Proofs.YtkgjaklnbgdmiaaGreatW.PrintLast Go.Proofs.YtkgjaklnbgdmiaaGreatW.PrintMore
theorem rdLn (xs:List (List Int)) (n:Nat) (h:n<xs.length):Zca xs (n:Int)=xs[n]:=by simp[Zca,List.getD_eq_getElem?_getD,List.getElem?_eq_getElem h]
theorem rdR_dom (xs:List (List Rg)) (v:Int):Ze xs v=domAt xs v:=rfl
theorem insU_len (x : Int) : ∀ l, SS l → (insU x l).length = if x ∈ l then l.length else l.length + 1
  | [], _ => by simp [insU]
  |y::l,h=>by
    obtain⟨hy,hl⟩:=List.pairwise_cons.1 h;unfold insU;by_cases h1:x<y
    · rw [if_pos h1, if_neg]
      · simp
      intro hx
      rcases List.mem_cons.1 hx with e|hx
      · omega
      have:=hy x hx;omega
    rw[if_neg h1];by_cases h2:x=y
    · subst h2;simp
    rw[if_neg h2,List.length_cons,insU_len x l hl];by_cases h3:x ∈ l;rotate_left
    · rw[if_neg h3,if_neg (by simp[h2,h3])];simp
    rw[if_pos h3,if_pos (List.mem_cons_of_mem _ h3)];simp
theorem sd_nodup : ∀ l : List Int, (sd l).length = l.length ↔ l.Nodup
  | [] => by simp [sd]
  |x::l=>by
    have ih:=sd_nodup l;have hl:=Zgy l;have e:=insU_len x (sd l) (sd_ss l);rw[sd,List.nodup_cons,←mem_sd x l];by_cases hx:x ∈ sd l;rotate_left
    · rw [if_neg hx] at e
      rw[e,←ih]
      simp[hx]
    rw[if_pos hx]at e
    constructor
    · intro h
      simp at h
      omega
    exact fun h=>absurd hx h.1
theorem allB_nodup (l:List Int):allB l=decide l.Nodup:=decide_eq_decide.2 (sd_nodup l)
theorem nodup_snoc {l:List Int} {n:Nat} (hn:n<l.length) (h:(l.take n).Nodup) (hd:∀j (hj:j<n),l[n]≠l[j]'(by omega)):(l.take (n+1)).Nodup:=by
  rw[List.take_succ_eq_append_getElem hn,List.nodup_append];refine⟨h,by simp,fun a ha b hb=> ?_⟩;obtain rfl:=List.mem_singleton.1 hb;obtain⟨j,hj,rfl⟩:=List.mem_take_iff_getElem.1 ha;exact fun e=>hd j (by omega) e.symm
theorem others_l0 (l:List Int) (hl:l.length<4611686018427387904):∀(m n:Nat),n+m=l.length→(l.take n).Nodup→Ev (fun k=>Za0.l0 k l (n:Int)) (decide l.Nodup):=by
  intro m
  induction m with
  |zero=>
    intro n h hn;rw[List.take_of_length_le (by omega)]at hn;exact Ev.step (G:=fun _=>some true) (fun k=>by rw[Za0.l0,if_neg (by omega)]) (Ev.const (by simp[hn]))
  |succ m ih=>
    intro n h hn;have hlt:n<l.length:=by omega
    have inner:∀(r q:Nat) (hq:q+r=n),(∀j (hj:j<q),l[n]≠l[j]'(by omega))→Ev (fun k=>Za0.l1 k l (n:Int) (q:Int)) (decide l.Nodup):=by
      intro r
      induction r with
      |zero=>
        intro q hq hd;obtain rfl:q=n:=by omega
        exact Ev.step (fun k=>by rw[Za0.l1,if_neg (by omega),w1 (by omega)]) (ih (q+1) (by omega) (nodup_snoc hlt hn hd))
      |succ r ihr=>
        intro q hq hd;have hql:q<l.length:=by omega
        by_cases e:l[n]=l[q];rotate_left
        · refine Ev.step (fun k => by rw [Za0.l1, if_pos (by omega), if_pos (by omega), if_pos (by omega), if_pos (by omega), if_pos (by omega), Zdo l n hlt, Zdo l q hql, if_neg e, w1 (by omega)]) (ihr (q + 1) (by omega) (fun j hj => ?_))
          by_cases hjq:j=q
          · subst hjq;exact e
          exact hd j (by omega)
        have hnn:¬l.Nodup:=fun hN=>by
          exact List.pairwise_iff_getElem.1 hN q n hql hlt (by omega) e.symm
        rw[decide_eq_false hnn];exact Ev.step (G:=fun _=>some false) (fun k=>by rw[Za0.l1,if_pos (by omega),if_pos (by omega),if_pos (by omega),if_pos (by omega),if_pos (by omega),Zdo l n hlt,Zdo l q hql,if_pos e]) (Ev.pure _)
    exact Ev.step (fun k=>by rw[Za0.l0,if_pos (by omega)];rfl) (inner n 0 (by omega) (fun j hj=>absurd hj (Nat.not_lt_zero j)))
theorem others_ev (l:List Int) (hl:l.length<4611686018427387904):Ev (fun k=>Za0.f k l) (allB l):=by
  rw[allB_nodup];exact others_l0 l hl l.length 0 (by omega) (by simp)
theorem rtruth_l0 (d : List Rg) (hl : d.length ≤ 3000000) : ∀ (m n : Nat), n + m = d.length → Ev (fun k => Zbd.l0 k d (n : Int)) (truB (d.drop n))
  |0,n,h=>by
    rw[List.drop_eq_nil_of_le (by omega)];exact Ev.step (G:=fun _=>some true) (fun k=>by rw[Zbd.l0,if_neg (by omega)]) (Ev.const rfl)
  |m+1,n,h=>by
    have hn:n<d.length:=by omega
    have hat:=show Zba d (n:Int)=d[n]from Zfe d n hn
    have ih:=rtruth_l0 d hl m (n+1) (by omega);rw[List.drop_eq_getElem_cons hn];by_cases h0:d[n].f0<0
    · have e:truB (d[n]::d.drop (n+1))=false:=by
        unfold truB;rw[List.all_cons,decide_eq_false (by omega),Bool.false_and,Bool.false_and]
      rw[e];exact Ev.step (G:=fun _=>some false) (fun k=>by rw[Zbd.l0,if_pos (by omega),if_pos (by omega),hat,if_pos h0]) (Ev.const rfl)
    by_cases h1:d[n].f1>1
    · have e:truB (d[n]::d.drop (n+1))=false:=by
        unfold truB;rw[List.all_cons,decide_eq_false (show ¬d[n].f1≤1 by omega),Bool.and_false,Bool.false_and]
      rw[e];exact Ev.step (G:=fun _=>some false) (fun k=>by rw[Zbd.l0,if_pos (by omega),if_pos (by omega),hat,if_neg h0,if_pos h1]) (Ev.const rfl)
    have e:truB (d[n]::d.drop (n+1))=truB (d.drop (n+1)):=by
      unfold truB;rw[List.all_cons,decide_eq_true (show(0:Int)≤d[n].f0 by omega),decide_eq_true (show d[n].f1≤1 by omega),Bool.true_and,Bool.true_and]
    rw[e];exact Ev.step (fun k=>by rw[Zbd.l0,if_pos (by omega),if_pos (by omega),hat,if_neg h0,if_neg h1,w1 (by omega)]) ih
theorem rtruth_ev (d:List Rg) (hl:d.length≤3000000):Ev (fun k=>Zbd.f k d) (truB d):=rtruth_l0 d hl d.length 0 (by omega)
theorem mx_neg {n:Int} (h1: -4611686018427387904≤n) (h2:n≤4611686018427387904):mx n (wrap64 (-n))=(n.natAbs:Int):=by
  rw[w64 (by omega) (by omega)];unfold mx
  split<;>omega
theorem rbig_l0 (l : List Int) (hl : l.length ≤ 1000000) : ∀ (m n : Nat) (room : Int), n + m = l.length → 0 ≤ room → room ≤ 4611686018427387904 → Ev (fun k => Zaz.l0 k l room (n : Int)) (!decide (tot (l.drop n) ≤ room))
  |0,n,room,h,h0,h1=>by
    rw[List.drop_eq_nil_of_le (by omega),decide_eq_true (by unfold tot;omega)];exact Ev.step (G:=fun _=>some false) (fun k=>by rw[Zaz.l0,if_neg (by omega)]) (Ev.const rfl)
  |m+1,n,room,h,h0,h1=>by
    have hn:n<l.length:=by omega
    have hr:rd l (n:Int)=l[n]:=Zdo l n hn;have ht:=Zet (l.drop (n+1));rw[List.drop_eq_getElem_cons hn,tot];by_cases hb:l[n]>4398046511104
    · rw [decide_eq_false (by omega)]
      exact Ev.step (fun k=>by rw[Zaz.l0,if_pos (by omega),if_pos (by omega),hr,if_pos hb]) (Ev.step (G:=fun _=>some true) (fun k=>by rw[Zaz.j2,if_pos rfl]) (Ev.const rfl))
    refine Ev.step (fun k=>by rw[Zaz.l0,if_pos (by omega),if_pos (by omega),hr,if_neg hb]) ?_;by_cases hc:l[n]< -4398046511104
    · rw [decide_eq_false (show ¬ ((l[n].natAbs : Int) * 1048576 + tot (l.drop (n + 1)) ≤ room) by omega), decide_eq_true hc]
      exact Ev.step (G:=fun _=>some true) (fun k=>by rw[Zaz.j2,if_pos rfl]) (Ev.const rfl)
    rw[decide_eq_false hc];have e1:wrap64 (mx l[n] (wrap64 (-l[n]))*1048576)=(l[n].natAbs:Int)*1048576:=by rw[mx_neg (by omega) (by omega),w64 (by omega) (by omega)]
    have e2:wrap64 (room - (l[n].natAbs:Int)*1048576)=room - (l[n].natAbs:Int)*1048576:=w64 (by omega) (by omega);refine Ev.step (fun k=>by rw[Zaz.j2,if_neg (by simp),if_pos (by omega),if_pos (by omega),hr,e1,e2]) ?_;by_cases hd:room - (l[n].natAbs:Int)*1048576<0
    · rw [decide_eq_false (by omega)]
      exact Ev.Zan hd (Ev.const rfl)
    have ih:=rbig_l0 l hl m (n+1) (room - (l[n].natAbs:Int)*1048576) (by omega) (by omega) (by omega);rw[decide_eq_decide.2 (show tot (l.drop (n+1))≤room - (l[n].natAbs:Int)*1048576↔(l[n].natAbs:Int)*1048576+tot (l.drop (n+1))≤room by omega)]at ih;refine Ev.Za4 hd ?_;rw[w1 (by omega)];exact ih
theorem rbig_ev (l:List Int) (rhs:Int) (hl:l.length≤1000000):Ev (fun k=>Zaz.f k l rhs) (!decide ((rhs.natAbs:Int)+tot l≤4611686018427387904)):=by
  have ht:=Zet l;unfold Zaz.f;by_cases h1:rhs>4611686018427387904
  · rw [decide_eq_false (show ¬ ((rhs.natAbs : Int) + tot l ≤ 4611686018427387904) by omega)]
    refine Ev.Zan h1 (Ev.step (G:=fun _=>some true) (fun k=>by rw[Zaz.j0,if_pos rfl]) ?_);exact Ev.const rfl
  refine Ev.Za4 h1 ?_;by_cases h2:rhs< -4611686018427387904
  · rw [decide_eq_false (show ¬ ((rhs.natAbs : Int) + tot l ≤ 4611686018427387904) by omega), decide_eq_true h2]
    exact Ev.step (G:=fun _=>some true) (fun k=>by rw[Zaz.j0,if_pos rfl]) (Ev.const rfl)
  rw[decide_eq_false h2];have e1:wrap64 (4611686018427387904 - mx rhs (wrap64 (-rhs)))=4611686018427387904 - (rhs.natAbs:Int):=by rw[mx_neg (by omega) (by omega),w64 (by omega) (by omega)]
  have:=rbig_l0 l hl l.length 0 (4611686018427387904 - (rhs.natAbs:Int)) (by omega) (by omega) (by omega);rw[List.drop_zero,decide_eq_decide.2 (show tot l≤4611686018427387904 - (rhs.natAbs:Int)↔(rhs.natAbs:Int)+tot l≤4611686018427387904 by omega)]at this;exact Ev.step (fun k=>by rw[Zaz.j0,if_neg (by simp),e1];rfl) this
theorem rsum_ev (kd:Int) (vars coefs:List Int) (op rhs:Int) (rows:List (List Int)) (b:Int) (h1:vars.length≤1000000) (h2:coefs.length≤1000000):Ev (fun k=>Zbv.f k kd vars coefs op rhs rows b) (sumB vars coefs):=by
  unfold Zbv.f sumB;refine Ev.bind (others_ev vars (by omega)) ?_;by_cases q1:0<vars.length;rotate_left
  · rw [decide_eq_false q1, Bool.false_and]
    cases allB vars with
    | true => exact Ev.Zan rfl (Ev.Za4 (by omega) (Ev.const rfl))
    |false=>exact Ev.Za4 (by simp) (Ev.const rfl)
  rw[decide_eq_true q1,Bool.true_and];by_cases q2:vars.length=coefs.length;rotate_left
  · rw [decide_eq_false q2, Bool.false_and]
    cases allB vars with
    | true => exact Ev.Zan rfl (Ev.Zan (by omega) (Ev.Za4 (by omega) (Ev.const rfl)))
    |false=>exact Ev.Za4 (by simp) (Ev.const rfl)
  rw[decide_eq_true q2,Bool.true_and]
  cases allB vars with
  | true => exact Ev.Zan rfl (Ev.Zan (by omega) (Ev.Zan (by omega) (Ev.bind (ref_Has coefs 0 (by omega)) (Ev.const rfl))))
  |false=>exact Ev.Za4 (by simp) (Ev.const rfl)
theorem isVal_far (x:Int):isVal x= !farV x:=by
  unfold isVal farV;rw[Bool.eq_iff_iff]
  simp
theorem rrows_l0 (kd : Int) (vars coefs : List Int) (op rhs : Int) (rows : List (List Int)) (b : Int) (hr : rows.length ≤ 1000000) (hin : ∀ x ∈ rows, x.length ≤ 1000000) : ∀ (m n : Nat), n + m = rows.length →
    Ev (fun k=>Zbc.l0 k (n:Int) kd vars coefs op rhs rows b) (((rows.drop n).all (rowOk vars)) && decide (rows.length≤1024)):=by
  intro m
  induction m with
  |zero=>
    intro n h;rw[List.drop_of_length_le (by omega)];exact Ev.step (G:=fun _=>some (decide ((rows.length:Int)≤1024))) (fun k=>by rw[Zbc.l0,if_neg (by omega)]) (Ev.const (by simp;omega))
  |succ m ih=>
    intro n h;have hn:n<rows.length:=by omega
    have hx:=hin _ (List.getElem_mem hn);rw[List.drop_eq_getElem_cons hn,List.all_cons]
    have inner:∀(r q:Nat),q+r=rows[n].length→Ev (fun k=>Zbc.l1 k (n:Int) (q:Int) kd vars coefs op rhs rows b) ((!(rows[n].drop q).any farV && (rows.drop (n+1)).all (rowOk vars)) && decide (rows.length≤1024)):=by
      intro r
      induction r with
      |zero=>
        intro q hq;rw[List.drop_of_length_le (show rows[n].length≤q by omega)];refine Ev.step (fun k=>by rw[Zbc.l1,if_pos (by omega),if_pos (by omega),rdLn rows n hn,if_neg (by omega),w1 (by omega)]) ?_
        simpa using ih (n+1) (by omega)
      |succ r ihr=>
        intro q hq;have hql:q<rows[n].length:=by omega
        refine Ev.step (fun k=>by rw[Zbc.l1,if_pos (by omega),if_pos (by omega),rdLn rows n hn,if_pos (by omega),if_pos (by omega),Zdo _ q hql,Zde,Option.bind_some,w1 (by omega),isVal_far]) ?_;rw[List.drop_eq_getElem_cons hql,List.any_cons]
        cases hv:farV rows[n][q]with
        | false => simpa using ihr (q + 1) (by omega)
        |true=>simpa using Ev.pure false
    unfold rowOk;by_cases e:rows[n].length=vars.length
    · refine Ev.step (fun k => by rw [Zbc.l0, if_pos (by omega), if_pos (by omega), rdLn rows n hn, if_pos (by omega)]) ?_
      have:=inner rows[n].length 0 (by omega);rw[decide_eq_true (show(rows[n].length:Int)=(vars.length:Int) by omega),Bool.true_and];exact this
    refine Ev.step (G:=fun _=>some false) (fun k=>by rw[Zbc.l0,if_pos (by omega),if_pos (by omega),rdLn rows n hn,if_neg (by omega)]) ?_;rw[decide_eq_false (show ¬(rows[n].length:Int)=(vars.length:Int) by omega),Bool.false_and,Bool.false_and];exact Ev.pure false
theorem rrows_ev (kd : Int) (vars coefs : List Int) (op rhs : Int) (rows : List (List Int)) (b : Int) (hr : rows.length ≤ 1000000) (hin : ∀ x ∈ rows, x.length ≤ 1000000) :
    Ev (fun k=>Zbc.f k kd vars coefs op rhs rows b) (decide (rows.length≤1024) && !(rows.any fun l=> !rowOk vars l)):=by
  have:=rrows_l0 kd vars coefs op rhs rows b hr hin rows.length 0 (by omega);rw[List.drop_zero,Bool.and_comm]at this
  have e:rows.all (rowOk vars)= !(rows.any fun l=> !rowOk vars l):=by
    rw[Bool.eq_iff_iff]
    simp
  rw[←e];exact this
theorem units_l0 (d : List (List Rg)) (hdl : ∀ x ∈ d, x.length ≤ 3000000) (kd : Int) (vars coefs : List Int) (op rhs : Int) (rows : List (List Int)) (b : Int) (hl : vars.length ≤ 1000000) (he : vars.length = coefs.length) (hv : ∀ v ∈ vars, awayV d.length v = false) : ∀ (m n : Nat), n + m = vars.length →
    Ev (fun k=>Zbs.l0 k d (n:Int) kd vars coefs op rhs rows b) (!((coefs.drop n).any oddU) && (vars.drop n).all fun v=>truB (domAt d v))
  |0,n,h=>by
    rw[List.drop_eq_nil_of_le (by omega),List.drop_eq_nil_of_le (by omega)];exact Ev.step (G:=fun _=>some true) (fun k=>by rw[Zbs.l0,if_neg (by omega)]) (Ev.const rfl)
  |m+1,n,h=>by
    have hn:n<vars.length:=by omega
    have hn2:n<coefs.length:=by omega
    have ih:=units_l0 d hdl kd vars coefs op rhs rows b hl he hv m (n+1) (by omega);have ha:=hv _ (List.getElem_mem hn);unfold awayV at ha;simp only[Bool.or_eq_false_iff,decide_eq_false_iff_not]at ha;rw[List.drop_eq_getElem_cons hn,List.drop_eq_getElem_cons hn2,List.any_cons,List.all_cons]
    have hdm:(domAt d vars[n]).length≤3000000:=by
      unfold domAt;rw[List.getD_eq_getElem?_getD]
      cases hq:d[vars[n].toNat]? with
      | none => simp
      |some x=>exact hdl x (List.mem_of_getElem? hq)
    refine Ev.step (fun k=>by rw[Zbs.l0,if_pos (by omega),if_pos (by omega),Zdo vars n hn,if_pos (by omega),if_pos (by omega),rdR_dom]) (Ev.bind (rtruth_ev _ hdm) ?_);rw[Zdo coefs n hn2]
    cases truB (domAt d vars[n])with
    |false=>
      rw[Bool.false_and,Bool.and_false];exact Ev.Za4 (by simp) (Ev.const rfl)
    |true=>
      refine Ev.Zan rfl (Ev.Zan (by omega) ?_);rw[w1 (by omega)];by_cases c1:coefs[n]=1
      · have e : oddU coefs[n] = false := by rw [c1]; rfl
        rw[e,Bool.false_or,Bool.true_and];exact Ev.Zan c1 ih
      refine Ev.Za4 c1 ?_;by_cases c2:coefs[n]= -1
      · have e : oddU coefs[n] = false := by rw [c2]; rfl
        rw[e,Bool.false_or,Bool.true_and];exact Ev.Zan c2 ih
      have e:oddU coefs[n]=true:=by unfold oddU;simp[c1,c2]
      rw[e,Bool.true_or,Bool.not_true,Bool.false_and];exact Ev.Za4 c2 (Ev.const rfl)
theorem units_ev (d : List (List Rg)) (hdl : ∀ x ∈ d, x.length ≤ 3000000) (kd : Int) (vars coefs : List Int) (op rhs : Int) (rows : List (List Int)) (b : Int) (hl : vars.length ≤ 1000000) (he : vars.length = coefs.length) (hv : ∀ v ∈ vars, awayV d.length v = false) :
    Ev (fun k=>Zbs.f k d kd vars coefs op rhs rows b) (!(coefs.any oddU) && vars.all fun v=>truB (domAt d v)):=units_l0 d hdl kd vars coefs op rhs rows b hl he hv vars.length 0 (by omega)
theorem beqd (b:Int):(b==0)=decide (b=0):=by rw[Bool.eq_iff_iff];simp
section
variable (d : List (List Rg)) (hdl : ∀ x ∈ d, x.length ≤ 3000000) (kd : Int) (vars coefs : List Int) (op rhs : Int) (rows : List (List Int)) (b : Int)
  (h1:vars.length≤1000000) (h2:coefs.length≤1000000) (h5:rows.length≤1000000) (hin:∀x ∈ rows,x.length≤1000000) (hv:vars.any (awayV d.length)=false) (hb:kd=4→awayV d.length b=false)
include hdl h1 h2 h5 hin hv hb
theorem rright_j3 (x5 x6 x7 x8 : Bool) (e5 : x5 = (decide (op = 0) && (decide (rhs = 0) && decide (b = 0)))) (e6 : x6 = plainB coefs op rhs b) (e7 : x7 = (decide (0 ≤ op) && decide (op < 3))) (e8 : x8 = (decide (0 < vars.length) && allB vars)) :
    Ev (fun k=>Zar.j3 k d x5 x6 x7 x8 kd vars coefs op rhs rows b) (rightB d kd vars coefs op rhs rows b):=by
  have hvs:∀v ∈ vars,awayV d.length v=false:=fun v hv'=>Bool.eq_false_iff.2 (fun e=>Bool.eq_false_iff.1 hv (List.any_eq_true.2 ⟨v,hv',e⟩))
  have hsum:=rsum_ev kd vars coefs op rhs rows b h1 h2;refine Ev.step (G:=fun k=>_) (fun k=>by rw[Zar.j3]) ?_;unfold rightB;by_cases q2:kd=2
  · subst q2
    rw[if_neg (show ¬((2:Int)≠2∧0<rows.length)from fun h_=>absurd rfl h_.1),if_neg (show ¬(2:Int)=0 by decide),if_neg (show ¬(2:Int)=1 by decide),if_pos rfl];refine Ev.Za4 (show ¬(2:Int)=0 by decide) (Ev.Za4 (show ¬(2:Int)=1 by decide) (Ev.Zan rfl ?_));rw[←e6,←Bool.and_assoc (decide (0<vars.length)),←e8]
    cases x6 with
    | false => exact Ev.Za4 (by simp) (Ev.const rfl)
    |true=>
      cases x8 with
      | false => exact Ev.Zan rfl (Ev.Za4 (by simp) (Ev.const rfl))
      |true=>exact Ev.Zan rfl (Ev.Zan rfl (Ev.bind (rrows_ev 2 vars coefs op rhs rows b h5 hin) (Ev.const rfl)))
  by_cases q0:rows.length=0;rotate_left
  · have qr : kd ≠ 2 ∧ 0 < rows.length := ⟨q2, by omega⟩
    have z:¬(rows.length:Int)=0:=by omega
    rw[if_pos qr];by_cases k0:kd=0
    · exact Ev.Zan k0 (Ev.Za4 z (Ev.const rfl))
    refine Ev.Za4 k0 ?_;by_cases k1:kd=1
    · exact Ev.Zan k1 (Ev.Za4 z (Ev.const rfl))
    refine Ev.Za4 k1 (Ev.Za4 q2 ?_);by_cases k3:kd=3
    · exact Ev.Zan k3 (Ev.Za4 z (Ev.const rfl))
    refine Ev.Za4 k3 ?_;by_cases k4:kd=4
    · exact Ev.Zan k4 (Ev.Za4 z (Ev.const rfl))
    refine Ev.Za4 k4 ?_;by_cases k5:kd=5
    · exact Ev.Zan k5 (Ev.Za4 z (Ev.const rfl))
    exact Ev.Za4 k5 (Ev.Za4 z (Ev.const rfl))
  have qr:¬(kd≠2∧0<rows.length):=fun h=>by omega
  have z:(rows.length:Int)=0:=by omega
  rw[if_neg qr];by_cases k0:kd=0
  · rw [if_pos k0]
    refine Ev.Zan k0 (Ev.Zan z (Ev.bind hsum ?_));unfold heldB;rw[←e7]
    cases sumB vars coefs with
    | false => exact Ev.Za4 (by simp) (Ev.const rfl)
    |true=>
      cases x7 with
      | false => exact Ev.Zan rfl (Ev.Za4 (by simp) (Ev.const rfl))
      |true=>exact Ev.Zan rfl (Ev.Zan rfl (Ev.const (by rw[beqd];simp)))
  rw[if_neg k0];refine Ev.Za4 k0 ?_;by_cases k1:kd=1
  · rw [if_pos k1, ← e6, ← e8]
    refine Ev.Zan k1 (Ev.Zan z ?_)
    cases x6 with
    | false => exact Ev.Za4 (by simp) (Ev.const rfl)
    |true=>exact Ev.Zan rfl (Ev.const rfl)
  rw[if_neg k1,if_neg q2];refine Ev.Za4 k1 (Ev.Za4 q2 ?_);by_cases k3:kd=3
  · rw [if_pos k3, ← e6]
    refine Ev.Zan k3 (Ev.Zan z ?_)
    cases x6 with
    | false => exact Ev.Za4 (by simp) (Ev.const rfl)
    |true=>
      refine Ev.Zan rfl ?_;by_cases hz:0<vars.length;rotate_left
      · rw [decide_eq_false hz, Bool.false_and] at e8
        rw[e8];have:decide (3≤vars.length)=false:=decide_eq_false (by omega);exact Ev.Za4 (by simp) (Ev.const (by rw[this];simp))
      rw[decide_eq_true hz,Bool.true_and]at e8;rw[←e8]
      cases x8 with
      | false => exact Ev.Za4 (by simp) (Ev.const (by simp))
      |true=>exact Ev.Zan rfl (Ev.const (by simp;omega))
  rw[if_neg k3];refine Ev.Za4 k3 ?_;by_cases k4:kd=4
  · rw [if_pos k4]
    have hbb:0≤b∧b<(d.length:Int):=by
      have:=hb k4;unfold awayV at this;simp only[Bool.or_eq_false_iff,decide_eq_false_iff_not]at this
      omega
    have hdm:(domAt d b).length≤3000000:=by
      unfold domAt;rw[List.getD_eq_getElem?_getD]
      cases hq:d[b.toNat]? with
      | none => simp
      |some x=>exact hdl x (List.mem_of_getElem? hq)
    refine Ev.Zan k4 (Ev.Zan z (Ev.bind hsum ?_));unfold heldB;rw[←e7]
    cases sumB vars coefs with
    | false => exact Ev.Za4 (by simp) (Ev.const rfl)
    |true=>
      cases x7 with
      | false => exact Ev.Zan rfl (Ev.Za4 (by simp) (Ev.const rfl))
      |true=>
        refine Ev.Zan rfl (Ev.Zan rfl (Ev.Zan hbb.1 (Ev.Zan hbb.2 ?_)));rw[rdR_dom];refine Ev.bind (rtruth_ev _ hdm) ?_
        cases truB (domAt d b)with
        | false => exact Ev.Za4 (by simp) (Ev.const rfl)
        |true=>exact Ev.Zan rfl (Ev.bind (ref_Has vars b (by omega)) (Ev.const rfl))
  rw[if_neg k4];refine Ev.Za4 k4 ?_;by_cases k5:kd=5
  · rw [if_pos k5]
    refine Ev.Zan k5 (Ev.Zan z ?_)
    have e:(sumB vars coefs && (decide (op=0) && (decide (rhs=0) && (decide (b=0) && (!(coefs.any oddU) && vars.all fun v=>truB (domAt d v))))))=(x5 && (sumB vars coefs && (!(coefs.any oddU) && vars.all fun v=>truB (domAt d v)))):=by
      rw[e5]
      cases sumB vars coefs<;>cases decide (op=0)<;>cases decide (rhs=0)<;>cases decide (b=0)<;>rfl
    rw[e]
    cases x5 with
    | false => exact Ev.Za4 (by simp) (Ev.const rfl)
    |true=>
      refine Ev.Zan rfl (Ev.bind hsum ?_)
      cases hs:sumB vars coefs with
      | false => exact Ev.Za4 (by simp) (Ev.const rfl)
      |true=>
        have hlen:vars.length=coefs.length:=by
          unfold sumB at hs;simp only[Bool.and_eq_true,decide_eq_true_eq]at hs;exact hs.2.1
        exact Ev.Zan rfl (Ev.bind (units_ev d hdl kd vars coefs op rhs rows b h1 hlen hvs) (Ev.const rfl))
  rw[if_neg k5,←e6];refine Ev.Za4 k5 (Ev.Zan z ?_)
  cases x6 with
  | false => exact Ev.Za4 (by simp) (Ev.const rfl)
  |true=>
    refine Ev.Zan rfl ?_;by_cases hz:2≤vars.length
    · rw [decide_eq_true hz]
      exact Ev.Zan (by omega) (Ev.const rfl)
    rw[decide_eq_false hz];exact Ev.Za4 (by omega) (Ev.const rfl)
theorem rright_j2 (x5 x6 x7 : Bool) (e5 : x5 = (decide (op = 0) && (decide (rhs = 0) && decide (b = 0)))) (e6 : x6 = plainB coefs op rhs b) (e7 : x7 = (decide (0 ≤ op) && decide (op < 3))) :
    Ev (fun k=>Zar.j2 k d x5 x6 x7 kd vars coefs op rhs rows b) (rightB d kd vars coefs op rhs rows b):=by
  refine Ev.step (G:=fun k=>_) (fun k=>by rw[Zar.j2]) ?_;by_cases hz:0<vars.length;rotate_left
  · exact Ev.Za4 (by omega) (rright_j3 d hdl kd vars coefs op rhs rows b h1 h2 h5 hin hv hb x5 x6 x7 false e5 e6 e7 (by rw[decide_eq_false hz,Bool.false_and]))
  exact Ev.Zan (by omega) (Ev.bind (others_ev vars (by omega)) (rright_j3 d hdl kd vars coefs op rhs rows b h1 h2 h5 hin hv hb x5 x6 x7 _ e5 e6 e7 (by rw[decide_eq_true hz,Bool.true_and])))
theorem Zgx (x5:Bool) (e5:x5=(decide (op=0) && (decide (rhs=0) && decide (b=0)))):Ev (fun k=>Zar.j0 k d x5 kd vars coefs op rhs rows b) (rightB d kd vars coefs op rhs rows b):=by
  have j1:∀x6,x6=plainB coefs op rhs b→Ev (fun k=>Zar.j1 k d x5 x6 kd vars coefs op rhs rows b) (rightB d kd vars coefs op rhs rows b):=by
    intro x6 e6;refine Ev.step (G:=fun k=>_) (fun k=>by rw[Zar.j1]) ?_;by_cases hz:0≤op;rotate_left
    · exact Ev.Za4 hz (rright_j2 d hdl kd vars coefs op rhs rows b h1 h2 h5 hin hv hb x5 x6 false e5 e6 (by rw[decide_eq_false hz,Bool.false_and]))
    exact Ev.Zan hz (rright_j2 d hdl kd vars coefs op rhs rows b h1 h2 h5 hin hv hb x5 x6 _ e5 e6 (by rw[decide_eq_true hz,Bool.true_and];exact decide_eq_decide.2 (by omega)))
  refine Ev.step (G:=fun k=>_) (fun k=>by rw[Zar.j0]) ?_;have ep:plainB coefs op rhs b=(decide (coefs.length=0) && x5):=by rw[e5];rfl
  cases x5 with
  |true=>
    refine Ev.Zan rfl (j1 _ ?_);rw[ep,Bool.and_true,Bool.eq_iff_iff]
    simp
  |false=>exact Ev.Za4 (by simp) (j1 false (by rw[ep,Bool.and_false]))
theorem rright_ev:Ev (fun k=>Zar.f k d kd vars coefs op rhs rows b) (rightB d kd vars coefs op rhs rows b):=by
  unfold Zar.f;by_cases q1:op=0;rotate_left
  · exact Ev.Za4 q1 (Zgx d hdl kd vars coefs op rhs rows b h1 h2 h5 hin hv hb false (by rw[decide_eq_false q1];simp))
  refine Ev.Zan q1 ?_;by_cases q2:rhs=0;rotate_left
  · exact Ev.Za4 q2 (Zgx d hdl kd vars coefs op rhs rows b h1 h2 h5 hin hv hb false (by rw[decide_eq_false q2];simp))
  refine Ev.Zan q2 (Zgx d hdl kd vars coefs op rhs rows b h1 h2 h5 hin hv hb _ ?_);rw[decide_eq_true q1,decide_eq_true q2,Bool.true_and,Bool.true_and,Bool.eq_iff_iff]
  simp
end
def usesL (kd:Int) (vars:List Int) (b:Int):List Int:=sd (if kd=4 then vars++ [b]else vars)
theorem usesL_length (kd:Int) (vars:List Int) (b:Int):(usesL kd vars b).length≤vars.length+1:=by
  unfold usesL;refine Nat.le_trans (Zgy _) ?_
  split
  · simp
  omega
theorem Ze7 (kd:Int) (vars:List Int) (b x:Int):x ∈ usesL kd vars b↔x ∈ vars∨(kd=4∧x=b):=by
  unfold usesL;rw[mem_sd];by_cases h:kd=4
  · rw[if_pos h];simp[h]
  rw[if_neg h];simp[h]
theorem ruses_ev (kd:Int) (vars coefs:List Int) (op rhs:Int) (rows:List (List Int)) (b:Int) (h1:vars.length≤1000000):Ev (fun k=>Zc2.f k kd vars coefs op rhs rows b) (usesL kd vars b):=by
  unfold Zc2.f usesL;refine Ev.bind (a:=([]:List Int)) (Ev.const rfl) (Ev.Zan (by simp;omega) (Ev.bind (a:=vars) (Ev.const rfl) ?_));by_cases h:kd=4;rotate_left
  · rw [if_neg h]
    exact Ev.Za4 h (Ev.bind (Zhh vars (by omega)) (Ev.const rfl))
  rw[if_pos h];exact Ev.Zan h (Ev.Zan (by omega) (Ev.bind (Zhh (vars++ [b]) (by simp;omega)) (Ev.const rfl)))
theorem Gd.small {d:List Rg} (h:Gd 1048576 (-1048576) d):d.length≤3000000:=by
  have h1:=Zdq h;have h2:=Zea h
  omega
theorem rcon_ev (d : List (List Rg)) (hd : ∀ x ∈ d, Gd 1048576 (-1048576) x) (hdn : d.length ≤ 1000000) (kd : Int) (vars coefs : List Int) (op rhs : Int) (rows : List (List Int)) (b : Int) (h1 : vars.length ≤ 1000000) (h2 : coefs.length ≤ 1000000) (h5 : rows.length ≤ 1000000) (hin : ∀ x ∈ rows, x.length ≤ 1000000) :
    Ev (fun k=>Zay.f k d kd vars coefs op rhs rows b) (conE d kd vars coefs op rhs rows b):=by
  have hdl:∀x ∈ d,x.length≤3000000:=fun x hx=>(hd x hx).small
  have hul:=usesL_length kd vars b
  have tail : (usesL kd vars b).any (awayV d.length) = false → ∀ m n : Nat, n + m = (usesL kd vars b).length → Ev (fun k => Zay.l0 k d (usesL kd vars b) (n : Int) kd vars coefs op rhs rows b)
      (if rightB d kd vars coefs op rhs rows b=false then 44 else if(rhs.natAbs:Int)+tot coefs≤4611686018427387904 then 0 else 45):=by
    intro hu m;have hall:∀x ∈ usesL kd vars b,awayV d.length x=false:=fun x hx=>Bool.eq_false_iff.2 (fun e=>Bool.eq_false_iff.1 hu (List.any_eq_true.2 ⟨x,hx,e⟩))
    induction m with
    |zero=>
      intro n h;refine Ev.step (fun k=>by rw[Zay.l0,if_neg (by omega)]) ?_;refine Ev.bind (rright_ev d hdl kd vars coefs op rhs rows b h1 h2 h5 hin (Bool.eq_false_iff.2 (fun e=> ?_)) (fun e=>hall b ((Ze7 _ _ _ _).2 (.inr ⟨e,rfl⟩)))) ?_
      · obtain ⟨x, hx, hx2⟩ := List.any_eq_true.1 e
        exact Bool.eq_false_iff.1 (hall x ((Ze7 _ _ _ _).2 (.inl hx))) hx2
      cases rightB d kd vars coefs op rhs rows b with
      | false => exact Ev.Za4 (by simp) (Ev.const rfl)
      |true=>
        rw[if_neg (by simp)];refine Ev.Zan rfl (Ev.bind (rbig_ev coefs rhs h2) ?_);by_cases q:(rhs.natAbs:Int)+tot coefs≤4611686018427387904;rotate_left
        · rw [if_neg q, decide_eq_false q]
          exact Ev.Zan rfl (Ev.const rfl)
        rw[if_pos q,decide_eq_true q];exact Ev.Za4 (by simp) (Ev.const rfl)
    |succ m ih=>
      intro n h;have hn:n<(usesL kd vars b).length:=by omega
      have ha:=hall _ (List.getElem_mem hn);unfold awayV at ha;simp only[Bool.or_eq_false_iff,decide_eq_false_iff_not]at ha;exact Ev.step (fun k=>by rw[Zay.l0,if_pos (by omega),if_pos (by omega),Zdo _ n hn,if_neg (by omega),if_neg (by omega),w1 (by omega)]) (ih (n+1) (by omega))
  have bad:∀m n:Nat,n+m=(usesL kd vars b).length→((usesL kd vars b).drop n).any (awayV d.length)=true→Ev (fun k=>Zay.l0 k d (usesL kd vars b) (n:Int) kd vars coefs op rhs rows b) 43:=by
    intro m
    induction m with
    |zero=>
      intro n h hu;rw[List.drop_eq_nil_of_le (by omega)]at hu;exact absurd hu (by simp)
    |succ m ih=>
      intro n h hu;have hn:n<(usesL kd vars b).length:=by omega
      rw[List.drop_eq_getElem_cons hn,List.any_cons,Bool.or_eq_true]at hu;by_cases q1:(usesL kd vars b)[n]<0
      · exact Ev.step (G:=fun _=>some 43) (fun k=>by rw[Zay.l0,if_pos (by omega),if_pos (by omega),Zdo _ n hn,if_pos q1]) (Ev.const rfl)
      by_cases q2:(usesL kd vars b)[n]≥(d.length:Int)
      · exact Ev.step (G:=fun _=>some 43) (fun k=>by rw[Zay.l0,if_pos (by omega),if_pos (by omega),Zdo _ n hn,if_neg q1,if_pos q2]) (Ev.const rfl)
      refine Ev.step (fun k=>by rw[Zay.l0,if_pos (by omega),if_pos (by omega),Zdo _ n hn,if_neg q1,if_neg q2,w1 (by omega)]) (ih (n+1) (by omega) ?_)
      rcases hu with hu|hu
      · unfold awayV at hu
        simp only[Bool.or_eq_true,decide_eq_true_eq]at hu
        omega
      exact hu
  have main:¬(kd<0∨7≤kd)→Ev (fun k=>Zay.l0 k d (usesL kd vars b) 0 kd vars coefs op rhs rows b) (conE d kd vars coefs op rhs rows b):=by
    intro q0;unfold conE;rw[if_neg q0];by_cases hu:(usesL kd vars b).any (awayV d.length)=true;rotate_left
    · have hu' := Bool.eq_false_iff.2 hu
      have hall:∀x ∈ usesL kd vars b,¬awayV d.length x=true:=fun x hx e=>hu (List.any_eq_true.2 ⟨x,hx,e⟩)
      rw [if_neg (fun q => by
        obtain⟨x,hx,hx2⟩:=List.any_eq_true.1 q
        exact hall x ((Ze7 _ _ _ _).2 (.inl hx)) hx2), if_neg (fun q => hall b ((Ze7 _ _ _ _).2 (.inr ⟨q.1, rfl⟩)) q.2)]
      exact tail hu' (usesL kd vars b).length 0 (by omega)
    have e:Ev (fun k=>Zay.l0 k d (usesL kd vars b) 0 kd vars coefs op rhs rows b) 43:=bad (usesL kd vars b).length 0 (by omega) hu;obtain⟨x,hx,hx2⟩:=List.any_eq_true.1 hu
    rcases(Ze7 kd vars b x).1 hx with hx|⟨h4,rfl⟩
    · rw[if_pos (List.any_eq_true.2 ⟨x,hx,hx2⟩)];exact e
    by_cases q1:vars.any (awayV d.length)=true
    · rw[if_pos q1];exact e
    rw[if_neg q1,if_pos ⟨h4,hx2⟩];exact e
  have j44:∀x:Bool,x=true→Ev (fun k=>Zay.j0 k d x kd vars coefs op rhs rows b) 44:=fun x hx=>Ev.step (G:=fun _=>some 44) (fun k=>by rw[Zay.j0,if_pos hx]) (Ev.const rfl)
  unfold Zay.f;by_cases q1:kd<0
  · have e : conE d kd vars coefs op rhs rows b = 44 := by unfold conE; rw [if_pos (.inl q1)]
    rw[e];exact Ev.Zan q1 (j44 true rfl)
  refine Ev.Za4 q1 ?_;by_cases q2:kd>6
  · have e : conE d kd vars coefs op rhs rows b = 44 := by unfold conE; rw [if_pos (.inr (by omega))]
    rw[e];exact j44 _ (decide_eq_true q2)
  rw[decide_eq_false q2];exact Ev.step (fun k=>by rw[Zay.j0,if_neg (by simp)]) (Ev.bind (ruses_ev kd vars coefs op rhs rows b h1) (main (by omega)))
end Go.Proofs.YtkgjaklnbgdmiaaGreat.P
namespace Go.Proofs.YtkgjaklnbgdmiaaGreat.P
open Go.RowKit Go.Proofs.YtkgjaklnbgdmiaaGreatW.PrintWords Go.Proofs.YtkgjaklnbgdmiaaGreatW.PrintLast Go.Proofs.YtkgjaklnbgdmiaaGreatW.PrintMore
attribute [local go_sem] Zci Zck Zc3 Zc4 Zcb Zcc Zcj Zcl
def Za5.l0 : Nat → ByteArray → Int → Option (Bool)
 | 0, _, _ => none
 |k+1,x0,x3=>if x3<(x0.size:Int)then(if 0≤x3 then(if(bt x0 x3)≥97 then(if((bt x0 x3)≤122)then(Za5.l0 k x0 (wrap64 (x3+1)))else(if x3=0 then(some false)else(if(bt x0 x3)=95 then(Za5.l0 k x0 (wrap64 (x3+1)))else(if(bt x0 x3)<48 then(some false)else(if(bt x0 x3)>57 then(some false)else(Za5.l0 k x0 (wrap64 (x3+1))))))))else(if x3=0 then(some false)else(if(bt x0 x3)=95 then(Za5.l0 k x0 (wrap64 (x3+1)))else(if(bt x0 x3)<48 then(some false)else(if(bt x0 x3)>57 then(some false)else(Za5.l0 k x0 (wrap64 (x3+1))))))))else(none))else(if x0.toList=([]:List UInt8)then(some false)else(some (decide ((x0.size:Int)≤16))))
def Za5.f (k:Nat) (a0:ByteArray):Option (Bool):=Za5.l0 k a0 0
set_option maxRecDepth 100000 in
theorem Za5.calls (k : Nat) (a0 : ByteArray) (r : Bool) (w : World) (h : Za5.f k a0 = some r) :
  Calls Tryz.prog 16 #[.string a0] w fun e w'=>e= .returned (.bool r)∧Za1 w w':=by
 have H:(Za5.l0 k a0 0)=some r:=h;clear h;have H':=Za.mk H;clear H;go_enter Tryz.func16,Tryz.ntmps16;go_wp2
 go_loopg [3] k (fun kq v3 w'=>∃(ah:Int),v3= .int .i64 ah∧Za (Za5.l0 kq a0 ah=some r)∧Za (kq≤k)∧Za1 w w')
 case atStart=>exact⟨(0),eS,H',⟨Nat.le_refl _⟩,by repeat(first|exact Za1.refl _|apply Za1.step)⟩
 case round=>
  clear H';try clear c1
  obtain⟨ah,rfl,HA,HK1,⟨m1,rfl⟩⟩:=hrel
  cases gk with
  | zero => exact absurd HA.out (by simp [Za5.l0])
  |succ k1=>
   have H:=HA.out;clear HA;simp only[Za5.l0]at H;by_cases c2:ah<(a0.size:Int)
   case neg=>
    rw[if_neg c2]at H;have mh:decide (ah<(a0.size:Int))=false:=decide_eq_false c2;clear c2;by_cases c22:a0.toList=([]:List UInt8)
    case neg=>
     rw[if_neg c22]at H;have H7:(a0.toList==([]:List UInt8))=false:=beq_eq_false_iff_ne.mpr c22;have QG:(a0.toList !=([]:List UInt8))=true:=bne_iff_ne.mpr c22;obtain rfl:=sj H;go_wp2;go_ret;exact⟨eS,by repeat(first|exact Za1.refl _|apply Za1.step)⟩
    rw[if_pos c22]at H;have H7:(a0.toList==([]:List UInt8))=true:=beq_iff_eq.mpr c22;have QG:(a0.toList !=([]:List UInt8))=false:=bne_eq_false_iff_eq.mpr c22;clear c22;obtain rfl:=sj H;go_wp2;go_ret;exact⟨eS,by repeat(first|exact Za1.refl _|apply Za1.step)⟩
   rw[if_pos c2]at H;have mh:decide (ah<(a0.size:Int))=true:=decide_eq_true c2;clear c2;obtain⟨gL,H⟩:=ifT H;by_cases c5:(bt a0 ah)≥97
   case neg=>
    rw[if_neg c5]at H;have dS:decide (97≤(bt a0 ah))=false:=decide_eq_false c5;clear c5;by_cases c15:ah=0
    case pos=>
     rw[if_pos c15]at H;have lU:(ah==0)=true:=beq_iff_eq.mpr c15;have BC:(ah !=0)=false:=bne_eq_false_iff_eq.mpr c15;clear c15;obtain rfl:=sj H;have p4:0≤(ah:Int):=odt;have q4:ah<(a0.size:Int):=odt;have hx4:=Zds a0 ah;replace p4:=eq_true p4;replace q4:=eq_true q4;go_wp2;go_ret;exact⟨eS,by repeat(first|exact Za1.refl _|apply Za1.step)⟩
    rw[if_neg c15]at H;have lU:(ah==0)=false:=beq_eq_false_iff_ne.mpr c15;have BC:(ah !=0)=true:=bne_iff_ne.mpr c15;by_cases c17:(bt a0 ah)=95
    case pos=>
     rw[if_pos c17]at H;have Ex:((bt a0 ah)==95)=true:=beq_iff_eq.mpr c17;have QD:((bt a0 ah) !=95)=false:=bne_eq_false_iff_eq.mpr c17;clear c17;have H':=Za.mk H;clear H;have p4:0≤(ah:Int):=odt;have q4:ah<(a0.size:Int):=odt;have hx4:=Zds a0 ah;replace p4:=eq_true p4;replace q4:=eq_true q4;have p16:0≤(ah:Int):=odt;have q16:ah<(a0.size:Int):=odt;have hx16:=Zds a0 ah;replace p16:=eq_true p16;replace q16:=eq_true q16;go_wp2
     go_roundg k1
     case measure=>have:=HK1.out;omega
     case rel=>exact⟨(wrap64 (ah+1)),eS,H',⟨by have:=HK1.out;omega⟩,by repeat(first|exact Za1.refl _|apply Za1.step)⟩
    rw[if_neg c17]at H;have Ex:((bt a0 ah)==95)=false:=beq_eq_false_iff_ne.mpr c17;have QD:((bt a0 ah) !=95)=true:=bne_iff_ne.mpr c17;by_cases c19:(bt a0 ah)<48
    case pos=>
     rw[if_pos c19]at H;have Hz:decide ((bt a0 ah)<48)=true:=decide_eq_true c19;clear c19;obtain rfl:=sj H;have p4:0≤(ah:Int):=odt;have q4:ah<(a0.size:Int):=odt;have hx4:=Zds a0 ah;replace p4:=eq_true p4;replace q4:=eq_true q4;have p16:0≤(ah:Int):=odt;have q16:ah<(a0.size:Int):=odt;have hx16:=Zds a0 ah;replace p16:=eq_true p16;replace q16:=eq_true q16;have p18:0≤(ah:Int):=odt;have q18:ah<(a0.size:Int):=odt;have aFa:=Zds a0 ah;replace p18:=eq_true p18;replace q18:=eq_true q18;go_wp2;go_ret;exact⟨eS,by repeat(first|exact Za1.refl _|apply Za1.step)⟩
    rw[if_neg c19]at H;have Hz:decide ((bt a0 ah)<48)=false:=decide_eq_false c19;clear c19;by_cases c21:(bt a0 ah)>57
    case pos=>
     rw[if_pos c21]at H;have QF:decide (57<(bt a0 ah))=true:=decide_eq_true c21;clear c21;obtain rfl:=sj H;have p4:0≤(ah:Int):=odt;have q4:ah<(a0.size:Int):=odt;have hx4:=Zds a0 ah;replace p4:=eq_true p4;replace q4:=eq_true q4;have p16:0≤(ah:Int):=odt;have q16:ah<(a0.size:Int):=odt;have hx16:=Zds a0 ah;replace p16:=eq_true p16;replace q16:=eq_true q16;have p18:0≤(ah:Int):=odt;have q18:ah<(a0.size:Int):=odt;have aFa:=Zds a0 ah;replace p18:=eq_true p18;replace q18:=eq_true q18;have p20:0≤(ah:Int):=odt;have q20:ah<(a0.size:Int):=odt;have aGa:=Zds a0 ah;replace p20:=eq_true p20;replace q20:=eq_true q20;go_wp2;go_ret;exact⟨eS,by repeat(first|exact Za1.refl _|apply Za1.step)⟩
    rw[if_neg c21]at H;have QF:decide (57<(bt a0 ah))=false:=decide_eq_false c21;clear c21;have H':=Za.mk H;clear H;have p4:0≤(ah:Int):=odt;have q4:ah<(a0.size:Int):=odt;have hx4:=Zds a0 ah;replace p4:=eq_true p4;replace q4:=eq_true q4;have p16:0≤(ah:Int):=odt;have q16:ah<(a0.size:Int):=odt;have hx16:=Zds a0 ah;replace p16:=eq_true p16;replace q16:=eq_true q16;have p18:0≤(ah:Int):=odt;have q18:ah<(a0.size:Int):=odt;have aFa:=Zds a0 ah;replace p18:=eq_true p18;replace q18:=eq_true q18;have p20:0≤(ah:Int):=odt;have q20:ah<(a0.size:Int):=odt;have aGa:=Zds a0 ah;replace p20:=eq_true p20;replace q20:=eq_true q20;go_wp2
    go_roundg k1
    case measure=>have:=HK1.out;omega
    case rel=>exact⟨(wrap64 (ah+1)),eS,H',⟨by have:=HK1.out;omega⟩,by repeat(first|exact Za1.refl _|apply Za1.step)⟩
   rw[if_pos c5]at H;have dS:decide (97≤(bt a0 ah))=true:=decide_eq_true c5;clear c5;by_cases c7:((bt a0 ah)≤122)
   case pos=>
    rw[if_pos c7]at H;have mV:decide ((bt a0 ah)≤122)=true:=decide_eq_true c7;clear c7;have H':=Za.mk H;clear H;have p4:0≤(ah:Int):=odt;have q4:ah<(a0.size:Int):=odt;have hx4:=Zds a0 ah;replace p4:=eq_true p4;replace q4:=eq_true q4;have p6:0≤(ah:Int):=odt;have q6:ah<(a0.size:Int):=odt;have hx6:=Zds a0 ah;replace p6:=eq_true p6;replace q6:=eq_true q6;go_wp2
    go_roundg k1
    case measure=>have:=HK1.out;omega
    case rel=>exact⟨(wrap64 (ah+1)),eS,H',⟨by have:=HK1.out;omega⟩,by repeat(first|exact Za1.refl _|apply Za1.step)⟩
   rw[if_neg c7]at H;have mV:decide ((bt a0 ah)≤122)=false:=decide_eq_false c7;clear c7;by_cases c8:ah=0
   case pos=>
    rw[if_pos c8]at H;have nP:(ah==0)=true:=beq_iff_eq.mpr c8;have BH:(ah !=0)=false:=bne_eq_false_iff_eq.mpr c8;clear c8;obtain rfl:=sj H;have p4:0≤(ah:Int):=odt;have q4:ah<(a0.size:Int):=odt;have hx4:=Zds a0 ah;replace p4:=eq_true p4;replace q4:=eq_true q4;have p6:0≤(ah:Int):=odt;have q6:ah<(a0.size:Int):=odt;have hx6:=Zds a0 ah;replace p6:=eq_true p6;replace q6:=eq_true q6;go_wp2;go_ret;exact⟨eS,by repeat(first|exact Za1.refl _|apply Za1.step)⟩
   rw[if_neg c8]at H;have nP:(ah==0)=false:=beq_eq_false_iff_ne.mpr c8;have BH:(ah !=0)=true:=bne_iff_ne.mpr c8;by_cases c10:(bt a0 ah)=95
   case pos=>
    rw[if_pos c10]at H;have qP:((bt a0 ah)==95)=true:=beq_iff_eq.mpr c10;have dga:((bt a0 ah) !=95)=false:=bne_eq_false_iff_eq.mpr c10;clear c10;have H':=Za.mk H;clear H;have p4:0≤(ah:Int):=odt;have q4:ah<(a0.size:Int):=odt;have hx4:=Zds a0 ah;replace p4:=eq_true p4;replace q4:=eq_true q4;have p6:0≤(ah:Int):=odt;have q6:ah<(a0.size:Int):=odt;have hx6:=Zds a0 ah;replace p6:=eq_true p6;replace q6:=eq_true q6;have p9:0≤(ah:Int):=odt;have q9:ah<(a0.size:Int):=odt;have hx9:=Zds a0 ah;replace p9:=eq_true p9;replace q9:=eq_true q9;go_wp2
    go_roundg k1
    case measure=>have:=HK1.out;omega
    case rel=>exact⟨(wrap64 (ah+1)),eS,H',⟨by have:=HK1.out;omega⟩,by repeat(first|exact Za1.refl _|apply Za1.step)⟩
   rw[if_neg c10]at H;have qP:((bt a0 ah)==95)=false:=beq_eq_false_iff_ne.mpr c10;have dga:((bt a0 ah) !=95)=true:=bne_iff_ne.mpr c10;by_cases c12:(bt a0 ah)<48
   case pos=>
    rw[if_pos c12]at H;have ll:decide ((bt a0 ah)<48)=true:=decide_eq_true c12;clear c12;obtain rfl:=sj H;have p4:0≤(ah:Int):=odt;have q4:ah<(a0.size:Int):=odt;have hx4:=Zds a0 ah;replace p4:=eq_true p4;replace q4:=eq_true q4;have p6:0≤(ah:Int):=odt;have q6:ah<(a0.size:Int):=odt;have hx6:=Zds a0 ah;replace p6:=eq_true p6;replace q6:=eq_true q6;have p9:0≤(ah:Int):=odt;have q9:ah<(a0.size:Int):=odt;have hx9:=Zds a0 ah;replace p9:=eq_true p9;replace q9:=eq_true q9;have p11:0≤(ah:Int):=odt;have q11:ah<(a0.size:Int):=odt;have aEa:=Zds a0 ah;replace p11:=eq_true p11;replace q11:=eq_true q11;go_wp2;go_ret;exact⟨eS,by repeat(first|exact Za1.refl _|apply Za1.step)⟩
   rw[if_neg c12]at H;have ll:decide ((bt a0 ah)<48)=false:=decide_eq_false c12;clear c12;by_cases c14:(bt a0 ah)>57
   case pos=>
    rw[if_pos c14]at H;have nN:decide (57<(bt a0 ah))=true:=decide_eq_true c14;clear c14;obtain rfl:=sj H;have p4:0≤(ah:Int):=odt;have q4:ah<(a0.size:Int):=odt;have hx4:=Zds a0 ah;replace p4:=eq_true p4;replace q4:=eq_true q4;have p6:0≤(ah:Int):=odt;have q6:ah<(a0.size:Int):=odt;have hx6:=Zds a0 ah;replace p6:=eq_true p6;replace q6:=eq_true q6;have p9:0≤(ah:Int):=odt;have q9:ah<(a0.size:Int):=odt;have hx9:=Zds a0 ah;replace p9:=eq_true p9;replace q9:=eq_true q9;have p11:0≤(ah:Int):=odt;have q11:ah<(a0.size:Int):=odt;have aEa:=Zds a0 ah;replace p11:=eq_true p11;replace q11:=eq_true q11;have p13:0≤(ah:Int):=odt;have q13:ah<(a0.size:Int):=odt;have QR:=Zds a0 ah;replace p13:=eq_true p13;replace q13:=eq_true q13;go_wp2;go_ret;exact⟨eS,by repeat(first|exact Za1.refl _|apply Za1.step)⟩
   rw[if_neg c14]at H;have nN:decide (57<(bt a0 ah))=false:=decide_eq_false c14;clear c14;have H':=Za.mk H;clear H;have p4:0≤(ah:Int):=odt;have q4:ah<(a0.size:Int):=odt;have hx4:=Zds a0 ah;replace p4:=eq_true p4;replace q4:=eq_true q4;have p6:0≤(ah:Int):=odt;have q6:ah<(a0.size:Int):=odt;have hx6:=Zds a0 ah;replace p6:=eq_true p6;replace q6:=eq_true q6;have p9:0≤(ah:Int):=odt;have q9:ah<(a0.size:Int):=odt;have hx9:=Zds a0 ah;replace p9:=eq_true p9;replace q9:=eq_true q9;have p11:0≤(ah:Int):=odt;have q11:ah<(a0.size:Int):=odt;have aEa:=Zds a0 ah;replace p11:=eq_true p11;replace q11:=eq_true q11;have p13:0≤(ah:Int):=odt;have q13:ah<(a0.size:Int):=odt;have QR:=Zds a0 ah;replace p13:=eq_true p13;replace q13:=eq_true q13;go_wp2
   go_roundg k1
   case measure=>have:=HK1.out;omega
   case rel=>exact⟨(wrap64 (ah+1)),eS,H',⟨by have:=HK1.out;omega⟩,by repeat(first|exact Za1.refl _|apply Za1.step)⟩
def Zbl.l0 : Nat → List (List (S59)) → List (List (S59)) → Int → Option ((List (List (S59))))
 | 0, _, _, _ => none
 |k+1,x0,x3,x4=>if x4<(x0.length:Int)then((some (([]:List (S59)):List (S59))).bind fun GA=>(if 0≤x4 then(if GA.length+(Ze x0 x4).length<8796093022208 then(if x3.length<5864062014805 then(Zbl.l0 k x0 (x3++ [(GA++(Ze x0 x4))]) (wrap64 (x4+1)))else(none))else(none))else(none)))else(some x3)
def Zbl.f (k:Nat) (l0:List (List (S59))):Option ((List (List (S59)))):=Zbl.l0 k l0 (([]:List (List (S59)))) 0
set_option maxRecDepth 100000 in
theorem Zbl.calls (k : Nat) (A0 : Option Addr) (c0 : Nat) (l0 : List (List (S59))) (r : List (List (S59))) (w : World) (hr0 : Kd.C (Kd.slice 59 k59) w A0 l0.length l0) (hc0 : l0.length ≤ c0) (h : Zbl.f k l0 = some r) :
  Calls Tryz.prog 37 #[.slice A0 l0.length c0] w fun e w'=>∃v0_:Value,e= .returned (v0_)∧Kd.S (Kd.slice 59 k59) 35 w' w.heap.size (fun _=>True) v0_ r∧Below w.heap.size w w':=by
 have HR0:=Za.mk hr0;have HC0:=Za.mk hc0;clear hr0 hc0;have HB:=Za.mk (Below.refl w.heap.size w);have H:(Zbl.l0 k l0 (([]:List (List (S59)))) 0)=some r:=h;clear h;obtain⟨b7a,IJ⟩:∃y_:List (List (S59)),y_=(([]:List (List (S59)))):=⟨_,rfl⟩;replace H:(Zbl.l0 k l0 b7a 0)=some r:=by first|(rw[IJ];with_reducible exact H)|(have H2_:=(Option.bind_some _ _).symm.trans H;rw[IJ];with_reducible exact H2_)|(have H2_:=(Option.bind_some _ _).symm.trans H;with_reducible exact H2_)|with_reducible exact H|(rw[IJ];exact H)|exact H
 have VD:=Za.mk IJ;clear IJ;have H':=Za.mk H;clear H;go_enter Tryz.func37,Tryz.ntmps37
 go_wp2_with (first|((with_reducible refine Zap (N:=5) rfl ?_);refine Kd.S_lit (Kd.slice 59 k59) _ 35 ?hg (N:=5) ?hd (xs:=([]:List (List (S59)))) (inner:= []) (ok:=fun _=>True) (okp:=fun _=>True) ?hr ?hp (fun _ hk=>hk) trivial (Below.refl _ _) (Nat.le_refl _) (by simp) ?_;(case hd=>rfl);(case hg=>rfl);(case hr=>first|(go_simp;done)|(go_simp;rfl));(case hp=>exact(Reps.none _ _));intro uca w2 ho3 hb hg_ hnew_;clear hg_ hnew_;(first|rw[←VD.out]at ho3|(simp only[Int.reduceToNat]at ho3;rw[←VD.out]at ho3));have bXa:=Za.mk (Kd.Zfg ho3 (Zaj (bM HB.out)));replace HB:=Za.mk (bS HB.out hb);clear hb ho3))
 go_loopg [3,4] k (fun kq v3 v4 w'=>∃(ah:List (List (S59))) (az:Int),v4= .int .i64 az∧Za (Zbl.l0 kq l0 ah az=some r)∧Za (kq≤k)∧Za (Kd.S (Kd.slice 59 k59) 35 w' w.heap.size (fun _=>True) v3 ah)∧Za (Below w.heap.size w w'))
 case atStart=>exact⟨(b7a),(0),eS,H',⟨Nat.le_refl _⟩,⟨sM bXa.out⟩,⟨bM HB.out⟩⟩
 case round=>
  clear H';try clear p2
  try clear c3
  obtain⟨ah,az,rfl,HA,HK1,bL,HB⟩:=hrel
  cases gk with
  | zero => exact absurd HA.out (by simp [Zbl.l0])
  |succ k1=>
   have H:=HA.out;clear HA;simp only[Zbl.l0]at H;by_cases c4:az<(l0.length:Int)
   case neg=>
    rw[if_neg c4]at H;have dV:decide (az<(l0.length:Int))=false:=decide_eq_false c4;clear c4;obtain rfl:=sj H;go_wp2;go_ret;exact⟨_,eR,sM bL.out,bM HB.out⟩
   rw[if_pos c4]at H;have dV:decide (az<(l0.length:Int))=true:=decide_eq_true c4;clear c4;obtain⟨GA,IK⟩:∃y_:List (S59),y_=(([]:List (S59))):=⟨_,rfl⟩;replace H:(if 0≤az then(if GA.length+(Ze l0 az).length<8796093022208 then(if ah.length<5864062014805 then(Zbl.l0 k1 l0 (ah++ [(GA++(Ze l0 az))]) (wrap64 (az+1)))else(none))else(none))else(none))=some r:=by first|(rw[IK];with_reducible exact H)|(have H2_:=(Option.bind_some _ _).symm.trans H;rw[IK];with_reducible exact H2_)|(have H2_:=(Option.bind_some _ _).symm.trans H;with_reducible exact H2_)|with_reducible exact H|(rw[IK];exact H)|exact H
   have VE:=Za.mk IK;clear IK;obtain⟨dS,H⟩:=ifT H;obtain⟨c6,H⟩:=ifP H;have TH:=Za.mk c6;clear c6;obtain⟨NG,IL⟩:∃y_:List (S59),y_=(GA++(Ze l0 az)):=⟨_,rfl⟩;replace H:(if ah.length<5864062014805 then(Zbl.l0 k1 l0 (ah++ [NG]) (wrap64 (az+1)))else(none))=some r:=by first|(rw[IL];with_reducible exact H)|(have H2_:=(Option.bind_some _ _).symm.trans H;rw[IL];with_reducible exact H2_)|(have H2_:=(Option.bind_some _ _).symm.trans H;with_reducible exact H2_)|with_reducible exact H|(rw[IL];exact H)|exact H
   have cBa:=Za.mk IL;clear IL;obtain⟨c7,H⟩:=ifP H;have M6:=Za.mk c7;clear c7;obtain⟨b8a,IM⟩:∃y_:List (List (S59)),y_=(ah++ [NG]):=⟨_,rfl⟩;replace H:(Zbl.l0 k1 l0 b8a (wrap64 (az+1)))=some r:=by first|(rw[IM];with_reducible exact H)|(have H2_:=(Option.bind_some _ _).symm.trans H;rw[IM];with_reducible exact H2_)|(have H2_:=(Option.bind_some _ _).symm.trans H;with_reducible exact H2_)|with_reducible exact H|(rw[IM];exact H)|exact H
   have cCa:=Za.mk IM;clear IM;have H':=Za.mk H;clear H
   go_wp2_with (first|((with_reducible refine Zap (N:=13) rfl ?_);refine Kd.Zdf k59 _ 59 ?hg (N:=13) ?hd (xs:=([]:List (S59))) (inner:= []) (ok:=fun _=>True) (okp:=fun _=>True) ?hr ?hp (fun _ hk=>hk) trivial (Below.refl _ _) (Nat.le_refl _) (by simp) ?_;(case hd=>rfl);(case hg=>rfl);(case hr=>first|(go_simp;done)|(go_simp;rfl));(case hp=>exact(Reps.none _ _));intro joa w8 ho9 hb hg_ hnew_;clear hg_ hnew_;(first|rw[←VE.out]at ho9|(simp only[Int.reduceToNat]at ho9;rw[←VE.out]at ho9));replace bL:=Za.mk (Kd.Zek (sM bL.out) (Kd.Zb4 ho9) hb);have Vs:=Za.mk (Kd.Zbp ho9 (Zaj (bM HB.out)));replace HB:=Za.mk (bS HB.out hb);clear hb ho9;have Ur:0≤(az:Int):=odt;have U6:az<(l0.length:Int):=odt;obtain⟨lga,jDa,jGa,ica,Pe,OC,Ot⟩:=at_L4 HR0.out az Ur U6;cases ica;replace Pe:=hB HB.out Pe;have XO:=Za.mk Ot;have j4a:=Za.mk OC;clear Ot OC;replace Ur:=eq_true Ur;replace U6:=eq_true U6)|((with_reducible refine Zbk (b:= .append) (xs:=#[.tmp 13,.tmp 17]) rfl ?_);at_builtin;refine Kd.Zcx k59 (w0:=w) w.heap.size rfl (.tmp 13) (.tmp 17) 35 59 (.agg #[(.int .i64 0),(.int .i64 0)]) 16 rfl Tryz.underlying35 Zgl rfl (by decide) (by omega) joa GA (Ze l0 az) _ _ _ (fun _=>True) (fun _=>False) rfl rfl ?aO ?aR (fun _ _ h=>h) (fun _ h=>h.elim) ?aF ?aB ?aS ?aL ?_;(case aR=>repeat(first|exact(Kd.Zaf XO.out HB.out)|(with_reducible refine Kd.C_alloc ?_ _)|(with_reducible refine Kd.Zcm ?_ _)|(with_reducible refine Kd.C_drew ?_)));(case aB=>exact(bM HB.out));(case aF=>exact(fun _ _=>trivial));(case aO=>exact(rM Vs.out));(case aS=>exact(Zaj (bM HB.out)));(case aL=>have:=TH.out;omega);intro uda w10 ho hb hg hat;rw[←cBa.out]at ho;replace bL:=Za.mk (Kd.S_after (ok:=(fun _=>True)) (sM bL.out) hg hat);replace HB:=Za.mk (hb);have KR:=Za.mk (ho);clear Vs;clear ho hb hg hat;obtain⟨lm,lw,BM⟩:=Kd.Za9 KR.out;subst BM)|((with_reducible refine Zbk (b:= .append) (xs:=#[.tmp 12,.tmp 19]) rfl ?_);at_builtin;refine Kd.Zf8 (Kd.slice 59 k59) (w0:=w) w.heap.size rfl (.tmp 12) (.tmp 19) 45 35 (.slice none 0 0) 24 rfl Tryz.underlying45 info35 rfl (by decide) (by omega) u3 ah NG [.slice lm NG.length lw] (fun _=>True) (fun k_=>some k_=(.slice lm NG.length lw:Value).ownBlock) rfl rfl ?aP (fun k_ hk_=>((Kd.Zaw (ok':=fun k_=>((fun _=>True)) k_∧some k_≠(u3:Value).ownBlock) (Kd.Zcp (KR.out) (Kd.Zda bL.out) (by decide)) (fun k_ hk=>⟨trivial,hk.2⟩))).1 k_ hk_.symm) ?aF ?aO ?aB ?aS ?aL ?_;(case aP=>exact Kd.M_row (Kd.Zaw (Kd.Zdr rfl (Kd.Zaw (ok':=fun k_=>((fun _=>True)) k_∧some k_≠(u3:Value).ownBlock) (Kd.Zcp (KR.out) (Kd.Zda bL.out) (by decide)) (fun k_ hk=>⟨trivial,hk.2⟩))) (fun _ h_=>h_)));(case aB=>exact(bM HB.out));(case aF=>exact(fun _ _=>trivial));(case aO=>exact(sM (Kd.Zcu bL.out (fun k_ hk=>⟨trivial,fun e_=>hk.2 e_⟩))));(case aS=>exact(Zaj (bM HB.out)));(case aL=>have:=M6.out;omega);intro uea w11 ho hb hg hat;rw[←cCa.out]at ho;replace HB:=Za.mk (hb);have bYa:=Za.mk (ho);clear bL KR;clear ho hb hg hat))
   go_roundg k1
   case measure=>have:=HK1.out;omega
   case rel=>exact⟨(b8a),(wrap64 (az+1)),eS,H',⟨by have:=HK1.out;omega⟩,⟨sM bYa.out⟩,⟨bM HB.out⟩⟩
def Zbn.l0 : Nat → List (List (S59)) → Int → List (S37) → List (S40) → Int → List Int → List Int → Option ((List (List (S59))))
 | 0, _, _, _, _, _, _, _ => none
 |k+1,x3,x4,Kw,Yy,Yz,Y0,Y1=>if x4<(Kw.length:Int)then(if 0≤x4 then(if x3.length<5864062014805 then(Zbn.l0 k (x3++ [(Zaq Kw x4).f1]) (wrap64 (x4+1)) Kw Yy Yz Y0 Y1)else(none))else(none))else((Zbl.f k x3).bind fun UG=>(some UG))
def Zbn.f (k:Nat) (ae:List (S37)) (aa:List (S40)) (aj:Int) (ak:List Int) (ai:List Int):Option ((List (List (S59)))):=Zbn.l0 k (([]:List (List (S59)))) 0 ae aa aj ak ai
set_option maxRecDepth 100000 in
theorem Zbn.calls (k : Nat) (P0_0_ : Nat → Prop) (bF : Option Addr) (bv : Nat) (ae : List (S37)) (aI : Option Addr) (aG : Nat) (aa : List (S40)) (aj : Int) (bi : Option Addr) (bn : Nat) (ak : List Int) (bf : Option Addr) (bg : Nat) (ai : List Int) (r : List (List (S59))) (w : World) (hs0_0 : Kd.V k37 37 w w.heap.size (fun k_ => P0_0_ k_) (.slice bF ae.length bv) ae) (eO : Kd.C k40 w aI aa.length aa) (eH : aa.length ≤ aG) (kF : Kd.C (Kd.int .i64) w bi ak.length ak) (ky : ak.length ≤ bn) (kH : Kd.C (Kd.int .i64) w bf ai.length ai) (kz : ai.length ≤ bg) (h : Zbn.f k ae aa aj ak ai = some r) :
  Calls Tryz.prog 18 #[.agg #[.slice bF ae.length bv,.slice aI aa.length aG,.int .i64 aj,.slice bi ak.length bn,.slice bf ai.length bg]] w fun e w'=>∃v0_:Value,e= .returned (v0_)∧Kd.N (Kd.slice 59 k59) 35 w' w.heap.size (fun k_=>(P0_0_ k_∨w.heap.size≤k_)) v0_ r∧Below w.heap.size w w':=by
 have hu28:=Tryz.underlying28;have GV:=Za.mk (show Kd.V k37 37 w w.heap.size (fun k_=>(P0_0_ k_∨w.heap.size≤k_)) (.slice bF ae.length bv) ae from Kd.Zdz hs0_0 (fun k_ hk=> .inl hk));have fE:=Za.mk eO;have gU:=Za.mk eH;clear eO eH;have kr:=Za.mk kF;have lI:=Za.mk ky;clear kF ky;have lh:=Za.mk kH;have lJ:=Za.mk kz;clear kH kz;have HB:=Za.mk (Below.refl w.heap.size w);have H:(Zbn.l0 k (([]:List (List (S59)))) 0 ae aa aj ak ai)=some r:=h;clear h;obtain⟨b9a,IP⟩:∃y_:List (List (S59)),y_=(([]:List (List (S59)))):=⟨_,rfl⟩;replace H:(Zbn.l0 k b9a 0 ae aa aj ak ai)=some r:=by first|(rw[IP];with_reducible exact H)|(have H2_:=(Option.bind_some _ _).symm.trans H;rw[IP];with_reducible exact H2_)|(have H2_:=(Option.bind_some _ _).symm.trans H;with_reducible exact H2_)|with_reducible exact H|(rw[IP];exact H)|exact H
 have VF:=Za.mk IP;clear IP;have H':=Za.mk H;clear H;go_enter Tryz.func18,Tryz.ntmps18
 go_wp2_with (first|((with_reducible refine Zap (N:=1) rfl ?_);refine bx 1 #[.slice bF ae.length bv,.slice aI aa.length aG,.int .i64 aj,.slice bi ak.length bn,.slice bf ai.length bg] 28 ?_;intro oP hg w2 hbox hb;replace GV:=Za.mk (Kd.Zfh (Kd.Zex (vM GV.out) oP (Nat.le_of_eq hg.symm)) hb);have oC:=Za.mk (hbox);have kIa:=Za.mk ((gE hg HB.out:w.heap.size≤oP));replace HB:=Za.mk (bS HB.out hb);clear hb hbox hg)|((with_reducible refine Zap (N:=5) rfl ?_);refine Kd.N_lit (Kd.slice 59 k59) _ 35 ?hg (N':=5) ?hd (xs:=([]:List (List (S59)))) (inner:= []) (ok:=(fun k_=>(P0_0_ k_∨w.heap.size≤k_)∧k_≠oP)) (okp:=(fun k_=>(P0_0_ k_∨w.heap.size≤k_)∧k_≠oP)) ?hr ?hp (fun _ hk=>hk) ((show ∀k_,w2.heap.size≤k_→(fun k_=>(P0_0_ k_∨w.heap.size≤k_)∧k_≠oP) k_ from fun k_ hk=>⟨(.inr (Nat.le_trans (Zaj (bM HB.out)) hk)),Kd.freshB (kM oC.out) k_ hk⟩) _ (Nat.le_refl _)) (Below.refl _ _) (Nat.le_refl _) (by simp) ?_;(case hd=>rfl);(case hg=>rfl);(case hr=>first|(go_simp;done)|(go_simp;rfl));(case hp=>exact(Reps.none _ _));intro ufa w3 ho4 hb hg_ hnew_;clear hg_ hnew_;(first|rw[←VF.out]at ho4|(simp only[Int.reduceToNat]at ho4;rw[←VF.out]at ho4));replace GV:=Za.mk (Kd.Zew (vM GV.out) (Kd.Zhc ho4) hb);have caa:=Za.mk (Kd.Zff ho4 (Zaj (bM HB.out)));replace oC:=Za.mk (kB oC.out hb);replace HB:=Za.mk (bS HB.out hb);clear hb ho4))
 go_loopg [3,4] k (fun kq v3 v4 w'=>∃(ah:List (List (S59))) (az:Int),v4= .int .i64 az∧Za (Zbn.l0 kq ah az ae aa aj ak ai=some r)∧Za (kq≤k)∧Za (Kd.N (Kd.slice 59 k59) 35 w' w.heap.size (fun k_=>(P0_0_ k_∨w.heap.size≤k_)∧k_≠oP) v3 ah)∧Za (Kd.V k37 37 w' w.heap.size (fun k_=>(P0_0_ k_∨w.heap.size≤k_)∧some k_≠(v3:Value).ownBlock∧k_≠oP) (.slice bF ae.length bv) ae)∧Za (w'.heap[oP]? =some (.cells #[(.slice bF ae.length bv),(.slice aI aa.length aG),.int .i64 aj,(.slice bi ak.length bn),(.slice bf ai.length bg)] 28 (0,0)))∧Za (Below w.heap.size w w'))
 case atStart=>exact⟨(b9a),(0),eS,H',⟨Nat.le_refl _⟩,⟨nM caa.out⟩,⟨vM (Kd.Zdz GV.out (fun _ hk=>⟨hk.1.1,⟨hk.2,hk.1.2⟩⟩))⟩,⟨by(with_reducible repeat(first|refine Zab ?_ _|refine Zad ?_|refine Zaa ?_ _));exact oC.out⟩,⟨bM HB.out⟩⟩
 case round=>
  clear H';try clear c1
  try clear p2
  obtain⟨ah,az,rfl,HA,HK1,bL,oU,oC,HB⟩:=hrel
  cases gk with
  | zero => exact absurd HA.out (by simp [Zbn.l0])
  |succ k1=>
   have H:=HA.out;clear HA;simp only[Zbn.l0]at H;by_cases c5:az<(ae.length:Int)
   case neg=>
    rw[if_neg c5]at H;have dS:decide (az<(ae.length:Int))=false:=decide_eq_false c5;clear c5;obtain⟨UG,A10,H⟩:=bnd H;try dsimp only at H
    obtain rfl:=sj H;obtain⟨LV,LW,RN,WX,WY,Lp,Lr,Rb,Wx,Wy⟩:=cz5 oC.out;obtain⟨lm,lw,BM⟩:=Kd.Zc7 bL.out;subst BM
    go_wp2_with (first|((with_reducible refine Zat (f:=37) rfl ?_);refine gl 23 Tryz.func37 #[.slice lm ah.length lw] ?_;(with_reducible refine(Zbl.calls k1 _ _ ah UG _ (cM ((Kd.Zby bL.out).2.2)) ((Kd.Zby bL.out).2.1) A10.out).mono ?_);rintro e w13 ⟨uha,rfl,ho0,hb⟩;refine⟨_,rfl,?_⟩;have cca:=Za.mk (Kd.Zff (Kd.Ze5 (ok':=fun k_=>(P0_0_ k_∨w.heap.size≤k_)∧some k_≠(.slice lm ah.length lw:Value).ownBlock∧k_≠oP) (Kd.S_N (Kd.S_bound ho0)) (fun k_ hk_=>⟨(.inr (Nat.le_trans (Zaj (bM HB.out)) hk_.2.1)),(Kd.fresh' (Kd.N_lt (nM bL.out)) k_ hk_.2.1),(Kd.freshB (kM oC.out) k_ hk_.2.1)⟩)) (Zaj (bM HB.out)));replace HB:=Za.mk (bS HB.out hb);clear bL oU oC;(try clear hb);(try clear hb2);(try clear hk);(try clear hi);(try clear ho0)))
    go_ret;exact⟨_,eR,nM (Kd.Ze5 cca.out (fun _ hk=>hk.1)),bM HB.out⟩
   rw[if_pos c5]at H;have dS:decide (az<(ae.length:Int))=true:=decide_eq_true c5;clear c5;obtain⟨jh,H⟩:=ifT H;obtain⟨c7,H⟩:=ifP H;have M6:=Za.mk c7;clear c7;obtain⟨bAa,IQ⟩:∃y_:List (List (S59)),y_=(ah++ [(Zaq ae az).f1]):=⟨_,rfl⟩;replace H:(Zbn.l0 k1 bAa (wrap64 (az+1)) ae aa aj ak ai)=some r:=by first|(rw[IQ];with_reducible exact H)|(have H2_:=(Option.bind_some _ _).symm.trans H;rw[IQ];with_reducible exact H2_)|(have H2_:=(Option.bind_some _ _).symm.trans H;with_reducible exact H2_)|with_reducible exact H|(rw[IQ];exact H)|exact H
   have cDa:=Za.mk IQ;clear IQ;have H':=Za.mk H;clear H;obtain⟨Dj,Dk,Dl,Dm,Dn,Cy,Cz,C8,C9,CE⟩:=cz5 oC.out;have QS:0≤(az:Int):=odt;have QU:az<(ae.length:Int):=odt;obtain⟨lha,YA,YV,rfl,j8a,Yb,OD,Ou⟩:=Zdc (Kd.Zel oU.out).2.2 az QS QU;obtain⟨ce330,hce330,hMe330,hcc330⟩:=Kd.V_get oU.out z37 az QS (by first|exact QU|exact odt|(have e_:=(Kd.Zel oU.out).1;omega));obtain⟨ua330_1,uc330_1,rfl,ul330_1,ge330_1⟩:=k37_openF hMe330;have hv330_1:=hcc330 1 _ rfl;rw[Zd3 _ _ 1 (by omega)]at hv330_1;replace hv330_1:=Option.some.inj (hv330_1.symm.trans Yb)
   injection hv330_1 with hva_ hvn_ hvc_
   rw[hva_]at ge330_1;rw[hvc_]at ul330_1;have HL330_1:=Za.mk (show Kd.V k59 59 _ w.heap.size _ _ ((Zaq ae az).f1)from Kd.V_mk ul330_1 ge330_1);clear hva_ hvn_ hvc_ ge330_1 ul330_1 hcc330 hce330;have j7a:=Za.mk Ou;have j5a:=Za.mk OD;clear Ou OD;replace QS:=eq_true QS;replace QU:=eq_true QU
   go_wp2_with (first|((with_reducible refine Zbk (b:= .append) (xs:=#[.tmp 13,.tmp 20]) rfl ?_);at_builtin;refine Kd.N_append (Kd.slice 59 k59) (w0:=w) w.heap.size rfl (.tmp 13) (.tmp 20) 45 35 (.slice none 0 0) 24 rfl Tryz.underlying45 info35 rfl (by decide) (by omega) u3 ah ((Zaq ae az).f1) [.slice YA ((Zaq ae az).f1).length YV] (fun k_=>(P0_0_ k_∨w.heap.size≤k_)∧k_≠oP) (fun k_=>((fun k_=>(P0_0_ k_∨w.heap.size≤k_)∧k_≠oP)) k_∧some k_≠(u3:Value).ownBlock) rfl rfl ?aP (fun _ hk=>hk) ?aF ?aO ?aB ?aS ?aL ?_;(case aP=>exact(Kd.Zgc (Kd.Zel (Kd.Zdz (ok':=(fun k_=>((fun k_=>(P0_0_ k_∨w.heap.size≤k_)∧k_≠oP)) k_∧some k_≠(u3:Value).ownBlock)) (HL330_1.out) (fun k_ hk=>⟨⟨hk.1,hk.2.2⟩,hk.2.1⟩))).2.1 (Kd.V_F (Kd.Zdz (ok':=(fun k_=>((fun k_=>(P0_0_ k_∨w.heap.size≤k_)∧k_≠oP)) k_∧some k_≠(u3:Value).ownBlock)) (HL330_1.out) (fun k_ hk=>⟨⟨hk.1,hk.2.2⟩,hk.2.1⟩)))));(case aB=>exact(bM HB.out));(case aF=>exact(fun k_ hk=>⟨(.inr (Nat.le_trans (Zaj (bM HB.out)) hk)),Kd.freshB (kM oC.out) k_ hk⟩));(case aO=>exact(nM bL.out));(case aS=>exact(Zaj (bM HB.out)));(case aL=>have:=M6.out;omega);intro uga w9 ho hb hg hat;rw[←cDa.out]at ho;replace oU:=Za.mk (Kd.V_afterv (ok:=(fun k_=>(P0_0_ k_∨w.heap.size≤k_)∧k_≠oP)) (vM (Kd.Zdz oU.out (fun _ hk=>⟨⟨hk.1,hk.2.2⟩,hk.2.1⟩))) hg hat);replace oC:=Za.mk (kG oC.out hg (Kd.N_ne bL.out oC.out (by decide)));replace HB:=Za.mk (hb);have cba:=Za.mk (ho);clear HL330_1 bL;clear ho hb hg hat))
   go_roundg k1
   case measure=>have:=HK1.out;omega
   case rel=>exact⟨(bAa),(wrap64 (az+1)),eS,H',⟨by have:=HK1.out;omega⟩,⟨nM cba.out⟩,⟨vM (Kd.Zdz oU.out (fun _ hk=>⟨hk.1.1,⟨hk.2,hk.1.2⟩⟩))⟩,⟨by(with_reducible repeat(first|refine Zab ?_ _|refine Zad ?_|refine Zaa ?_ _));exact oC.out⟩,⟨bM HB.out⟩⟩
end Go.Proofs.YtkgjaklnbgdmiaaGreat.P
