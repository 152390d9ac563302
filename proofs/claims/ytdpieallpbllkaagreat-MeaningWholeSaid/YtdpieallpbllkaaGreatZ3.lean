/- Proved: what each function of the program that the statements of this seat reach comes to, for whatever memory and arguments it is called with (on condition that its plain text tells a result). -/
import Derived.Test.YtdpieallpbllkaaGreatZ1
import Derived.Test.YtdpieallpbllkaaGreatZ2
import Derived.Shelf.GgClosure.Gives
import Derived.Deep.LoopGhost
import Derived.Maps.OwnSet
import Derived.StringKeys
import Derived.Laws.RangeString
import Derived.Laws.RangeAny
import Derived.Laws.Strings
import Derived.Laws.Strings2
import Derived.Laws.Strings3
import Derived.LoopTactic
import Derived.Lib.SliceRun
import Derived.Carry
/- dom.Least and dom.Next, inside a fence (for the iterator meaning.all). -/
set_option linter.unusedSimpArgs false
set_option linter.unusedVariables false
set_option maxHeartbeats 8000000
namespace Go.Proofs.YtdpieallpbllkaaGreat.P
open Go.RowKit Go.Shelf Go.Proofs.YtdpieallpbllkaaGreatW.PrintWords Go.Proofs.YtdpieallpbllkaaGreatW.PrintLast Go.Proofs.YtdpieallpbllkaaGreatW.PrintMore
attribute [local go_sem] Oper.semAt_some
def leastV : List S82 → Int × Bool
  | [] => (0, false)
  |x::_=>(x.f0,true)
def nextV (v : Int) : List S82 → Int × Bool
  | [] => (0, false)
  |x::d=>if v<x.f1 then(max x.f0 (wrap64 (v+1)),true)else nextV v d
theorem least_in (F : Fence) (n : Nat) (h : F.fn 83) (hro : F.round = none) (A : Option Addr) (c : Nat) (zs : List S82) (w : World) (hr : Kd.C k82 w A zs.length zs) :
    CallsIn F n Tryz.prog 83 #[.slice A zs.length c] w fun e w'=>e= .returned (.tuple #[.int .i64 (leastV zs).1,.bool (leastV zs).2])∧w'=w:=by
  refine callsIn_of_wp Tryz.func83 rfl h ?_ hro;simp only[Tryz.ntmps83,List.size_toArray,List.length_cons,List.length_nil,Nat.reduceAdd,Nat.reduceSub,Array.replicate_succ,Array.replicate_zero,List.push_toArray,List.append_toArray,List.nil_append,List.cons_append];have hlen:zs.length≤9223372036854775807:=hr.2.1
  cases zs with
  |nil=>
    clear hr
    gi_wp2
    go_ret2
    exact⟨rfl,rfl⟩
  |cons x d=>
    obtain⟨ad,rfl,hx0,hx1⟩:=Zem hr (0:Int) (by omega) (by simp);have p1_:decide ((0:Int)<((x::d).length:Int))=true:=decide_eq_true (by simp);have p2_:(((x::d).length:Int)==0)=false:=beq_eq_false_iff_ne.2 (by simp;omega);have hx0q:w.cell? ad=some (.int .i64 x.f0):=by first|exact hx0|(simpa using hx0)|(simpa[Addr.add] using hx0)
    have p3_:0<(x::d).length:=by simp
    generalize hL:(x::d).length=L at*
    have HL:=Za.mk hL;clear hL hr hx0 hx1
    gi_wp2
    go_ret2
    exact⟨rfl,rfl⟩
theorem drop_atR {zs:List S82} {k:Nat} (h:k<zs.length):zs.drop k=Zbk zs (k:Int)::zs.drop (k+1):=by
  rw[List.drop_eq_getElem_cons h]
  simp[Zbk,List.getD_eq_getElem?_getD,List.getElem?_eq_getElem h]
set_option maxRecDepth 100000 in
theorem next_in (F : Fence) (n : Nat) (h : F.fn 84) (hro : F.round = none) (A : Option Addr) (c : Nat) (zs : List S82) (v : Int) (w : World) (hr : Kd.C k82 w A zs.length zs) :
    CallsIn F n Tryz.prog 84 #[.slice A zs.length c,.int .i64 v] w fun e w'=>e= .returned (.tuple #[.int .i64 (nextV v zs).1,.bool (nextV v zs).2])∧Below w.heap.size w w':=by
  refine callsIn_of_wp Tryz.func84 rfl h ?_ hro;simp only[Tryz.ntmps84,List.size_toArray,List.length_cons,List.length_nil,Nat.reduceAdd,Nat.reduceSub,Array.replicate_succ,Array.replicate_zero,List.push_toArray,List.append_toArray,List.nil_append,List.cons_append];have hlen:zs.length≤9223372036854775807:=hr.2.1
  generalize hR:nextV v zs=R
  have HR:=Za.mk hR;clear hR
  gi_wp2
  gi_loopw [10] (fun i10 wr => ∃ k : Nat, k ≤ zs.length ∧ i10 = .int .i64 k ∧ Za (nextV v (zs.drop k) = R) ∧ Below w.heap.size w wr)
    (fun i _=>zs.length - (intOf i).toNat)
  case atStart=>exact⟨0,Nat.zero_le _,rfl,⟨HR.out⟩,Below.refl _ _⟩
  case round=>
    obtain⟨k,hk,rfl,HS,hb⟩:=hrel;by_cases hlt:k<zs.length;rotate_left
    · obtain rfl : k = zs.length := by omega
      have hR2:=HS.out;rw[List.drop_length]at hR2;subst hR2
      gi_wp2
      go_ret2
      exact⟨rfl,hb⟩
    obtain⟨ad,rfl,hx0,hx1⟩:=Zem hr (k:Int) (by omega) (by omega);have hx0:=(hb.cell (World.block_lt_of_cell? w _ hx0)).trans hx0;have hx1:=(hb.cell (World.block_lt_of_cell? w _ hx1)).trans hx1;have hd:=HS.out;rw[drop_atR hlt,nextV]at hd;have HD:=Za.mk hd;clear hd HS;simp only[Int.toNat_natCast]at hx0 hx1
    generalize Zbk zs (k:Int)=x at hx0 hx1 HD
    by_cases hv:v<x.f1;rotate_left
    · have hd := HD.out
      rw[if_neg hv]at hd;have HS:=Za.mk hd;have d1_:decide (v<x.f1)=false:=decide_eq_false hv;clear hd HD
      gi_wp2
      go_roundw
      case rel=>exact⟨k+1,by omega,by first|rfl|go_num,HS,hb.alloc hb.size _⟩
      case measure=>simp[intOf];omega
    have hd:=HD.out;rw[if_pos hv]at hd;subst hd;have d1_:decide (v<x.f1)=true:=decide_eq_true hv;have hb1:Below w.heap.size w (wr.alloc (.cells #[.int .i64 x.f0,.int .i64 x.f1] 82)):=hb.alloc hb.size _
    gi_wp2
    all_goals go_ret2
    all_goals refine⟨?_,hb1⟩
    all_goals(generalize wrap64 (v+1)=u at*)
    all_goals(first|rfl|(congr 4;omega)|(simp;omega))
end Go.Proofs.YtdpieallpbllkaaGreat.P
/- The lists that meaning.all yields, in plain words: from the least values on, the last place first. -/
namespace Go.Proofs.YtdpieallpbllkaaGreat.P
open Go.RowKit Go.Proofs.YtdpieallpbllkaaGreatW.PrintWords Go.Proofs.YtdpieallpbllkaaGreatW.PrintLast Go.Proofs.YtdpieallpbllkaaGreatW.PrintMore
def incR (ds : List (List S82)) : Nat → List Int → List Int × Bool
  | 0, a => (a, false)
  |i+1,a=>if(nextV (a.getD i 0) (ds.getD i [])).2=true then(a.set i (nextV (a.getD i 0) (ds.getD i [])).1,true)else incR ds i (a.set i (leastV (ds.getD i [])).1)
def seqV (ds : List (List S82)) : Nat → List Int → Option (List (List Int))
  | 0, _ => none
  |m+1,a=>if(incR ds ds.length a).2=true then(seqV ds m (incR ds ds.length a).1).map (a::·)else some [a]
theorem seqV_mono (ds : List (List S82)) : ∀ m a r, seqV ds m a = some r → seqV ds (m + 1) a = some r
  | 0, _, _, h => by cases h
  |m+1,a,r,h=>by
    rw[seqV]at h;rw[seqV]
    split at h
    · rename_i q
      rw[if_pos q]
      cases e:seqV ds m (incR ds ds.length a).1 with
      | none => rw [e] at h; cases h
      |some s=>rw[seqV_mono ds m _ _ e];rw[e]at h;exact h
    rename_i q
    rw[if_neg q];exact h
theorem seqV_head {ds : List (List S82)} : ∀ {m : Nat} {a : List Int} {r : List (List Int)}, seqV ds m a = some r → ∃ s, r = a :: s
  | 0, _, _, h => by cases h
  |m+1,a,r,h=>by
    rw[seqV]at h
    split at h
    · cases e:seqV ds m (incR ds ds.length a).1 with
      | none => rw [e] at h; cases h
      |some s=>rw[e]at h;exact⟨s,(Option.some.inj h).symm⟩
    exact⟨[],(Option.some.inj h).symm⟩
theorem seqV_last {ds:List (List S82)} {m:Nat} {a:List Int} {r:List (List Int)} (h:seqV ds m a=some r) (e:(incR ds ds.length a).2=false):r= [a]:=by
  cases m with
  | zero => cases h
  |succ m=>
    rw[seqV,if_neg (by rw[e];decide)]at h;exact(Option.some.inj h).symm
theorem seqV_next {ds:List (List S82)} {m:Nat} {a:List Int} {r:List (List Int)} (h:seqV ds m a=some r) (e:(incR ds ds.length a).2=true):∃s,r=a::s∧seqV ds m (incR ds ds.length a).1=some s:=by
  cases m with
  | zero => cases h
  |succ m=>
    rw[seqV,if_pos e]at h
    cases e2:seqV ds m (incR ds ds.length a).1 with
    | none => rw [e2] at h; cases h
    |some s=>rw[e2]at h;exact⟨s,(Option.some.inj h).symm,seqV_mono ds m _ _ e2⟩
def startV (ds:List (List S82)):List Int:=ds.map fun d=>(leastV d).1
end Go.Proofs.YtdpieallpbllkaaGreat.P
/- All lists of values of domains, in order: what meaning.all yields, and what secateurref06.Grow grows, in plain words. -/
namespace Go.Proofs.YtdpieallpbllkaaGreat.P
open Go.RowKit Go.Proofs.YtdpieallpbllkaaGreatW.PrintWords Go.Proofs.YtdpieallpbllkaaGreatW.PrintLast Go.Proofs.YtdpieallpbllkaaGreatW.PrintMore
theorem Zfi (v : Int) (h64 : -4611686018427387904 ≤ v ∧ v ≤ 4611686018427387904) : ∀ {b : Int} {d : List Rg}, Gd 1048576 b d →
    ((nextV v d).2=true→Va d (nextV v d).1∧v<(nextV v d).1∧∀z,Va d z→v<z→(nextV v d).1≤z)∧((nextV v d).2=false→∀z,Va d z→z≤v)
  | _, [], _ => ⟨fun h => absurd h (by simp [nextV]), fun _ z h => absurd h (by simp)⟩
  |b,x::d,hg@⟨h1,h2,h3,h4⟩=>by
    have hw:wrap64 (v+1)=v+1:=w64 (by omega) (by omega);by_cases q:v<x.f1;rotate_left
    · have e : nextV v (x :: d) = nextV v d := by rw [nextV, if_neg q]
      rw[e];obtain⟨a1,a2⟩:=Zfi v h64 h4;refine⟨fun h=> ?_,fun h z hz=> ?_⟩
      · obtain ⟨b1, b2, b3⟩ := a1 h
        refine⟨(Zc5 _ _ _).2 (.inr b1),b2,fun z hz hv=> ?_⟩
        rcases(Zc5 _ _ _).1 hz with hz|hz
        · omega
        exact b3 z hz hv
      rcases(Zc5 _ _ _).1 hz with hz|hz
      · omega
      exact a2 h z hz
    have e:nextV v (x::d)=(max x.f0 (wrap64 (v+1)),true):=by rw[nextV,if_pos q]
    rw[e,hw];refine⟨fun _=>⟨(Zc5 _ _ _).2 (.inl ⟨by show x.f0≤max x.f0 (v+1);omega,by show max x.f0 (v+1)≤x.f1;omega⟩),by show v<max x.f0 (v+1);omega,fun z hz hv=> ?_⟩,fun h=>absurd h (by simp)⟩
    show max x.f0 (v+1)≤z
    rcases(Zc5 _ _ _).1 hz with hz|hz
    · omega
    have:=Gd.ge h4 hz;omega
theorem SS.filter {l:List Int} (h:SS l) (p:Int→Bool):SS (l.filter p):=List.Pairwise.filter p h
def overV (v:Int) (d:List Rg):List Int:=(vals d).filter fun z=>decide (v<z)
theorem overV_next {v b:Int} {d:List Rg} (h64: -4611686018427387904≤v∧v≤4611686018427387904) (hg:Gd 1048576 b d) (h:(nextV v d).2=true):overV v d=(nextV v d).1::overV (nextV v d).1 d:=by
  obtain⟨a1,a2,a3⟩:=(Zfi v h64 hg).1 h;refine SS.ext ((Zfr hg).filter _) (List.pairwise_cons.2 ⟨fun z hz=> ?_,(Zfr hg).filter _⟩) (fun z=> ?_)
  · have := (List.mem_filter.1 hz).2
    simpa using this
  unfold overV;rw[List.mem_cons,List.mem_filter,List.mem_filter,Zex,decide_eq_true_eq,decide_eq_true_eq]
  constructor
  · rintro ⟨hz, hv⟩
    have:=a3 z hz hv;by_cases e:z=(nextV v d).1
    · exact .inl e
    exact .inr ⟨hz,by omega⟩
  rintro(e|⟨hz,hv⟩)
  · rw[e];exact⟨a1,a2⟩
  exact⟨hz,by omega⟩
theorem overV_last {v b:Int} {d:List Rg} (h64: -4611686018427387904≤v∧v≤4611686018427387904) (hg:Gd 1048576 b d) (h:(nextV v d).2=false):overV v d= []:=by
  unfold overV;rw[List.filter_eq_nil_iff];intro z hz;have:=(Zfi v h64 hg).2 h z ((Zex z d).1 hz)
  simp;omega
theorem Zh9 {b:Int} {d:List Rg} (hg:Gd 1048576 b d) (hn:d≠ []):Va d (leastV d).1∧vals d=(leastV d).1::overV (leastV d).1 d:=by
  cases d with
  | nil => exact absurd rfl hn
  |cons x d=>
    obtain⟨h1,h2,h3,h4⟩:=hg;have hm:Va (x::d) x.f0:=(Zc5 _ _ _).2 (.inl ⟨Int.le_refl _,h2⟩);have hg':Gd 1048576 b (x::d):=⟨h1,h2,h3,h4⟩;refine⟨hm,SS.ext (Zfr hg') (List.pairwise_cons.2 ⟨fun z hz=> ?_,(Zfr hg').filter _⟩) (fun z=> ?_)⟩
    · have := (List.mem_filter.1 hz).2
      simpa using this
    show z ∈ vals (x::d)↔z ∈ x.f0::overV x.f0 (x::d)
    unfold overV;rw[List.mem_cons,List.mem_filter,Zex,decide_eq_true_eq]
    constructor
    · intro hz
      have hge:x.f0≤z:=Gd.ge (V:=1048576) (b:=x.f0) (d:=x::d) ⟨Int.le_refl _,h2,h3,h4⟩ hz;by_cases e:z=x.f0
      · exact .inl e
      exact .inr ⟨hz,by omega⟩
    rintro(e|⟨hz,_⟩)
    · rw[e];exact hm
    exact hz
def prV : List (List Rg) → List (List Int)
  | [] => [[]]
  |d::ds=>(vals d).flatMap fun x=>(prV ds).map (x::·)
def afterV : List (List Rg) → List Int → List (List Int)
  | d :: ds, x :: a => (afterV ds a).map (x :: ·) ++ (overV x d).flatMap fun y => (prV ds).map (y :: ·)
  |_,_=> [[]]
def GdS (ds:List (List Rg)):Prop:=∀d ∈ ds,Gd 1048576 (-1048576) d∧d≠ []
theorem Zfp : ∀ {ds : List (List Rg)}, GdS ds → afterV ds (startV ds) = prV ds
  | [], _ => rfl
  |d::ds,h=>by
    have hd:=h d List.mem_cons_self;have ih:=Zfp (ds:=ds) (fun x hx=>h x (List.mem_cons_of_mem _ hx))
    show(afterV ds (startV ds)).map _++_=_
    rw[ih,prV,(Zh9 hd.1 hd.2).2,List.flatMap_cons]
def InV : List (List Rg) → List Int → Prop
  | [], [] => True
  | d :: ds, x :: a => Va d x ∧ InV ds a
  |_,_=>False
theorem InV.len : ∀ {ds : List (List Rg)} {a : List Int}, InV ds a → a.length = ds.length
  | [], [], _ => rfl
  |d::ds,x::a,h=>by simp[InV.len h.2]
theorem start_in : ∀ {ds : List (List Rg)}, GdS ds → InV ds (startV ds)
  | [], _ => trivial
  |d::ds,h=>⟨(Zh9 (h d List.mem_cons_self).1 (h d List.mem_cons_self).2).1,start_in (fun x hx=>h x (List.mem_cons_of_mem _ hx))⟩
theorem mem_prV : ∀ {ds : List (List Rg)} {a : List Int}, a ∈ prV ds ↔ InV ds a
  | [], [] => by simp [prV, InV]
  | [], _ :: _ => by simp [prV, InV]
  | d :: ds, [] => by simp [prV, InV]
  |d::ds,x::a=>by
    rw[prV,List.mem_flatMap]
    constructor
    · rintro ⟨y, hy, h⟩
      obtain⟨c,hc,e⟩:=List.mem_map.1 h;obtain⟨rfl,rfl⟩:=List.cons.inj e;exact⟨(Zex _ _).1 hy,mem_prV.1 hc⟩
    rintro⟨h1,h2⟩;exact⟨x,(Zex _ _).2 h1,List.mem_map.2 ⟨a,mem_prV.2 h2,rfl⟩⟩
theorem incR_cons (d : List Rg) (ds : List (List Rg)) (x : Int) : ∀ (i : Nat) (a : List Int), incR (d :: ds) (i + 1) (x :: a) = if (incR ds i a).2 = true then (x :: (incR ds i a).1, true) else incR (d :: ds) 1 (x :: (incR ds i a).1)
  |0,a=>by
    have:incR ds 0 a=(a,false):=rfl;rw[this,if_neg (by simp)]
  |i+1,a=>by
    rw[incR];have e1:(x::a).getD (i+1) 0=a.getD i 0:=rfl;have e2:(d::ds).getD (i+1) []=ds.getD i []:=rfl;rw[e1,e2,incR.eq_2 ds]
    split
    · rfl
    rw[List.set_cons_succ];exact incR_cons d ds x i (a.set i _)
theorem incR_one (d:List Rg) (ds:List (List Rg)) (x:Int) (a:List Int):incR (d::ds) 1 (x::a)=if(nextV x d).2=true then((nextV x d).1::a,true)else((leastV d).1::a,false):=by
  rw[incR];have e1:(x::a).getD 0 0=x:=rfl;have e2:(d::ds).getD 0 []=d:=rfl;rw[e1,e2]
  split
  · rfl
  rfl
theorem inc_spec : ∀ {ds : List (List Rg)} {a : List Int}, GdS ds → InV ds a →
    ((incR ds ds.length a).2=true→InV ds (incR ds ds.length a).1∧afterV ds a=a::afterV ds (incR ds ds.length a).1)∧((incR ds ds.length a).2=false→(incR ds ds.length a).1=startV ds∧afterV ds a= [a])
  | [], [], _, _ => ⟨fun h => absurd h (by simp [incR]), fun _ => ⟨rfl, rfl⟩⟩
  | [], _ :: _, _, h => h.elim
  | _ :: _, [], _, h => h.elim
  |d::ds,x::a,hg,⟨hx,ha⟩=>by
    have hd:=hg d List.mem_cons_self;have hgs:GdS ds:=fun x hx=>hg x (List.mem_cons_of_mem _ hx)
    obtain⟨i1,i2⟩:=inc_spec hgs ha
    have hxb: -4611686018427387904≤x∧x≤4611686018427387904:=by
      have:=Gd.ge hd.1 hx;have:=Gd.le hd.1 hx
      omega
    show((incR (d::ds) (ds.length+1) (x::a)).2=true→InV (d::ds) (incR (d::ds) (ds.length+1) (x::a)).1∧afterV (d::ds) (x::a)=(x::a)::afterV (d::ds) (incR (d::ds) (ds.length+1) (x::a)).1)∧((incR (d::ds) (ds.length+1) (x::a)).2=false→(incR (d::ds) (ds.length+1) (x::a)).1=startV (d::ds)∧afterV (d::ds) (x::a)= [x::a])
    rw[incR_cons];by_cases q:(incR ds ds.length a).2=true
    · rw [if_pos q]
      obtain⟨j1,j2⟩:=i1 q;refine⟨fun _=>⟨⟨hx,j1⟩,?_⟩,fun h=>absurd h (by simp)⟩
      show(afterV ds a).map _++_=_
      rw[j2,List.map_cons,List.cons_append]
      rfl
    rw[if_neg q];obtain⟨j1,j2⟩:=i2 (Bool.eq_false_iff.2 q);rw[incR_one,j1];by_cases p:(nextV x d).2=true;rotate_left
    · rw [if_neg p]
      refine⟨fun h=>absurd h (by simp),fun _=>⟨rfl,?_⟩⟩
      show(afterV ds a).map _++(overV x d).flatMap _=_
      rw[j2,overV_last hxb hd.1 (Bool.eq_false_iff.2 p)]
      rfl
    rw[if_pos p];refine⟨fun _=>⟨⟨((Zfi x hxb hd.1).1 p).1,start_in hgs⟩,?_⟩,fun h=>absurd h (by simp)⟩
    show(afterV ds a).map _++(overV x d).flatMap _=(x::a)::((afterV ds (startV ds)).map _++(overV (nextV x d).1 d).flatMap _)
    rw[j2,overV_next hxb hd.1 p,List.flatMap_cons,Zfp hgs]
    rfl
theorem after_pos {ds:List (List Rg)} {a:List Int} (hg:GdS ds) (ha:InV ds a):0<(afterV ds a).length:=by
  obtain⟨h1,h2⟩:=inc_spec hg ha
  cases q:(incR ds ds.length a).2 with
  | true => rw [(h1 q).2]; simp
  |false=>rw[(h2 q).2];simp
theorem Zif : ∀ (m : Nat) {ds : List (List Rg)} {a : List Int}, GdS ds → InV ds a → (afterV ds a).length ≤ m → seqV ds m a = some (afterV ds a)
  | 0, ds, a, hg, ha, h => absurd h (by have := after_pos hg ha; omega)
  |m+1,ds,a,hg,ha,h=>by
    obtain⟨h1,h2⟩:=inc_spec hg ha;rw[seqV];by_cases q:(incR ds ds.length a).2=true;rotate_left
    · rw[if_neg q,(h2 (Bool.eq_false_iff.2 q)).2]
    rw[if_pos q];obtain⟨j1,j2⟩:=h1 q;rw[Zif m hg j1 (by rw[j2]at h;simpa using h),j2]
    rfl
theorem seqV_all {ds:List (List Rg)} (hg:GdS ds) {m:Nat} (hm:(prV ds).length≤m):seqV ds m (startV ds)=some (prV ds):=by
  have e:=Zfp hg;rw[←e];exact Zif m hg (start_in hg) (by rw[e];exact hm)
def sizeV (ds:List (List Rg)):Nat:=(ds.map fun d=>(vals d).length).foldr (· * ·) 1
theorem flatMap_len {α β:Type} (l:List α) (f:α→List β) (n:Nat) (h:∀x ∈ l,(f x).length=n):(l.flatMap f).length=l.length*n:=by
  induction l with
  | nil => simp
  |cons x l ih=>
    rw[List.flatMap_cons,List.length_append,h x List.mem_cons_self,ih (fun y hy=>h y (List.mem_cons_of_mem _ hy)),List.length_cons,Nat.succ_mul,Nat.add_comm]
theorem prV_len : ∀ ds : List (List Rg), (prV ds).length = sizeV ds
  | [] => rfl
  |d::ds=>by
    rw[prV,flatMap_len _ _ (prV ds).length (fun x _=>List.length_map _),prV_len ds]
    rfl
def lexL : List Int → List Int → Prop
  | [], [] => False
  | [], _ :: _ => True
  | _ :: _, [] => False
  |x::a,y::b=>x<y∨(x=y∧lexL a b)
theorem prV_lex : ∀ {ds : List (List Rg)}, GdS ds → (prV ds).Pairwise lexL
  | [], _ => List.pairwise_singleton _ _
  |d::ds,h=>by
    have hd:=h d List.mem_cons_self;have ih:=prV_lex (ds:=ds) (fun x hx=>h x (List.mem_cons_of_mem _ hx));have hv:=Zfr hd.1;rw[prV]
    generalize vals d=l at hv ⊢
    induction l with
    | nil => exact List.Pairwise.nil
    |cons x l ihl=>
      obtain⟨h1,h2⟩:=List.pairwise_cons.1 hv;rw[List.flatMap_cons];refine List.pairwise_append.2 ⟨List.pairwise_map.2 (ih.imp fun h=> .inr ⟨rfl,h⟩),ihl h2,fun a ha b hb=> ?_⟩;obtain⟨a',_,rfl⟩:=List.mem_map.1 ha;obtain⟨y,hy,hb⟩:=List.mem_flatMap.1 hb;obtain⟨b',_,rfl⟩:=List.mem_map.1 hb;exact .inl (h1 y hy)
end Go.Proofs.YtdpieallpbllkaaGreat.P
/- dom.Has: whether a value is in a domain. -/
namespace Go.Proofs.YtdpieallpbllkaaGreat.P
open Go.RowKit Go.Shelf Go.Proofs.YtdpieallpbllkaaGreatW.PrintWords Go.Proofs.YtdpieallpbllkaaGreatW.PrintLast Go.Proofs.YtdpieallpbllkaaGreatW.PrintMore
theorem take_at_T82 {d:List S82} {k:Nat} (hk:k<d.length):d.take (k+1)=d.take k++ [Zbk d (k:Int)]:=by
  rw[List.take_succ_eq_append_getElem hk]
  simp[Zbk,List.getD_eq_getElem?_getD,List.getElem?_eq_getElem hk]
theorem Zg6 (p : S82 → Bool) (g : Nat) (lb : Array Value) (eg : ∀ args w, (callFunc g args).run Tryz.prog w = .ok (.enter g args) w) (A : Option Addr) (c : Nat) (zs : List S82) (w : World) (hr : Kd.C k82 w A zs.length zs)
    (hp:∀(x:S82) W,Below w.heap.size w W→Calls Tryz.prog g (#[.agg #[.int .i64 x.f0,.int .i64 x.f1]]++lb) W fun e w'=>e= .returned (.bool (p x))∧Below w.heap.size w w'):
    Calls Tryz.prog 97 #[.slice A zs.length c,.func (.func g) #[] lb] w fun e w'=>(∃i:Int,e= .returned (.int .i64 i)∧decide (0≤i)=zs.any p)∧Below w.heap.size w w':=by
  have hlen:zs.length≤9223372036854775807:=hr.2.1;have hany:∀k,zs.any p=((zs.take k).any p||(zs.drop k).any p):=fun k=>by rw[←List.any_append,List.take_append_drop]
  have HY:=Za.mk hany;clear hany;go_enter Tryz.func97,Tryz.ntmps97;go_wp2
  go_loopg [5,8] zs.length (fun gg _ s8 wr=>∃kk:Nat,kk≤zs.length∧zs.length - kk≤gg∧s8= .int .i64 kk∧Za (Below w.heap.size w wr)∧Za ((zs.take kk).any p=false))
  case atStart=>exact⟨0,Nat.zero_le _,by omega,rfl,⟨Below.refl _ _⟩,⟨by simp⟩⟩
  case round=>
    obtain⟨kk,hkk,hg,rfl,HB,A1⟩:=hrel;by_cases hlt:kk<zs.length;rotate_left
    · obtain rfl : kk = zs.length := by omega
      go_wp2;go_ret;refine⟨⟨_,rfl,?_⟩,HB.out⟩;have:=A1.out;rw[List.take_length]at this;rw[this]
      rfl
    obtain⟨ad,rfl,hx0,hx1⟩:=Zem hr (kk:Int) (by omega) (by omega);replace hx0:=(HB.out.cell (World.block_lt_of_cell? w _ hx0)).trans hx0;replace hx1:=(HB.out.cell (World.block_lt_of_cell? w _ hx1)).trans hx1;simp only[Int.toNat_natCast]at hx0 hx1;have hcall:=fun W=>hp (Zbk zs (kk:Int)) W
    clear hp;have htk:Za (zs.take (kk+1)=zs.take kk++ [Zbk zs (kk:Int)]):=⟨take_at_T82 hlt⟩
    generalize Zbk zs (kk:Int)=y at*
    cases hq:p y with
    |true=>
      rw[hq]at hcall;have B:=Za.mk hq;clear hq
      go_wp2_with (go_at_fn g;refine(hcall _ (by first|exact HB.out|exact HB.out.drewN _)).mono ?_;rintro e w' ⟨rfl,hb'⟩)
      go_ret;refine⟨⟨_,rfl,?_⟩,hb'⟩;rw[HY.out (kk+1),htk.out,List.any_append]
      simp[B.out]
    |false=>
      rw[hq]at hcall;have B:=Za.mk hq;clear hq
      go_wp2_with (go_at_fn g;refine(hcall _ (by first|exact HB.out|exact HB.out.drewN _)).mono ?_;rintro e w' ⟨rfl,hb'⟩)
      go_roundg (zs.length - (kk+1))
      case measure=>omega
      case rel=>exact⟨kk+1,by omega,by omega,by go_num,⟨hb'⟩,⟨by rw[htk.out,List.any_append,A1.out];simp[B.out]⟩⟩
theorem Zf0 (p : S82 → Bool) (g : Nat) (lb : Array Value) (eg : ∀ args w, (callFunc g args).run Tryz.prog w = .ok (.enter g args) w) (A : Option Addr) (c : Nat) (zs : List S82) (w : World) (hr : Kd.C k82 w A zs.length zs)
    (hp:∀(x:S82) W,Below w.heap.size w W→Calls Tryz.prog g (#[.agg #[.int .i64 x.f0,.int .i64 x.f1]]++lb) W fun e w'=>e= .returned (.bool (p x))∧Below w.heap.size w w'):
    Calls Tryz.prog 67 #[.slice A zs.length c,.func (.func g) #[] lb] w fun e w'=>e= .returned (.bool (zs.any p))∧Below w.heap.size w w':=by
  have hI:=Zg6 p g lb eg A c zs w hr hp;go_enter Tryz.func67,Tryz.ntmps67
  go_wp2_with (go_at_call 97;refine hI.mono ?_;rintro e w' ⟨⟨i,rfl,hi⟩,hb⟩)
  go_ret;exact⟨by rw[←hi];rfl,hb⟩
def inR (v:Int) (x:S82):Bool:=decide (x.f0≤v) && decide (v≤x.f1)
theorem hasPred (w : World) (v : Int) (b : Nat) (hb : w.cell? ⟨b, 0, none⟩ = some (.int .i64 v)) (hbl : b < w.heap.size) (x : S82) (W : World) (hW : Below w.heap.size w W) :
    Calls Tryz.prog 68 (#[.agg #[.int .i64 x.f0,.int .i64 x.f1]]++ #[.pointer (some ⟨b,0,none⟩)]) W fun e w'=>e= .returned (.bool (inR v x))∧Below w.heap.size w w':=by
  have hc:W.cell? ⟨b,0,none⟩=some (.int .i64 v):=(hW.cell (p:=⟨b,0,none⟩) hbl).trans hb;have hne:=hW.size;have hc2:(W.alloc (.cells #[.int .i64 x.f0,.int .i64 x.f1] 82)).cell? ⟨b,0,none⟩=some (.int .i64 v):=(((Below.refl _ W).alloc (Nat.le_refl _) _).cell (p:=⟨b,0,none⟩) (by show b<W.heap.size;omega)).trans hc
  show Calls Tryz.prog 68 #[.agg #[.int .i64 x.f0,.int .i64 x.f1],.pointer (some ⟨b,0,none⟩)] W fun e w'=>e= .returned (.bool (inR v x))∧Below w.heap.size w w'
  unfold inR;by_cases h0:x.f0≤v
  · have c0 : decide (x.f0 ≤ v) = true := decide_eq_true h0
    rw[c0,Bool.true_and];clear h0;go_enter Tryz.func68,Tryz.ntmps68;go_wp2;go_ret;exact⟨rfl,by repeat(first|exact hW|exact hW.alloc hne _|apply Zcb)⟩
  have c0:decide (x.f0≤v)=false:=decide_eq_false h0;rw[c0,Bool.false_and];clear h0;go_enter Tryz.func68,Tryz.ntmps68;go_wp2;go_ret;exact⟨rfl,by repeat(first|exact hW|exact hW.alloc hne _|apply Zcb)⟩
def Zg4.f (l0:List S82) (a1:Int):Option Bool:=some (l0.any (inR a1))
theorem Zg4.calls (A0 : Option Addr) (c0 : Nat) (l0 : List S82) (a1 : Int) (r : Bool) (w : World) (hr0 : Kd.C k82 w A0 l0.length l0) (hc0 : l0.length ≤ c0) (h : Zg4.f l0 a1 = some r) :
    Calls Tryz.prog 46 #[.slice A0 l0.length c0,.int .i64 a1] w fun e w'=>e= .returned (.bool r)∧Below w.heap.size w w':=by
  obtain rfl:=Option.some.inj h;clear h;have hB:Below w.heap.size w (w.alloc (.cells #[.int .i64 a1] 3)):=(Below.refl _ w).alloc (Nat.le_refl _) _
  have cC := Zf0 (inR a1) 68 #[.pointer (some ⟨w.heap.size, 0, none⟩)] (enters_of Tryz.func68 (by kernel_rfl) rfl) A0 c0 l0 (w.alloc (.cells #[.int .i64 a1] 3)) (Kd.Zac hr0 hB)
    (fun x W hW=>hasPred _ a1 w.heap.size (Boxed.new w 3 (.int .i64 a1)).cell (by simp) x W hW)
  clear hr0;go_enter Tryz.func46,Tryz.ntmps46
  go_wp2_with (go_at_call 67;refine cC.mono ?_;rintro e w' ⟨rfl,hb⟩)
  go_ret;exact⟨rfl,hB.trans (hb.mono (by simp))⟩
end Go.Proofs.YtdpieallpbllkaaGreat.P
/- meaning.Solves: do the values solve the model? (ContainsFunc over constraints; the loop over the variables.) -/
namespace Go.Proofs.YtdpieallpbllkaaGreat.P
open Go.RowKit Go.Shelf Go.Lib Go.Proofs.YtdpieallpbllkaaGreatW.PrintWords Go.Proofs.YtdpieallpbllkaaGreatW.PrintLast Go.Proofs.YtdpieallpbllkaaGreatW.PrintMore
theorem take_at_T36 {d:List S36} {k:Nat} (hk:k<d.length):d.take (k+1)=d.take k++ [Zad d (k:Int)]:=by
  rw[List.take_succ_eq_append_getElem hk]
  simp[Zad,List.getD_eq_getElem?_getD,List.getElem?_eq_getElem hk]
theorem indexFunc_Con (p : S36 → Bool) (g : Nat) (lb : Array Value) (eg : ∀ args w, (callFunc g args).run Tryz.prog w = .ok (.enter g args) w) (A : Option Addr) (c : Nat) (zs : List S36) (w : World) (hr : Kd.C k36 w A zs.length zs)
    (hp : ∀ (n : Nat), n < zs.length → ∀ x, x = Zad zs (n : Int) → ∀ W, Below w.heap.size w W → ∀ A1 c1 A2 c2 A5 c5, x.f1.length ≤ c1 → Kd.C (Kd.int .i64) W A1 x.f1.length x.f1 → x.f2.length ≤ c2 → Kd.C (Kd.int .i64) W A2 x.f2.length x.f2 → x.f5.length ≤ c5 → Kd.C (Kd.slice 3 (Kd.int .i64)) W A5 x.f5.length x.f5 →
      Calls Tryz.prog g (#[.agg #[.int .i64 x.f0, .slice A1 x.f1.length c1, .slice A2 x.f2.length c2, .int .i64 x.f3, .int .i64 x.f4, .slice A5 x.f5.length c5, .int .i64 x.f6]] ++ lb) W fun e w' => e = .returned (.bool (p x)) ∧ Below W.heap.size W w') :
    Calls Tryz.prog 69 #[.slice A zs.length c,.func (.func g) #[] lb] w fun e w'=>(∃i:Int,e= .returned (.int .i64 i)∧decide (0≤i)=zs.any p)∧Below w.heap.size w w':=by
  have hlen:zs.length≤9223372036854775807:=hr.2.1;have hany:∀k,zs.any p=((zs.take k).any p||(zs.drop k).any p):=fun k=>by rw[←List.any_append,List.take_append_drop]
  have HY:=Za.mk hany;have HR:=Za.mk hr;have HP:=Za.mk hp;clear hany hr hp;obtain⟨wo,rfl⟩:∃wo:World,wo=w:=⟨_,rfl⟩;go_enter Tryz.func69,Tryz.ntmps69;go_wp2
  go_loopg [5,8] zs.length (fun gg _ s8 wr=>∃kk:Nat,kk≤zs.length∧zs.length - kk≤gg∧s8= .int .i64 kk∧Za (Below wo.heap.size wo wr)∧Za ((zs.take kk).any p=false))
  case atStart=>exact⟨0,Nat.zero_le _,by omega,rfl,⟨bM (Below.refl wo.heap.size wo)⟩,⟨by simp⟩⟩
  case round=>
    obtain⟨kk,hkk,hg,rfl,HB,A1⟩:=hrel;by_cases hlt:kk<zs.length;rotate_left
    · obtain rfl : kk = zs.length := by omega
      have p1_:decide ((zs.length:Int)<(zs.length:Int))=false:=decide_eq_false (by omega);go_wp2;go_ret;refine⟨⟨_,rfl,?_⟩,bM HB.out⟩;have:=A1.out;rw[List.take_length]at this;rw[this]
      rfl
    have hltz:(kk:Int)<(zs.length:Int):=by omega
    have p1_:decide ((kk:Int)<(zs.length:Int))=true:=decide_eq_true hltz;have p2_:decide ((0:Int)≤(kk:Int))=true:=decide_eq_true (by omega);obtain⟨ad,A1A,c1A,A2A,c2A,A5A,c5A,rfl,hx0,hx1,hx2,hx3,hx4,hx5,hx6,l1,g1,l2,g2,l5,g5⟩:=at_T36 (Kd.Zac HR.out HB.out) (kk:Int) (by omega) hltz;have HC:=Za.mk (HP.out kk hlt _ rfl);have HG1:=Za.mk g1;have HG2:=Za.mk g2;have HG5:=Za.mk g5;clear g1 g2 g5;have htk:Za (zs.take (kk+1)=zs.take kk++ [Zad zs (kk:Int)]):=⟨take_at_T36 hlt⟩;simp only[Int.toNat_natCast]at hx0 hx1 hx2 hx3 hx4 hx5 hx6
    generalize Zad zs (kk:Int)=y at hx0 hx1 hx2 hx3 hx4 hx5 hx6 l1 l2 l5 HC HG1 HG2 HG5 htk
    cases hq:p y with
    |true=>
      have B:=Za.mk hq;rw[hq]at HC;clear hq
      go_wp2_with (go_at_fn g;refine(HC.out _ (bM HB.out) A1A c1A A2A c2A A5A c5A l1 (cM HG1.out) l2 (cM HG2.out) l5 (cM HG5.out)).mono ?_;rintro e w' ⟨rfl,hb⟩;have HB2:=Za.mk (bS HB.out hb);clear hb)
      go_ret;refine⟨⟨_,rfl,?_⟩,HB2.out⟩;rw[HY.out (kk+1),htk.out,List.any_append]
      simp[B.out]
    |false=>
      have B:=Za.mk hq;rw[hq]at HC;clear hq
      go_wp2_with (go_at_fn g;refine(HC.out _ (bM HB.out) A1A c1A A2A c2A A5A c5A l1 (cM HG1.out) l2 (cM HG2.out) l5 (cM HG5.out)).mono ?_;rintro e w' ⟨rfl,hb⟩;have HB2:=Za.mk (bS HB.out hb);clear hb)
      go_roundg (zs.length - (kk+1))
      case measure=>omega
      case rel=>exact⟨kk+1,by omega,by omega,by go_num,⟨bM HB2.out⟩,⟨by rw[htk.out,List.any_append,A1.out];simp[B.out]⟩⟩
theorem Zgr (p : S36 → Bool) (g : Nat) (lb : Array Value) (eg : ∀ args w, (callFunc g args).run Tryz.prog w = .ok (.enter g args) w) (A : Option Addr) (c : Nat) (zs : List S36) (w : World) (hr : Kd.C k36 w A zs.length zs)
    (hp : ∀ (n : Nat), n < zs.length → ∀ x, x = Zad zs (n : Int) → ∀ W, Below w.heap.size w W → ∀ A1 c1 A2 c2 A5 c5, x.f1.length ≤ c1 → Kd.C (Kd.int .i64) W A1 x.f1.length x.f1 → x.f2.length ≤ c2 → Kd.C (Kd.int .i64) W A2 x.f2.length x.f2 → x.f5.length ≤ c5 → Kd.C (Kd.slice 3 (Kd.int .i64)) W A5 x.f5.length x.f5 →
      Calls Tryz.prog g (#[.agg #[.int .i64 x.f0, .slice A1 x.f1.length c1, .slice A2 x.f2.length c2, .int .i64 x.f3, .int .i64 x.f4, .slice A5 x.f5.length c5, .int .i64 x.f6]] ++ lb) W fun e w' => e = .returned (.bool (p x)) ∧ Below W.heap.size W w') :
    Calls Tryz.prog 47 #[.slice A zs.length c,.func (.func g) #[] lb] w fun e w'=>e= .returned (.bool (zs.any p))∧Below w.heap.size w w':=by
  have hI:=Za.mk (indexFunc_Con p g lb eg A c zs w hr hp);clear hr hp;go_enter Tryz.func47,Tryz.ntmps47
  go_wp2_with (go_at_call 69;refine hI.out.mono ?_;rintro e w' ⟨⟨i,rfl,hi⟩,hb⟩)
  go_ret;exact⟨by rw[←hi];rfl,hb⟩
def hasG (vars : List S55) (a : List Int) : Nat → Nat → Bool
  | 0, _ => true
  |d+1,i=>(Za9 vars (i:Int)).f1.any (inR (rd a (i:Int))) && hasG vars a d (i+1)
def hOk (k:Nat) (a:List Int) (x:S36):Option Bool:=Za8.f k x.f0 x.f1 x.f2 x.f3 x.f4 x.f5 x.f6 a
theorem hOk_mono {k:Nat} {a:List Int} {x:S36} {b:Bool} (h:hOk k a x=some b):hOk (k+1) a x=some b:=Za8.mono _ _ _ _ _ _ _ _ _ _ h
def Zau.f (k:Nat) (vars:List S55) (cons:List S36) (gk:Int) (gv gc a:List Int):Option Bool:=
  if a.length=vars.length then(if hasG vars a vars.length 0=true then(if cons.all (fun x=>(hOk k a x).isSome)=true then some (cons.all fun x=>decide (hOk k a x=some true))else none)else some false)else some false
theorem Zau.mono:∀a0 a1 a2 a3 a4 a5 k,LeO (Zau.f k a0 a1 a2 a3 a4 a5) (Zau.f (k+1) a0 a1 a2 a3 a4 a5):=by
  intro a0 cons a2 a3 a4 a k;unfold Zau.f;refine LeO.ite (LeO.ite ?_ (LeO.refl _)) (LeO.refl _);intro r h;by_cases q:cons.all (fun x=>(hOk k a x).isSome)=true;rotate_left
  · rw [if_neg q] at h
    cases h
  rw[if_pos q]at h;obtain rfl:=Option.some.inj h;have q2:=List.all_eq_true.1 q;rw[if_pos]
  · congr 1
    rw[Bool.eq_iff_iff,List.all_eq_true,List.all_eq_true];refine⟨fun h x hx=> ?_,fun h x hx=> ?_⟩
    · have h1 := h x hx
      obtain⟨b,hb⟩:=Option.isSome_iff_exists.1 (q2 x hx);rw[decide_eq_true_eq]at h1 ⊢;rw[hOk_mono hb]at h1;rw[hb];exact h1
    have h1:=h x hx;obtain⟨b,hb⟩:=Option.isSome_iff_exists.1 (q2 x hx);rw[decide_eq_true_eq]at h1 ⊢;rw[hb]at h1;rw[hOk_mono hb];exact h1
  rw[List.all_eq_true];intro x hx;obtain⟨b,hb⟩:=Option.isSome_iff_exists.1 (q2 x hx);rw[hOk_mono hb]
  rfl
theorem solvesPred (k : Nat) (x : S36) (A1 : Option Addr) (c1 : Nat) (A2 : Option Addr) (c2 : Nat) (A5 : Option Addr) (c5 : Nat) (A : Option Addr) (c : Nat) (a : List Int) (g : Nat) (t : Bool) (w : World)
    (hl1:x.f1.length≤c1) (hr1:Kd.C (Kd.int .i64) w A1 x.f1.length x.f1) (hl2:x.f2.length≤c2) (hr2:Kd.C (Kd.int .i64) w A2 x.f2.length x.f2) (hl5:x.f5.length≤c5) (hr5:Kd.C (Kd.slice 3 (Kd.int .i64)) w A5 x.f5.length x.f5)
    (hr:Kd.C (Kd.int .i64) w A a.length a) (hc:a.length≤c) (hz:w.cell? ⟨g,0,none⟩=some (.slice A a.length c)) (h:hOk k a x=some t):
    Calls Tryz.prog 48 #[.agg #[.int .i64 x.f0,.slice A1 x.f1.length c1,.slice A2 x.f2.length c2,.int .i64 x.f3,.int .i64 x.f4,.slice A5 x.f5.length c5,.int .i64 x.f6],.pointer (some ⟨g,0,none⟩)] w fun e w'=>e= .returned (.bool (!t))∧Below w.heap.size w w':=by
  have HR1:=Za.mk hr1;have HR2:=Za.mk hr2;have HR5:=Za.mk hr5;have HR:=Za.mk hr;have HH:=Za.mk h;have HB:=Za.mk (Below.refl w.heap.size w);clear hr1 hr2 hr5 hr h;obtain⟨x0,x1,x2,x3,x4,x5,x6⟩:=x;have HH2:Za (Za8.f k x0 x1 x2 x3 x4 x5 x6 a=some t):=⟨HH.out⟩;clear HH;dsimp only at hl1 hl2 hl5 HR1 HR2 HR5 ⊢;go_enter Tryz.func48,Tryz.ntmps48
  go_wp2_with (first|((with_reducible refine Zar (N:=2) rfl ?_);refine bx 2 #[.int .i64 x0,.slice A1 x1.length c1,.slice A2 x2.length c2,.int .i64 x3,.int .i64 x4,.slice A5 x5.length c5,.int .i64 x6] 36 ?_;intro g2 hg2 w2 hbox hb;have hz2:=hB hb hz;have B2:=Za.mk (bS HB.out hb);obtain⟨z0,z1,z2,z3,z4,z5,z6,y0,y1,y2,y3,y4,y5,y6⟩:=cz7 hbox;clear hbox hb hg2)|(go_at_call 13;go_loud (refine(Za8.calls k x0 A1 c1 x1 A2 c2 x2 x3 x4 A5 c5 x5 x6 A c a t w2 (Kd.Zac HR1.out B2.out) hl1 (Kd.Zac HR2.out B2.out) hl2 (Kd.Zac HR5.out B2.out) hl5 (Kd.Zac HR.out B2.out) hc HH2.out).mono ?_;rintro e w3 ⟨rfl,hb⟩;have B3:=Za.mk (bS B2.out hb);clear hb)))
  go_ret;exact⟨by first|rfl|(simp;done),bM B3.out⟩
set_option maxRecDepth 100000 in
theorem Zau.calls (k : Nat) (A0 : Option Addr) (c0 : Nat) (vars : List S55) (A1 : Option Addr) (c1 : Nat) (cons : List S36) (gk : Int) (A3 : Option Addr) (c3 : Nat) (gv : List Int) (A4 : Option Addr) (c4 : Nat) (gc : List Int) (A : Option Addr) (c : Nat) (a : List Int) (r : Bool) (w : World)
    (hr0:Kd.C k55 w A0 vars.length vars) (hc0:vars.length≤c0) (hr1:Kd.C k36 w A1 cons.length cons) (hc1:cons.length≤c1) (hr3:Kd.C (Kd.int .i64) w A3 gv.length gv) (hc3:gv.length≤c3) (hr4:Kd.C (Kd.int .i64) w A4 gc.length gc) (hc4:gc.length≤c4) (hr:Kd.C (Kd.int .i64) w A a.length a) (hc:a.length≤c)
    (h:Zau.f k vars cons gk gv gc a=some r):
    Calls Tryz.prog 15 #[.agg #[.slice A0 vars.length c0,.slice A1 cons.length c1,.int .i64 gk,.slice A3 gv.length c3,.slice A4 gc.length c4],.slice A a.length c] w fun e w'=>e= .returned (.bool r)∧Below w.heap.size w w':=by
  unfold Zau.f at h;have HR0:=Za.mk hr0;have HR1:=Za.mk hr1;have HR:=Za.mk hr;have HLv:Za (vars.length≤9223372036854775807):=⟨hr0.2.1⟩;have HB:=Za.mk (Below.refl w.heap.size w);clear hr0 hr1 hr3 hr4 hr;have H:=Za.mk h;clear h;go_enter Tryz.func15,Tryz.ntmps15;by_cases n0:a.length=vars.length
  case neg=>
    have h:=H.out;rw[if_neg n0]at h;obtain rfl:=Option.some.inj h;have e0:((a.length:Int)==(vars.length:Int))=false:=beq_eq_false_iff_ne.2 (by omega);have e0b:((a.length:Int) !=(vars.length:Int))=true:=by simp only[bne,e0];rfl
    clear h H n0
    go_wp2_with (first|((with_reducible refine Zar (N:=2) rfl ?_);refine bx 2 #[.slice A0 vars.length c0,.slice A1 cons.length c1,.int .i64 gk,.slice A3 gv.length c3,.slice A4 gc.length c4] 28 ?_;intro g2 hg2 w2 hbox hb;have BK2:=Za.mk hbox;have B2:=Za.mk (bS HB.out hb);obtain⟨z0,z1,z2,z3,z4,y0,y1,y2,y3,y4⟩:=cz5 hbox;clear hbox hb hg2)|((with_reducible refine Zar (N:=3) rfl ?_);refine bx 3 #[.slice A a.length c] 24 ?_;intro g3 hg3 w3 hbox hb;have BK3:=Za.mk hbox;have BK2:=Za.mk (kB BK2.out hb);have B3:=Za.mk (bS B2.out hb);have z10:w3.cell? ⟨g3,0,none⟩=some (.slice A a.length c):=bc hbox 0;obtain⟨z0,z1,z2,z3,z4,y0,y1,y2,y3,y4⟩:=cz5 BK2.out;clear hbox hb hg3))
    go_ret;exact⟨rfl,bM B3.out⟩
  have h:=H.out;rw[if_pos n0]at h;clear H;have H:=Za.mk h;clear h;have N0:=Za.mk n0;have e0:((a.length:Int)==(vars.length:Int))=true:=beq_iff_eq.2 (by omega);have e0b:((a.length:Int) !=(vars.length:Int))=false:=by simp only[bne,e0];rfl
  clear n0
  generalize hs_:hasG vars a vars.length 0=hs at H
  have HS:=Za.mk hs_;clear hs_
  go_wp2_with (first|((with_reducible refine Zar (N:=2) rfl ?_);refine bx 2 #[.slice A0 vars.length c0,.slice A1 cons.length c1,.int .i64 gk,.slice A3 gv.length c3,.slice A4 gc.length c4] 28 ?_;intro g2 hg2 w2 hbox hb;have BK2:=Za.mk hbox;have B2:=Za.mk (bS HB.out hb);obtain⟨z0,z1,z2,z3,z4,y0,y1,y2,y3,y4⟩:=cz5 hbox;clear hbox hb hg2)|((with_reducible refine Zar (N:=3) rfl ?_);refine bx 3 #[.slice A a.length c] 24 ?_;intro g3 hg3 w3 hbox hb;have BK3:=Za.mk hbox;have BK2:=Za.mk (kB BK2.out hb);have B3:=Za.mk (bS B2.out hb);have z10:w3.cell? ⟨g3,0,none⟩=some (.slice A a.length c):=bc hbox 0;obtain⟨z0,z1,z2,z3,z4,y0,y1,y2,y3,y4⟩:=cz5 BK2.out;clear hbox hb hg3))
  clear e0 e0b
  go_loopg [16] vars.length (fun gg v16 w'=>∃i:Nat,v16= .int .i64 i∧i≤vars.length∧vars.length - i≤gg∧Za (hasG vars a (vars.length - i) i=hs)∧Za (Below w3.heap.size w3 w'))
  case atStart=>exact⟨0,rfl,Nat.zero_le _,Nat.le_refl _,⟨by simpa using HS.out⟩,⟨bM (Below.refl w3.heap.size w3)⟩⟩
  case round=>
    clear HS z0 z1 z2 z3 z4 z10 y0 y1 y2 y3 y4;obtain⟨i,rfl,hi,hg,HS,BW⟩:=hrel;have BWw:=Za.mk (Zae B3.out BW.out);have BK2r:=Za.mk (kB BK2.out BW.out);have BK3r:=Za.mk (kB BK3.out BW.out);have z1:wr.cell? ⟨g2,1,none⟩=some (.slice A1 cons.length c1):=bc BK2r.out 1;have z10:wr.cell? ⟨g3,0,none⟩=some (.slice A a.length c):=bc BK3r.out 0;by_cases hlt:i<vars.length
    case neg=>
      obtain rfl:i=vars.length:=by omega
      have p1_:decide ((vars.length:Int)<(vars.length:Int))=false:=decide_eq_false (by omega);obtain rfl:true=hs:=by have h_:=HS.out;rw[Nat.sub_self]at h_;exact h_
      have h:=H.out;rw[if_pos rfl]at h;by_cases q:cons.all (fun x=>(hOk k a x).isSome)=true;case neg=>rw[if_neg q]at h;cases h
      rw[if_pos q]at h;have HRR:=Za.mk (Option.some.inj h);have HQ:=Za.mk (List.all_eq_true.1 q);clear h H q HS hi hg hlt
      have HF := Za.mk (Zgr (fun x => !(decide (hOk k a x = some true))) 48 #[.pointer (some ⟨g3, 0, none⟩)] (enters_of Tryz.func48 (by kernel_rfl) rfl) A1 c1 cons wr (Kd.Zac HR1.out BWw.out) (fun n hn x hx W hW A1 c1 A2 c2 A5 c5 l1 g1 l2 g2_ l5 g5 => by
          have hm:x ∈ cons:=by rw[hx];simp[Zad,List.getD_eq_getElem?_getD,List.getElem?_eq_getElem hn]
          obtain⟨b,hb⟩:=Option.isSome_iff_exists.1 (HQ.out x hm);have h_:=solvesPred k x A1 c1 A2 c2 A5 c5 A c a g3 b W l1 g1 l2 g2_ l5 g5 (Kd.Zac (Kd.Zac HR.out BWw.out) hW) hc (hB hW (bc BK3r.out 0)) hb;have e_:(!(decide (hOk k a x=some true)))= !b:=by rw[hb];cases b<;>rfl
          rw[e_]
          exact h_))
      go_wp2_with (first|(go_at_call 47;go_loud (refine HF.out.mono ?_;rintro e w6 ⟨rfl,hb⟩;have B6:=Za.mk (bS BWw.out hb))))
      go_ret;exact⟨by rw[←HRR.out];first|(simp;done)|(rw[List.not_any_eq_all_not];simp),bM B6.out⟩
    have hltz:(i:Int)<(vars.length:Int):=by omega
    have p1_:decide ((i:Int)<(vars.length:Int))=true:=decide_eq_true hltz;have p2_:decide ((0:Int)≤(i:Int))=true:=decide_eq_true (by omega);have hlta:(i:Int)<(a.length:Int):=by have:=N0.out;omega
    have p3_:decide ((i:Int)<(a.length:Int))=true:=decide_eq_true hlta;have hltn:i<a.length:=by omega
    obtain⟨ad,A5,c5,e_,hx0,hx1,hl1,hi1⟩:=Zev (Kd.Zac HR0.out BWw.out) (i:Int) (by omega) hltz;cases e_;simp only[Int.toNat_natCast]at hx0 hx1;obtain⟨ada,e_,hxa⟩:=Kd.Zb1 (Kd.Zac HR.out BWw.out) (i:Int) (by omega) hlta;cases e_;simp only[Int.toNat_natCast]at hxa;have h_:=HS.out;rw[show vars.length - i=(vars.length - (i+1))+1 by omega,hasG]at h_;have HS2:=Za.mk h_;clear h_ HS
    generalize Za9 vars (i:Int)=x at hx0 hx1 hl1 hi1 HS2
    have HI1:=Za.mk hi1;clear hi1
    generalize hq_:x.f1.any (inR (rd a (i:Int)))=q at HS2
    have HQ:Za (Zg4.f x.f1 (rd a (i:Int))=some q):=⟨by rw[←hq_];rfl⟩;clear hq_
    go_wp2_with (first|((with_reducible refine Zar (N:=6) rfl ?_);refine bx 6 #[.string (⟨#[]⟩:ByteArray),.slice none 0 0] 55 ?_;intro g6 hg6 w6 hbox hb;have BK6:=Za.mk hbox;have B6:=Za.mk (bS BWw.out hb);have W6:=Za.mk (bS BW.out hb);have WR6:=Za.mk (bS (Below.refl wr.heap.size wr) hb);have G6:Za (wr.heap.size≤g6):=⟨gE hg6 (Below.refl wr.heap.size wr)⟩;have hxa6:=hB hb hxa;have z16:=hB hb z10;obtain⟨z0,zz1,y0,y1⟩:=cz2 hbox;clear hbox hb hg6))
    have BXq:=Za.mk (Zaz (cs':=#[.string x.f0,.slice A5 x.f1.length c5]) (Zaz (cs':=#[.string x.f0,.slice none 0 0]) BK6.out 0 (.string x.f0) rfl) 1 (.slice A5 x.f1.length c5) rfl);have G6w:Za (w.heap.size≤g6):=⟨Nat.le_trans BWw.out.size G6.out⟩;have G6x:Za (w3.heap.size≤g6):=⟨Nat.le_trans BW.out.size G6.out⟩;have Bq:=Za.mk (show Below w.heap.size w ((w6.setCell ⟨g6,0,none⟩ (.string x.f0)).setCell ⟨g6,1,none⟩ (.slice A5 x.f1.length c5))from Zba (Zba B6.out G6w.out) G6w.out);have Wq:=Za.mk (show Below w3.heap.size w3 ((w6.setCell ⟨g6,0,none⟩ (.string x.f0)).setCell ⟨g6,1,none⟩ (.slice A5 x.f1.length c5))from Zba (Zba W6.out G6x.out) G6x.out);have WRq:=Za.mk (show Below wr.heap.size wr ((w6.setCell ⟨g6,0,none⟩ (.string x.f0)).setCell ⟨g6,1,none⟩ (.slice A5 x.f1.length c5))from Zba (Zba WR6.out G6.out) G6.out);clear z0 zz1 y0 y1 hxa6 z16 BK6 B6 W6 WR6
    generalize ((w6.setCell ⟨g6,0,none⟩ (.string x.f0)).setCell ⟨g6,1,none⟩ (.slice A5 x.f1.length c5))=wq at BXq Bq Wq WRq ⊢
    have hz6:wq.cell? ⟨g6,1,none⟩=some (.slice A5 x.f1.length c5):=bc BXq.out 1;have hz3:wq.cell? ⟨g3,0,none⟩=some (.slice (some ada) a.length c):=bc (kB BK3.out Wq.out) 0;obtain⟨adb,e_,hza⟩:=Kd.Zb1 (Kd.Zac HR.out Bq.out) (i:Int) (by omega) hlta;cases e_;simp only[Int.toNat_natCast]at hza;have HI2:=Za.mk (Kd.Zac HI1.out (show Below wr.heap.size wr wq from WRq.out));clear hx0 hx1 hxa z1 z10
    cases q with
    |true=>
      go_region_held3 (fun w'=>w'.cell? ⟨g6,1,none⟩=some (.slice A5 x.f1.length c5)∧w'.cell? ⟨g3,0,none⟩=some (.slice (some ada) a.length c)∧w'.cell? (ada.add i)=some (.int .i64 (rd a (i:Int)))) (first|go_keep|exact⟨hB Q7.out hz6,hB Q7.out hz3,hB Q7.out hza⟩) ((go_at_call 46;refine(Zg4.calls A5 c5 x.f1 (rd a (i:Int)) true _ (cM HI2.out) hl1 HQ.out).mono ?_;rintro e w7 ⟨rfl,hb⟩;have B7:=Za.mk (bS Bq.out hb);have W7:=Za.mk (bS Wq.out hb);have Q7:=Za.mk (bS (Below.refl wq.heap.size wq) hb);clear hb))
      all_goals go_wp2
      all_goals go_roundg (vars.length - (i+1))
      all_goals first|omega|exact⟨i+1,(by have hlv:=HLv.out;rw[w64 (by omega) (by omega)];first|rfl|(simp;done)),by omega,Nat.le_refl _,⟨by have h_:=HS2.out;rw[Bool.true_and]at h_;exact h_⟩,⟨bM W7.out⟩⟩
    |false=>
      go_region_held3 (fun w'=>w'.cell? ⟨g6,1,none⟩=some (.slice A5 x.f1.length c5)∧w'.cell? ⟨g3,0,none⟩=some (.slice (some ada) a.length c)∧w'.cell? (ada.add i)=some (.int .i64 (rd a (i:Int)))) (first|go_keep|exact⟨hB Q7.out hz6,hB Q7.out hz3,hB Q7.out hza⟩) ((go_at_call 46;refine(Zg4.calls A5 c5 x.f1 (rd a (i:Int)) false _ (cM HI2.out) hl1 HQ.out).mono ?_;rintro e w7 ⟨rfl,hb⟩;have B7:=Za.mk (bS Bq.out hb);have W7:=Za.mk (bS Wq.out hb);have Q7:=Za.mk (bS (Below.refl wq.heap.size wq) hb);clear hb))
      all_goals go_wp2
      all_goals go_ret
      all_goals exact⟨by have h_:=HS2.out;rw[Bool.false_and]at h_;subst h_;have h2_:=H.out;rw[if_neg Bool.false_ne_true]at h2_;obtain rfl:=Option.some.inj h2_;first|rfl|(simp;done),bM B7.out⟩
end Go.Proofs.YtdpieallpbllkaaGreat.P
/- The map of the names that came: a set of texts. -/
namespace Go.Proofs.YtdpieallpbllkaaGreat.P
open Go.RowKit Go.WideMaps Go.Maps Go.Proofs.YtdpieallpbllkaaGreatW.PrintWords Go.Proofs.YtdpieallpbllkaaGreatW.PrintLast Go.Proofs.YtdpieallpbllkaaGreatW.PrintMore
theorem keyedS:Keyed Tryz.prog 9:=string_keyed Tryz.underlying9
def nameLit (s:ByteArray):Lit:= .string s.data.toList
theorem Zgh {s:ByteArray} (h:s.size≤maxLen):keyOf Tryz.prog 9 (.string s)=some (nameLit s):=keyOf_string_mk Tryz.underlying9 h
theorem nameLit_inj {a b:ByteArray} (e:nameLit a=nameLit b):a=b:=by
  unfold nameLit at e
  injection e with e
  cases a;cases b
  congr 1
  exact Array.toList_inj.1 e
def hasN (L:List ByteArray) (x:ByteArray):Bool:=L.any fun y=>y.toList==x.toList
theorem bytes_ext {a b:ByteArray} (e:a.toList=b.toList):a=b:=by
  rw[ByteArray.toList_eq,ByteArray.toList_eq]at e;cases a;cases b
  congr 1
  exact Array.toList_inj.1 e
theorem hasN_iff (L:List ByteArray) (x:ByteArray):hasN L x=true↔x ∈ L:=by
  unfold hasN;rw[List.any_eq_true]
  constructor
  · rintro ⟨y, hy, e⟩
    rwa [←bytes_ext (beq_iff_eq.1 e)]
  intro h;exact⟨x,h,beq_iff_eq.2 rfl⟩
theorem hasN_false (L:List ByteArray) (x:ByteArray) (h:¬x ∈ L):hasN L x=false:=by
  cases e:hasN L x with
  | false => rfl
  |true=>exact absurd ((hasN_iff L x).1 e) h
theorem Zg1 {H : Type} (u z : DataW H) (k : Lit) : ∀ (acc : List Lit) (m : DataW H), k ∉ acc → (acc.foldl (fun m x => m.put x u) m).atKey k z = m.atKey k z
  | [], m, _ => rfl
  |x::r,m,h=>by
    rw[List.foldl_cons,Zg1 u z k r (m.put x u) (fun e=>h (by simp[e])),atKey_put_other (fun e=>h (by simp[e]))]
theorem atKey_in {H : Type} (u z : DataW H) (k : Lit) (hk : WideAt.IsKeyLit k) : ∀ (acc : List Lit) (m : DataW H), IsMap m → k ∈ acc → (acc.foldl (fun m x => m.put x u) m).atKey k z = u
  | [], m, _, h => by cases h
  |x::r,m,hm,h=>by
    rw[List.foldl_cons]
    rcases Classical.em (k ∈ r)with hr|hr
    · exact atKey_in u z k hk r (m.put x u) (hm.put x u) hr
    rw[Zg1 u z k r _ hr];obtain rfl:k=x:=(List.mem_cons.1 h).resolve_right hr;exact atKey_put_same hm hk u z
def SetN (w:World) (b:Nat) (L:List ByteArray):Prop:=w.ownsMap (H:=Unit) Tryz.prog 9 (plainElem Tryz.prog 4) b L.length (setOf (.lit (.bool true)) (L.map nameLit))
theorem SetN.below {w w':World} {b:Nat} {L:List ByteArray} (h:SetN w b L) (hb:Below w.heap.size w w'):SetN w' b L:=by
  have hlt:=World.ownsMap.lt h;obtain⟨es,clock,h1,F,hs,hD⟩:=h;exact⟨es,clock,(hb.block b hlt).trans h1,F,hs,hD⟩
theorem SetN.lt {w:World} {b:Nat} {L:List ByteArray} (h:SetN w b L):b<w.heap.size:=World.ownsMap.lt h
set_option maxRecDepth 100000 in
theorem SetN.look {w:World} {b:Nat} {L:List ByteArray} {x:ByteArray} (h:SetN w b L) (hx:x.size≤maxLen):(Instr.lookup 96 (.map (some b)) (.string x) false).run Tryz.prog w= .ok (.bool (hasN L x)) w:=by
  obtain⟨v,ps,hrun,hv⟩:=World.ownsMap.lookup h keyedS Tryz.underlying96 (z:= .bool false) (by kernel_rfl) (plainElem_bool Tryz.underlying4 false) (Zgh hx)
  have e:(nameLit x ∈ L.map nameLit)↔x ∈ L:=by
    rw[List.mem_map]
    constructor
    · rintro ⟨y, hy, e⟩
      rwa [←nameLit_inj e]
    intro hy;exact⟨x,hy,rfl⟩
  rw[hrun]
  have hb:v= .bool (hasN L x):=by
    have hc:∃c,v= .bool c∧((setOf (.lit (.bool true)) (L.map nameLit)).atKey (nameLit x) (.lit (.bool false)):DataW Unit)= .lit (.bool c):=by
      unfold plainElem at hv;rw[Tryz.underlying4]at hv;clear hrun e h
      generalize ((setOf (.lit (.bool true)) (L.map nameLit)).atKey (nameLit x) (.lit (.bool false)):DataW Unit)=dd at hv ⊢
      cases v<;>simp at hv
      exact⟨_,rfl,hv.1.symm⟩
    obtain⟨c,rfl,hc⟩:=hc
    rcases Classical.em (x ∈ L)with hm|hm
    · have := (atKey_in (.lit (.bool true)) (.lit (.bool false)) _ (keyedS.key (Zgh hx)) _ _ isMap_empty (e.2 hm)).symm.trans hc
      simp at this
      rw[(hasN_iff L x).2 hm,this]
    have:=(Zg1 (.lit (.bool true)) (.lit (.bool false)) (nameLit x) (L.map nameLit) (.map []) (fun h=>hm (e.1 h))).symm.trans hc;have e2:((DataW.map []:DataW Unit).atKey (nameLit x) (.lit (.bool false)))= .lit (.bool false):=rfl;rw[e2]at this
    simp at this
    rw[hasN_false L x hm,this]
  rw[hb]
theorem SetN.made (w:World):SetN (w.alloc (.map #[] 0)) w.heap.size []:=World.ownsMap_made w _ _ _
theorem Ze1 {w : World} {ops : Array Oper} {rest : List Oper} {o : Oper} {a : Act} {Q : Exit → Act → World → Prop} (hg : o.guard = none) (m x : Operand) (hop : o.op = Op.lookup 96 m x false) {b : Nat} {L : List ByteArray} {q : ByteArray}
    (hm:a.eval m= .map (some b)) (h:SetN w b L) (hx:a.eval x= .string q) (hq:q.size≤maxLen) (hK:wpList Tryz.prog ops Q rest (a.put o.dst (.bool (hasN L q))) w):wpList Tryz.prog ops Q (o::rest) a w:=by
  refine wpList_plain hg fun K' hK'=> ?_
  have hrun:=h.look hq;unfold Oper.wp
  simp[execOp,hop,hm,hx,hrun,Result.andThen]
  exact hK' _ _ hK
theorem wpList_putN {w : World} {ops : Array Oper} {rest : List Oper} {o : Oper} {a : Act} {Q : Exit → Act → World → Prop} (hg : o.guard = none) (m x v : Operand) (hop : o.op = Op.mapUpdate 96 m x v) {b : Nat} {L : List ByteArray} {q : ByteArray}
    (hm:a.eval m= .map (some b)) (h:SetN w b L) (hx:a.eval x= .string q) (hv:a.eval v= .bool true) (hq:q.size≤maxLen) (hn:L.length<maxLen) (hK:∀w',SetN w' b (L++ [q])→w.grownBy w' (some b)→wpList Tryz.prog ops Q rest (a.put o.dst undef) w'):wpList Tryz.prog ops Q (o::rest) a w:=by
  refine wpList_plain hg fun K' hK'=> ?_
  obtain⟨w',hrun,r1,r2⟩:=World.ownsMap.update h keyedS Tryz.underlying96 hn (Zgh hq) (plainElem_bool Tryz.underlying4 true)
  have r3:SetN w' b (L++ [q]):=by
    unfold SetN;rw[List.map_append,List.map_cons,List.map_nil,setOf_snoc,List.length_append];exact r1
  unfold Oper.wp
  simp[execOp,hop,hm,hx,hv,hrun,Result.andThen]
  exact hK' _ _ (hK w' r3 r2)
end Go.Proofs.YtdpieallpbllkaaGreat.P
/- model.Name: may a text be a name? (a range over a string) -/
namespace Go.Proofs.YtdpieallpbllkaaGreat.P
open Go.RowKit Go.Proofs.YtdpieallpbllkaaGreatW.PrintWords Go.Proofs.YtdpieallpbllkaaGreatW.PrintLast Go.Proofs.YtdpieallpbllkaaGreatW.PrintMore
def okAt (i c:Nat):Bool:=(decide (97≤c) && decide (c≤122))||(!decide (i=0) && (decide (c=95)||(decide (48≤c) && decide (c≤57))))
def nameGo (s : ByteArray) : Nat → Nat → Bool
  | 0, _ => true
  |b+1,pos=>if h:pos<s.size then okAt pos (s[pos]'h).toNat && nameGo s b (pos+1)else true
def Zd7.f (a0:ByteArray):Option Bool:=some (!decide (a0.size=0) && (decide (a0.size≤16) && nameGo a0 a0.size 0))
theorem nameGo_end (s:ByteArray) (b pos:Nat) (h:¬pos<s.size):nameGo s b pos=true:=by
  cases b with
  | zero => rfl
  |succ b=>simp[nameGo,h]
theorem okAt_high (i c:Nat) (h:128≤c):okAt i c=false:=by
  have h1:decide (c≤122)=false:=decide_eq_false (by omega);have h2:decide (c=95)=false:=decide_eq_false (by omega);have h3:decide (c≤57)=false:=decide_eq_false (by omega)
  simp[okAt,h1,h2,h3]
set_option maxRecDepth 1000000 in
theorem Zd7.calls (a0 : ByteArray) (r : Bool) (w : World) (h : Zd7.f a0 = some r) :
    Calls Tryz.prog 77 #[.string a0] w fun e w'=>e= .returned (.bool r)∧Below w.heap.size w w':=by
  obtain rfl:=Option.some.inj h;clear h;by_cases h0:a0.size=0
  · have d0 : decide (a0.size = 0) = true := decide_eq_true h0
    have e0:a0=⟨#[]⟩:=by
      have:a0.data=#[]:=Array.eq_empty_of_size_eq_zero h0;cases a0;simpa using this
    subst e0;go_enter Tryz.func77,Tryz.ntmps77;go_wp2;go_ret;exact⟨by rfl,Below.refl _ _⟩
  have d0:decide (a0.size=0)=false:=decide_eq_false h0
  have eE:a0.toList.isEmpty=false:=by
    rw[ByteArray.toList_eq]
    cases hd:a0.data.toList with
    | nil => exact absurd (show a0.data.size = 0 by rw [← Array.length_toList, hd]; rfl) h0
    |cons a l=>rfl
  have DD:=Za.mk d0;clear d0 h0;by_cases h16:16<a0.size
  · have e1 : decide (16 < (a0.size : Int)) = true := decide_eq_true (by omega)
    have e2:decide (16<a0.size)=true:=decide_eq_true h16;have e3:Za (decide (a0.size≤16)=false):=⟨decide_eq_false (by omega)⟩;clear h16;go_enter Tryz.func77,Tryz.ntmps77;go_wp2;go_ret;exact⟨by rw[DD.out,e3.out];rfl,Below.refl _ _⟩
  have e1:decide (16<(a0.size:Int))=false:=decide_eq_false (by omega);have e2:decide (16<a0.size)=false:=decide_eq_false h16;have e3:Za (decide (a0.size≤16)=true):=⟨decide_eq_true (by omega)⟩;have hsz:a0.size≤16:=by omega
  clear h16;rw[DD.out,e3.out]
  show Calls _ _ _ _ fun e w'=>e= .returned (.bool (nameGo a0 a0.size 0))∧_
  obtain⟨wo,rfl⟩:∃wo:World,wo=w:=⟨_,rfl⟩;go_enter Tryz.func77,Tryz.ntmps77;go_wp2
  go_loopw [3,4,5] (fun s3 s4 s5 w'=>∃(pos b:Nat),w'=wo.iter a0 pos∧Za (nameGo a0 b pos=nameGo a0 a0.size 0)∧Za (a0.size≤pos+b)) (fun _ _ _ w'=>a0.size - w'.iterPos wo.heap.size)
  case atStart=>exact⟨0,a0.size,rfl,⟨rfl⟩,⟨by omega⟩⟩
  case round=>
    obtain⟨pos,b,rfl,hc,hb⟩:=hrel;by_cases hp:pos<a0.size;rotate_left
    · have hnx : ∀ ty, (Instr.next (.pointer (some ⟨wo.heap.size, 0, none⟩)) true ty).run Tryz.prog (wo.iter a0 pos) = _ := fun ty => run_next_end wo a0 pos ty hp
      go_wp2;go_ret;have:=hc.out;rw[nameGo_end a0 b pos hp]at this;rw[←this];exact⟨rfl,Zbi (Below.refl _ _) _⟩
    skip
    by_cases ha:(a0[pos]'hp).toNat<128;rotate_left
    · have hnx := fun ty => run_next_any (P := Tryz.prog) wo a0 pos ty hp
      have hh:=(decode_high a0 pos hp (by omega)).1;have OKx:Za (okAt pos (a0[pos]'hp).toNat=false):=⟨okAt_high pos _ (by omega)⟩
      generalize (Utf8.decode a0 pos).1=c at hnx hh
      generalize pos+(Utf8.decode a0 pos).2=pos2 at hnx
      have OK:=OKx;clear OKx;have a1:decide ((97:Int)≤(c:Int))=true:=decide_eq_true (by omega);have a2:decide ((c:Int)≤122)=false:=decide_eq_false (by omega);have a4:((c:Int)==95)=false:=beq_eq_false_iff_ne.2 (by omega);have a4n:((c:Int) !=95)=true:=by simp only[bne,a4,Bool.not_false]
      have a4d:decide ((c:Int)=95)=false:=decide_eq_false (by omega);have a5:decide ((c:Int)<48)=false:=decide_eq_false (by omega);have a6:decide ((57:Int)<(c:Int))=true:=decide_eq_true (by omega);by_cases q3:pos=0
      · subst q3
        go_wp2;go_ret;refine⟨?_,Zbi (Below.refl _ _) _⟩;rw[←hc.out]
        cases b with
        | zero => exact absurd hb.out (by omega)
        |succ b=>(first|rw[nameGo,dif_pos hp,HX.out,OK.out,Bool.false_and]|rw[nameGo,dif_pos hp,OK.out,Bool.false_and]);rfl
      skip
      have a3:((pos:Int)==0)=false:=beq_eq_false_iff_ne.2 (by omega);have a3n:((pos:Int) !=0)=true:=by simp only[bne,a3,Bool.not_false]
      have a3d:decide ((pos:Int)=0)=false:=decide_eq_false (by omega);go_wp2;go_ret;refine⟨?_,Zbi (Below.refl _ _) _⟩;rw[←hc.out]
      cases b with
      | zero => exact absurd hb.out (by omega)
      |succ b=>(first|rw[nameGo,dif_pos hp,HX.out,OK.out,Bool.false_and]|rw[nameGo,dif_pos hp,OK.out,Bool.false_and]);rfl
    have hnx:=fun ty=>run_next_ascii (P:=Tryz.prog) wo a0 pos ty hp ha
    generalize hx:(a0[pos]'hp).toNat=c at hnx ha
    have HX:=Za.mk hx;clear hx;by_cases q1:97≤c;rotate_left
    · skip
      have a1:decide ((97:Int)≤(c:Int))=false:=decide_eq_false (by omega);by_cases q3:pos=0
      · skip
        have OK:Za (okAt pos c=false):=⟨by by_cases z1:97≤c<;>by_cases z2:c≤122<;>by_cases z3:pos=0<;>by_cases z4:c=95<;>by_cases z5:48≤c<;>by_cases z6:c≤57<;>first|(exfalso;omega)|simp[okAt,z1,z2,z3,z4,z5,z6]⟩;subst q3;go_wp2;go_ret;refine⟨?_,Zbi (Below.refl _ _) _⟩;rw[←hc.out]
        cases b with
        | zero => exact absurd hb.out (by omega)
        |succ b=>(first|rw[nameGo,dif_pos hp,HX.out,OK.out,Bool.false_and]|rw[nameGo,dif_pos hp,OK.out,Bool.false_and]);rfl
      skip
      have a3:((pos:Int)==0)=false:=beq_eq_false_iff_ne.2 (by omega);have a3n:((pos:Int) !=0)=true:=by simp only[bne,a3,Bool.not_false]
      have a3d:decide ((pos:Int)=0)=false:=decide_eq_false (by omega);by_cases q4:c=95
      · skip
        have OK:Za (okAt pos c=true):=⟨by by_cases z1:97≤c<;>by_cases z2:c≤122<;>by_cases z3:pos=0<;>by_cases z4:c=95<;>by_cases z5:48≤c<;>by_cases z6:c≤57<;>first|(exfalso;omega)|simp[okAt,z1,z2,z3,z4,z5,z6]⟩;have a4:((c:Int)==95)=true:=beq_iff_eq.2 (by omega);have a4n:((c:Int) !=95)=false:=by simp only[bne,a4,Bool.not_true]
        have a4d:decide ((c:Int)=95)=true:=decide_eq_true (by omega);go_wp2
        go_roundw
        case rel=>
          cases b with
          | zero => exact absurd hb.out (by omega)
          |succ b=>
            refine⟨pos+1,b,rfl,⟨?_⟩,⟨by have:=hb.out;omega⟩⟩;rw[←hc.out,nameGo,dif_pos hp,HX.out,OK.out,Bool.true_and]
        case measure=>simp;omega
      skip
      have a4:((c:Int)==95)=false:=beq_eq_false_iff_ne.2 (by omega);have a4n:((c:Int) !=95)=true:=by simp only[bne,a4,Bool.not_false]
      have a4d:decide ((c:Int)=95)=false:=decide_eq_false (by omega);by_cases q5:c<48
      · skip
        have OK:Za (okAt pos c=false):=⟨by by_cases z1:97≤c<;>by_cases z2:c≤122<;>by_cases z3:pos=0<;>by_cases z4:c=95<;>by_cases z5:48≤c<;>by_cases z6:c≤57<;>first|(exfalso;omega)|simp[okAt,z1,z2,z3,z4,z5,z6]⟩;have a5:decide ((c:Int)<48)=true:=decide_eq_true (by omega);go_wp2;go_ret;refine⟨?_,Zbi (Below.refl _ _) _⟩;rw[←hc.out]
        cases b with
        | zero => exact absurd hb.out (by omega)
        |succ b=>(first|rw[nameGo,dif_pos hp,HX.out,OK.out,Bool.false_and]|rw[nameGo,dif_pos hp,OK.out,Bool.false_and]);rfl
      skip
      have a5:decide ((c:Int)<48)=false:=decide_eq_false (by omega);by_cases q6:57<c
      · skip
        have OK:Za (okAt pos c=false):=⟨by by_cases z1:97≤c<;>by_cases z2:c≤122<;>by_cases z3:pos=0<;>by_cases z4:c=95<;>by_cases z5:48≤c<;>by_cases z6:c≤57<;>first|(exfalso;omega)|simp[okAt,z1,z2,z3,z4,z5,z6]⟩;have a6:decide ((57:Int)<(c:Int))=true:=decide_eq_true (by omega);go_wp2;go_ret;refine⟨?_,Zbi (Below.refl _ _) _⟩;rw[←hc.out]
        cases b with
        | zero => exact absurd hb.out (by omega)
        |succ b=>(first|rw[nameGo,dif_pos hp,HX.out,OK.out,Bool.false_and]|rw[nameGo,dif_pos hp,OK.out,Bool.false_and]);rfl
      skip
      have OK:Za (okAt pos c=true):=⟨by by_cases z1:97≤c<;>by_cases z2:c≤122<;>by_cases z3:pos=0<;>by_cases z4:c=95<;>by_cases z5:48≤c<;>by_cases z6:c≤57<;>first|(exfalso;omega)|simp[okAt,z1,z2,z3,z4,z5,z6]⟩;have a6:decide ((57:Int)<(c:Int))=false:=decide_eq_false (by omega);go_wp2
      go_roundw
      case rel=>
        cases b with
        | zero => exact absurd hb.out (by omega)
        |succ b=>
          refine⟨pos+1,b,rfl,⟨?_⟩,⟨by have:=hb.out;omega⟩⟩;rw[←hc.out,nameGo,dif_pos hp,HX.out,OK.out,Bool.true_and]
      case measure=>simp;omega
    by_cases q2:c≤122
    · skip
      have OK:Za (okAt pos c=true):=⟨by by_cases z1:97≤c<;>by_cases z2:c≤122<;>by_cases z3:pos=0<;>by_cases z4:c=95<;>by_cases z5:48≤c<;>by_cases z6:c≤57<;>first|(exfalso;omega)|simp[okAt,z1,z2,z3,z4,z5,z6]⟩;have a1:decide ((97:Int)≤(c:Int))=true:=decide_eq_true (by omega);have a2:decide ((c:Int)≤122)=true:=decide_eq_true (by omega);clear q1 q2 ha;go_wp2
      go_roundw
      case rel=>
        cases b with
        | zero => exact absurd hb.out (by omega)
        |succ b=>
          refine⟨pos+1,b,rfl,⟨?_⟩,⟨by have:=hb.out;omega⟩⟩;rw[←hc.out,nameGo,dif_pos hp,HX.out,OK.out,Bool.true_and]
      case measure=>simp;omega
    skip
    have a1:decide ((97:Int)≤(c:Int))=true:=decide_eq_true (by omega);have a2:decide ((c:Int)≤122)=false:=decide_eq_false (by omega);by_cases q3:pos=0
    · skip
      have OK:Za (okAt pos c=false):=⟨by by_cases z1:97≤c<;>by_cases z2:c≤122<;>by_cases z3:pos=0<;>by_cases z4:c=95<;>by_cases z5:48≤c<;>by_cases z6:c≤57<;>first|(exfalso;omega)|simp[okAt,z1,z2,z3,z4,z5,z6]⟩;subst q3;go_wp2;go_ret;refine⟨?_,Zbi (Below.refl _ _) _⟩;rw[←hc.out]
      cases b with
      | zero => exact absurd hb.out (by omega)
      |succ b=>(first|rw[nameGo,dif_pos hp,HX.out,OK.out,Bool.false_and]|rw[nameGo,dif_pos hp,OK.out,Bool.false_and]);rfl
    skip
    have a3:((pos:Int)==0)=false:=beq_eq_false_iff_ne.2 (by omega);have a3n:((pos:Int) !=0)=true:=by simp only[bne,a3,Bool.not_false]
    have a3d:decide ((pos:Int)=0)=false:=decide_eq_false (by omega);by_cases q4:c=95
    · skip
      have OK:Za (okAt pos c=true):=⟨by by_cases z1:97≤c<;>by_cases z2:c≤122<;>by_cases z3:pos=0<;>by_cases z4:c=95<;>by_cases z5:48≤c<;>by_cases z6:c≤57<;>first|(exfalso;omega)|simp[okAt,z1,z2,z3,z4,z5,z6]⟩;have a4:((c:Int)==95)=true:=beq_iff_eq.2 (by omega);have a4n:((c:Int) !=95)=false:=by simp only[bne,a4,Bool.not_true]
      have a4d:decide ((c:Int)=95)=true:=decide_eq_true (by omega);go_wp2
      go_roundw
      case rel=>
        cases b with
        | zero => exact absurd hb.out (by omega)
        |succ b=>
          refine⟨pos+1,b,rfl,⟨?_⟩,⟨by have:=hb.out;omega⟩⟩;rw[←hc.out,nameGo,dif_pos hp,HX.out,OK.out,Bool.true_and]
      case measure=>simp;omega
    skip
    have a4:((c:Int)==95)=false:=beq_eq_false_iff_ne.2 (by omega);have a4n:((c:Int) !=95)=true:=by simp only[bne,a4,Bool.not_false]
    have a4d:decide ((c:Int)=95)=false:=decide_eq_false (by omega);by_cases q5:c<48
    · skip
      have OK:Za (okAt pos c=false):=⟨by by_cases z1:97≤c<;>by_cases z2:c≤122<;>by_cases z3:pos=0<;>by_cases z4:c=95<;>by_cases z5:48≤c<;>by_cases z6:c≤57<;>first|(exfalso;omega)|simp[okAt,z1,z2,z3,z4,z5,z6]⟩;have a5:decide ((c:Int)<48)=true:=decide_eq_true (by omega);go_wp2;go_ret;refine⟨?_,Zbi (Below.refl _ _) _⟩;rw[←hc.out]
      cases b with
      | zero => exact absurd hb.out (by omega)
      |succ b=>(first|rw[nameGo,dif_pos hp,HX.out,OK.out,Bool.false_and]|rw[nameGo,dif_pos hp,OK.out,Bool.false_and]);rfl
    skip
    have a5:decide ((c:Int)<48)=false:=decide_eq_false (by omega);by_cases q6:57<c
    · skip
      have OK:Za (okAt pos c=false):=⟨by by_cases z1:97≤c<;>by_cases z2:c≤122<;>by_cases z3:pos=0<;>by_cases z4:c=95<;>by_cases z5:48≤c<;>by_cases z6:c≤57<;>first|(exfalso;omega)|simp[okAt,z1,z2,z3,z4,z5,z6]⟩;have a6:decide ((57:Int)<(c:Int))=true:=decide_eq_true (by omega);go_wp2;go_ret;refine⟨?_,Zbi (Below.refl _ _) _⟩;rw[←hc.out]
      cases b with
      | zero => exact absurd hb.out (by omega)
      |succ b=>(first|rw[nameGo,dif_pos hp,HX.out,OK.out,Bool.false_and]|rw[nameGo,dif_pos hp,OK.out,Bool.false_and]);rfl
    skip
    have OK:Za (okAt pos c=true):=⟨by by_cases z1:97≤c<;>by_cases z2:c≤122<;>by_cases z3:pos=0<;>by_cases z4:c=95<;>by_cases z5:48≤c<;>by_cases z6:c≤57<;>first|(exfalso;omega)|simp[okAt,z1,z2,z3,z4,z5,z6]⟩;have a6:decide ((57:Int)<(c:Int))=false:=decide_eq_false (by omega);go_wp2
    go_roundw
    case rel=>
      cases b with
      | zero => exact absurd hb.out (by omega)
      |succ b=>
        refine⟨pos+1,b,rfl,⟨?_⟩,⟨by have:=hb.out;omega⟩⟩;rw[←hc.out,nameGo,dif_pos hp,HX.out,OK.out,Bool.true_and]
    case measure=>simp;omega
end Go.Proofs.YtdpieallpbllkaaGreat.P
namespace Go.Proofs.YtdpieallpbllkaaGreat.P
open Go.RowKit Go.Proofs.YtdpieallpbllkaaGreatW.PrintWords Go.Proofs.YtdpieallpbllkaaGreatW.PrintLast Go.Proofs.YtdpieallpbllkaaGreatW.PrintMore
attribute [local go_sem] Zcw Zcy Zdg Zdh Zco Zcp Zcx Zcz
def Zcl.l0 : Nat → Int → List (S82) → Int → Int → Option (Int)
 | 0, _, _, _, _ => none
 |k+1,x3,x6,x7,x8=>if x8<x7 then(if 0≤x8 then(if x8<(x6.length:Int)then(Zcl.l0 k (wrap64 (x3+(wrap64 ((wrap64 (((Zbk x6 x8).f1) - ((Zbk x6 x8).f0)))+1)))) x6 x7 (wrap64 (x8+1)))else(none))else(none))else(some x3)
def Zcl.f (k:Nat) (l0:List (S82)):Option (Int):=Zcl.l0 k 0 l0 (l0.length:Int) 0
theorem Zcl.Zc9 : ∀ k, (∀ y0 y1 y2 y3, LeO (Zcl.l0 k y0 y1 y2 y3) (Zcl.l0 (k + 1) y0 y1 y2 y3))
 | 0 => fun _ _ _ _ r h => by simp [Zcl.l0] at h
 |k+1=>by
  have ih0:=Zcl.Zc9 k;intro y0 y1 y2 y3;unfold Zcl.l0
  repeat' first
  | (with_reducible exact ih0 _ _ _ _)
  | (with_reducible exact LeO.refl _)
  | (with_reducible exact LeO.none _)
  | (with_reducible refine LeO.ite ?_ ?_)
  |(with_reducible refine LeO.bind ?_ (fun _=> ?_))
theorem Zcl.mono:∀a0 k,LeO (Zcl.f k a0) (Zcl.f (k+1) a0):=by
 intro a0 k;have ih0:=Zcl.Zc9 k;unfold Zcl.f
 repeat' first
   | (with_reducible exact ih0 _ _ _ _)
   | (with_reducible exact LeO.refl _)
   | (with_reducible exact LeO.none _)
   | (with_reducible refine LeO.ite ?_ ?_)
   |(with_reducible refine LeO.bind ?_ (fun _=> ?_))
set_option maxRecDepth 100000 in
theorem Zcl.calls (k : Nat) (A0 : Option Addr) (c0 : Nat) (l0 : List (S82)) (r : Int) (w : World) (hr0 : Kd.C k82 w A0 l0.length l0) (hc0 : l0.length ≤ c0) (h : Zcl.f k l0 = some r) :
  Calls Tryz.prog 60 #[.slice A0 l0.length c0] w fun e w'=>e= .returned (.int .i64 r)∧Below w.heap.size w w':=by
 have hu82:=Tryz.underlying82;have HR0:=Za.mk hr0;have HC0:=Za.mk hc0;clear hr0 hc0;have HB:=Za.mk (Below.refl w.heap.size w);have H:(Zcl.l0 k 0 l0 (l0.length:Int) 0)=some r:=h;clear h;have H':=Za.mk H;clear H;go_enter Tryz.func60,Tryz.ntmps60;go_wp2
 go_loopg [3,8] k (fun kq v3 v8 w'=>∃(af:Int) (fu:Int),v3= .int .i64 af∧v8= .int .i64 fu∧Za (Zcl.l0 kq af l0 (l0.length:Int) fu=some r)∧Za (kq≤k)∧Za (Below w.heap.size w w'))
 case atStart=>exact⟨(0),(0),eS,eS,H',⟨Nat.le_refl _⟩,⟨bM HB.out⟩⟩
 case round=>
  clear H';obtain⟨af,fu,rfl,rfl,HA,HK1,HB⟩:=hrel
  cases gk with
  | zero => exact absurd HA.out (by simp [Zcl.l0])
  |succ k1=>
   have H:=HA.out;clear HA;simp only[Zcl.l0]at H;by_cases c2:fu<(l0.length:Int)
   case neg=>
    rw[if_neg c2]at H;have jC:decide (fu<(l0.length:Int))=false:=decide_eq_false c2;clear c2;obtain rfl:=sj H;go_wp2;go_ret;exact⟨eR,bM HB.out⟩
   rw[if_pos c2]at H;have jC:decide (fu<(l0.length:Int))=true:=decide_eq_true c2;clear c2;obtain⟨fB,H⟩:=ifT H;obtain⟨dC,H⟩:=ifT H;have H':=Za.mk H;clear H;have o1a:(0≤(fu:Int))=True:=teq;have o4a:(fu<(l0.length:Int))=True:=teq;obtain⟨fKa,rfl,JV,JW⟩:=Zem HR0.out fu odt odt;replace JV:=hB HB.out JV;replace JW:=hB HB.out JW
   go_wp2_with (first|((with_reducible refine Zar (N:=5) rfl ?_);refine bx 5 #[.int .i64 0,.int .i64 0] 82 ?_;intro Y1 hg w5 hbox hb;have Wu:=Za.mk (hbox);have f8a:=Za.mk ((gE hg HB.out:w.heap.size≤Y1));replace HB:=Za.mk (bS HB.out hb);clear hb hbox hg;obtain⟨kY,lc,kW,kX⟩:=cz2 Wu.out))
   go_roundg k1
   case measure=>have:=HK1.out;omega
   case rel=>exact⟨(wrap64 (af+(wrap64 ((wrap64 (((Zbk l0 fu).f1) - ((Zbk l0 fu).f0)))+1)))),(wrap64 (fu+1)),eS,eS,H',⟨by have:=HK1.out;omega⟩,⟨bM HB.out⟩⟩
def Zda.f (a0:Int):Option (Bool):=if a0≥(-1048576)then(some (decide (a0≤1048576)))else(some false)
set_option maxRecDepth 100000 in
theorem Zda.calls (a0 : Int) (r : Bool) (w : World) (h : Zda.f a0 = some r) :
  Calls Tryz.prog 117 #[.int .i64 a0] w fun e w'=>e= .returned (.bool r)∧Zav w w':=by
 have H:(if a0≥(-1048576)then(some (decide (a0≤1048576)))else(some false))=some r:=h;clear h;by_cases c2:a0≥(-1048576)
 case pos=>
  rw[if_pos c2]at H;have jC:decide ((-1048576)≤a0)=true:=decide_eq_true c2;clear c2;obtain rfl:=sj H;go_enter Tryz.func117,Tryz.ntmps117;go_wp2;go_ret;exact⟨eS,by repeat(first|exact Zav.refl _|apply Zav.step)⟩
 rw[if_neg c2]at H;have jC:decide ((-1048576)≤a0)=false:=decide_eq_false c2;clear c2;obtain rfl:=sj H;go_enter Tryz.func117,Tryz.ntmps117;go_wp2;go_ret;exact⟨eS,by repeat(first|exact Zav.refl _|apply Zav.step)⟩
end Go.Proofs.YtdpieallpbllkaaGreat.P
/- secateur/dom.right: over a list of ranges. -/
namespace Go.Proofs.YtdpieallpbllkaaGreat.P
open Go.RowKit Go.Proofs.YtdpieallpbllkaaGreatW.PrintWords Go.Proofs.YtdpieallpbllkaaGreatW.PrintLast Go.Proofs.YtdpieallpbllkaaGreatW.PrintMore
def Zca.l0 : Nat → List (S82) → List (S82) → Int → Int → Option (Bool)
 | 0, _, _, _, _ => none
 |k+1,x0,x5,x6,x7=>if x7<x6 then(if 0≤x7 then(if x7<(x5.length:Int)then((Zda.f ((Zbk x5 x7).f0)).bind fun ta=>(if ta=true then((Zda.f ((Zbk x5 x7).f1)).bind fun tb=>(if tb=true then(if((Zbk x5 x7).f0)>((Zbk x5 x7).f1)then(some false)else(if x7>0 then(if 0≤(wrap64 (x7 - 1))then(if(wrap64 (x7 - 1))<(x0.length:Int)then(if((Zbk x5 x7).f0)<(wrap64 (((Zbk x0 (wrap64 (x7 - 1))).f1)+2))then(some false)else(Zca.l0 k x0 x5 x6 (wrap64 (x7+1))))else(none))else(none))else(Zca.l0 k x0 x5 x6 (wrap64 (x7+1)))))else(some false)))else(some false)))else(none))else(none))else(some true)
def Zca.f (k:Nat) (l0:List (S82)):Option (Bool):=Zca.l0 k l0 l0 (l0.length:Int) 0
theorem Zca.Zc9 : ∀ k, (∀ y0 y1 y2 y3, LeO (Zca.l0 k y0 y1 y2 y3) (Zca.l0 (k + 1) y0 y1 y2 y3))
  | 0 => by intro y0 y1 y2 y3 r h; simp [Zca.l0] at h
  |k+1=>by
    have ih:=Zca.Zc9 k;intro y0 y1 y2 y3;unfold Zca.l0
    repeat' first
      | (with_reducible exact ih _ _ _ _)
      | (with_reducible exact LeO.refl _)
      | (with_reducible exact LeO.none _)
      | (with_reducible refine LeO.ite ?_ ?_)
      |(with_reducible refine LeO.bind ?_ (fun _=> ?_))
theorem Zca.mono:∀a0 k,LeO (Zca.f k a0) (Zca.f (k+1) a0):=fun a0 k=>Zca.Zc9 k a0 a0 _ _
set_option maxRecDepth 100000 in
theorem Zca.calls (k : Nat) (A0 : Option Addr) (c0 : Nat) (l0 : List (S82)) (r : Bool) (w : World) (hr0 : Kd.C k82 w A0 l0.length l0) (hc0 : l0.length ≤ c0) (h : Zca.f k l0 = some r) :
  Calls Tryz.prog 107 #[.slice A0 l0.length c0] w fun e w'=>e= .returned (.bool r)∧Below w.heap.size w w':=by
 have hu:=Tryz.underlying82;have HR0:=Za.mk hr0;clear hr0 hc0;have HB:=Za.mk (Below.refl w.heap.size w);have H':=Za.mk (show Zca.l0 k l0 l0 (l0.length:Int) 0=some r from h);clear h;go_enter Tryz.func107,Tryz.ntmps107;go_wp2
 go_loopg [7] k (fun kq v7 w'=>∃(x:Int),v7= .int .i64 x∧Za (Zca.l0 kq l0 l0 (l0.length:Int) x=some r)∧Za (kq≤k)∧Za (Below w.heap.size w w'))
 case atStart=>exact⟨0,rfl,H',⟨Nat.le_refl _⟩,⟨mvB HB.out⟩⟩
 case round=>
  clear H' HB;obtain⟨x,rfl,HA,HK1,HB⟩:=hrel
  cases gk with
  | zero => exact absurd HA.out (by simp [Zca.l0])
  |succ k1=>
   have H:=HA.out;clear HA;simp only[Zca.l0]at H;by_cases c2:x<(l0.length:Int);rotate_left
   ·rw [if_neg c2] at H
    have p1_:decide (x<(l0.length:Int))=false:=decide_eq_false c2;clear c2;obtain rfl:=Option.some.inj H;clear H;go_wp2;go_ret;exact⟨rfl,mvB HB.out⟩
   rw[if_pos c2]at H;have p1_:decide (x<(l0.length:Int))=true:=decide_eq_true c2;by_cases c3:0≤x;rotate_left
   ·rw [if_neg c3] at H
    exact absurd H (by simp)
   rw[if_pos c3]at H;rw[if_pos c2]at H;have p2_:decide (0≤x)=true:=decide_eq_true c3;obtain⟨ad,e_,hx0,hx1⟩:=Zem (Kd.Zac HR0.out HB.out) x c3 c2;cases e_;replace c2:=eq_true c2;replace c3:=eq_true c3
   generalize (Zbk l0 x).f0=a at hx0 H
   generalize (Zbk l0 x).f1=b at hx1 H
   obtain⟨va,hva,H2_⟩:=Option.bind_eq_some_iff.1 H;clear H;have H:=H2_;clear H2_;have HVa:=Za.mk hva;clear hva
   cases va with
   |false=>
    rw[if_neg Bool.false_ne_true]at H;obtain rfl:=Option.some.inj H;clear H
    go_wp2_with (first|((with_reducible refine Zar (N:=4) rfl ?_);refine Zdd ?hg (N:=4) ?hd (cs:=#[.int .i64 0,.int .i64 0]) (t:=82) ?hr ?_;(case hd=>rfl);(case hg=>rfl);(case hr=>first|(go_simp;done)|(go_simp;rfl));intro g4 hg4 w9 hbox hb;have BX:=Za.mk hbox;have lS:w9.cell? ⟨g4,0,none⟩=some (.int .i64 0):=(Zap hbox 0).trans rfl;have lu:w9.cell? ⟨g4,1,none⟩=some (.int .i64 0):=(Zap hbox 1).trans rfl;have lT:=Za0 hbox 0;have lU:=Za0 hbox 1;have BV:=Za.mk (Zae (mvB (Below.refl wr.heap.size wr)) hb);have HG4:Za (wr.heap.size≤g4):=⟨by rw[hg4];exact(mvB (Below.refl wr.heap.size wr)).size⟩;clear hbox hb hg4))
    have BXq:=Za.mk (Zaz (cs':=#[.int .i64 a,.int .i64 b]) (Zaz (cs':=#[.int .i64 a,.int .i64 0]) BX.out 0 (.int .i64 a) rfl) 1 (.int .i64 b) rfl);have BVq:=Za.mk (show Below wr.heap.size wr ((w9.setCell ⟨g4,0,none⟩ (.int .i64 a)).setCell ⟨g4,1,none⟩ (.int .i64 b))from Zba (Zba BV.out HG4.out) HG4.out);clear lS lu lT lU
    generalize ((w9.setCell ⟨g4,0,none⟩ (.int .i64 a)).setCell ⟨g4,1,none⟩ (.int .i64 b))=wq at BXq BVq ⊢
    have hq0:wq.cell? ⟨g4,0,none⟩=some (.int .i64 a):=(Zap BXq.out 0).trans rfl;have hq1:wq.cell? ⟨g4,1,none⟩=some (.int .i64 b):=(Zap BXq.out 1).trans rfl;clear hx0 hx1;have HCa:Za (∀n,Calls Tryz.prog 117 #[.int .i64 a] (wq.drewN n) fun e w''=>e= .returned (.bool false)∧∃m,w''=wq.drewN m):=⟨fun n=>Calls.quiet_of ((Zda.calls a _ _ HVa.out).mono fun e w' h_=>⟨h_.1,h_.2.out⟩)⟩
    go_quiet (with_reducible exact HCa.out _)
    go_wp2;go_ret;exact⟨rfl,mvB (Zae HB.out BVq.out)⟩
   |true=>
    rw[if_pos rfl]at H;obtain⟨vb,hvb,H2_⟩:=Option.bind_eq_some_iff.1 H;clear H;have H:=H2_;clear H2_;have HVb:=Za.mk hvb;clear hvb
    cases vb with
    |false=>
     rw[if_neg Bool.false_ne_true]at H;obtain rfl:=Option.some.inj H;clear H
     go_wp2_with (first|((with_reducible refine Zar (N:=4) rfl ?_);refine Zdd ?hg (N:=4) ?hd (cs:=#[.int .i64 0,.int .i64 0]) (t:=82) ?hr ?_;(case hd=>rfl);(case hg=>rfl);(case hr=>first|(go_simp;done)|(go_simp;rfl));intro g4 hg4 w9 hbox hb;have BX:=Za.mk hbox;have lS:w9.cell? ⟨g4,0,none⟩=some (.int .i64 0):=(Zap hbox 0).trans rfl;have lu:w9.cell? ⟨g4,1,none⟩=some (.int .i64 0):=(Zap hbox 1).trans rfl;have lT:=Za0 hbox 0;have lU:=Za0 hbox 1;have BV:=Za.mk (Zae (mvB (Below.refl wr.heap.size wr)) hb);have HG4:Za (wr.heap.size≤g4):=⟨by rw[hg4];exact(mvB (Below.refl wr.heap.size wr)).size⟩;clear hbox hb hg4))
     have BXq:=Za.mk (Zaz (cs':=#[.int .i64 a,.int .i64 b]) (Zaz (cs':=#[.int .i64 a,.int .i64 0]) BX.out 0 (.int .i64 a) rfl) 1 (.int .i64 b) rfl);have BVq:=Za.mk (show Below wr.heap.size wr ((w9.setCell ⟨g4,0,none⟩ (.int .i64 a)).setCell ⟨g4,1,none⟩ (.int .i64 b))from Zba (Zba BV.out HG4.out) HG4.out);clear lS lu lT lU
     generalize ((w9.setCell ⟨g4,0,none⟩ (.int .i64 a)).setCell ⟨g4,1,none⟩ (.int .i64 b))=wq at BXq BVq ⊢
     have hq0:wq.cell? ⟨g4,0,none⟩=some (.int .i64 a):=(Zap BXq.out 0).trans rfl;have hq1:wq.cell? ⟨g4,1,none⟩=some (.int .i64 b):=(Zap BXq.out 1).trans rfl;clear hx0 hx1;have HCa:Za (∀n,Calls Tryz.prog 117 #[.int .i64 a] (wq.drewN n) fun e w''=>e= .returned (.bool true)∧∃m,w''=wq.drewN m):=⟨fun n=>Calls.quiet_of ((Zda.calls a _ _ HVa.out).mono fun e w' h_=>⟨h_.1,h_.2.out⟩)⟩;have HCb:Za (∀n,Calls Tryz.prog 117 #[.int .i64 b] (wq.drewN n) fun e w''=>e= .returned (.bool false)∧∃m,w''=wq.drewN m):=⟨fun n=>Calls.quiet_of ((Zda.calls b _ _ HVb.out).mono fun e w' h_=>⟨h_.1,h_.2.out⟩)⟩
     go_quiet (first|with_reducible exact HCa.out _|with_reducible exact HCb.out _)
     go_wp2;go_ret;exact⟨rfl,mvB (Zae HB.out BVq.out)⟩
    |true=>
     rw[if_pos rfl]at H;by_cases c9:a>b
     ·rw [if_pos c9] at H
      have d9_:decide (b<a)=true:=decide_eq_true c9;clear c9;obtain rfl:=Option.some.inj H;clear H
      go_wp2_with (first|((with_reducible refine Zar (N:=4) rfl ?_);refine Zdd ?hg (N:=4) ?hd (cs:=#[.int .i64 0,.int .i64 0]) (t:=82) ?hr ?_;(case hd=>rfl);(case hg=>rfl);(case hr=>first|(go_simp;done)|(go_simp;rfl));intro g4 hg4 w9 hbox hb;have BX:=Za.mk hbox;have lS:w9.cell? ⟨g4,0,none⟩=some (.int .i64 0):=(Zap hbox 0).trans rfl;have lu:w9.cell? ⟨g4,1,none⟩=some (.int .i64 0):=(Zap hbox 1).trans rfl;have lT:=Za0 hbox 0;have lU:=Za0 hbox 1;have BV:=Za.mk (Zae (mvB (Below.refl wr.heap.size wr)) hb);have HG4:Za (wr.heap.size≤g4):=⟨by rw[hg4];exact(mvB (Below.refl wr.heap.size wr)).size⟩;clear hbox hb hg4))
      have BXq:=Za.mk (Zaz (cs':=#[.int .i64 a,.int .i64 b]) (Zaz (cs':=#[.int .i64 a,.int .i64 0]) BX.out 0 (.int .i64 a) rfl) 1 (.int .i64 b) rfl);have BVq:=Za.mk (show Below wr.heap.size wr ((w9.setCell ⟨g4,0,none⟩ (.int .i64 a)).setCell ⟨g4,1,none⟩ (.int .i64 b))from Zba (Zba BV.out HG4.out) HG4.out);clear lS lu lT lU
      generalize ((w9.setCell ⟨g4,0,none⟩ (.int .i64 a)).setCell ⟨g4,1,none⟩ (.int .i64 b))=wq at BXq BVq ⊢
      have hq0:wq.cell? ⟨g4,0,none⟩=some (.int .i64 a):=(Zap BXq.out 0).trans rfl;have hq1:wq.cell? ⟨g4,1,none⟩=some (.int .i64 b):=(Zap BXq.out 1).trans rfl;clear hx0 hx1;have HCa:Za (∀n,Calls Tryz.prog 117 #[.int .i64 a] (wq.drewN n) fun e w''=>e= .returned (.bool true)∧∃m,w''=wq.drewN m):=⟨fun n=>Calls.quiet_of ((Zda.calls a _ _ HVa.out).mono fun e w' h_=>⟨h_.1,h_.2.out⟩)⟩;have HCb:Za (∀n,Calls Tryz.prog 117 #[.int .i64 b] (wq.drewN n) fun e w''=>e= .returned (.bool true)∧∃m,w''=wq.drewN m):=⟨fun n=>Calls.quiet_of ((Zda.calls b _ _ HVb.out).mono fun e w' h_=>⟨h_.1,h_.2.out⟩)⟩
      go_quiet (first|with_reducible exact HCa.out _|with_reducible exact HCb.out _)
      go_wp2;go_ret;exact⟨rfl,mvB (Zae HB.out BVq.out)⟩
     rw[if_neg c9]at H;have d9_:decide (b<a)=false:=decide_eq_false c9;clear c9;by_cases c10:x>0;rotate_left
     ·rw [if_neg c10] at H
      have d10_:decide (0<x)=false:=decide_eq_false c10;clear c10;have H':=Za.mk H;clear H
      go_wp2_with (first|((with_reducible refine Zar (N:=4) rfl ?_);refine Zdd ?hg (N:=4) ?hd (cs:=#[.int .i64 0,.int .i64 0]) (t:=82) ?hr ?_;(case hd=>rfl);(case hg=>rfl);(case hr=>first|(go_simp;done)|(go_simp;rfl));intro g4 hg4 w9 hbox hb;have BX:=Za.mk hbox;have lS:w9.cell? ⟨g4,0,none⟩=some (.int .i64 0):=(Zap hbox 0).trans rfl;have lu:w9.cell? ⟨g4,1,none⟩=some (.int .i64 0):=(Zap hbox 1).trans rfl;have lT:=Za0 hbox 0;have lU:=Za0 hbox 1;have BV:=Za.mk (Zae (mvB (Below.refl wr.heap.size wr)) hb);have HG4:Za (wr.heap.size≤g4):=⟨by rw[hg4];exact(mvB (Below.refl wr.heap.size wr)).size⟩;clear hbox hb hg4))
      have BXq:=Za.mk (Zaz (cs':=#[.int .i64 a,.int .i64 b]) (Zaz (cs':=#[.int .i64 a,.int .i64 0]) BX.out 0 (.int .i64 a) rfl) 1 (.int .i64 b) rfl);have BVq:=Za.mk (show Below wr.heap.size wr ((w9.setCell ⟨g4,0,none⟩ (.int .i64 a)).setCell ⟨g4,1,none⟩ (.int .i64 b))from Zba (Zba BV.out HG4.out) HG4.out);clear lS lu lT lU
      generalize ((w9.setCell ⟨g4,0,none⟩ (.int .i64 a)).setCell ⟨g4,1,none⟩ (.int .i64 b))=wq at BXq BVq ⊢
      have hq0:wq.cell? ⟨g4,0,none⟩=some (.int .i64 a):=(Zap BXq.out 0).trans rfl;have hq1:wq.cell? ⟨g4,1,none⟩=some (.int .i64 b):=(Zap BXq.out 1).trans rfl;clear hx0 hx1;have HCa:Za (∀n,Calls Tryz.prog 117 #[.int .i64 a] (wq.drewN n) fun e w''=>e= .returned (.bool true)∧∃m,w''=wq.drewN m):=⟨fun n=>Calls.quiet_of ((Zda.calls a _ _ HVa.out).mono fun e w' h_=>⟨h_.1,h_.2.out⟩)⟩;have HCb:Za (∀n,Calls Tryz.prog 117 #[.int .i64 b] (wq.drewN n) fun e w''=>e= .returned (.bool true)∧∃m,w''=wq.drewN m):=⟨fun n=>Calls.quiet_of ((Zda.calls b _ _ HVb.out).mono fun e w' h_=>⟨h_.1,h_.2.out⟩)⟩
      go_quiet (first|with_reducible exact HCa.out _|with_reducible exact HCb.out _)
      go_wp2
      go_roundg k1
      case measure=>exact Nat.lt_succ_self _
      case rel=>exact⟨_,(by first|rfl|(simp;done)|(simp[*];done)),H',⟨by have:=HK1.out;omega⟩,⟨mvB (Zae HB.out BVq.out)⟩⟩
     rw[if_pos c10]at H;have d10_:decide (0<x)=true:=decide_eq_true c10;clear c10;obtain⟨j,hj⟩:∃j_:Int,wrap64 (x - 1)=j_:=⟨_,rfl⟩;rw[hj]at H;have hjw:IntKind.i64.wrap (x - 1)=j:=(Zd5 _).trans hj;clear hj;by_cases c11:0≤j;case neg=>rw[if_neg c11]at H;exact absurd H (by simp)
     rw[if_pos c11]at H;by_cases c12:j<(l0.length:Int);case neg=>rw[if_neg c12]at H;exact absurd H (by simp)
     rw[if_pos c12]at H;obtain⟨ad2,e2_,hy0,hy1⟩:=Zem (Kd.Zac HR0.out HB.out) j c11 c12;obtain rfl:ad=ad2:=(by injection e2_);clear e2_;have d11_:decide (0≤j)=true:=decide_eq_true c11;have d12_:decide (j<(l0.length:Int))=true:=decide_eq_true c12;replace c11:=eq_true c11;replace c12:=eq_true c12
     generalize (Zbk l0 j).f1=q at hy1 H
     obtain⟨g,hg⟩:∃g_:Int,wrap64 (q+2)=g_:=⟨_,rfl⟩;rw[hg]at H;have hgw:IntKind.i64.wrap (q+2)=g:=(Zd5 _).trans hg;clear hg;by_cases c13:a<g
     ·rw [if_pos c13] at H
      have d13_:decide (a<g)=true:=decide_eq_true c13;clear c13;obtain rfl:=Option.some.inj H;clear H
      go_wp2_with (first|((with_reducible refine Zar (N:=4) rfl ?_);refine Zdd ?hg (N:=4) ?hd (cs:=#[.int .i64 0,.int .i64 0]) (t:=82) ?hr ?_;(case hd=>rfl);(case hg=>rfl);(case hr=>first|(go_simp;done)|(go_simp;rfl));intro g4 hg4 w9 hbox hb;have BX:=Za.mk hbox;have lS:w9.cell? ⟨g4,0,none⟩=some (.int .i64 0):=(Zap hbox 0).trans rfl;have lu:w9.cell? ⟨g4,1,none⟩=some (.int .i64 0):=(Zap hbox 1).trans rfl;have lT:=Za0 hbox 0;have lU:=Za0 hbox 1;have BV:=Za.mk (Zae (mvB (Below.refl wr.heap.size wr)) hb);have HG4:Za (wr.heap.size≤g4):=⟨by rw[hg4];exact(mvB (Below.refl wr.heap.size wr)).size⟩;clear hbox hb hg4))
      have BXq:=Za.mk (Zaz (cs':=#[.int .i64 a,.int .i64 b]) (Zaz (cs':=#[.int .i64 a,.int .i64 0]) BX.out 0 (.int .i64 a) rfl) 1 (.int .i64 b) rfl);have BVq:=Za.mk (show Below wr.heap.size wr ((w9.setCell ⟨g4,0,none⟩ (.int .i64 a)).setCell ⟨g4,1,none⟩ (.int .i64 b))from Zba (Zba BV.out HG4.out) HG4.out);clear lS lu lT lU
      generalize ((w9.setCell ⟨g4,0,none⟩ (.int .i64 a)).setCell ⟨g4,1,none⟩ (.int .i64 b))=wq at BXq BVq ⊢
      have hq0:wq.cell? ⟨g4,0,none⟩=some (.int .i64 a):=(Zap BXq.out 0).trans rfl;have hq1:wq.cell? ⟨g4,1,none⟩=some (.int .i64 b):=(Zap BXq.out 1).trans rfl;have hq2:=(BVq.out.cell (World.block_lt_of_cell? wr _ hy1)).trans hy1;clear hy0 hy1 hx0 hx1;have HCa:Za (∀n,Calls Tryz.prog 117 #[.int .i64 a] (wq.drewN n) fun e w''=>e= .returned (.bool true)∧∃m,w''=wq.drewN m):=⟨fun n=>Calls.quiet_of ((Zda.calls a _ _ HVa.out).mono fun e w' h_=>⟨h_.1,h_.2.out⟩)⟩;have HCb:Za (∀n,Calls Tryz.prog 117 #[.int .i64 b] (wq.drewN n) fun e w''=>e= .returned (.bool true)∧∃m,w''=wq.drewN m):=⟨fun n=>Calls.quiet_of ((Zda.calls b _ _ HVb.out).mono fun e w' h_=>⟨h_.1,h_.2.out⟩)⟩
      go_quiet (first|with_reducible exact HCa.out _|with_reducible exact HCb.out _)
      go_wp2;go_ret;exact⟨rfl,mvB (Zae HB.out BVq.out)⟩
     rw[if_neg c13]at H;have d13_:decide (a<g)=false:=decide_eq_false c13;clear c13;have H':=Za.mk H;clear H
     go_wp2_with (first|((with_reducible refine Zar (N:=4) rfl ?_);refine Zdd ?hg (N:=4) ?hd (cs:=#[.int .i64 0,.int .i64 0]) (t:=82) ?hr ?_;(case hd=>rfl);(case hg=>rfl);(case hr=>first|(go_simp;done)|(go_simp;rfl));intro g4 hg4 w9 hbox hb;have BX:=Za.mk hbox;have lS:w9.cell? ⟨g4,0,none⟩=some (.int .i64 0):=(Zap hbox 0).trans rfl;have lu:w9.cell? ⟨g4,1,none⟩=some (.int .i64 0):=(Zap hbox 1).trans rfl;have lT:=Za0 hbox 0;have lU:=Za0 hbox 1;have BV:=Za.mk (Zae (mvB (Below.refl wr.heap.size wr)) hb);have HG4:Za (wr.heap.size≤g4):=⟨by rw[hg4];exact(mvB (Below.refl wr.heap.size wr)).size⟩;clear hbox hb hg4))
     have BXq:=Za.mk (Zaz (cs':=#[.int .i64 a,.int .i64 b]) (Zaz (cs':=#[.int .i64 a,.int .i64 0]) BX.out 0 (.int .i64 a) rfl) 1 (.int .i64 b) rfl);have BVq:=Za.mk (show Below wr.heap.size wr ((w9.setCell ⟨g4,0,none⟩ (.int .i64 a)).setCell ⟨g4,1,none⟩ (.int .i64 b))from Zba (Zba BV.out HG4.out) HG4.out);clear lS lu lT lU
     generalize ((w9.setCell ⟨g4,0,none⟩ (.int .i64 a)).setCell ⟨g4,1,none⟩ (.int .i64 b))=wq at BXq BVq ⊢
     have hq0:wq.cell? ⟨g4,0,none⟩=some (.int .i64 a):=(Zap BXq.out 0).trans rfl;have hq1:wq.cell? ⟨g4,1,none⟩=some (.int .i64 b):=(Zap BXq.out 1).trans rfl;have hq2:=(BVq.out.cell (World.block_lt_of_cell? wr _ hy1)).trans hy1;clear hy0 hy1 hx0 hx1;have HCa:Za (∀n,Calls Tryz.prog 117 #[.int .i64 a] (wq.drewN n) fun e w''=>e= .returned (.bool true)∧∃m,w''=wq.drewN m):=⟨fun n=>Calls.quiet_of ((Zda.calls a _ _ HVa.out).mono fun e w' h_=>⟨h_.1,h_.2.out⟩)⟩;have HCb:Za (∀n,Calls Tryz.prog 117 #[.int .i64 b] (wq.drewN n) fun e w''=>e= .returned (.bool true)∧∃m,w''=wq.drewN m):=⟨fun n=>Calls.quiet_of ((Zda.calls b _ _ HVb.out).mono fun e w' h_=>⟨h_.1,h_.2.out⟩)⟩
     go_quiet (first|with_reducible exact HCa.out _|with_reducible exact HCb.out _)
     go_wp2
     go_roundg k1
     case measure=>exact Nat.lt_succ_self _
     case rel=>exact⟨_,(by first|rfl|(simp;done)|(simp[*];done)),H',⟨by have:=HK1.out;omega⟩,⟨mvB (Zae HB.out BVq.out)⟩⟩
end Go.Proofs.YtdpieallpbllkaaGreat.P
namespace Go.Proofs.YtdpieallpbllkaaGreat.P
open Go.RowKit Go.Proofs.YtdpieallpbllkaaGreatW.PrintWords Go.Proofs.YtdpieallpbllkaaGreatW.PrintLast Go.Proofs.YtdpieallpbllkaaGreatW.PrintMore
attribute [local go_sem] Zcw Zcy Zdg Zdh Zco Zcp Zcx Zcz
def Zd4.f (k:Nat) (l0:List (S82)):Option (Int):=(Zca.f k l0).bind fun Iy=>(if Iy=true then((Zcl.f k l0).bind fun xw=>(if xw>4096 then(some 2)else(some 0)))else(some 20))
theorem Zd4.mono:∀a0 k,LeO (Zd4.f k a0) (Zd4.f (k+1) a0):=by
 intro a0 k;unfold Zd4.f
 repeat' first
   | (with_reducible exact Zcl.mono _ _)
   | (with_reducible exact Zca.mono _ _)
   | (with_reducible exact LeO.refl _)
   | (with_reducible exact LeO.none _)
   | (with_reducible refine LeO.ite ?_ ?_)
   |(with_reducible refine LeO.bind ?_ (fun _=> ?_))
set_option maxRecDepth 100000 in
theorem Zd4.calls (k : Nat) (A0 : Option Addr) (c0 : Nat) (l0 : List (S82)) (r : Int) (w : World) (hr0 : Kd.C k82 w A0 l0.length l0) (hc0 : l0.length ≤ c0) (h : Zd4.f k l0 = some r) :
  Calls Tryz.prog 78 #[.slice A0 l0.length c0] w fun e w'=>e= .returned (.int .i64 r)∧Below w.heap.size w w':=by
 have HR0:=Za.mk hr0;have HC0:=Za.mk hc0;clear hr0 hc0;have HB:=Za.mk (Below.refl w.heap.size w);have H:((Zca.f k l0).bind fun Iy=>(if Iy=true then((Zcl.f k l0).bind fun xw=>(if xw>4096 then(some 2)else(some 0)))else(some 20)))=some r:=h;clear h;obtain⟨Iy,A2,H⟩:=bnd H;try dsimp only at H
 by_cases c3:Iy=true
 case neg=>
  replace c3:=Bool.eq_false_iff.mpr c3;subst c3;replace H:=ifF H;obtain rfl:=sj H;go_enter Tryz.func78,Tryz.ntmps78
  go_wp2_with (first|((with_reducible refine Zal (f:=107) rfl ?_);refine gl 5 Tryz.func107 #[.slice A0 l0.length c0] ?_;(with_reducible refine(Zca.calls k _ _ l0 false _ (cM HR0.out) HC0.out A2.out).mono ?_);rintro e w10 ⟨rfl,hb⟩;refine⟨_,rfl,?_⟩;replace HB:=Za.mk (bS HB.out hb);(try clear hb);(try clear hb2);(try clear hk);(try clear hi)))
  go_ret;exact⟨eR,bM HB.out⟩
 subst c3;rw[if_pos rfl]at H;obtain⟨xw,A4,H⟩:=bnd H;try dsimp only at H
 by_cases c5:xw>4096
 case neg=>
  rw[if_neg c5]at H;have dw:decide (4096<xw)=false:=decide_eq_false c5;clear c5;obtain rfl:=sj H;go_enter Tryz.func78,Tryz.ntmps78
  go_wp2_with (first|((with_reducible refine Zal (f:=107) rfl ?_);refine gl 5 Tryz.func107 #[.slice A0 l0.length c0] ?_;(with_reducible refine(Zca.calls k _ _ l0 true _ (cM HR0.out) HC0.out A2.out).mono ?_);rintro e w8 ⟨rfl,hb⟩;refine⟨_,rfl,?_⟩;replace HB:=Za.mk (bS HB.out hb);(try clear hb);(try clear hb2);(try clear hk);(try clear hi))|((with_reducible refine Zal (f:=60) rfl ?_);refine gl 9 Tryz.func60 #[.slice A0 l0.length c0] ?_;(with_reducible refine(Zcl.calls k _ _ l0 xw _ (cM (Kd.Zac HR0.out HB.out)) HC0.out A4.out).mono ?_);rintro e w9 ⟨rfl,hb⟩;refine⟨_,rfl,?_⟩;replace HB:=Za.mk (bS HB.out hb);(try clear hb);(try clear hb2);(try clear hk);(try clear hi)))
  go_ret;exact⟨eR,bM HB.out⟩
 rw[if_pos c5]at H;have dw:decide (4096<xw)=true:=decide_eq_true c5;clear c5;obtain rfl:=sj H;go_enter Tryz.func78,Tryz.ntmps78
 go_wp2_with (first|((with_reducible refine Zal (f:=107) rfl ?_);refine gl 5 Tryz.func107 #[.slice A0 l0.length c0] ?_;(with_reducible refine(Zca.calls k _ _ l0 true _ (cM HR0.out) HC0.out A2.out).mono ?_);rintro e w6 ⟨rfl,hb⟩;refine⟨_,rfl,?_⟩;replace HB:=Za.mk (bS HB.out hb);(try clear hb);(try clear hb2);(try clear hk);(try clear hi))|((with_reducible refine Zal (f:=60) rfl ?_);refine gl 9 Tryz.func60 #[.slice A0 l0.length c0] ?_;(with_reducible refine(Zcl.calls k _ _ l0 xw _ (cM (Kd.Zac HR0.out HB.out)) HC0.out A4.out).mono ?_);rintro e w7 ⟨rfl,hb⟩;refine⟨_,rfl,?_⟩;replace HB:=Za.mk (bS HB.out hb);(try clear hb);(try clear hb2);(try clear hk);(try clear hi)))
 go_ret;exact⟨eR,bM HB.out⟩
end Go.Proofs.YtdpieallpbllkaaGreat.P
/- slices.Clone of ranges. -/
namespace Go.Proofs.YtdpieallpbllkaaGreat.P
open Go.RowKit Go.Proofs.YtdpieallpbllkaaGreatW.PrintWords Go.Proofs.YtdpieallpbllkaaGreatW.PrintLast Go.Proofs.YtdpieallpbllkaaGreatW.PrintMore
def cloneR.f (l0:List S82):Option (List S82):=if l0.length<8796093022208 then some l0 else none
set_option maxRecDepth 100000 in
theorem cloneR.calls (A0 : Option Addr) (c0 : Nat) (l0 : List S82) (r : List S82) (w : World) (hr0 : Kd.C k82 w A0 l0.length l0) (hc0 : l0.length ≤ c0) (h : cloneR.f l0 = some r) :
    Calls Tryz.prog 81 #[.slice A0 l0.length c0] w fun e w'=>∃v0_:Value,e= .returned (v0_)∧Kd.R k82 82 w' w.heap.size (fun _=>True) v0_ r∧Below w.heap.size w w':=by
  have hu:=Tryz.underlying82;have q22:∀(w:World) (a:Option Addr) (n c n' c':Nat),(binOp .eql 53 (.slice a n c) (.slice none n' c')).run Tryz.prog w= .ok (.bool a.isNone) w:=fun w a n c n' c'=>Lib.run_eql_slice_nil w _ _ a n c n' c' Tryz.underlying53
  unfold cloneR.f at h
  split at h
  case isFalse=>cases h
  case isTrue hl=>
    obtain rfl:=Option.some.inj h;have HL:=Za.mk hl;clear h hl;have HR:=Za.mk hr0;have hlen:l0.length≤9223372036854775807:=hr0.2.1
    cases A0 with
    |none=>
      have h0:l0= []:=by
        rcases Nat.eq_zero_or_pos l0.length with h|h
        · exact List.length_eq_zero_iff.1 h
        obtain⟨ad,e,_⟩:=hr0.2.2 h;cases e
      subst h0;clear hr0;go_enter Tryz.func81,Tryz.ntmps81;go_wp2;go_ret;exact⟨_,rfl,Kd.R_nil _ _ _ _ _,Below.refl _ _⟩
    |some ad=>
      clear hr0;have HB:=Za.mk (Below.refl w.heap.size w);go_enter Tryz.func81,Tryz.ntmps81
      go_wp2_with (first|((with_reducible refine Zar (N:=5) rfl ?_);refine Kd.Zdj k82 _ 82 ?hg (N:=5) ?hd (xs:=([]:List S82)) (inner:= []) (ok:=fun _=>True) (okp:=fun _=>True) ?hr ?hp (fun _ hk=>hk) trivial (Below.refl w.heap.size w) (Nat.le_refl _) (by simp) ?_;(case hd=>rfl);(case hg=>rfl);(case hr=>first|(go_simp;done)|(go_simp;rfl));(case hp=>exact(Reps.none _ _));intro v1 w1 ho hb hg_ hnew_;have HO:=Za.mk ho;have HB:=Za.mk hb;clear ho hb hg_ hnew_)|((with_reducible refine Zbo (b:= .append) (xs:=#[.tmp 5,.tmp 6]) rfl ?_);at_builtin;go_loud (refine Kd.Zdc k82 (Rr:=k82.K w1) (w0:=w) w.heap.size rfl (.tmp 5) (.tmp 6) 53 82 (.agg #[(.int .i64 0),(.int .i64 0)]) 16 rfl Tryz.underlying53 Zh7 rfl (by decide) (by omega) v1 ([]:List S82) l0 _ _ _ (fun _=>True) (fun _=>False) rfl rfl ?aO ?aR ?aK (fun _ h=>h.elim) ?aF ?aB ?aS ?aL ?_;(case aR=>exact Kd.Zac HR.out HB.out);(case aK=>intro x cs h;have e_:=k82_open h;subst e_;exact Zg9 _ _ _ x);(case aB=>exact HB.out);(case aF=>exact(fun _ _=>trivial));(case aO=>exact HO.out);(case aS=>exact HB.out.size);(case aL=>have:=HL.out;simp;omega);intro v2 w2 ho2 hb2 hg hat;have HO2:=Za.mk ho2;have HB2:=Za.mk hb2;clear ho2 hb2 hg hat)))
      go_ret;exact⟨_,rfl,by simpa using HO2.out,HB2.out⟩
end Go.Proofs.YtdpieallpbllkaaGreat.P
namespace Go.Proofs.YtdpieallpbllkaaGreat.P
open Go.RowKit Go.Proofs.YtdpieallpbllkaaGreatW.PrintWords Go.Proofs.YtdpieallpbllkaaGreatW.PrintLast Go.Proofs.YtdpieallpbllkaaGreatW.PrintMore
attribute [local go_sem] Zcw Zcy Zdg Zdh Zco Zcp Zcx Zcz
def Zb7.l0 : Nat → List (List (S82)) → List (S55) → Int → Int → Option ((List (List (S82))))
 | 0, _, _, _, _ => none
 |k+1,x3,x7,x8,x9=>if x9<x8 then(if 0≤x9 then(if x9<(x7.length:Int)then((cloneR.f ((Za9 x7 x9).f1)).bind fun AL=>(if x3.length<5864062014805 then(Zb7.l0 k (x3++ [AL]) x7 x8 (wrap64 (x9+1)))else(none)))else(none))else(none))else(some x3)
def Zb7.f (k:Nat) (ag:List (S55)) (aa:List (S36)) (ay:Int) (ak:List Int) (ai:List Int):Option ((List (List (S82)))):=Zb7.l0 k ([]:List (List (S82))) ag (ag.length:Int) 0
theorem Zb7.Zc9 : ∀ k, (∀ y0 y1 y2 y3, LeO (Zb7.l0 k y0 y1 y2 y3) (Zb7.l0 (k + 1) y0 y1 y2 y3))
 | 0 => fun _ _ _ _ r h => by simp [Zb7.l0] at h
 |k+1=>by
  have ih0:=Zb7.Zc9 k;intro y0 y1 y2 y3;unfold Zb7.l0
  repeat' first
  | (with_reducible exact ih0 _ _ _ _)
  | (with_reducible exact LeO.refl _)
  | (with_reducible exact LeO.none _)
  | (with_reducible refine LeO.ite ?_ ?_)
  |(with_reducible refine LeO.bind ?_ (fun _=> ?_))
theorem Zb7.mono:∀a0 a1 a2 a3 a4 k,LeO (Zb7.f k a0 a1 a2 a3 a4) (Zb7.f (k+1) a0 a1 a2 a3 a4):=by
 intro a0 a1 a2 a3 a4 k;have ih0:=Zb7.Zc9 k;unfold Zb7.f
 repeat' first
   | (with_reducible exact ih0 _ _ _ _)
   | (with_reducible exact LeO.refl _)
   | (with_reducible exact LeO.none _)
   | (with_reducible refine LeO.ite ?_ ?_)
   |(with_reducible refine LeO.bind ?_ (fun _=> ?_))
set_option maxRecDepth 100000 in
theorem Zb7.calls (k : Nat) (eQ : Option Addr) (eF : Nat) (ag : List (S55)) (aV : Option Addr) (aQ : Nat) (aa : List (S36)) (ay : Int) (bR : Option Addr) (bT : Nat) (ak : List Int) (bK : Option Addr) (bL : Nat) (ai : List Int) (r : List (List (S82))) (w : World) (mJ : Kd.C k55 w eQ ag.length ag) (mG : ag.length ≤ eF) (eu : Kd.C k36 w aV aa.length aa) (ek : aa.length ≤ aQ) (jW : Kd.C (Kd.int .i64) w bR ak.length ak) (jU : ak.length ≤ bT) (jX : Kd.C (Kd.int .i64) w bK ai.length ai) (jV : ai.length ≤ bL) (h : Zb7.f k ag aa ay ak ai = some r) :
  Calls Tryz.prog 59 #[.agg #[.slice eQ ag.length eF,.slice aV aa.length aQ,.int .i64 ay,.slice bR ak.length bT,.slice bK ai.length bL]] w fun e w'=>∃v0_:Value,e= .returned (v0_)∧Kd.S (Kd.slice 82 k82) 53 w' w.heap.size (fun _=>True) v0_ r∧Below w.heap.size w w':=by
 have hu28:=Tryz.underlying28;have hu55:=Tryz.underlying55;have iP:=Za.mk mJ;have pI:=Za.mk mG;clear mJ mG;have eO:=Za.mk eu;have fC:=Za.mk ek;clear eu ek;have kv:=Za.mk jW;have kr:=Za.mk jU;clear jW jU;have kw:=Za.mk jX;have ku:=Za.mk jV;clear jX jV;have HB:=Za.mk (Below.refl w.heap.size w);have H:(Zb7.l0 k ([]:List (List (S82))) ag (ag.length:Int) 0)=some r:=h;clear h;have H':=Za.mk H;clear H;go_enter Tryz.func59,Tryz.ntmps59
 go_wp2_with (first|((with_reducible refine Zar (N:=1) rfl ?_);refine bx 1 #[.slice eQ ag.length eF,.slice aV aa.length aQ,.int .i64 ay,.slice bR ak.length bT,.slice bK ai.length bL] 28 ?_;intro Cr hg w2 hbox hb;have nD:=Za.mk (hbox);have f6a:=Za.mk ((gE hg HB.out:w.heap.size≤Cr));replace HB:=Za.mk (bS HB.out hb);clear hb hbox hg;obtain⟨eia,eja,eka,ela,ema,eda,eea,efa,ega,eha⟩:=cz5 nD.out))
 go_loopg [3,9] k (fun kq v3 v9 w'=>∃(af:List (List (S82))) (jq:Int),v9= .int .i64 jq∧Za (Zb7.l0 kq af ag (ag.length:Int) jq=some r)∧Za (kq≤k)∧Za (Kd.S (Kd.slice 82 k82) 53 w' w.heap.size (fun _=>True) v3 af)∧Za (w'.heap[Cr]? =some (.cells #[(.slice eQ ag.length eF),(.slice aV aa.length aQ),.int .i64 ay,(.slice bR ak.length bT),(.slice bK ai.length bL)] 28 (0,0)))∧Za (Below w.heap.size w w'))
 case atStart=>exact⟨(([]:List (List (S82)))),(0),eS,H',⟨Nat.le_refl _⟩,⟨by first|exact Kd.S_nil _ _ _ _ _|exact Kd.N_nil _ _ _ _ _|exact Kd.V_nil _ _ _ _ _|exact Kd.Q_nil _ _ _ _ _|exact Kd.R_nil _ _ _ _ _⟩,⟨kM nD.out⟩,⟨bM HB.out⟩⟩
 case round=>
  clear H';try clear p2
  try clear eia eja eka ela ema eda eea efa ega eha
  obtain⟨af,jq,rfl,HA,HK1,aN,nD,HB⟩:=hrel
  cases gk with
  | zero => exact absurd HA.out (by simp [Zb7.l0])
  |succ k1=>
   have H:=HA.out;clear HA;simp only[Zb7.l0]at H;by_cases c4:jq<(ag.length:Int)
   case neg=>
    rw[if_neg c4]at H;have dC:decide (jq<(ag.length:Int))=false:=decide_eq_false c4;clear c4;obtain rfl:=sj H;go_wp2;go_ret;exact⟨_,eR,sM aN.out,bM HB.out⟩
   rw[if_pos c4]at H;have dC:decide (jq<(ag.length:Int))=true:=decide_eq_true c4;clear c4;obtain⟨dw,H⟩:=ifT H;obtain⟨iF,H⟩:=ifT H;obtain⟨AL,A7,H⟩:=bnd H;try dsimp only at H
   obtain⟨c8,H⟩:=ifP H;have cta:=Za.mk c8;clear c8;obtain⟨VY,Dt⟩:∃y_:List (List (S82)),y_=(af++ [AL]):=⟨_,rfl⟩;replace H:(Zb7.l0 k1 VY ag (ag.length:Int) (wrap64 (jq+1)))=some r:=by first|(rw[Dt];with_reducible exact H)|(have H2_:=(Option.bind_some _ _).symm.trans H;rw[Dt];with_reducible exact H2_)|(have H2_:=(Option.bind_some _ _).symm.trans H;with_reducible exact H2_)|with_reducible exact H|(rw[Dt];exact H)|exact H
   have X0:=Za.mk Dt;clear Dt;have H':=Za.mk H;clear H;have o0a:(0≤(jq:Int))=True:=teq;have o3a:(jq<(ag.length:Int))=True:=teq;obtain⟨XK,ND,NM,rfl,JS,JU,J6,Jt⟩:=Zev iP.out jq odt odt;replace JS:=hB HB.out JS;replace JU:=hB HB.out JU;have TQ:=Za.mk Jt;have TC:=Za.mk J6;clear Jt J6
   go_wp2_with (first|((with_reducible refine Zar (N:=5) rfl ?_);refine bx 5 #[.string (⟨#[]⟩:ByteArray),.slice none 0 0] 55 ?_;intro Cs hg w9 hbox hb;replace aN:=Za.mk (Kd.Ze2 (sM aN.out) hb);have Ko:=Za.mk (hbox);have f7a:=Za.mk ((gE hg HB.out:w.heap.size≤Cs));replace HB:=Za.mk (bS HB.out hb);have F7:=Za.mk ((by rw[hg];exact Nat.ne_of_lt (Zc7 (kM nD.out)):Cr≠Cs));have NJ:=Za.mk ((by rw[hg];exact Nat.ne_of_gt (Zc7 (kM nD.out)):Cs≠Cr));replace nD:=Za.mk (kB nD.out hb);clear hb hbox hg;have Y2:=NJ.out;have Y4:=F7.out;obtain⟨Eu,Ew,Eh,Ei⟩:=cz2 Ko.out)|((with_reducible refine Zal (f:=81) rfl ?_);refine gl 16 Tryz.func81 #[.slice ND ((Za9 ag jq).f1).length NM] ?_;(with_reducible refine(cloneR.calls _ _ ((Za9 ag jq).f1) AL _ (Kd.Zac TQ.out (bM HB.out)) TC.out A7.out).mono ?_);rintro e w12 ⟨oQa,rfl,ho0,hb⟩;refine⟨_,rfl,?_⟩;replace aN:=Za.mk (Kd.Zgt (sM (Kd.Zd9 (Kd.Zdw (p:=⟨Cs,1,none⟩) (Kd.Zdw (p:=⟨Cs,0,none⟩) (Kd.Zet aN.out Ko.out (by decide)) (fun _ hk=>hk.2) (.string ((Za9 ag jq).f0))) (fun _ hk=>hk.2) (.slice ND ((Za9 ag jq).f1).length NM)) (fun _ h_=>h_.1))) (Kd.Zc6 ho0) hb);have FE:=Za.mk (Kd.Zbm ho0 (Zaf (bM HB.out)));replace nD:=Za.mk (Zci (g:=Cr) (o:= .cells #[.slice (some XK) ag.length eF,.slice aV aa.length aQ,.int .i64 ay,.slice bR ak.length bT,.slice bK ai.length bL] 28 (0,0)) (by(with_reducible repeat(first|exact nD.out|refine Zcv ?_ F7.out _|refine Zab ?_ _|refine Zai ?_|refine Zah ?_ _))) hb);replace HB:=Za.mk (bS HB.out hb);clear Ko;(try clear hb);(try clear hb2);(try clear hk);(try clear hi);(try clear ho0);obtain⟨eX,eU,GY⟩:=Kd.Zbe FE.out;subst GY)|((with_reducible refine Zbo (b:= .append) (xs:=#[.tmp 13,.tmp 17]) rfl ?_);at_builtin;refine Kd.S_append (Kd.slice 82 k82) (w0:=w) w.heap.size rfl (.tmp 13) (.tmp 17) 43 53 (.slice none 0 0) 24 rfl Tryz.underlying43 info53 rfl (by decide) (by omega) u3 af AL [.slice eX AL.length eU] (fun _=>True) (fun k_=>some k_=(.slice eX AL.length eU:Value).ownBlock) rfl rfl ?aP (fun k_ hk_=>((Kd.Za6 (ok':=fun k_=>((fun _=>True)) k_∧some k_≠(u3:Value).ownBlock) (Kd.Zdq (FE.out) (Kd.Zeb aN.out) (by decide)) (fun k_ hk=>⟨trivial,hk.2⟩))).1 k_ hk_.symm) ?aF ?aO ?aB ?aS ?aL ?_;(case aP=>exact Kd.M_row (Kd.Za6 (Kd.Zgd rfl (Kd.Za6 (ok':=fun k_=>((fun _=>True)) k_∧some k_≠(u3:Value).ownBlock) (Kd.Zdq (FE.out) (Kd.Zeb aN.out) (by decide)) (fun k_ hk=>⟨trivial,hk.2⟩))) (fun _ h_=>h_)));(case aB=>exact(bM HB.out));(case aF=>exact(fun _ _=>trivial));(case aO=>exact(sM (Kd.Zd9 aN.out (fun k_ hk=>⟨trivial,fun e_=>hk.2 e_⟩))));(case aS=>exact(Zaf (bM HB.out)));(case aL=>have:=cta.out;omega);intro oRa w13 ho hb hg hat;rw[←X0.out]at ho;replace nD:=Za.mk (kG nD.out hg (Kd.S_ne aN.out nD.out (by decide)));replace HB:=Za.mk (hb);have WS:=Za.mk (ho);clear aN FE;clear ho hb hg hat))
   go_roundg k1
   case measure=>have:=HK1.out;omega
   case rel=>exact⟨(VY),(wrap64 (jq+1)),eS,H',⟨by have:=HK1.out;omega⟩,⟨sM WS.out⟩,⟨kM nD.out⟩,⟨bM HB.out⟩⟩
def Zdx.f (k:Nat) (l0:List (List (S82))) (aC:Int) (aA:List Int) (aJ:List Int):Option (Int):=if aC=0 then(if(aA.length:Int)>0 then(some 44)else(if(aJ.length:Int)>0 then(some 44)else(some 0)))else(if aC=1 then((Zc3.f k l0 0 aA aJ 0 0 ([]:List (List Int)) 0).bind fun I7=>(some I7))else(if aC=2 then((Zc3.f k l0 0 aA aJ 0 0 ([]:List (List Int)) 0).bind fun I8=>(some I8))else(some 44)))
theorem Zdx.mono:∀a0 a1 a2 a3 k,LeO (Zdx.f k a0 a1 a2 a3) (Zdx.f (k+1) a0 a1 a2 a3):=by
 intro a0 a1 a2 a3 k;unfold Zdx.f
 repeat' first
   | (with_reducible exact Zc3.mono _ _ _ _ _ _ _ _ _)
   | (with_reducible exact LeO.refl _)
   | (with_reducible exact LeO.none _)
   | (with_reducible refine LeO.ite ?_ ?_)
   |(with_reducible refine LeO.bind ?_ (fun _=> ?_))
set_option maxRecDepth 100000 in
theorem Zdx.calls (k : Nat) (A0 : Option Addr) (c0 : Nat) (l0 : List (List (S82))) (aC : Int) (fO : Option Addr) (fQ : Nat) (aA : List Int) (fH : Option Addr) (fI : Nat) (aJ : List Int) (r : Int) (w : World) (hr0 : Kd.C (Kd.slice 82 k82) w A0 l0.length l0) (hc0 : l0.length ≤ c0) (mK : Kd.C (Kd.int .i64) w fO aA.length aA) (mH : aA.length ≤ fQ) (mM : Kd.C (Kd.int .i64) w fH aJ.length aJ) (mI : aJ.length ≤ fI) (h : Zdx.f k l0 aC aA aJ = some r) :
  Calls Tryz.prog 80 #[.slice A0 l0.length c0,.agg #[.int .i64 aC,.slice fO aA.length fQ,.slice fH aJ.length fI]] w fun e w'=>e= .returned (.int .i64 r)∧Below w.heap.size w w':=by
 have hu26:=Tryz.underlying26;have hu36:=Tryz.underlying36;have HR0:=Za.mk hr0;have HC0:=Za.mk hc0;clear hr0 hc0;have gL:=Za.mk mK;have iN:=Za.mk mH;clear mK mH;have gz:=Za.mk mM;have iO:=Za.mk mI;clear mM mI;have HB:=Za.mk (Below.refl w.heap.size w);have H:(if aC=0 then(if(aA.length:Int)>0 then(some 44)else(if(aJ.length:Int)>0 then(some 44)else(some 0)))else(if aC=1 then((Zc3.f k l0 0 aA aJ 0 0 ([]:List (List Int)) 0).bind fun I7=>(some I7))else(if aC=2 then((Zc3.f k l0 0 aA aJ 0 0 ([]:List (List Int)) 0).bind fun I8=>(some I8))else(some 44))))=some r:=h;clear h;by_cases c3:aC=0
 case pos=>
  rw[if_pos c3]at H;have fB:(aC==0)=true:=beq_iff_eq.mpr c3;have jY:(aC !=0)=false:=bne_eq_false_iff_eq.mpr c3;clear c3;by_cases c4:(aA.length:Int)>0
  case pos=>
   rw[if_pos c4]at H;have dC:decide (0<(aA.length:Int))=true:=decide_eq_true c4;have sI:decide (0<aA.length)=true:=decide_eq_true (by omega);clear c4;obtain rfl:=sj H;go_enter Tryz.func80,Tryz.ntmps80
   go_wp2_with (first|((with_reducible refine Zar (N:=3) rfl ?_);(try(refine Zb2 (by rfl) ?_;dsimp only));refine bx 3 #[.int .i64 aC,.slice fO aA.length fQ,.slice fH aJ.length fI] 26 ?_;intro pR hg w5 hbox hb;have nE:=Za.mk (hbox);have Bt:=Za.mk ((gE hg HB.out:w.heap.size≤pR));replace HB:=Za.mk (bS HB.out hb);clear hb hbox hg;obtain⟨kY,lc,lG,kW,kX,lF⟩:=cz3 nE.out))
   go_ret;exact⟨eR,bM HB.out⟩
  rw[if_neg c4]at H;have dC:decide (0<(aA.length:Int))=false:=decide_eq_false c4;have sI:decide (0<aA.length)=false:=decide_eq_false (by omega);clear c4;by_cases c7:(aJ.length:Int)>0
  case neg=>
   rw[if_neg c7]at H;have nu:decide (0<(aJ.length:Int))=false:=decide_eq_false c7;have LP:decide (0<aJ.length)=false:=decide_eq_false (by omega);clear c7;obtain rfl:=sj H;go_enter Tryz.func80,Tryz.ntmps80
   go_wp2_with (first|((with_reducible refine Zar (N:=3) rfl ?_);(try(refine Zb2 (by rfl) ?_;dsimp only));refine bx 3 #[.int .i64 aC,.slice fO aA.length fQ,.slice fH aJ.length fI] 26 ?_;intro pR hg w10 hbox hb;have nE:=Za.mk (hbox);have Bt:=Za.mk ((gE hg HB.out:w.heap.size≤pR));replace HB:=Za.mk (bS HB.out hb);clear hb hbox hg;obtain⟨Eu,Ew,Gx,Eh,Ei,Gf⟩:=cz3 nE.out))
   go_ret;exact⟨eR,bM HB.out⟩
  rw[if_pos c7]at H;have nu:decide (0<(aJ.length:Int))=true:=decide_eq_true c7;have LP:decide (0<aJ.length)=true:=decide_eq_true (by omega);clear c7;obtain rfl:=sj H;go_enter Tryz.func80,Tryz.ntmps80
  go_wp2_with (first|((with_reducible refine Zar (N:=3) rfl ?_);(try(refine Zb2 (by rfl) ?_;dsimp only));refine bx 3 #[.int .i64 aC,.slice fO aA.length fQ,.slice fH aJ.length fI] 26 ?_;intro pR hg w8 hbox hb;have nE:=Za.mk (hbox);have Bt:=Za.mk ((gE hg HB.out:w.heap.size≤pR));replace HB:=Za.mk (bS HB.out hb);clear hb hbox hg;obtain⟨Bo,Bp,Br,Bf,Bg,Bh⟩:=cz3 nE.out))
  go_ret;exact⟨eR,bM HB.out⟩
 rw[if_neg c3]at H;have fB:(aC==0)=false:=beq_eq_false_iff_ne.mpr c3;have jY:(aC !=0)=true:=bne_iff_ne.mpr c3;by_cases c12:aC=1
 case pos=>
  rw[if_pos c12]at H;have iV:(aC==1)=true:=beq_iff_eq.mpr c12;have ul:(aC !=1)=false:=bne_eq_false_iff_eq.mpr c12;clear c12;obtain⟨I7,A13,H⟩:=bnd H;try dsimp only at H
  obtain rfl:=sj H;go_enter Tryz.func80,Tryz.ntmps80
  go_wp2_with (first|((with_reducible refine Zar (N:=3) rfl ?_);(try(refine Zb2 (by rfl) ?_;dsimp only));refine bx 3 #[.int .i64 aC,.slice fO aA.length fQ,.slice fH aJ.length fI] 26 ?_;intro pR hg w14 hbox hb;have nE:=Za.mk (hbox);have Bt:=Za.mk ((gE hg HB.out:w.heap.size≤pR));replace HB:=Za.mk (bS HB.out hb);clear hb hbox hg;obtain⟨rF,rG,rH,rC,rD,rE⟩:=cz3 nE.out)|((with_reducible refine Zal (f:=79) rfl ?_);refine gl 28 Tryz.func79 #[.slice A0 l0.length c0,.agg #[.int .i64 0,.slice fO aA.length fQ,.slice fH aJ.length fI,.int .i64 0,.int .i64 0,.slice none 0 0,.int .i64 0]] ?_;(refine(Zc3.calls k _ _ l0 0 _ _ aA _ _ aJ 0 0 _ _ ([]:List (List Int)) 0 I7 _ ?side1 ?side2 ?side3 ?side4 ?side5 ?side6 ?side7 ?side8 A13.out).mono ?_);(case side1=>repeat(first|exact(Kd.Zac HR0.out HB.out)|(with_reducible refine Kd.C_alloc ?_ _)|(with_reducible refine Kd.Zbt ?_ _)|(with_reducible refine Kd.Zb4 ?_)));(case side2=>exact HC0.out);(case side3=>repeat(first|exact(Kd.Zac gL.out HB.out)|(with_reducible refine Kd.C_alloc ?_ _)|(with_reducible refine Kd.Zbt ?_ _)|(with_reducible refine Kd.Zb4 ?_)));(case side4=>exact iN.out);(case side5=>repeat(first|exact(Kd.Zac gz.out HB.out)|(with_reducible refine Kd.C_alloc ?_ _)|(with_reducible refine Kd.Zbt ?_ _)|(with_reducible refine Kd.Zb4 ?_)));(case side6=>exact iO.out);(case side7=>exact Kd.Zgq _ _);(case side8=>exact Nat.le_refl _);rintro e w16 ⟨rfl,hb⟩;refine⟨_,rfl,?_⟩;replace HB:=Za.mk (bS HB.out hb);clear nE;(try clear hb);(try clear hb2);(try clear hk);(try clear hi)))
  go_ret;exact⟨eR,bM HB.out⟩
 rw[if_neg c12]at H;have iV:(aC==1)=false:=beq_eq_false_iff_ne.mpr c12;have ul:(aC !=1)=true:=bne_iff_ne.mpr c12;by_cases c17:aC=2
 case neg=>
  rw[if_neg c17]at H;have yX:(aC==2)=false:=beq_eq_false_iff_ne.mpr c17;have LC:(aC !=2)=true:=bne_iff_ne.mpr c17;obtain rfl:=sj H;go_enter Tryz.func80,Tryz.ntmps80
  go_wp2_with (first|((with_reducible refine Zar (N:=3) rfl ?_);(try(refine Zb2 (by rfl) ?_;dsimp only));refine bx 3 #[.int .i64 aC,.slice fO aA.length fQ,.slice fH aJ.length fI] 26 ?_;intro pR hg w22 hbox hb;have nE:=Za.mk (hbox);have Bt:=Za.mk ((gE hg HB.out:w.heap.size≤pR));replace HB:=Za.mk (bS HB.out hb);clear hb hbox hg;obtain⟨SG,SH,SI,RL,RN,RO⟩:=cz3 nE.out))
  go_ret;exact⟨eR,bM HB.out⟩
 rw[if_pos c17]at H;have yX:(aC==2)=true:=beq_iff_eq.mpr c17;have LC:(aC !=2)=false:=bne_eq_false_iff_eq.mpr c17;clear c17;obtain⟨I8,A18,H⟩:=bnd H;try dsimp only at H
 obtain rfl:=sj H;go_enter Tryz.func80,Tryz.ntmps80
 go_wp2_with (first|((with_reducible refine Zar (N:=3) rfl ?_);(try(refine Zb2 (by rfl) ?_;dsimp only));refine bx 3 #[.int .i64 aC,.slice fO aA.length fQ,.slice fH aJ.length fI] 26 ?_;intro pR hg w19 hbox hb;have nE:=Za.mk (hbox);have Bt:=Za.mk ((gE hg HB.out:w.heap.size≤pR));replace HB:=Za.mk (bS HB.out hb);clear hb hbox hg;obtain⟨zD,zF,G5,zx,zy,Gi⟩:=cz3 nE.out)|((with_reducible refine Zal (f:=79) rfl ?_);refine gl 28 Tryz.func79 #[.slice A0 l0.length c0,.agg #[.int .i64 0,.slice fO aA.length fQ,.slice fH aJ.length fI,.int .i64 0,.int .i64 0,.slice none 0 0,.int .i64 0]] ?_;(refine(Zc3.calls k _ _ l0 0 _ _ aA _ _ aJ 0 0 _ _ ([]:List (List Int)) 0 I8 _ ?side1 ?side2 ?side3 ?side4 ?side5 ?side6 ?side7 ?side8 A18.out).mono ?_);(case side1=>repeat(first|exact(Kd.Zac HR0.out HB.out)|(with_reducible refine Kd.C_alloc ?_ _)|(with_reducible refine Kd.Zbt ?_ _)|(with_reducible refine Kd.Zb4 ?_)));(case side2=>exact HC0.out);(case side3=>repeat(first|exact(Kd.Zac gL.out HB.out)|(with_reducible refine Kd.C_alloc ?_ _)|(with_reducible refine Kd.Zbt ?_ _)|(with_reducible refine Kd.Zb4 ?_)));(case side4=>exact iN.out);(case side5=>repeat(first|exact(Kd.Zac gz.out HB.out)|(with_reducible refine Kd.C_alloc ?_ _)|(with_reducible refine Kd.Zbt ?_ _)|(with_reducible refine Kd.Zb4 ?_)));(case side6=>exact iO.out);(case side7=>exact Kd.Zgq _ _);(case side8=>exact Nat.le_refl _);rintro e w21 ⟨rfl,hb⟩;refine⟨_,rfl,?_⟩;replace HB:=Za.mk (bS HB.out hb);clear nE;(try clear hb);(try clear hb2);(try clear hk);(try clear hi)))
 go_ret;exact⟨eR,bM HB.out⟩
end Go.Proofs.YtdpieallpbllkaaGreat.P
/- model.Check: may a model be? -/
namespace Go.Proofs.YtdpieallpbllkaaGreat.P
open Go.RowKit Go.Proofs.YtdpieallpbllkaaGreatW.PrintWords Go.Proofs.YtdpieallpbllkaaGreatW.PrintLast Go.Proofs.YtdpieallpbllkaaGreatW.PrintMore
def Zes (k : Nat) : List S55 → List ByteArray → Option Int
  | [], _ => some 0
  |v::vs,had=>(Zd7.f v.f0).bind fun nm=>if nm=false then some 40 else if hasN had v.f0=true then some 41 else if v.f1.length=0 then some 42 else(Zd4.f k v.f1).bind fun e=>if e=0 then Zes k vs (had++ [v.f0])else some 42
def Zer (k : Nat) (d : List (List S82)) : List S36 → Option Int
  | [] => some 0
  |c::cs=>(Zc3.f k d c.f0 c.f1 c.f2 c.f3 c.f4 c.f5 c.f6).bind fun e=>if e=0 then Zer k d cs else some e
def Zdm.f (k:Nat) (vars:List S55) (cons:List S36) (gkd:Int) (gv gc:List Int):Option Int:=
  if 64 < vars.length ∨ 256 < cons.length then some 2 else
    (Zes k vars []).bind fun e=>if e=0 then(Zb7.f k vars cons gkd gv gc).bind fun d=>(Zer k d cons).bind fun e2=>if e2=0 then Zdx.f k d gkd gv gc else some e2 else some e
theorem Zfy (k : Nat) : ∀ vs had, LeO (Zes k vs had) (Zes (k + 1) vs had)
  | [], _ => LeO.refl _
  |v::vs,had=>by
    unfold Zes;exact LeO.bind (LeO.refl _) (fun _=>LeO.ite (LeO.refl _) (LeO.ite (LeO.refl _) (LeO.ite (LeO.refl _) (LeO.bind (Zd4.mono _ _) (fun _=>LeO.ite (Zfy k vs _) (LeO.refl _))))))
theorem Zfx (k : Nat) (d : List (List S82)) : ∀ cs, LeO (Zer k d cs) (Zer (k + 1) d cs)
  | [] => LeO.refl _
  |c::cs=>by
    unfold Zer;exact LeO.bind (Zc3.mono _ _ _ _ _ _ _ _ _) (fun _=>LeO.ite (Zfx k d cs) (LeO.refl _))
theorem Zdm.mono:∀a0 a1 a2 a3 a4 k,LeO (Zdm.f k a0 a1 a2 a3 a4) (Zdm.f (k+1) a0 a1 a2 a3 a4):=by
  intro a0 a1 a2 a3 a4 k;unfold Zdm.f;exact LeO.ite (LeO.refl _) (LeO.bind (Zfy _ _ _) (fun _=>LeO.ite (LeO.bind (Zb7.mono _ _ _ _ _ _) (fun _=>LeO.bind (Zfx _ _ _) (fun _=>LeO.ite (Zdx.mono _ _ _ _ _) (LeO.refl _)))) (LeO.refl _)))
theorem SetN.step {w w':World} {b:Nat} {L:List ByteArray} (h:SetN w b L) (hk:w'.heap[b]? =w.heap[b]?):SetN w' b L:=by
  obtain⟨es,clock,h1,F,hs,hD⟩:=h;exact⟨es,clock,hk.trans h1,F,hs,hD⟩
theorem SetN.far {w:World} {b g i j:Nat} {u v:Value} {L:List ByteArray} (h:SetN w b L) (hne:b≠g):SetN ((w.setCell ⟨g,i,none⟩ u).setCell ⟨g,j,none⟩ v) b L:=
  h.step ((Below.heap_setCell _ ⟨g,j,none⟩ v b hne).trans (Below.heap_setCell _ ⟨g,i,none⟩ u b hne))
theorem name_size {s:ByteArray} (h:Zd7.f s=some true):s.size≤maxLen:=by
  have h1:=Option.some.inj h;simp only[Bool.and_eq_true,decide_eq_true_eq]at h1;have h2:(16:Nat)≤maxLen:=by decide
  omega
theorem drop_rd {vars:List S55} {i:Nat} (hi:i<vars.length):vars.drop i=Za9 vars (i:Int)::vars.drop (i+1):=by
  rw[List.drop_eq_getElem_cons hi]
  simp[Za9,List.getD_eq_getElem?_getD,List.getElem?_eq_getElem hi]
theorem take_rd {vars:List S55} {i:Nat} (hi:i<vars.length):(vars.take (i+1)).map (·.f0)=(vars.take i).map (·.f0)++ [(Za9 vars (i:Int)).f0]:=by
  rw[List.take_succ_eq_append_getElem hi,List.map_append]
  simp[Za9,List.getD_eq_getElem?_getD,List.getElem?_eq_getElem hi]
theorem drop_rdC {cons:List S36} {i:Nat} (hi:i<cons.length):cons.drop i=Zad cons (i:Int)::cons.drop (i+1):=by
  rw[List.drop_eq_getElem_cons hi]
  simp[Zad,List.getD_eq_getElem?_getD,List.getElem?_eq_getElem hi]
set_option maxRecDepth 1000000 in
theorem Zdm.calls (k : Nat) (A0 : Option Addr) (c0 : Nat) (vars : List S55) (A1 : Option Addr) (c1 : Nat) (cons : List S36) (gkd : Int) (A3 : Option Addr) (c3 : Nat) (gv : List Int) (A4 : Option Addr) (c4 : Nat) (gc : List Int) (r : Int) (w : World)
    (hr0:Kd.C k55 w A0 vars.length vars) (hc0:vars.length≤c0) (hr1:Kd.C k36 w A1 cons.length cons) (hc1:cons.length≤c1) (hr3:Kd.C (Kd.int .i64) w A3 gv.length gv) (hc3:gv.length≤c3) (hr4:Kd.C (Kd.int .i64) w A4 gc.length gc) (hc4:gc.length≤c4)
    (h:Zdm.f k vars cons gkd gv gc=some r):
    Calls Tryz.prog 58 #[.agg #[.slice A0 vars.length c0,.slice A1 cons.length c1,.int .i64 gkd,.slice A3 gv.length c3,.slice A4 gc.length c4]] w fun e w'=>e= .returned (.int .i64 r)∧Below w.heap.size w w':=by
  have HR0:=Za.mk hr0;have HR1:=Za.mk hr1;have HR3:=Za.mk hr3;have HR4:=Za.mk hr4;clear hr0 hr1 hr3 hr4;have HBw:=Za.mk (Below.refl w.heap.size w);unfold Zdm.f at h;by_cases h64:64<vars.length
  · rw [if_pos (Or.inl h64)] at h
    obtain rfl:=Option.some.inj h;clear h;have d64a:decide (64<(vars.length:Int))=true:=decide_eq_true (by omega);have d64b:decide (64<vars.length)=true:=decide_eq_true (by omega);clear h64;go_enter Tryz.func58,Tryz.ntmps58
    go_wp2_with (first|((with_reducible refine Zar (N:=1) rfl ?_);refine Zdd ?hg (N:=1) ?hd (cs:=#[.slice A0 vars.length c0,.slice A1 cons.length c1,.int .i64 gkd,.slice A3 gv.length c3,.slice A4 gc.length c4]) (t:=28) ?hr ?_;(case hd=>rfl);(case hg=>rfl);(case hr=>first|(go_simp;done)|(go_simp;rfl));intro gm hg wb hbox hb;have HB:=Za.mk (Zae (mvB HBw.out) hb);have BK:=Za.mk hbox;clear hb hg;have hm0:wb.cell? ⟨gm,0,none⟩=some (.slice A0 vars.length c0):=(Zap hbox 0).trans rfl;have hm1:wb.cell? ⟨gm,1,none⟩=some (.slice A1 cons.length c1):=(Zap hbox 1).trans rfl;have hm2:wb.cell? ⟨gm,2,none⟩=some (.int .i64 gkd):=(Zap hbox 2).trans rfl;have hm3:wb.cell? ⟨gm,3,none⟩=some (.slice A3 gv.length c3):=(Zap hbox 3).trans rfl;have hm4:wb.cell? ⟨gm,4,none⟩=some (.slice A4 gc.length c4):=(Zap hbox 4).trans rfl;have hn0:(wb.alloc (.map #[] 0)).cell? ⟨gm,0,none⟩=some (.slice A0 vars.length c0):=(Zap (Zab hbox _) 0).trans rfl;have hn1:(wb.alloc (.map #[] 0)).cell? ⟨gm,1,none⟩=some (.slice A1 cons.length c1):=(Zap (Zab hbox _) 1).trans rfl;have hn2:(wb.alloc (.map #[] 0)).cell? ⟨gm,2,none⟩=some (.int .i64 gkd):=(Zap (Zab hbox _) 2).trans rfl;have hn3:(wb.alloc (.map #[] 0)).cell? ⟨gm,3,none⟩=some (.slice A3 gv.length c3):=(Zap (Zab hbox _) 3).trans rfl;have hn4:(wb.alloc (.map #[] 0)).cell? ⟨gm,4,none⟩=some (.slice A4 gc.length c4):=(Zap (Zab hbox _) 4).trans rfl;clear hbox))
    go_ret;exact⟨rfl,mvB HB.out⟩
  have d64a:decide (64<(vars.length:Int))=false:=decide_eq_false (by omega);have d64b:decide (64<vars.length)=false:=decide_eq_false (by omega);by_cases h256:256<cons.length
  · rw [if_pos (Or.inr h256)] at h
    obtain rfl:=Option.some.inj h;clear h;have d256a:decide (256<(cons.length:Int))=true:=decide_eq_true (by omega);have d256b:decide (256<cons.length)=true:=decide_eq_true (by omega);clear h64 h256;go_enter Tryz.func58,Tryz.ntmps58
    go_wp2_with (first|((with_reducible refine Zar (N:=1) rfl ?_);refine Zdd ?hg (N:=1) ?hd (cs:=#[.slice A0 vars.length c0,.slice A1 cons.length c1,.int .i64 gkd,.slice A3 gv.length c3,.slice A4 gc.length c4]) (t:=28) ?hr ?_;(case hd=>rfl);(case hg=>rfl);(case hr=>first|(go_simp;done)|(go_simp;rfl));intro gm hg wb hbox hb;have HB:=Za.mk (Zae (mvB HBw.out) hb);have BK:=Za.mk hbox;clear hb hg;have hm0:wb.cell? ⟨gm,0,none⟩=some (.slice A0 vars.length c0):=(Zap hbox 0).trans rfl;have hm1:wb.cell? ⟨gm,1,none⟩=some (.slice A1 cons.length c1):=(Zap hbox 1).trans rfl;have hm2:wb.cell? ⟨gm,2,none⟩=some (.int .i64 gkd):=(Zap hbox 2).trans rfl;have hm3:wb.cell? ⟨gm,3,none⟩=some (.slice A3 gv.length c3):=(Zap hbox 3).trans rfl;have hm4:wb.cell? ⟨gm,4,none⟩=some (.slice A4 gc.length c4):=(Zap hbox 4).trans rfl;have hn0:(wb.alloc (.map #[] 0)).cell? ⟨gm,0,none⟩=some (.slice A0 vars.length c0):=(Zap (Zab hbox _) 0).trans rfl;have hn1:(wb.alloc (.map #[] 0)).cell? ⟨gm,1,none⟩=some (.slice A1 cons.length c1):=(Zap (Zab hbox _) 1).trans rfl;have hn2:(wb.alloc (.map #[] 0)).cell? ⟨gm,2,none⟩=some (.int .i64 gkd):=(Zap (Zab hbox _) 2).trans rfl;have hn3:(wb.alloc (.map #[] 0)).cell? ⟨gm,3,none⟩=some (.slice A3 gv.length c3):=(Zap (Zab hbox _) 3).trans rfl;have hn4:(wb.alloc (.map #[] 0)).cell? ⟨gm,4,none⟩=some (.slice A4 gc.length c4):=(Zap (Zab hbox _) 4).trans rfl;clear hbox))
    go_ret;exact⟨rfl,mvB HB.out⟩
  have d256a:decide (256<(cons.length:Int))=false:=decide_eq_false (by omega);have d256b:decide (256<cons.length)=false:=decide_eq_false (by omega);have L64:Za (vars.length≤64):=⟨by omega⟩;have L256:Za (cons.length≤256):=⟨by omega⟩;rw[if_neg (fun h_=>h_.elim h64 h256)]at h;clear h64 h256;obtain⟨e1,he1,h2_⟩:=Option.bind_eq_some_iff.1 h;have H1:=Za.mk he1;have H2:=Za.mk h2_;clear h he1 h2_;have hmm:=@run_makeMap Tryz.prog;go_enter Tryz.func58,Tryz.ntmps58
  go_wp2_with (first|((with_reducible refine Zar (N:=1) rfl ?_);refine Zdd ?hg (N:=1) ?hd (cs:=#[.slice A0 vars.length c0,.slice A1 cons.length c1,.int .i64 gkd,.slice A3 gv.length c3,.slice A4 gc.length c4]) (t:=28) ?hr ?_;(case hd=>rfl);(case hg=>rfl);(case hr=>first|(go_simp;done)|(go_simp;rfl));intro gm hg wb hbox hb;have HB:=Za.mk (Zae (mvB HBw.out) hb);have BK:=Za.mk hbox;clear hb hg;have hm0:wb.cell? ⟨gm,0,none⟩=some (.slice A0 vars.length c0):=(Zap hbox 0).trans rfl;have hm1:wb.cell? ⟨gm,1,none⟩=some (.slice A1 cons.length c1):=(Zap hbox 1).trans rfl;have hm2:wb.cell? ⟨gm,2,none⟩=some (.int .i64 gkd):=(Zap hbox 2).trans rfl;have hm3:wb.cell? ⟨gm,3,none⟩=some (.slice A3 gv.length c3):=(Zap hbox 3).trans rfl;have hm4:wb.cell? ⟨gm,4,none⟩=some (.slice A4 gc.length c4):=(Zap hbox 4).trans rfl;have hn0:(wb.alloc (.map #[] 0)).cell? ⟨gm,0,none⟩=some (.slice A0 vars.length c0):=(Zap (Zab hbox _) 0).trans rfl;have hn1:(wb.alloc (.map #[] 0)).cell? ⟨gm,1,none⟩=some (.slice A1 cons.length c1):=(Zap (Zab hbox _) 1).trans rfl;have hn2:(wb.alloc (.map #[] 0)).cell? ⟨gm,2,none⟩=some (.int .i64 gkd):=(Zap (Zab hbox _) 2).trans rfl;have hn3:(wb.alloc (.map #[] 0)).cell? ⟨gm,3,none⟩=some (.slice A3 gv.length c3):=(Zap (Zab hbox _) 3).trans rfl;have hn4:(wb.alloc (.map #[] 0)).cell? ⟨gm,4,none⟩=some (.slice A4 gc.length c4):=(Zap (Zab hbox _) 4).trans rfl;clear hbox))
  go_loopg [24] vars.length (fun gg s24 w'=>∃i:Nat,s24= .int .i64 i∧i≤vars.length∧vars.length - i≤gg∧Za (Below wb.heap.size wb w')∧Za (SetN w' wb.heap.size ((vars.take i).map (·.f0)))∧Za (Zes k (vars.drop i) ((vars.take i).map (·.f0))=some e1))
  case atStart=>exact⟨0,rfl,Nat.zero_le _,Nat.le_refl _,⟨Zbi (Below.refl _ _) _⟩,⟨SetN.made wb⟩,⟨by simpa using H1.out⟩⟩
  case round=>
    clear hmm hm0 hm1 hm2 hm3 hm4 hn0 hn1 hn2 hn3 hn4;obtain⟨i,rfl,hi,hg,BW,HS,HA⟩:=hrel;have hmb:=HS.out.lt;have HMB:=Za.mk hmb;clear hmb;have HWR:=Za.mk (Zae HB.out BW.out);have BKr:=Za.mk (Zci BK.out BW.out);have hr0:wr.cell? ⟨gm,0,none⟩=some (.slice A0 vars.length c0):=(Zap BKr.out 0).trans rfl;have hr1:wr.cell? ⟨gm,1,none⟩=some (.slice A1 cons.length c1):=(Zap BKr.out 1).trans rfl;have hr2:wr.cell? ⟨gm,2,none⟩=some (.int .i64 gkd):=(Zap BKr.out 2).trans rfl;have hr3:wr.cell? ⟨gm,3,none⟩=some (.slice A3 gv.length c3):=(Zap BKr.out 3).trans rfl;have hr4:wr.cell? ⟨gm,4,none⟩=some (.slice A4 gc.length c4):=(Zap BKr.out 4).trans rfl;by_cases hlt:i<vars.length;rotate_left
    · obtain rfl : i = vars.length := by omega
      have HA1:=HA.out;rw[List.drop_length,Zes]at HA1;obtain rfl:=Option.some.inj HA1;clear HA HA1 HS HMB hi hg hlt;have p1_:decide ((vars.length:Int)<(vars.length:Int))=false:=decide_eq_false (by omega);have H3:=H2.out;rw[if_pos rfl]at H3;clear H2;obtain⟨d,hd,H4⟩:=Option.bind_eq_some_iff.1 H3;obtain⟨e2,he2,H5⟩:=Option.bind_eq_some_iff.1 H4;have HDm:=Za.mk hd;have HE2:=Za.mk he2;have HR:=Za.mk H5;clear H3 H4 H5 hd he2
      go_wp2_with (first|(go_at_call 59;go_loud (refine(Zb7.calls k A0 c0 vars A1 c1 cons gkd A3 c3 gv A4 c4 gc d _ (Kd.Zac HR0.out (mvB HWR.out)) hc0 (Kd.Zac HR1.out (mvB HWR.out)) hc1 (Kd.Zac HR3.out (mvB HWR.out)) hc3 (Kd.Zac HR4.out (mvB HWR.out)) hc4 HDm.out).mono ?_;rintro e_ wd ⟨vd,rfl,ho,hb⟩;replace ho:=Kd.S_N ho;obtain⟨Ad,cd,ed⟩:=Kd.Zcu ho;subst ed;have HCd:=Za.mk (Kd.Za3 ho);have BD:=Za.mk (Zae (mvB HWR.out) hb);have BKd:=Za.mk (Zci (mvK BKr.out) hb);have hd0:wd.cell? ⟨gm,0,none⟩=some (.slice A0 vars.length c0):=(Zap BKd.out 0).trans rfl;have hd1:wd.cell? ⟨gm,1,none⟩=some (.slice A1 cons.length c1):=(Zap BKd.out 1).trans rfl;have hd2:wd.cell? ⟨gm,2,none⟩=some (.int .i64 gkd):=(Zap BKd.out 2).trans rfl;have hd3:wd.cell? ⟨gm,3,none⟩=some (.slice A3 gv.length c3):=(Zap BKd.out 3).trans rfl;have hd4:wd.cell? ⟨gm,4,none⟩=some (.slice A4 gc.length c4):=(Zap BKd.out 4).trans rfl;clear ho hb)))
      go_loopg [58] cons.length (fun gg s58 w'=>∃j:Nat,s58= .int .i64 j∧j≤cons.length∧cons.length - j≤gg∧Za (Below wd.heap.size wd w')∧Za (Zer k d (cons.drop j)=some e2))
      case atStart=>exact⟨0,rfl,Nat.zero_le _,Nat.le_refl _,⟨mvB (Below.refl wd.heap.size wd)⟩,⟨by simpa using HE2.out⟩⟩
      case round=>
        clear hd0 hd1 hd2 hd3 hd4 hr0 hr1 hr2 hr3 hr4;obtain⟨j,rfl,hj,hg,BW2,HA⟩:=hrel;obtain⟨wq,rfl⟩:∃x:World,x=wr:=⟨_,rfl⟩;have HWQ:=Za.mk (Zae BD.out BW2.out);have BKq:=Za.mk (Zci BKd.out BW2.out);have hq0:wq.cell? ⟨gm,0,none⟩=some (.slice A0 vars.length c0):=(Zap BKq.out 0).trans rfl;have hq1:wq.cell? ⟨gm,1,none⟩=some (.slice A1 cons.length c1):=(Zap BKq.out 1).trans rfl;have hq2:wq.cell? ⟨gm,2,none⟩=some (.int .i64 gkd):=(Zap BKq.out 2).trans rfl;have hq3:wq.cell? ⟨gm,3,none⟩=some (.slice A3 gv.length c3):=(Zap BKq.out 3).trans rfl;have hq4:wq.cell? ⟨gm,4,none⟩=some (.slice A4 gc.length c4):=(Zap BKq.out 4).trans rfl;by_cases hlt:j<cons.length;rotate_left
        · obtain rfl : j = cons.length := by omega
          have HA1:=HA.out;rw[List.drop_length,Zer]at HA1;obtain rfl:=Option.some.inj HA1;clear HA HA1 hj hg hlt;have p3_:decide ((cons.length:Int)<(cons.length:Int))=false:=decide_eq_false (by omega);have H6:=HR.out;rw[if_pos rfl]at H6;have HG:=Za.mk H6;clear HR H6
          go_wp2_with (first|(go_at_call 80;go_loud (refine(Zdx.calls k Ad cd d gkd A3 c3 gv A4 c4 gc r _ (Kd.Zac HCd.out.2.2 (mvB BW2.out)) HCd.out.2.1 (Kd.Zac HR3.out (mvB HWQ.out)) hc3 (Kd.Zac HR4.out (mvB HWQ.out)) hc4 HG.out).mono ?_;rintro e_ w12 ⟨rfl,hb⟩;have BV2:=Za.mk (Zae (mvB HWQ.out) hb);clear hb)))
          go_ret;exact⟨rfl,mvB BV2.out⟩
        have hltz:(j:Int)<(cons.length:Int):=by omega
        have p3_:decide ((j:Int)<(cons.length:Int))=true:=decide_eq_true hltz;have p4_:decide ((0:Int)≤(j:Int))=true:=decide_eq_true (by omega);obtain⟨ad,B1,b1,B2,b2,B5,b5,e_,hx0,hx1,hx2,hx3,hx4,hx5,hx6,hl1,hi1,hl2,hi2,hl5,hi5⟩:=at_T36 (Kd.Zac HR1.out HWQ.out) (j:Int) (by omega) hltz;cases e_;simp only[Int.toNat_natCast]at hx0 hx1 hx2 hx3 hx4 hx5 hx6;have HA1:=HA.out;rw[drop_rdC hlt,Zer]at HA1
        generalize Zad cons (j:Int)=x at hx0 hx1 hx2 hx3 hx4 hx5 hx6 hl1 hi1 hl2 hi2 hl5 hi5 HA1
        have HI1:=Za.mk hi1;have HL1:=Za.mk hl1;clear hi1 hl1;have HI2:=Za.mk hi2;have HL2:=Za.mk hl2;clear hi2 hl2;have HI5:=Za.mk hi5;have HL5:=Za.mk hl5;clear hi5 hl5;obtain⟨e,he,HA2⟩:=Option.bind_eq_some_iff.1 HA1;have HE:=Za.mk he;clear HA HA1 he;by_cases he0:e=0
        · subst he0
          rw[if_pos rfl]at HA2
          go_wp2_with (first|((with_reducible refine Zar (N:=8) rfl ?_);refine Zdd ?hg (N:=8) ?hd (cs:=#[.int .i64 0,.slice none 0 0,.slice none 0 0,.int .i64 0,.int .i64 0,.slice none 0 0,.int .i64 0]) (t:=36) ?hr ?_;(case hd=>rfl);(case hg=>rfl);(case hr=>first|(go_simp;done)|(go_simp;rfl));intro g8 hg8 w9 hbox hb;have BX:=Za.mk hbox;have lS:w9.cell? ⟨g8,0,none⟩=some (.int .i64 0):=(Zap hbox 0).trans rfl;have lT:=Za0 hbox 0;have lu:w9.cell? ⟨g8,1,none⟩=some (.slice none 0 0):=(Zap hbox 1).trans rfl;have lU:=Za0 hbox 1;have hcz2:w9.cell? ⟨g8,2,none⟩=some (.slice none 0 0):=(Zap hbox 2).trans rfl;have dna:=Za0 hbox 2;have dja:w9.cell? ⟨g8,3,none⟩=some (.int .i64 0):=(Zap hbox 3).trans rfl;have doa:=Za0 hbox 3;have dka:w9.cell? ⟨g8,4,none⟩=some (.int .i64 0):=(Zap hbox 4).trans rfl;have dpa:=Za0 hbox 4;have dla:w9.cell? ⟨g8,5,none⟩=some (.slice none 0 0):=(Zap hbox 5).trans rfl;have dqa:=Za0 hbox 5;have dma:w9.cell? ⟨g8,6,none⟩=some (.int .i64 0):=(Zap hbox 6).trans rfl;have dra:=Za0 hbox 6;have BV:=Za.mk (Zae (mvB (Below.refl wq.heap.size wq)) hb);have HG8:Za (wq.heap.size≤g8):=⟨by rw[hg8];exact(mvB (Below.refl wq.heap.size wq)).size⟩;clear hbox hb hg8)|(go_at_call 79;go_loud (have B7:=Za.mk (show Below wq.heap.size wq (((((((w9.setCell ⟨g8,0,none⟩ (.int .i64 x.f0)).setCell ⟨g8,1,none⟩ (.slice B1 x.f1.length b1)).setCell ⟨g8,2,none⟩ (.slice B2 x.f2.length b2)).setCell ⟨g8,3,none⟩ (.int .i64 x.f3)).setCell ⟨g8,4,none⟩ (.int .i64 x.f4)).setCell ⟨g8,5,none⟩ (.slice B5 x.f5.length b5)).setCell ⟨g8,6,none⟩ (.int .i64 x.f6))from Zba (Zba (Zba (Zba (Zba (Zba (Zba BV.out HG8.out) HG8.out) HG8.out) HG8.out) HG8.out) HG8.out) HG8.out);refine(Zc3.calls k Ad cd d x.f0 B1 b1 x.f1 B2 b2 x.f2 x.f3 x.f4 B5 b5 x.f5 x.f6 _ _ (Kd.Zac HCd.out.2.2 (Zae BW2.out (mvB B7.out))) HCd.out.2.1 (Kd.Zac HI1.out (mvB B7.out)) HL1.out (Kd.Zac HI2.out (mvB B7.out)) HL2.out (Kd.Zac HI5.out (mvB B7.out)) HL5.out HE.out).mono ?_;rintro e_ w12 ⟨rfl,hb⟩;have BV2:=Za.mk (Zae (mvB B7.out) hb);clear hb)))
          have h256_:=L256.out
          go_roundg (cons.length - (j+1))
          case measure=>omega
          case rel=>exact⟨j+1,(by rw[show wrap64 ((j:Int)+1)=((j+1:Nat):Int)from by unfold wrap64;omega]),by omega,Nat.le_refl _,⟨Zae BW2.out (mvB BV2.out)⟩,⟨HA2⟩⟩
        rw[if_neg he0]at HA2;obtain rfl:=Option.some.inj HA2;have h4:=HR.out;rw[if_neg he0]at h4;obtain rfl:=Option.some.inj h4;clear h4 HA2;have de1:(e==0)=false:=beq_eq_false_iff_ne.2 he0;have de2:(e !=0)=true:=by simp only[bne,de1,Bool.not_false]
        have de3:decide (e=0)=false:=decide_eq_false he0;clear he0
        go_wp2_with (first|((with_reducible refine Zar (N:=8) rfl ?_);refine Zdd ?hg (N:=8) ?hd (cs:=#[.int .i64 0,.slice none 0 0,.slice none 0 0,.int .i64 0,.int .i64 0,.slice none 0 0,.int .i64 0]) (t:=36) ?hr ?_;(case hd=>rfl);(case hg=>rfl);(case hr=>first|(go_simp;done)|(go_simp;rfl));intro g8 hg8 w9 hbox hb;have BX:=Za.mk hbox;have lS:w9.cell? ⟨g8,0,none⟩=some (.int .i64 0):=(Zap hbox 0).trans rfl;have lT:=Za0 hbox 0;have lu:w9.cell? ⟨g8,1,none⟩=some (.slice none 0 0):=(Zap hbox 1).trans rfl;have lU:=Za0 hbox 1;have hcz2:w9.cell? ⟨g8,2,none⟩=some (.slice none 0 0):=(Zap hbox 2).trans rfl;have dna:=Za0 hbox 2;have dja:w9.cell? ⟨g8,3,none⟩=some (.int .i64 0):=(Zap hbox 3).trans rfl;have doa:=Za0 hbox 3;have dka:w9.cell? ⟨g8,4,none⟩=some (.int .i64 0):=(Zap hbox 4).trans rfl;have dpa:=Za0 hbox 4;have dla:w9.cell? ⟨g8,5,none⟩=some (.slice none 0 0):=(Zap hbox 5).trans rfl;have dqa:=Za0 hbox 5;have dma:w9.cell? ⟨g8,6,none⟩=some (.int .i64 0):=(Zap hbox 6).trans rfl;have dra:=Za0 hbox 6;have BV:=Za.mk (Zae (mvB (Below.refl wq.heap.size wq)) hb);have HG8:Za (wq.heap.size≤g8):=⟨by rw[hg8];exact(mvB (Below.refl wq.heap.size wq)).size⟩;clear hbox hb hg8)|(go_at_call 79;go_loud (have B7:=Za.mk (show Below wq.heap.size wq (((((((w9.setCell ⟨g8,0,none⟩ (.int .i64 x.f0)).setCell ⟨g8,1,none⟩ (.slice B1 x.f1.length b1)).setCell ⟨g8,2,none⟩ (.slice B2 x.f2.length b2)).setCell ⟨g8,3,none⟩ (.int .i64 x.f3)).setCell ⟨g8,4,none⟩ (.int .i64 x.f4)).setCell ⟨g8,5,none⟩ (.slice B5 x.f5.length b5)).setCell ⟨g8,6,none⟩ (.int .i64 x.f6))from Zba (Zba (Zba (Zba (Zba (Zba (Zba BV.out HG8.out) HG8.out) HG8.out) HG8.out) HG8.out) HG8.out) HG8.out);refine(Zc3.calls k Ad cd d x.f0 B1 b1 x.f1 B2 b2 x.f2 x.f3 x.f4 B5 b5 x.f5 x.f6 _ _ (Kd.Zac HCd.out.2.2 (Zae BW2.out (mvB B7.out))) HCd.out.2.1 (Kd.Zac HI1.out (mvB B7.out)) HL1.out (Kd.Zac HI2.out (mvB B7.out)) HL2.out (Kd.Zac HI5.out (mvB B7.out)) HL5.out HE.out).mono ?_;rintro e_ w12 ⟨rfl,hb⟩;have BV2:=Za.mk (Zae (mvB B7.out) hb);clear hb)))
        go_ret;exact⟨rfl,Zae HWQ.out (mvB BV2.out)⟩
    have hltz:(i:Int)<(vars.length:Int):=by omega
    have p1_:decide ((i:Int)<(vars.length:Int))=true:=decide_eq_true hltz;have p2_:decide ((0:Int)≤(i:Int))=true:=decide_eq_true (by omega);obtain⟨ad,A5,c5,e_,hx0,hx1,hl1,hi1⟩:=Zev (Kd.Zac HR0.out HWR.out) (i:Int) (by omega) hltz;cases e_;simp only[Int.toNat_natCast]at hx0 hx1;have HA1:=HA.out;rw[drop_rd hlt,Zes]at HA1;have HTK:=Za.mk (take_rd hlt)
    generalize Za9 vars (i:Int)=x at hx0 hx1 hl1 hi1 HA1 HTK
    have HI1:=Za.mk hi1;have HL1:=Za.mk hl1;clear hi1 hl1 HA;obtain⟨nm,hnm,HA2⟩:=Option.bind_eq_some_iff.1 HA1;have HN:=Za.mk hnm;clear HA1 hnm;have HGB:Za (wb.heap.size≤wr.heap.size):=⟨BW.out.size⟩
    cases nm with
    |false=>
      rw[if_pos rfl]at HA2;obtain rfl:=Option.some.inj HA2;have h4:=H2.out;rw[if_neg (by decide)]at h4;obtain rfl:=Option.some.inj h4;clear h4 HA2
      go_wp2_with (first|((with_reducible refine Zar (N:=5) rfl ?_);refine Zdd ?hg (N:=5) ?hd (cs:=#[.string (⟨#[]⟩:ByteArray),.slice none 0 0]) (t:=55) ?hr ?_;(case hd=>rfl);(case hg=>rfl);(case hr=>first|(go_simp;done)|(go_simp;rfl));intro g5 hg5 w9 hbox hb;have BX:=Za.mk hbox;have lS:w9.cell? ⟨g5,0,none⟩=some (.string (⟨#[]⟩:ByteArray)):=(Zap hbox 0).trans rfl;have lu:w9.cell? ⟨g5,1,none⟩=some (.slice none 0 0):=(Zap hbox 1).trans rfl;have lT:=Za0 hbox 0;have lU:=Za0 hbox 1;have BV:=Za.mk (Zae (mvB (Below.refl wr.heap.size wr)) hb);have HG5:Za (wr.heap.size≤g5):=⟨by rw[hg5];exact(mvB (Below.refl wr.heap.size wr)).size⟩;have HM5:Za (wb.heap.size≠g5):=⟨by rw[hg5];exact Nat.ne_of_lt (Nat.lt_of_lt_of_le HMB.out (mvB (Below.refl wr.heap.size wr)).size)⟩;have HS9:=Za.mk (SetN.below (SetN.below HS.out (mvB (Below.refl wr.heap.size wr))) hb);clear hbox hb hg5)|(go_at_call 77;go_loud (refine(Zd7.calls x.f0 _ _ HN.out).mono ?_;rintro e w12 ⟨rfl,hb⟩;have BX2:=Za.mk (Zci (mvK (Zaz (cs':=#[.string x.f0,.slice A5 x.f1.length c5]) (Zaz (cs':=#[.string x.f0,.slice none 0 0]) BX.out 0 (.string x.f0) rfl) 1 (.slice A5 x.f1.length c5) rfl)) hb);have BV2:=Za.mk (Zae (mvB (show Below wr.heap.size wr ((w9.setCell ⟨g5,0,none⟩ (.string x.f0)).setCell ⟨g5,1,none⟩ (.slice A5 x.f1.length c5))from Zba (Zba BV.out HG5.out) HG5.out)) hb);have HS2:=Za.mk (SetN.below (SetN.below (show SetN ((w9.setCell ⟨g5,0,none⟩ (.string x.f0)).setCell ⟨g5,1,none⟩ (.slice A5 x.f1.length c5)) _ _ from SetN.far HS9.out HM5.out) (mvB (Below.refl ((w9.setCell ⟨g5,0,none⟩ (.string x.f0)).setCell ⟨g5,1,none⟩ (.slice A5 x.f1.length c5)).heap.size ((w9.setCell ⟨g5,0,none⟩ (.string x.f0)).setCell ⟨g5,1,none⟩ (.slice A5 x.f1.length c5))))) hb);have hcy0:w12.cell? ⟨g5,0,none⟩=some (.string x.f0):=(Zap BX2.out 0).trans rfl;have hcy1:w12.cell? ⟨g5,1,none⟩=some (.slice A5 x.f1.length c5):=(Zap BX2.out 1).trans rfl;clear hb)))
      go_ret;exact⟨rfl,Zae HWR.out (mvB BV2.out)⟩
    |true=>
      rw[if_neg (by decide)]at HA2;have HSZ:=Za.mk (name_size HN.out)
      generalize hhad:hasN ((vars.take i).map (·.f0)) x.f0=had at HA2
      have HD:=Za.mk hhad;clear hhad
      cases had with
      |true=>
        rw[if_pos rfl]at HA2;obtain rfl:=Option.some.inj HA2;have h4:=H2.out;rw[if_neg (by decide)]at h4;obtain rfl:=Option.some.inj h4;clear h4 HA2
        go_wp2_with (first|((with_reducible refine Zar (N:=5) rfl ?_);refine Zdd ?hg (N:=5) ?hd (cs:=#[.string (⟨#[]⟩:ByteArray),.slice none 0 0]) (t:=55) ?hr ?_;(case hd=>rfl);(case hg=>rfl);(case hr=>first|(go_simp;done)|(go_simp;rfl));intro g5 hg5 w9 hbox hb;have BX:=Za.mk hbox;have lS:w9.cell? ⟨g5,0,none⟩=some (.string (⟨#[]⟩:ByteArray)):=(Zap hbox 0).trans rfl;have lu:w9.cell? ⟨g5,1,none⟩=some (.slice none 0 0):=(Zap hbox 1).trans rfl;have lT:=Za0 hbox 0;have lU:=Za0 hbox 1;have BV:=Za.mk (Zae (mvB (Below.refl wr.heap.size wr)) hb);have HG5:Za (wr.heap.size≤g5):=⟨by rw[hg5];exact(mvB (Below.refl wr.heap.size wr)).size⟩;have HM5:Za (wb.heap.size≠g5):=⟨by rw[hg5];exact Nat.ne_of_lt (Nat.lt_of_lt_of_le HMB.out (mvB (Below.refl wr.heap.size wr)).size)⟩;have HS9:=Za.mk (SetN.below (SetN.below HS.out (mvB (Below.refl wr.heap.size wr))) hb);clear hbox hb hg5)|(go_at_call 77;go_loud (refine(Zd7.calls x.f0 _ _ HN.out).mono ?_;rintro e w12 ⟨rfl,hb⟩;have BX2:=Za.mk (Zci (mvK (Zaz (cs':=#[.string x.f0,.slice A5 x.f1.length c5]) (Zaz (cs':=#[.string x.f0,.slice none 0 0]) BX.out 0 (.string x.f0) rfl) 1 (.slice A5 x.f1.length c5) rfl)) hb);have BV2:=Za.mk (Zae (mvB (show Below wr.heap.size wr ((w9.setCell ⟨g5,0,none⟩ (.string x.f0)).setCell ⟨g5,1,none⟩ (.slice A5 x.f1.length c5))from Zba (Zba BV.out HG5.out) HG5.out)) hb);have HS2:=Za.mk (SetN.below (SetN.below (show SetN ((w9.setCell ⟨g5,0,none⟩ (.string x.f0)).setCell ⟨g5,1,none⟩ (.slice A5 x.f1.length c5)) _ _ from SetN.far HS9.out HM5.out) (mvB (Below.refl ((w9.setCell ⟨g5,0,none⟩ (.string x.f0)).setCell ⟨g5,1,none⟩ (.slice A5 x.f1.length c5)).heap.size ((w9.setCell ⟨g5,0,none⟩ (.string x.f0)).setCell ⟨g5,1,none⟩ (.slice A5 x.f1.length c5))))) hb);have hcy0:w12.cell? ⟨g5,0,none⟩=some (.string x.f0):=(Zap BX2.out 0).trans rfl;have hcy1:w12.cell? ⟨g5,1,none⟩=some (.slice A5 x.f1.length c5):=(Zap BX2.out 1).trans rfl;clear hb))|(refine Ze1 rfl (.tmp 34) (.tmp 36) rfl rfl HS2.out rfl HSZ.out ?_;rw[HD.out]))
        go_ret;exact⟨rfl,Zae HWR.out (mvB BV2.out)⟩
      |false=>
        rw[if_neg (by decide)]at HA2;by_cases hl0:x.f1.length=0
        · rw [if_pos hl0] at HA2
          obtain rfl:=Option.some.inj HA2;have h4:=H2.out;rw[if_neg (by decide)]at h4;obtain rfl:=Option.some.inj h4;clear h4 HA2;have dl1:((x.f1.length:Int)==0)=true:=beq_iff_eq.2 (by omega);have dl2:decide ((x.f1.length:Int)=0)=true:=decide_eq_true (by omega);have dl3:decide (x.f1.length=0)=true:=decide_eq_true hl0;have dl4:(x.f1.length==0)=true:=beq_iff_eq.2 hl0;clear hl0
          go_wp2_with (first|((with_reducible refine Zar (N:=5) rfl ?_);refine Zdd ?hg (N:=5) ?hd (cs:=#[.string (⟨#[]⟩:ByteArray),.slice none 0 0]) (t:=55) ?hr ?_;(case hd=>rfl);(case hg=>rfl);(case hr=>first|(go_simp;done)|(go_simp;rfl));intro g5 hg5 w9 hbox hb;have BX:=Za.mk hbox;have lS:w9.cell? ⟨g5,0,none⟩=some (.string (⟨#[]⟩:ByteArray)):=(Zap hbox 0).trans rfl;have lu:w9.cell? ⟨g5,1,none⟩=some (.slice none 0 0):=(Zap hbox 1).trans rfl;have lT:=Za0 hbox 0;have lU:=Za0 hbox 1;have BV:=Za.mk (Zae (mvB (Below.refl wr.heap.size wr)) hb);have HG5:Za (wr.heap.size≤g5):=⟨by rw[hg5];exact(mvB (Below.refl wr.heap.size wr)).size⟩;have HM5:Za (wb.heap.size≠g5):=⟨by rw[hg5];exact Nat.ne_of_lt (Nat.lt_of_lt_of_le HMB.out (mvB (Below.refl wr.heap.size wr)).size)⟩;have HS9:=Za.mk (SetN.below (SetN.below HS.out (mvB (Below.refl wr.heap.size wr))) hb);clear hbox hb hg5)|(go_at_call 77;go_loud (refine(Zd7.calls x.f0 _ _ HN.out).mono ?_;rintro e w12 ⟨rfl,hb⟩;have BX2:=Za.mk (Zci (mvK (Zaz (cs':=#[.string x.f0,.slice A5 x.f1.length c5]) (Zaz (cs':=#[.string x.f0,.slice none 0 0]) BX.out 0 (.string x.f0) rfl) 1 (.slice A5 x.f1.length c5) rfl)) hb);have BV2:=Za.mk (Zae (mvB (show Below wr.heap.size wr ((w9.setCell ⟨g5,0,none⟩ (.string x.f0)).setCell ⟨g5,1,none⟩ (.slice A5 x.f1.length c5))from Zba (Zba BV.out HG5.out) HG5.out)) hb);have HS2:=Za.mk (SetN.below (SetN.below (show SetN ((w9.setCell ⟨g5,0,none⟩ (.string x.f0)).setCell ⟨g5,1,none⟩ (.slice A5 x.f1.length c5)) _ _ from SetN.far HS9.out HM5.out) (mvB (Below.refl ((w9.setCell ⟨g5,0,none⟩ (.string x.f0)).setCell ⟨g5,1,none⟩ (.slice A5 x.f1.length c5)).heap.size ((w9.setCell ⟨g5,0,none⟩ (.string x.f0)).setCell ⟨g5,1,none⟩ (.slice A5 x.f1.length c5))))) hb);have hcy0:w12.cell? ⟨g5,0,none⟩=some (.string x.f0):=(Zap BX2.out 0).trans rfl;have hcy1:w12.cell? ⟨g5,1,none⟩=some (.slice A5 x.f1.length c5):=(Zap BX2.out 1).trans rfl;clear hb))|(refine Ze1 rfl (.tmp 34) (.tmp 36) rfl rfl HS2.out rfl HSZ.out ?_;rw[HD.out]))
          go_ret;exact⟨rfl,Zae HWR.out (mvB BV2.out)⟩
        rw[if_neg hl0]at HA2;obtain⟨e,he,HA3⟩:=Option.bind_eq_some_iff.1 HA2;have HE:=Za.mk he;clear HA2 he;have dl1:((x.f1.length:Int)==0)=false:=beq_eq_false_iff_ne.2 (by omega);have dl2:decide ((x.f1.length:Int)=0)=false:=decide_eq_false (by omega);have dl3:decide (x.f1.length=0)=false:=decide_eq_false hl0;have dl4:(x.f1.length==0)=false:=beq_eq_false_iff_ne.2 hl0;clear hl0;by_cases he0:e=0;rotate_left
        · rw [if_neg he0] at HA3
          obtain rfl:=Option.some.inj HA3;have h4:=H2.out;rw[if_neg (by decide)]at h4;obtain rfl:=Option.some.inj h4;clear h4 HA3;have de1:(e==0)=false:=beq_eq_false_iff_ne.2 he0;have de2:(e !=0)=true:=by simp only[bne,de1,Bool.not_false]
          have de3:decide (e=0)=false:=decide_eq_false he0;clear he0
          go_wp2_with (first|((with_reducible refine Zar (N:=5) rfl ?_);refine Zdd ?hg (N:=5) ?hd (cs:=#[.string (⟨#[]⟩:ByteArray),.slice none 0 0]) (t:=55) ?hr ?_;(case hd=>rfl);(case hg=>rfl);(case hr=>first|(go_simp;done)|(go_simp;rfl));intro g5 hg5 w9 hbox hb;have BX:=Za.mk hbox;have lS:w9.cell? ⟨g5,0,none⟩=some (.string (⟨#[]⟩:ByteArray)):=(Zap hbox 0).trans rfl;have lu:w9.cell? ⟨g5,1,none⟩=some (.slice none 0 0):=(Zap hbox 1).trans rfl;have lT:=Za0 hbox 0;have lU:=Za0 hbox 1;have BV:=Za.mk (Zae (mvB (Below.refl wr.heap.size wr)) hb);have HG5:Za (wr.heap.size≤g5):=⟨by rw[hg5];exact(mvB (Below.refl wr.heap.size wr)).size⟩;have HM5:Za (wb.heap.size≠g5):=⟨by rw[hg5];exact Nat.ne_of_lt (Nat.lt_of_lt_of_le HMB.out (mvB (Below.refl wr.heap.size wr)).size)⟩;have HS9:=Za.mk (SetN.below (SetN.below HS.out (mvB (Below.refl wr.heap.size wr))) hb);clear hbox hb hg5)|(go_at_call 77;go_loud (refine(Zd7.calls x.f0 _ _ HN.out).mono ?_;rintro e w12 ⟨rfl,hb⟩;have BX2:=Za.mk (Zci (mvK (Zaz (cs':=#[.string x.f0,.slice A5 x.f1.length c5]) (Zaz (cs':=#[.string x.f0,.slice none 0 0]) BX.out 0 (.string x.f0) rfl) 1 (.slice A5 x.f1.length c5) rfl)) hb);have BV2:=Za.mk (Zae (mvB (show Below wr.heap.size wr ((w9.setCell ⟨g5,0,none⟩ (.string x.f0)).setCell ⟨g5,1,none⟩ (.slice A5 x.f1.length c5))from Zba (Zba BV.out HG5.out) HG5.out)) hb);have HS2:=Za.mk (SetN.below (SetN.below (show SetN ((w9.setCell ⟨g5,0,none⟩ (.string x.f0)).setCell ⟨g5,1,none⟩ (.slice A5 x.f1.length c5)) _ _ from SetN.far HS9.out HM5.out) (mvB (Below.refl ((w9.setCell ⟨g5,0,none⟩ (.string x.f0)).setCell ⟨g5,1,none⟩ (.slice A5 x.f1.length c5)).heap.size ((w9.setCell ⟨g5,0,none⟩ (.string x.f0)).setCell ⟨g5,1,none⟩ (.slice A5 x.f1.length c5))))) hb);have hcy0:w12.cell? ⟨g5,0,none⟩=some (.string x.f0):=(Zap BX2.out 0).trans rfl;have hcy1:w12.cell? ⟨g5,1,none⟩=some (.slice A5 x.f1.length c5):=(Zap BX2.out 1).trans rfl;clear hb))|(refine Ze1 rfl (.tmp 34) (.tmp 36) rfl rfl HS2.out rfl HSZ.out ?_;rw[HD.out])|(go_at_call 78;go_loud (refine(Zd4.calls k A5 c5 x.f1 _ _ (Kd.Zac HI1.out (mvB BV2.out)) HL1.out HE.out).mono ?_;rintro e_ w13 ⟨rfl,hb⟩;have BV3:=Za.mk (Zae (mvB BV2.out) hb);have HS3:=Za.mk (SetN.below (SetN.below HS2.out (mvB (Below.refl w12.heap.size w12))) hb);have hcw0:w13.cell? ⟨g5,0,none⟩=some (.string x.f0):=(Zap (Zci (mvK BX2.out) hb) 0).trans rfl;have hcw1:w13.cell? ⟨g5,1,none⟩=some (.slice A5 x.f1.length c5):=(Zap (Zci (mvK BX2.out) hb) 1).trans rfl;clear hb)))
          go_ret;exact⟨rfl,Zae HWR.out (mvB BV3.out)⟩
        subst he0;rw[if_pos rfl]at HA3;have HLN:Za (((vars.take i).map (·.f0)).length<maxLen):=⟨Nat.lt_of_le_of_lt (Nat.le_trans (by simp;omega) L64.out) (by decide)⟩
        go_wp2_with (first|((with_reducible refine Zar (N:=5) rfl ?_);refine Zdd ?hg (N:=5) ?hd (cs:=#[.string (⟨#[]⟩:ByteArray),.slice none 0 0]) (t:=55) ?hr ?_;(case hd=>rfl);(case hg=>rfl);(case hr=>first|(go_simp;done)|(go_simp;rfl));intro g5 hg5 w9 hbox hb;have BX:=Za.mk hbox;have lS:w9.cell? ⟨g5,0,none⟩=some (.string (⟨#[]⟩:ByteArray)):=(Zap hbox 0).trans rfl;have lu:w9.cell? ⟨g5,1,none⟩=some (.slice none 0 0):=(Zap hbox 1).trans rfl;have lT:=Za0 hbox 0;have lU:=Za0 hbox 1;have BV:=Za.mk (Zae (mvB (Below.refl wr.heap.size wr)) hb);have HG5:Za (wr.heap.size≤g5):=⟨by rw[hg5];exact(mvB (Below.refl wr.heap.size wr)).size⟩;have HM5:Za (wb.heap.size≠g5):=⟨by rw[hg5];exact Nat.ne_of_lt (Nat.lt_of_lt_of_le HMB.out (mvB (Below.refl wr.heap.size wr)).size)⟩;have HS9:=Za.mk (SetN.below (SetN.below HS.out (mvB (Below.refl wr.heap.size wr))) hb);clear hbox hb hg5)|(go_at_call 77;go_loud (refine(Zd7.calls x.f0 _ _ HN.out).mono ?_;rintro e w12 ⟨rfl,hb⟩;have BX2:=Za.mk (Zci (mvK (Zaz (cs':=#[.string x.f0,.slice A5 x.f1.length c5]) (Zaz (cs':=#[.string x.f0,.slice none 0 0]) BX.out 0 (.string x.f0) rfl) 1 (.slice A5 x.f1.length c5) rfl)) hb);have BV2:=Za.mk (Zae (mvB (show Below wr.heap.size wr ((w9.setCell ⟨g5,0,none⟩ (.string x.f0)).setCell ⟨g5,1,none⟩ (.slice A5 x.f1.length c5))from Zba (Zba BV.out HG5.out) HG5.out)) hb);have HS2:=Za.mk (SetN.below (SetN.below (show SetN ((w9.setCell ⟨g5,0,none⟩ (.string x.f0)).setCell ⟨g5,1,none⟩ (.slice A5 x.f1.length c5)) _ _ from SetN.far HS9.out HM5.out) (mvB (Below.refl ((w9.setCell ⟨g5,0,none⟩ (.string x.f0)).setCell ⟨g5,1,none⟩ (.slice A5 x.f1.length c5)).heap.size ((w9.setCell ⟨g5,0,none⟩ (.string x.f0)).setCell ⟨g5,1,none⟩ (.slice A5 x.f1.length c5))))) hb);have hcy0:w12.cell? ⟨g5,0,none⟩=some (.string x.f0):=(Zap BX2.out 0).trans rfl;have hcy1:w12.cell? ⟨g5,1,none⟩=some (.slice A5 x.f1.length c5):=(Zap BX2.out 1).trans rfl;clear hb))|(refine Ze1 rfl (.tmp 34) (.tmp 36) rfl rfl HS2.out rfl HSZ.out ?_;rw[HD.out])|(go_at_call 78;go_loud (refine(Zd4.calls k A5 c5 x.f1 _ _ (Kd.Zac HI1.out (mvB BV2.out)) HL1.out HE.out).mono ?_;rintro e_ w13 ⟨rfl,hb⟩;have BV3:=Za.mk (Zae (mvB BV2.out) hb);have HS3:=Za.mk (SetN.below (SetN.below HS2.out (mvB (Below.refl w12.heap.size w12))) hb);have hcw0:w13.cell? ⟨g5,0,none⟩=some (.string x.f0):=(Zap (Zci (mvK BX2.out) hb) 0).trans rfl;have hcw1:w13.cell? ⟨g5,1,none⟩=some (.slice A5 x.f1.length c5):=(Zap (Zci (mvK BX2.out) hb) 1).trans rfl;clear hb))|(refine wpList_putN rfl (.tmp 49) (.tmp 51) (.const (.bool true)) rfl rfl HS3.out rfl rfl HSZ.out HLN.out ?_;intro w14 hm14 hg14;have HS4:=Za.mk hm14;have BV4:=Za.mk (hg14.size);have BW4:=Za.mk ((Zae BW.out (mvB BV3.out)).grown hg14 (Nat.le_trans HGB.out (mvB BV3.out).size) (fun k_ e_=>by injection e_ with e_;rw[←e_];exact Nat.le_refl _));clear hm14 hg14))
        have h64_:=L64.out
        go_roundg (vars.length - (i+1))
        case measure=>omega
        case rel=>exact⟨i+1,(by rw[show wrap64 ((i:Int)+1)=((i+1:Nat):Int)from by unfold wrap64;omega]),by omega,Nat.le_refl _,⟨mvB BW4.out⟩,⟨by rw[HTK.out];exact SetN.below HS4.out (mvB (Below.refl w14.heap.size w14))⟩,⟨by rw[HTK.out];exact HA3⟩⟩
end Go.Proofs.YtdpieallpbllkaaGreat.P
namespace Go.Proofs.YtdpieallpbllkaaGreat.P
open Go.RowKit Go.Proofs.YtdpieallpbllkaaGreatW.PrintWords Go.Proofs.YtdpieallpbllkaaGreatW.PrintLast Go.Proofs.YtdpieallpbllkaaGreatW.PrintMore
attribute [local go_sem] Zcw Zcy Zdg Zdh Zco Zcp Zcx Zcz
def Zbc.f (a0:Int):Option (Bool):=if a0≥(-1048576)then(some (decide (a0≤1048576)))else(some false)
set_option maxRecDepth 100000 in
theorem Zbc.calls (a0 : Int) (r : Bool) (w : World) (h : Zbc.f a0 = some r) :
  Calls Tryz.prog 73 #[.int .i64 a0] w fun e w'=>e= .returned (.bool r)∧Zav w w':=by
 have H:(if a0≥(-1048576)then(some (decide (a0≤1048576)))else(some false))=some r:=h;clear h;by_cases c2:a0≥(-1048576)
 case pos=>
  rw[if_pos c2]at H;have jC:decide ((-1048576)≤a0)=true:=decide_eq_true c2;clear c2;obtain rfl:=sj H;go_enter Tryz.func73,Tryz.ntmps73;go_wp2;go_ret;exact⟨eS,by repeat(first|exact Zav.refl _|apply Zav.step)⟩
 rw[if_neg c2]at H;have jC:decide ((-1048576)≤a0)=false:=decide_eq_false c2;clear c2;obtain rfl:=sj H;go_enter Tryz.func73,Tryz.ntmps73;go_wp2;go_ret;exact⟨eS,by repeat(first|exact Zav.refl _|apply Zav.step)⟩
end Go.Proofs.YtdpieallpbllkaaGreat.P
/- secateur/secateurref02.Check: over a list of ranges. -/
namespace Go.Proofs.YtdpieallpbllkaaGreat.P
open Go.RowKit Go.Proofs.YtdpieallpbllkaaGreatW.PrintWords Go.Proofs.YtdpieallpbllkaaGreatW.PrintLast Go.Proofs.YtdpieallpbllkaaGreatW.PrintMore
def Za7.l0 : Nat → List (S82) → Int → Int → Option (Int)
 | 0, _, _, _ => none
 |k+1,x0,x3,x4=>if x4<(x0.length:Int)then(if 0≤x4 then((Zbc.f ((Zbk x0 x4).f0)).bind fun ta=>(if ta=true then((Zbc.f ((Zbk x0 x4).f1)).bind fun tb=>(if tb=true then(if((Zbk x0 x4).f0)>((Zbk x0 x4).f1)then(some 20)else(if x4>0 then(if 0≤(wrap64 (x4 - 1))then(if(wrap64 (x4 - 1))<(x0.length:Int)then(if(wrap64 (((Zbk x0 x4).f0) - ((Zbk x0 (wrap64 (x4 - 1))).f1)))<2 then(some 20)else(Za7.l0 k x0 (wrap64 (x3+(wrap64 ((wrap64 (((Zbk x0 x4).f1) - ((Zbk x0 x4).f0)))+1)))) (wrap64 (x4+1))))else(none))else(none))else(Za7.l0 k x0 (wrap64 (x3+(wrap64 ((wrap64 (((Zbk x0 x4).f1) - ((Zbk x0 x4).f0)))+1)))) (wrap64 (x4+1)))))else(some 20)))else(some 20)))else(none))else(if x3>4096 then(some 2)else(some 0))
def Za7.f (k:Nat) (l0:List (S82)):Option (Int):=Za7.l0 k l0 0 0
set_option maxRecDepth 100000 in
theorem Za7.calls (k : Nat) (A0 : Option Addr) (c0 : Nat) (l0 : List (S82)) (r : Int) (w : World) (hr0 : Kd.C k82 w A0 l0.length l0) (hc0 : l0.length ≤ c0) (h : Za7.f k l0 = some r) :
  Calls Tryz.prog 54 #[.slice A0 l0.length c0] w fun e w'=>e= .returned (.int .i64 r)∧Below w.heap.size w w':=by
 have HR0:=Za.mk hr0;clear hr0 hc0;have HB:=Za.mk (Below.refl w.heap.size w);have H':=Za.mk (show Za7.l0 k l0 0 0=some r from h);clear h;go_enter Tryz.func54,Tryz.ntmps54;go_wp2
 go_loopg [3,4] k (fun kq v3 v4 w'=>∃(s x:Int),v3= .int .i64 s∧v4= .int .i64 x∧Za (Za7.l0 kq l0 s x=some r)∧Za (kq≤k)∧Za (Below w.heap.size w w'))
 case atStart=>exact⟨0,0,rfl,rfl,H',⟨Nat.le_refl _⟩,⟨mvB HB.out⟩⟩
 case round=>
  clear H' HB;obtain⟨s,x,rfl,rfl,HA,HK1,HB⟩:=hrel
  cases gk with
  | zero => exact absurd HA.out (by simp [Za7.l0])
  |succ k1=>
   have H:=HA.out;clear HA;simp only[Za7.l0]at H;by_cases c2:x<(l0.length:Int);rotate_left
   ·rw [if_neg c2] at H
    have p1_:decide (x<(l0.length:Int))=false:=decide_eq_false c2;clear c2;by_cases c4:s>4096
    ·rw [if_pos c4] at H
     have d4_:decide (4096<s)=true:=decide_eq_true c4;clear c4;obtain rfl:=Option.some.inj H;clear H;go_wp2;go_ret;exact⟨rfl,mvB HB.out⟩
    rw[if_neg c4]at H;have d4_:decide (4096<s)=false:=decide_eq_false c4;clear c4;obtain rfl:=Option.some.inj H;clear H;go_wp2;go_ret;exact⟨rfl,mvB HB.out⟩
   rw[if_pos c2]at H;have p1_:decide (x<(l0.length:Int))=true:=decide_eq_true c2;by_cases c3:0≤x;rotate_left
   ·rw [if_neg c3] at H
    exact absurd H (by simp)
   rw[if_pos c3]at H;have p2_:decide (0≤x)=true:=decide_eq_true c3;obtain⟨ad,e_,hx0,hx1⟩:=Zem (Kd.Zac HR0.out HB.out) x c3 c2;cases e_;replace c2:=eq_true c2;replace c3:=eq_true c3
   generalize (Zbk l0 x).f0=a at hx0 H
   generalize (Zbk l0 x).f1=b at hx1 H
   obtain⟨va,hva,H2_⟩:=Option.bind_eq_some_iff.1 H;clear H;have H:=H2_;clear H2_;have HVa:=Za.mk hva;clear hva
   cases va with
   |false=>
    rw[if_neg Bool.false_ne_true]at H;obtain rfl:=Option.some.inj H;clear H;go_wp2;have HCa:Za (∀n,Calls Tryz.prog 73 #[.int .i64 a] (wr.drewN n) fun e w''=>e= .returned (.bool false)∧∃m,w''=wr.drewN m):=⟨fun n=>Calls.quiet_of ((Zbc.calls a _ _ HVa.out).mono fun e w' h_=>⟨h_.1,h_.2.out⟩)⟩
    go_quiet (with_reducible exact HCa.out _)
    go_wp2;go_ret;exact⟨rfl,mvB HB.out⟩
   |true=>
    rw[if_pos rfl]at H;obtain⟨vb,hvb,H2_⟩:=Option.bind_eq_some_iff.1 H;clear H;have H:=H2_;clear H2_;have HVb:=Za.mk hvb;clear hvb
    cases vb with
    |false=>
     rw[if_neg Bool.false_ne_true]at H;obtain rfl:=Option.some.inj H;clear H;go_wp2;have HCa:Za (∀n,Calls Tryz.prog 73 #[.int .i64 a] (wr.drewN n) fun e w''=>e= .returned (.bool true)∧∃m,w''=wr.drewN m):=⟨fun n=>Calls.quiet_of ((Zbc.calls a _ _ HVa.out).mono fun e w' h_=>⟨h_.1,h_.2.out⟩)⟩;have HCb:Za (∀n,Calls Tryz.prog 73 #[.int .i64 b] (wr.drewN n) fun e w''=>e= .returned (.bool false)∧∃m,w''=wr.drewN m):=⟨fun n=>Calls.quiet_of ((Zbc.calls b _ _ HVb.out).mono fun e w' h_=>⟨h_.1,h_.2.out⟩)⟩
     go_quiet (first|with_reducible exact HCa.out _|with_reducible exact HCb.out _)
     go_wp2;go_ret;exact⟨rfl,mvB HB.out⟩
    |true=>
     rw[if_pos rfl]at H;by_cases c9:a>b
     ·rw [if_pos c9] at H
      have d9_:decide (b<a)=true:=decide_eq_true c9;clear c9;obtain rfl:=Option.some.inj H;clear H;go_wp2;have HCa:Za (∀n,Calls Tryz.prog 73 #[.int .i64 a] (wr.drewN n) fun e w''=>e= .returned (.bool true)∧∃m,w''=wr.drewN m):=⟨fun n=>Calls.quiet_of ((Zbc.calls a _ _ HVa.out).mono fun e w' h_=>⟨h_.1,h_.2.out⟩)⟩;have HCb:Za (∀n,Calls Tryz.prog 73 #[.int .i64 b] (wr.drewN n) fun e w''=>e= .returned (.bool true)∧∃m,w''=wr.drewN m):=⟨fun n=>Calls.quiet_of ((Zbc.calls b _ _ HVb.out).mono fun e w' h_=>⟨h_.1,h_.2.out⟩)⟩
      go_quiet (first|with_reducible exact HCa.out _|with_reducible exact HCb.out _)
      go_wp2;go_ret;exact⟨rfl,mvB HB.out⟩
     rw[if_neg c9]at H;have d9_:decide (b<a)=false:=decide_eq_false c9;clear c9;by_cases c10:x>0;rotate_left
     ·rw [if_neg c10] at H
      have d10_:decide (0<x)=false:=decide_eq_false c10;clear c10;have H':=Za.mk H;clear H;go_wp2;have HCa:Za (∀n,Calls Tryz.prog 73 #[.int .i64 a] (wr.drewN n) fun e w''=>e= .returned (.bool true)∧∃m,w''=wr.drewN m):=⟨fun n=>Calls.quiet_of ((Zbc.calls a _ _ HVa.out).mono fun e w' h_=>⟨h_.1,h_.2.out⟩)⟩;have HCb:Za (∀n,Calls Tryz.prog 73 #[.int .i64 b] (wr.drewN n) fun e w''=>e= .returned (.bool true)∧∃m,w''=wr.drewN m):=⟨fun n=>Calls.quiet_of ((Zbc.calls b _ _ HVb.out).mono fun e w' h_=>⟨h_.1,h_.2.out⟩)⟩
      go_quiet (first|with_reducible exact HCa.out _|with_reducible exact HCb.out _)
      go_wp2
      go_quiet (fail)
      go_wp2
      go_roundg k1
      case measure=>exact Nat.lt_succ_self _
      case rel=>exact⟨_,_,(by first|rfl|(simp;done)|(simp[*];done)),(by first|rfl|(simp;done)|(simp[*];done)),H',⟨by have:=HK1.out;omega⟩,⟨mvB HB.out⟩⟩
     rw[if_pos c10]at H;have d10_:decide (0<x)=true:=decide_eq_true c10;clear c10;obtain⟨j,hj⟩:∃j_:Int,wrap64 (x - 1)=j_:=⟨_,rfl⟩;rw[hj]at H;have hjw:IntKind.i64.wrap (x - 1)=j:=(Zd5 _).trans hj;clear hj;by_cases c11:0≤j;case neg=>rw[if_neg c11]at H;exact absurd H (by simp)
     rw[if_pos c11]at H;by_cases c12:j<(l0.length:Int);case neg=>rw[if_neg c12]at H;exact absurd H (by simp)
     rw[if_pos c12]at H;obtain⟨ad2,e2_,hy0,hy1⟩:=Zem (Kd.Zac HR0.out HB.out) j c11 c12;obtain rfl:ad=ad2:=(by injection e2_);clear e2_;have d11_:decide (0≤j)=true:=decide_eq_true c11;have d12_:decide (j<(l0.length:Int))=true:=decide_eq_true c12;replace c11:=eq_true c11;replace c12:=eq_true c12
     generalize (Zbk l0 j).f1=q at hy1 H
     obtain⟨g,hg⟩:∃g_:Int,wrap64 (a - q)=g_:=⟨_,rfl⟩;rw[hg]at H;have hgw:IntKind.i64.wrap (a - q)=g:=(Zd5 _).trans hg;clear hg;by_cases c13:g<2
     ·rw [if_pos c13] at H
      have d13_:decide (g<2)=true:=decide_eq_true c13;clear c13;obtain rfl:=Option.some.inj H;clear H;go_wp2;have HCa:Za (∀n,Calls Tryz.prog 73 #[.int .i64 a] (wr.drewN n) fun e w''=>e= .returned (.bool true)∧∃m,w''=wr.drewN m):=⟨fun n=>Calls.quiet_of ((Zbc.calls a _ _ HVa.out).mono fun e w' h_=>⟨h_.1,h_.2.out⟩)⟩;have HCb:Za (∀n,Calls Tryz.prog 73 #[.int .i64 b] (wr.drewN n) fun e w''=>e= .returned (.bool true)∧∃m,w''=wr.drewN m):=⟨fun n=>Calls.quiet_of ((Zbc.calls b _ _ HVb.out).mono fun e w' h_=>⟨h_.1,h_.2.out⟩)⟩
      go_quiet (first|with_reducible exact HCa.out _|with_reducible exact HCb.out _)
      go_wp2;go_ret;exact⟨rfl,mvB HB.out⟩
     rw[if_neg c13]at H;have d13_:decide (g<2)=false:=decide_eq_false c13;clear c13;have H':=Za.mk H;clear H;go_wp2;have HCa:Za (∀n,Calls Tryz.prog 73 #[.int .i64 a] (wr.drewN n) fun e w''=>e= .returned (.bool true)∧∃m,w''=wr.drewN m):=⟨fun n=>Calls.quiet_of ((Zbc.calls a _ _ HVa.out).mono fun e w' h_=>⟨h_.1,h_.2.out⟩)⟩;have HCb:Za (∀n,Calls Tryz.prog 73 #[.int .i64 b] (wr.drewN n) fun e w''=>e= .returned (.bool true)∧∃m,w''=wr.drewN m):=⟨fun n=>Calls.quiet_of ((Zbc.calls b _ _ HVb.out).mono fun e w' h_=>⟨h_.1,h_.2.out⟩)⟩
     go_quiet (first|with_reducible exact HCa.out _|with_reducible exact HCb.out _)
     go_wp2
     go_quiet (fail)
     go_wp2
     go_roundg k1
     case measure=>exact Nat.lt_succ_self _
     case rel=>exact⟨_,_,(by first|rfl|(simp;done)|(simp[*];done)),(by first|rfl|(simp;done)|(simp[*];done)),H',⟨by have:=HK1.out;omega⟩,⟨mvB HB.out⟩⟩
end Go.Proofs.YtdpieallpbllkaaGreat.P
/- Whether ranges are a domain: the program's answer and the document's. -/
namespace Go.Proofs.YtdpieallpbllkaaGreat.P
open Go.RowKit Go.Proofs.YtdpieallpbllkaaGreatW.PrintWords Go.Proofs.YtdpieallpbllkaaGreatW.PrintLast Go.Proofs.YtdpieallpbllkaaGreatW.PrintMore
def isVal (v:Int):Bool:=decide (-1048576≤v) && decide (v≤1048576)
theorem Ze5 (x:Int):isVal x=true↔ -1048576≤x∧x≤1048576:=by simp[isVal]
theorem Zdr (x:Int):Zbc.f x=some (isVal x):=by
  unfold Zbc.f isVal;by_cases h:x≥ -1048576
  · rw[if_pos h];simp[decide_eq_true h]
  rw[if_neg h];have:decide (-1048576≤x)=false:=decide_eq_false h;simp[this]
theorem value_f (x:Int):Zda.f x=some (isVal x):=by
  unfold Zda.f isVal;by_cases h:x≥ -1048576
  · rw[if_pos h];simp[decide_eq_true h]
  rw[if_neg h];have:decide (-1048576≤x)=false:=decide_eq_false h;simp[this]
theorem Size_l0 (d : List Rg) (hl : d.length ≤ 3000000) {b : Int} (hd : Gd 1048576 b d) (hb : -1048576 ≤ b) : ∀ (m n : Nat) (s : Int), n + m = d.length → 0 ≤ s → s + (vals (d.drop n)).length ≤ 3000000 →
    Ev (fun k=>Zcl.l0 k s d (d.length:Int) (n:Int)) (s+(vals (d.drop n)).length):=by
  intro m
  induction m with
  |zero=>
    intro n s h h0 h1;rw[drop_nil' h];exact Ev.step (G:=fun _=>some s) (fun k=>by rw[Zcl.l0,if_neg (by omega)]) (Ev.const (by simp[vals]))
  |succ m ih=>
    intro n s h h0 h1;have hn:n<d.length:=by omega
    have hg:=hd.drop n;rw[List.drop_eq_getElem_cons hn]at hg;obtain⟨g1,g2,g3,g4⟩:=hg
    have e:(vals (d.drop n)).length=(d[n].f1+1 - d[n].f0).toNat+(vals (d.drop (n+1))).length:=by
      rw[List.drop_eq_getElem_cons hn,vals,List.length_append];have:=Zf7 (d[n].f1+1 - d[n].f0).toNat d[n].f0 d[n].f1
      omega
    rw[e]at h1 ⊢;refine Ev.step (fun k=>by rw[Zcl.l0,if_pos (by omega),if_pos (by omega),if_pos (by omega),show Zbk d (n:Int)=d[n]from Zfe d n hn,w64 (n:=d[n].f1 - d[n].f0) (by omega) (by omega),w64 (n:=d[n].f1 - d[n].f0+1) (by omega) (by omega),w64 (n:=s+(d[n].f1 - d[n].f0+1)) (by omega) (by omega),w1 (by omega)]) ?_;have:=ih (n+1) (s+(d[n].f1 - d[n].f0+1)) (by omega) (by omega) (by omega)
    rwa [show s+(d[n].f1 - d[n].f0+1)+((vals (d.drop (n+1))).length:Int)=s+(((d[n].f1+1 - d[n].f0).toNat+(vals (d.drop (n+1))).length:Nat):Int) by omega]at this
theorem Size_ev (d:List Rg) {b:Int} (hd:Gd 1048576 b d) (hb: -1048576≤b):Ev (fun k=>Zcl.f k d) (vals d).length:=by
  have h1:=Zdz hd;have h2:=Zdv hd;have:=Size_l0 d (by omega) hd hb d.length 0 0 (by omega) (by omega) (by simp;omega);simp only[Int.zero_add,List.drop_zero]at this;exact this
def rb : Int → List Rg → Bool
  | _, [] => true
  |b,x::d=>isVal x.f0 && isVal x.f1 && decide (x.f0≤x.f1) && decide (b≤x.f0) && rb (x.f1+2) d
theorem rb_good : ∀ {b : Int} {d : List Rg}, rb b d = true → Gd 1048576 b d
  | _, [], _ => trivial
  |b,x::d,h=>by
    simp only[rb,Bool.and_eq_true,decide_eq_true_iff]at h;obtain⟨⟨⟨⟨h1,h2⟩,h3⟩,h4⟩,h5⟩:=h;exact⟨h4,h3,((Ze5 _).1 h2).2,rb_good h5⟩
theorem Zhr : ∀ d e : List Rg, vals (d ++ e) = vals d ++ vals e
  | [], e => rfl
  |x::d,e=>by rw[List.cons_append,vals,vals,Zhr d e,List.append_assoc]
def checkSpec (d:List Rg):Int:=if rb (-1048576) d=true then(if(vals d).length>4096 then 2 else 0)else 20
theorem Zc8 (v:Int):Zda.f v=some (isVal v):=value_f v
theorem Zf2 (d:List Rg) (n:Nat) (hn:n<d.length):endB (-1048576) (d.take (n+1))=d[n].f1+2:=by rw[List.take_succ_eq_append_getElem hn,Zf1]
theorem right_l0 (d : List Rg) (hl : d.length < 4611686018427387904) : ∀ (m n : Nat), n + m = d.length → (0 < n → ∀ h : n - 1 < d.length, isVal d[n - 1].f1 = true) →
    Ev (fun k=>Zca.l0 k d d (d.length:Int) (n:Int)) (rb (endB (-1048576) (d.take n)) (d.drop n)):=by
  intro m
  induction m with
  |zero=>
    intro n h _;rw[drop_nil' h];exact Ev.step (G:=fun _=>some true) (fun k=>by rw[Zca.l0,if_neg (by omega)]) (Ev.pure _)
  |succ m ih=>
    intro n h hp;have hn:n<d.length:=by omega
    rw[List.drop_eq_getElem_cons hn,rb];have hat:=show Zbk d (n:Int)=d[n]from Zfe d n hn
    cases h0:isVal d[n].f0 with
    | false => exact Ev.step (G := fun _ => some false) (fun k => by rw [Zca.l0, if_pos (by omega), if_pos (by omega), if_pos (by omega), hat, Zc8, Option.bind_some, if_neg (by rw [h0]; simp)]) (Ev.const (by simp))
    |true=>
      cases h1:isVal d[n].f1 with
      | false => exact Ev.step (G := fun _ => some false) (fun k => by rw [Zca.l0, if_pos (by omega), if_pos (by omega), if_pos (by omega), hat, Zc8, Option.bind_some, if_pos h0, Zc8, Option.bind_some, if_neg (by rw [h1]; simp)]) (Ev.const (by simp))
      |true=>
        have b0:=(Ze5 _).1 h0;have b1:=(Ze5 _).1 h1;by_cases h2:d[n].f0>d[n].f1
        · have hnle : ¬ d[n].f0 ≤ d[n].f1 := by omega
          exact Ev.step (G:=fun _=>some false) (fun k=>by rw[Zca.l0,if_pos (by omega),if_pos (by omega),if_pos (by omega),hat,Zc8,Option.bind_some,if_pos h0,Zc8,Option.bind_some,if_pos h1,if_pos h2]) (Ev.const (by simp[hnle]))
        have hle:d[n].f0≤d[n].f1:=by omega
        have hnext:=ih (n+1) (by omega) (fun _ _=>h1);rw[Zf2 d n hn]at hnext;have e:∀b,((true && true && decide (d[n].f0≤d[n].f1) && decide (b≤d[n].f0) && rb (d[n].f1+2) (d.drop (n+1))))=(decide (b≤d[n].f0) && rb (d[n].f1+2) (d.drop (n+1))):=fun b=>by simp[hle]
        rw[e]
        rcases Nat.eq_zero_or_pos n with rfl|hpos
        · have e2 : decide (endB (-1048576) (d.take 0) ≤ d[0].f0) = true := decide_eq_true (by simp [endB]; omega)
          rw[e2,Bool.true_and];exact Ev.step (fun k=>by rw[Zca.l0,if_pos (by omega),if_pos (by omega),if_pos (by omega),hat,Zc8,Option.bind_some,if_pos h0,Zc8,Option.bind_some,if_pos h1,if_neg h2,if_neg (by omega),w1 (by omega)]) hnext
        have hn1:n - 1<d.length:=by omega
        have hprev:=(Ze5 _).1 (hp hpos hn1);have e3:endB (-1048576) (d.take n)=d[n - 1].f1+2:=by have:=Zf2 d (n - 1) hn1;rwa [show n - 1+1=n by omega]at this
        have e4:wrap64 ((n:Int) - 1)=((n - 1:Nat):Int):=by rw[w64 (by omega) (by omega)];omega
        have hat1:=show Zbk d ((n - 1:Nat):Int)=d[n - 1]from Zfe d (n - 1) hn1
        rw[e3];by_cases h3:d[n].f0<d[n - 1].f1+2;rotate_left
        · rw [decide_eq_true (show d[n - 1].f1 + 2 ≤ d[n].f0 by omega), Bool.true_and]
          exact Ev.step (fun k=>by rw[Zca.l0,if_pos (by omega),if_pos (by omega),if_pos (by omega),hat,Zc8,Option.bind_some,if_pos h0,Zc8,Option.bind_some,if_pos h1,if_neg h2,if_pos (by omega),e4,if_pos (by omega),if_pos (by omega),hat1,w64 (n:=d[n - 1].f1+2) (by omega) (by omega),if_neg h3,w1 (by omega)]) hnext
        rw[decide_eq_false (show ¬d[n - 1].f1+2≤d[n].f0 by omega),Bool.false_and];exact Ev.step (G:=fun _=>some false) (fun k=>by rw[Zca.l0,if_pos (by omega),if_pos (by omega),if_pos (by omega),hat,Zc8,Option.bind_some,if_pos h0,Zc8,Option.bind_some,if_pos h1,if_neg h2,if_pos (by omega),e4,if_pos (by omega),if_pos (by omega),hat1,w64 (n:=d[n - 1].f1+2) (by omega) (by omega),if_pos h3]) (Ev.pure _)
theorem dom_Check_ev (d:List Rg) (hl:d.length<4611686018427387904):Ev (fun k=>Zd4.f k d) (checkSpec d):=by
  refine Ev.bind (a:=rb (-1048576) d) (by have:=right_l0 d hl d.length 0 (by omega) (fun h=>by omega);exact this) ?_;unfold checkSpec;by_cases h:rb (-1048576) d=true;rotate_left
  · rw [if_neg h]
    simp only[if_neg h];exact Ev.pure _
  rw[if_pos h];simp only[if_pos h];refine Ev.bind (Size_ev d (rb_good h) (Int.le_refl _)) ?_;by_cases h2:(vals d).length>4096
  · rw[if_pos h2];exact Ev.Zak (by omega) (Ev.pure _)
  rw[if_neg h2];exact Ev.Zat (c:=((vals d).length:Int)>4096) (by omega) (Ev.pure _)
theorem ref_Check_l0 (d : List Rg) (hl : d.length < 4611686018427387904) : ∀ (m n : Nat) (s : Int), n + m = d.length → Gd 1048576 (-1048576) (d.take n) → s = (vals (d.take n)).length →
    Ev (fun k=>Za7.l0 k d s (n:Int)) (if rb (endB (-1048576) (d.take n)) (d.drop n)=true then(if(vals d).length>4096 then 2 else 0)else 20):=by
  intro m
  induction m with
  |zero=>
    intro n s h hg hs;rw[drop_nil' h,rb,if_pos rfl];rw[List.take_of_length_le (by omega)]at hs;subst hs;refine Ev.step (fun k=>by rw[Za7.l0,if_neg (by omega)]) ?_;by_cases h2:(vals d).length>4096
    · rw[if_pos h2];exact Ev.Zak (by omega) (Ev.pure _)
    rw[if_neg h2];exact Ev.Zat (c:=((vals d).length:Int)>4096) (by omega) (Ev.pure _)
  |succ m ih=>
    intro n s h hg hs;have hn:n<d.length:=by omega
    rw[List.drop_eq_getElem_cons hn,rb];have hat:=show Zbk d (n:Int)=d[n]from Zfe d n hn
    have hvl:=Zdz hg
    cases h0:isVal d[n].f0 with
    | false => exact Ev.step (G := fun _ => some 20) (fun k => by rw [Za7.l0, if_pos (by omega), if_pos (by omega), hat, Zdr, Option.bind_some, if_neg (by rw [h0]; simp)]) (Ev.const (by simp))
    |true=>
      cases h1:isVal d[n].f1 with
      | false => exact Ev.step (G := fun _ => some 20) (fun k => by rw [Za7.l0, if_pos (by omega), if_pos (by omega), hat, Zdr, Option.bind_some, if_pos h0, Zdr, Option.bind_some, if_neg (by rw [h1]; simp)]) (Ev.const (by simp))
      |true=>
        have b0:=(Ze5 _).1 h0;have b1:=(Ze5 _).1 h1;by_cases h2:d[n].f0>d[n].f1
        · have hnle : ¬ d[n].f0 ≤ d[n].f1 := by omega
          exact Ev.step (G:=fun _=>some 20) (fun k=>by rw[Za7.l0,if_pos (by omega),if_pos (by omega),hat,Zdr,Option.bind_some,if_pos h0,Zdr,Option.bind_some,if_pos h1,if_pos h2]) (Ev.const (by simp[hnle]))
        have hle:d[n].f0≤d[n].f1:=by omega
        have e:∀b,((true && true && decide (d[n].f0≤d[n].f1) && decide (b≤d[n].f0) && rb (d[n].f1+2) (d.drop (n+1))))=(decide (b≤d[n].f0) && rb (d[n].f1+2) (d.drop (n+1))):=fun b=>by simp[hle]
        rw[e];have hul:=Zf7 (d[n].f1+1 - d[n].f0).toNat d[n].f0 d[n].f1
        have hv1:((vals (d.take (n+1))).length:Int)=(vals (d.take n)).length+(d[n].f1 - d[n].f0+1):=by
          rw[List.take_succ_eq_append_getElem hn,Zhr,List.length_append];simp only[vals,List.append_nil]
          omega
        have w2:wrap64 (s+wrap64 (wrap64 (d[n].f1 - d[n].f0)+1))=((vals (d.take (n+1))).length:Int):=by
          rw[w64 (n:=d[n].f1 - d[n].f0) (by omega) (by omega),w64 (n:=d[n].f1 - d[n].f0+1) (by omega) (by omega),w64 (n:=s+_) (by omega) (by omega)]
          omega
        have hnext:endB (-1048576) (d.take n)≤d[n].f0→_:=fun hh=>ih (n+1) ((vals (d.take (n+1))).length:Int) (by omega) (by rw[List.take_succ_eq_append_getElem hn];exact Gd_snoc.2 ⟨hg,hh,hle,b1.2⟩) rfl
        rw[Zf2 d n hn]at hnext
        rcases Nat.eq_zero_or_pos n with rfl|hpos
        · have hh : endB (-1048576) (d.take 0) ≤ d[0].f0 := by simp [endB]; omega
          rw[decide_eq_true hh,Bool.true_and];exact Ev.step (fun k=>by rw[Za7.l0,if_pos (by omega),if_pos (by omega),hat,Zdr,Option.bind_some,if_pos h0,Zdr,Option.bind_some,if_pos h1,if_neg h2,if_neg (by omega),w2,w1 (by omega)]) (hnext hh)
        have hn1:n - 1<d.length:=by omega
        have e3:endB (-1048576) (d.take n)=d[n - 1].f1+2:=by have:=Zf2 d (n - 1) hn1;rwa [show n - 1+1=n by omega]at this
        have hprev: -1048576≤d[n - 1].f1∧d[n - 1].f1≤1048576:=by
          have:d.take n=d.take (n - 1)++ [d[n - 1]]:=by have:=List.take_succ_eq_append_getElem hn1;rwa [show n - 1+1=n by omega]at this
          rw[this]at hg;obtain⟨g1,g2,g3,g4⟩:=Gd_snoc.1 hg;have:=g1.end_ge
          omega
        have e4:wrap64 ((n:Int) - 1)=((n - 1:Nat):Int):=by rw[w64 (by omega) (by omega)];omega
        have hat1:=show Zbk d ((n - 1:Nat):Int)=d[n - 1]from Zfe d (n - 1) hn1
        rw[e3]at hnext ⊢;by_cases h3:d[n].f0 - d[n - 1].f1<2;rotate_left
        · rw [decide_eq_true (show d[n - 1].f1 + 2 ≤ d[n].f0 by omega), Bool.true_and]
          exact Ev.step (fun k=>by rw[Za7.l0,if_pos (by omega),if_pos (by omega),hat,Zdr,Option.bind_some,if_pos h0,Zdr,Option.bind_some,if_pos h1,if_neg h2,if_pos (by omega),e4,if_pos (by omega),if_pos (by omega),hat1,w64 (n:=d[n].f0 - d[n - 1].f1) (by omega) (by omega),if_neg h3,w2,w1 (by omega)]) (hnext (by omega))
        rw[decide_eq_false (show ¬d[n - 1].f1+2≤d[n].f0 by omega),Bool.false_and];exact Ev.step (G:=fun _=>some 20) (fun k=>by rw[Za7.l0,if_pos (by omega),if_pos (by omega),hat,Zdr,Option.bind_some,if_pos h0,Zdr,Option.bind_some,if_pos h1,if_neg h2,if_pos (by omega),e4,if_pos (by omega),if_pos (by omega),hat1,w64 (n:=d[n].f0 - d[n - 1].f1) (by omega) (by omega),if_pos h3]) (Ev.const (by simp))
theorem ref_Check_ev (d:List Rg) (hl:d.length<4611686018427387904):Ev (fun k=>Za7.f k d) (checkSpec d):=by
  have:=ref_Check_l0 d hl d.length 0 0 (by omega) trivial rfl;exact this
end Go.Proofs.YtdpieallpbllkaaGreat.P
/- May a model be: model.Check in plain words. -/
namespace Go.Proofs.YtdpieallpbllkaaGreat.P
open Go.RowKit Go.Proofs.YtdpieallpbllkaaGreatW.PrintWords Go.Proofs.YtdpieallpbllkaaGreatW.PrintLast Go.Proofs.YtdpieallpbllkaaGreatW.PrintMore
def nameB (s:ByteArray):Bool:= !decide (s.size=0) && (decide (s.size≤16) && nameGo s s.size 0)
def chkV : List S55 → List ByteArray → Int
  | [], _ => 0
  |v::vs,had=>if nameB v.f0=false then 40 else if hasN had v.f0=true then 41 else if v.f1.length=0 then 42 else if checkSpec v.f1=0 then chkV vs (had++ [v.f0])else 42
theorem chkV_ev : ∀ (vs : List S55) (had : List ByteArray), (∀ v ∈ vs, v.f1.length ≤ 1000000) → Ev (fun k => Zes k vs had) (chkV vs had)
  | [], _, _ => Ev.const rfl
  |v::vs,had,h=>by
    have hv:=h v List.mem_cons_self;unfold Zes chkV;refine Ev.bind (a:=nameB v.f0) (Ev.const rfl) ?_;by_cases q1:nameB v.f0=false
    · rw[if_pos q1];exact Ev.Zak q1 (Ev.const rfl)
    rw[if_neg q1];refine Ev.Zat q1 ?_;by_cases q2:hasN had v.f0=true
    · rw[if_pos q2];exact Ev.Zak q2 (Ev.const rfl)
    rw[if_neg q2];refine Ev.Zat q2 ?_;by_cases q3:v.f1.length=0
    · rw[if_pos q3];exact Ev.Zak q3 (Ev.const rfl)
    rw[if_neg q3];refine Ev.Zat q3 (Ev.bind (dom_Check_ev v.f1 (by omega)) ?_);by_cases q4:checkSpec v.f1=0;rotate_left
    · rw[if_neg q4];exact Ev.Zat q4 (Ev.const rfl)
    rw[if_pos q4];exact Ev.Zak q4 (chkV_ev vs _ (fun x hx=>h x (List.mem_cons_of_mem _ hx)))
theorem Zgm {d:List Rg} (h:checkSpec d=0):Gd 1048576 (-1048576) d:=by
  unfold checkSpec at h;by_cases q:rb (-1048576) d=true
  · exact rb_good q
  rw[if_neg q]at h;exact absurd h (by decide)
theorem chkV_ok : ∀ (vs : List S55) (had : List ByteArray), chkV vs had = 0 → ∀ v ∈ vs, Gd 1048576 (-1048576) v.f1 ∧ v.f1 ≠ []
  | [], _, _, v, hv => absurd hv List.not_mem_nil
  |x::vs,had,h,v,hv=>by
    unfold chkV at h;by_cases q1:nameB x.f0=false
    · rw[if_pos q1]at h;exact absurd h (by decide)
    rw[if_neg q1]at h;by_cases q2:hasN had x.f0=true
    · rw[if_pos q2]at h;exact absurd h (by decide)
    rw[if_neg q2]at h;by_cases q3:x.f1.length=0
    · rw[if_pos q3]at h;exact absurd h (by decide)
    rw[if_neg q3]at h;by_cases q4:checkSpec x.f1=0;rotate_left
    · rw[if_neg q4]at h;exact absurd h (by decide)
    rw[if_pos q4]at h
    rcases List.mem_cons.1 hv with e|hv
    · subst e
      exact⟨Zgm q4,fun e=>q3 (by rw[e];rfl)⟩
    exact chkV_ok vs _ h v hv
theorem doms_loop (vars : List S55) (hl : vars.length ≤ 1000000) (hr : ∀ v ∈ vars, v.f1.length ≤ 1000000) : ∀ (d n : Nat) (acc : List (List Rg)), n + d = vars.length → acc.length ≤ n → Ev (fun k => Zb7.l0 k acc vars (vars.length : Int) (n : Int)) (acc ++ (vars.drop n).map fun v => v.f1)
  |0,n,acc,h,ha=>by
    rw[List.drop_eq_nil_of_le (by omega),List.map_nil,List.append_nil];exact Ev.step (G:=fun _=>some acc) (fun k=>by rw[Zb7.l0,if_neg (by omega)]) (Ev.const rfl)
  |d+1,n,acc,h,ha=>by
    have hn:n<vars.length:=by omega
    have hrd:Za9 vars (n:Int)=vars[n]:=by simp[Za9,List.getD_eq_getElem?_getD,List.getElem?_eq_getElem hn]
    have hq:=hr _ (List.getElem_mem hn);have ih:=doms_loop vars hl hr d (n+1) (acc++ [vars[n].f1]) (by omega) (by simp;omega);rw[List.drop_eq_getElem_cons hn,List.map_cons];rw[List.append_assoc,List.singleton_append]at ih
    have hc:cloneR.f vars[n].f1=some vars[n].f1:=by
      unfold cloneR.f
      first|rfl|(rw[if_pos (by omega)])|(rw[if_neg (by omega)])
    refine Ev.step (fun k=>by rw[Zb7.l0,if_pos (by omega),if_pos (by omega),if_pos (by omega),hrd]) (Ev.bind (a:=vars[n].f1) (Ev.const hc) ?_);rw[w1 (by omega)];have hlt:acc.length<5864062014805:=by omega
    exact Ev.Zak hlt ih
def domsOf (vars:List S55):List (List Rg):=vars.map fun v=>v.f1
theorem doms_ev (vars:List S55) (cons:List S36) (gk:Int) (gv gc:List Int) (hl:vars.length≤1000000) (hr:∀v ∈ vars,v.f1.length≤1000000):Ev (fun k=>Zb7.f k vars cons gk gv gc) (domsOf vars):=doms_loop vars hl hr vars.length 0 [] (by omega) (by simp)
def okC (c:S36):Prop:=c.f1.length≤1000000∧c.f2.length≤1000000∧(∀x ∈ c.f2,-9223372036854775808≤x)∧ -9223372036854775808≤c.f4
def conC (d:List (List Rg)) (c:S36):Int:=conE d c.f0 c.f1 c.f2 c.f3 c.f4 c.f5 c.f6
def chkC (d : List (List Rg)) : List S36 → Int
  | [] => 0
  |c::cs=>if conC d c=0 then chkC d cs else conC d c
theorem chkC_ev (d : List (List Rg)) (hd : ∀ x ∈ d, Gd 1048576 (-1048576) x) : ∀ cs : List S36, (∀ c ∈ cs, okC c) → Ev (fun k => Zer k d cs) (chkC d cs)
  | [], _ => Ev.const rfl
  |c::cs,h=>by
    obtain⟨h1,h2,h3,h4⟩:=h c List.mem_cons_self;unfold Zer chkC;refine Ev.bind (con_evB d hd c.f0 c.f1 c.f2 c.f3 c.f4 c.f5 c.f6 h1 h2 h3 h4) ?_;by_cases q:conC d c=0;rotate_left
    · rw[if_neg q];exact Ev.Zat q (Ev.const rfl)
    rw[if_pos q];exact Ev.Zak q (chkC_ev d hd cs (fun x hx=>h x (List.mem_cons_of_mem _ hx)))
theorem chkC_ok {d : List (List Rg)} : ∀ {cs : List S36}, chkC d cs = 0 → ∀ c ∈ cs, conC d c = 0
  | [], _, c, hc => absurd hc List.not_mem_nil
  |x::cs,h,c,hc=>by
    unfold chkC at h;by_cases q:conC d x=0;rotate_left
    · rw [if_neg q] at h
      exact absurd h q
    rw[if_pos q]at h
    rcases List.mem_cons.1 hc with e|hc
    · subst e;exact q
    exact chkC_ok h c hc
def goalE (d:List (List Rg)) (gk:Int) (gv gc:List Int):Int:=
  if gk=0 then if 0<gv.length then 44 else if 0<gc.length then 44 else 0
  else if gk=1∨gk=2 then conE d 0 gv gc 0 0 [] 0 else 44
theorem goal_evB (d:List (List Rg)) (hd:∀x ∈ d,Gd 1048576 (-1048576) x) (gk:Int) (gv gc:List Int) (h1:gv.length≤1000000) (h2:gc.length≤1000000) (hw:∀c ∈ gc,-9223372036854775808≤c):Ev (fun k=>Zdx.f k d gk gv gc) (goalE d gk gv gc):=by
  have hc:=con_evB d hd 0 gv gc 0 0 [] 0 h1 h2 hw (by omega);unfold Zdx.f goalE;by_cases q0:gk=0
  · rw [if_pos q0]; refine Ev.Zak q0 ?_
    by_cases q1:0<gv.length
    · rw[if_pos q1];exact Ev.Zak (by omega) (Ev.const rfl)
    rw[if_neg q1];refine Ev.Zat (by omega) ?_;by_cases q2:0<gc.length
    · rw[if_pos q2];exact Ev.Zak (by omega) (Ev.const rfl)
    rw[if_neg q2];exact Ev.Zat (by omega) (Ev.const rfl)
  rw[if_neg q0];refine Ev.Zat q0 ?_;by_cases q1:gk=1
  · rw[if_pos (.inl q1)];exact Ev.Zak q1 (Ev.bind hc (Ev.const rfl))
  refine Ev.Zat q1 ?_;by_cases q2:gk=2;rotate_left
  · rw[if_neg (by omega)];exact Ev.Zat q2 (Ev.const rfl)
  rw[if_pos (.inr q2)];exact Ev.Zak q2 (Ev.bind hc (Ev.const rfl))
def chkE (vars:List S55) (cons:List S36) (gk:Int) (gv gc:List Int):Int:=
  if 64<vars.length∨256<cons.length then 2
  else if chkV vars []=0 then if chkC (domsOf vars) cons=0 then goalE (domsOf vars) gk gv gc else chkC (domsOf vars) cons
  else chkV vars []
theorem check_evB (vars:List S55) (cons:List S36) (gk:Int) (gv gc:List Int) (hr:∀v ∈ vars,v.f1.length≤1000000) (hc:∀c ∈ cons,okC c) (h1:gv.length≤1000000) (h2:gc.length≤1000000) (hw:∀c ∈ gc,-9223372036854775808≤c):Ev (fun k=>Zdm.f k vars cons gk gv gc) (chkE vars cons gk gv gc):=by
  unfold Zdm.f chkE;by_cases q0:64<vars.length∨256<cons.length
  · rw[if_pos q0];exact Ev.Zak q0 (Ev.const rfl)
  rw[if_neg q0];refine Ev.Zat q0 (Ev.bind (chkV_ev vars [] hr) ?_);by_cases q1:chkV vars []=0;rotate_left
  · rw[if_neg q1];exact Ev.Zat q1 (Ev.const rfl)
  rw[if_pos q1]
  have hd:∀x ∈ domsOf vars,Gd 1048576 (-1048576) x:=fun x hx=>by
    obtain⟨v,hv,rfl⟩:=List.mem_map.1 hx;exact(chkV_ok vars [] q1 v hv).1
  refine Ev.Zak q1 (Ev.bind (doms_ev vars cons gk gv gc (by omega) hr) (Ev.bind (chkC_ev _ hd cons hc) ?_));by_cases q2:chkC (domsOf vars) cons=0;rotate_left
  · rw[if_neg q2];exact Ev.Zat q2 (Ev.const rfl)
  rw[if_pos q2];exact Ev.Zak q2 (goal_evB _ hd gk gv gc h1 h2 hw)
theorem chkE_ok {vars:List S55} {cons:List S36} {gk:Int} {gv gc:List Int} (h:chkE vars cons gk gv gc=0):∀c ∈ cons,conC (domsOf vars) c=0:=by
  unfold chkE at h
  split at h
  · exact absurd h (by decide)
  split at h
  · split at h
    · rename_i q;exact chkC_ok q
    rename_i q;exact absurd h q
  rename_i q;exact absurd h q
end Go.Proofs.YtdpieallpbllkaaGreat.P
namespace Go.Proofs.YtdpieallpbllkaaGreat.P
open Go.RowKit Go.Proofs.YtdpieallpbllkaaGreatW.PrintWords Go.Proofs.YtdpieallpbllkaaGreatW.PrintLast Go.Proofs.YtdpieallpbllkaaGreatW.PrintMore
attribute [local go_sem] Zcw Zcy Zdg Zdh Zco Zcp Zcx Zcz
def Zbh.l0 : Nat → List (List Int) → List (List Int) → Int → Option ((List (List Int)))
 | 0, _, _, _ => none
 |k+1,x0,x3,x4=>if x4<(x0.length:Int)then((some (([]:List Int):List Int)).bind fun y104=>(if 0≤x4 then(if y104.length+(Zb3 x0 x4).length<17592186044416 then(if x3.length<5864062014805 then(Zbh.l0 k x0 (x3++ [(y104++(Zb3 x0 x4))]) (wrap64 (x4+1)))else(none))else(none))else(none)))else(some x3)
def Zbh.f (k:Nat) (l0:List (List Int)):Option ((List (List Int))):=Zbh.l0 k l0 (([]:List (List Int))) 0
set_option maxRecDepth 100000 in
theorem Zbh.calls (k : Nat) (A0 : Option Addr) (c0 : Nat) (l0 : List (List Int)) (r : List (List Int)) (w : World) (hr0 : Kd.C (Kd.slice 3 (Kd.int .i64)) w A0 l0.length l0) (hc0 : l0.length ≤ c0) (h : Zbh.f k l0 = some r) :
  Calls Tryz.prog 72 #[.slice A0 l0.length c0] w fun e w'=>∃v0_:Value,e= .returned (v0_)∧Kd.S (Kd.slice 3 (Kd.int .i64)) 24 w' w.heap.size (fun _=>True) v0_ r∧Below w.heap.size w w':=by
 have HR0:=Za.mk hr0;have HC0:=Za.mk hc0;clear hr0 hc0;have HB:=Za.mk (Below.refl w.heap.size w);have H:(Zbh.l0 k l0 (([]:List (List Int))) 0)=some r:=h;clear h;obtain⟨y101,hy101⟩:∃y_:List (List Int),y_=(([]:List (List Int))):=⟨_,rfl⟩;replace H:(Zbh.l0 k l0 y101 0)=some r:=by first|(rw[hy101];with_reducible exact H)|(have H2_:=(Option.bind_some _ _).symm.trans H;rw[hy101];with_reducible exact H2_)|(have H2_:=(Option.bind_some _ _).symm.trans H;with_reducible exact H2_)|with_reducible exact H|(rw[hy101];exact H)|exact H
 have Qy:=Za.mk hy101;clear hy101;have H':=Za.mk H;clear H;go_enter Tryz.func72,Tryz.ntmps72
 go_wp2_with (first|((with_reducible refine Zar (N:=5) rfl ?_);refine Kd.S_lit (Kd.slice 3 (Kd.int .i64)) _ 24 ?hg (N:=5) ?hd (xs:=([]:List (List Int))) (inner:= []) (ok:=fun _=>True) (okp:=fun _=>True) ?hr ?hp (fun _ hk=>hk) trivial (Below.refl _ _) (Nat.le_refl _) (by simp) ?_;(case hd=>rfl);(case hg=>rfl);(case hr=>first|(go_simp;done)|(go_simp;rfl));(case hp=>exact(Reps.none _ _));intro o5a w2 ho3 hb hg_ hnew_;clear hg_ hnew_;(first|rw[←Qy.out]at ho3|(simp only[Int.reduceToNat]at ho3;rw[←Qy.out]at ho3));have WG:=Za.mk (Kd.Zgz ho3 (Zaf (bM HB.out)));replace HB:=Za.mk (bS HB.out hb);clear hb ho3))
 go_loopg [3,4] k (fun kq v3 v4 w'=>∃(af:List (List Int)) (ah:Int),v4= .int .i64 ah∧Za (Zbh.l0 kq l0 af ah=some r)∧Za (kq≤k)∧Za (Kd.S (Kd.slice 3 (Kd.int .i64)) 24 w' w.heap.size (fun _=>True) v3 af)∧Za (Below w.heap.size w w'))
 case atStart=>exact⟨(y101),(0),eS,H',⟨Nat.le_refl _⟩,⟨sM WG.out⟩,⟨bM HB.out⟩⟩
 case round=>
  clear H';try clear p2
  obtain⟨af,ah,rfl,HA,HK1,aN,HB⟩:=hrel
  cases gk with
  | zero => exact absurd HA.out (by simp [Zbh.l0])
  |succ k1=>
   have H:=HA.out;clear HA;simp only[Zbh.l0]at H;by_cases c4:ah<(l0.length:Int)
   case neg=>
    rw[if_neg c4]at H;have dC:decide (ah<(l0.length:Int))=false:=decide_eq_false c4;clear c4;obtain rfl:=sj H;go_wp2;go_ret;exact⟨_,eR,sM aN.out,bM HB.out⟩
   rw[if_pos c4]at H;have dC:decide (ah<(l0.length:Int))=true:=decide_eq_true c4;clear c4;obtain⟨y104,hy104⟩:∃y_:List Int,y_=(([]:List Int)):=⟨_,rfl⟩;replace H:(if 0≤ah then(if y104.length+(Zb3 l0 ah).length<17592186044416 then(if af.length<5864062014805 then(Zbh.l0 k1 l0 (af++ [(y104++(Zb3 l0 ah))]) (wrap64 (ah+1)))else(none))else(none))else(none))=some r:=by first|(rw[hy104];with_reducible exact H)|(have H2_:=(Option.bind_some _ _).symm.trans H;rw[hy104];with_reducible exact H2_)|(have H2_:=(Option.bind_some _ _).symm.trans H;with_reducible exact H2_)|with_reducible exact H|(rw[hy104];exact H)|exact H
   have Qz:=Za.mk hy104;clear hy104;obtain⟨dw,H⟩:=ifT H;obtain⟨c6,H⟩:=ifP H;have Oh:=Za.mk c6;clear c6;obtain⟨IG,Cu⟩:∃y_:List Int,y_=(y104++(Zb3 l0 ah)):=⟨_,rfl⟩;replace H:(if af.length<5864062014805 then(Zbh.l0 k1 l0 (af++ [IG]) (wrap64 (ah+1)))else(none))=some r:=by first|(rw[Cu];with_reducible exact H)|(have H2_:=(Option.bind_some _ _).symm.trans H;rw[Cu];with_reducible exact H2_)|(have H2_:=(Option.bind_some _ _).symm.trans H;with_reducible exact H2_)|with_reducible exact H|(rw[Cu];exact H)|exact H
   have Xl:=Za.mk Cu;clear Cu;obtain⟨c7,H⟩:=ifP H;have zH:=Za.mk c7;clear c7;obtain⟨VL,Cv⟩:∃y_:List (List Int),y_=(af++ [IG]):=⟨_,rfl⟩;replace H:(Zbh.l0 k1 l0 VL (wrap64 (ah+1)))=some r:=by first|(rw[Cv];with_reducible exact H)|(have H2_:=(Option.bind_some _ _).symm.trans H;rw[Cv];with_reducible exact H2_)|(have H2_:=(Option.bind_some _ _).symm.trans H;with_reducible exact H2_)|with_reducible exact H|(rw[Cv];exact H)|exact H
   have Xm:=Za.mk Cv;clear Cv;have H':=Za.mk H;clear H
   go_wp2_with (first|((with_reducible refine Zar (N:=13) rfl ?_);refine Kd.Zdj (Kd.int .i64) _ 3 ?hg (N:=13) ?hd (xs:=([]:List Int)) (inner:= []) (ok:=fun _=>True) (okp:=fun _=>True) ?hr ?hp (fun _ hk=>hk) trivial (Below.refl _ _) (Nat.le_refl _) (by simp) ?_;(case hd=>rfl);(case hg=>rfl);(case hr=>first|(go_simp;done)|(go_simp;rfl));(case hp=>exact(Reps.none _ _));intro v105 w8 ho9 hb hg_ hnew_;clear hg_ hnew_;(first|rw[←Qz.out]at ho9|(simp only[Int.reduceToNat]at ho9;rw[←Qz.out]at ho9));replace aN:=Za.mk (Kd.Zgt (sM aN.out) (Kd.Zc6 ho9) hb);have Qp:=Za.mk (Kd.Zbm ho9 (Zaf (bM HB.out)));replace HB:=Za.mk (bS HB.out hb);clear hb ho9;have OD:0≤(ah:Int):=odt;have OU:ah<(l0.length:Int):=odt;obtain⟨fGa,ewa,e0a,c9a,J9,Jw,Jm⟩:=Zew HR0.out ah OD OU;cases c9a;replace J9:=hB HB.out J9;have TF:=Za.mk Jm;have ena:=Za.mk Jw;clear Jm Jw;replace OD:=eq_true OD;replace OU:=eq_true OU)|((with_reducible refine Zbo (b:= .append) (xs:=#[.tmp 13,.tmp 17]) rfl ?_);at_builtin;refine Kd.Zdc (Kd.int .i64) (w0:=w) w.heap.size rfl (.tmp 13) (.tmp 17) 24 3 (.int .i64 0) 8 rfl Tryz.underlying24 info3 rfl (by decide) (by omega) v105 y104 (Zb3 l0 ah) _ _ _ (fun _=>True) (fun _=>False) rfl rfl ?aO ?aR (fun _ _ h=>h) (fun _ h=>h.elim) ?aF ?aB ?aS ?aL ?_;(case aR=>repeat(first|exact(Kd.Zac TF.out HB.out)|(with_reducible refine Kd.C_alloc ?_ _)|(with_reducible refine Kd.Zbt ?_ _)|(with_reducible refine Kd.Zb4 ?_)));(case aB=>exact(bM HB.out));(case aF=>exact(fun _ _=>trivial));(case aO=>exact(rM Qp.out));(case aS=>exact(Zaf (bM HB.out)));(case aL=>have:=Oh.out;omega);intro v109 w10 ho hb hg hat;rw[←Xl.out]at ho;replace aN:=Za.mk (Kd.S_after (ok:=(fun _=>True)) (sM aN.out) hg hat);replace HB:=Za.mk (hb);have F8:=Za.mk (ho);clear Qp;clear ho hb hg hat;obtain⟨iE,iG,pQ⟩:=Kd.Zbe F8.out;subst pQ)|((with_reducible refine Zbo (b:= .append) (xs:=#[.tmp 12,.tmp 19]) rfl ?_);at_builtin;refine Kd.S_append (Kd.slice 3 (Kd.int .i64)) (w0:=w) w.heap.size rfl (.tmp 12) (.tmp 19) 34 24 (.slice none 0 0) 24 rfl Tryz.underlying34 Zh6 rfl (by decide) (by omega) u3 af IG [.slice iE IG.length iG] (fun _=>True) (fun k_=>some k_=(.slice iE IG.length iG:Value).ownBlock) rfl rfl ?aP (fun k_ hk_=>((Kd.Za6 (ok':=fun k_=>((fun _=>True)) k_∧some k_≠(u3:Value).ownBlock) (Kd.Zdq (F8.out) (Kd.Zeb aN.out) (by decide)) (fun k_ hk=>⟨trivial,hk.2⟩))).1 k_ hk_.symm) ?aF ?aO ?aB ?aS ?aL ?_;(case aP=>exact Kd.M_row (Kd.Za6 (Kd.Zgd rfl (Kd.Za6 (ok':=fun k_=>((fun _=>True)) k_∧some k_≠(u3:Value).ownBlock) (Kd.Zdq (F8.out) (Kd.Zeb aN.out) (by decide)) (fun k_ hk=>⟨trivial,hk.2⟩))) (fun _ h_=>h_)));(case aB=>exact(bM HB.out));(case aF=>exact(fun _ _=>trivial));(case aO=>exact(sM (Kd.Zd9 aN.out (fun k_ hk=>⟨trivial,fun e_=>hk.2 e_⟩))));(case aS=>exact(Zaf (bM HB.out)));(case aL=>have:=zH.out;omega);intro o6a w11 ho hb hg hat;rw[←Xm.out]at ho;replace HB:=Za.mk (hb);have WH:=Za.mk (ho);clear aN F8;clear ho hb hg hat))
   go_roundg k1
   case measure=>have:=HK1.out;omega
   case rel=>exact⟨(VL),(wrap64 (ah+1)),eS,H',⟨by have:=HK1.out;omega⟩,⟨sM WH.out⟩,⟨bM HB.out⟩⟩
def Zcr.f (k:Nat) (aU:Int) (aa:List Int) (au:List Int) (aX:Int) (bn:Int) (aI:List (List Int)) (bv:Int):Option (Int × List Int × List Int × Int × Int × (List (List Int)) × Int):=(some (([]:List Int):List Int)).bind fun tO=>(if tO.length+aa.length<17592186044416 then((some (([]:List Int):List Int)).bind fun oh=>(if oh.length+au.length<17592186044416 then((Zbh.f k aI).bind fun jF=>(some (aU,(tO++aa),(oh++au),aX,bn,jF,bv)))else(none)))else(none))
set_option maxRecDepth 100000 in
theorem Zcr.calls (k : Nat) (aU : Int) (aV : Option Addr) (aQ : Nat) (aa : List Int) (dx : Option Addr) (dz : Nat) (au : List Int) (aX : Int) (bn : Int) (dR : Option Addr) (dP : Nat) (aI : List (List Int)) (bv : Int) (r1 : Int) (r2 : List Int) (r3 : List Int) (r4 : Int) (r5 : Int) (r6 : List (List Int)) (r7 : Int) (w : World) (eu : Kd.C (Kd.int .i64) w aV aa.length aa) (ek : aa.length ≤ aQ) (ig : Kd.C (Kd.int .i64) w dx au.length au) (ic : au.length ≤ dz) (iY : Kd.C (Kd.slice 3 (Kd.int .i64)) w dR aI.length aI) (iX : aI.length ≤ dP) (h : Zcr.f k aU aa au aX bn aI bv = some (r1, r2, r3, r4, r5, r6, r7)) :
  Calls Tryz.prog 52 #[.agg #[.int .i64 aU,.slice aV aa.length aQ,.slice dx au.length dz,.int .i64 aX,.int .i64 bn,.slice dR aI.length dP,.int .i64 bv]] w fun e w'=>∃v1_ v2_ v5_:Value,e= .returned (.agg #[.int .i64 r1,v1_,v2_,.int .i64 r4,.int .i64 r5,v5_,.int .i64 r7])∧Kd.R (Kd.int .i64) 3 w' w.heap.size (fun k_=>some k_≠(v2_:Value).ownBlock) v1_ r2∧Kd.R (Kd.int .i64) 3 w' w.heap.size (fun k_=>some k_≠(v1_:Value).ownBlock) v2_ r3∧Kd.S (Kd.slice 3 (Kd.int .i64)) 24 w' w.heap.size (fun k_=>some k_≠(v1_:Value).ownBlock∧some k_≠(v2_:Value).ownBlock) v5_ r6∧Below w.heap.size w w':=by
 have hu36:=Tryz.underlying36;have eO:=Za.mk eu;have fC:=Za.mk ek;clear eu ek;have j4:=Za.mk ig;have jL:=Za.mk ic;clear ig ic;have j5:=Za.mk iY;have pJ:=Za.mk iX;clear iY iX;have HB:=Za.mk (Below.refl w.heap.size w);have H:((some (([]:List Int):List Int)).bind fun tO=>(if tO.length+aa.length<17592186044416 then((some (([]:List Int):List Int)).bind fun oh=>(if oh.length+au.length<17592186044416 then((Zbh.f k aI).bind fun jF=>(some (aU,(tO++aa),(oh++au),aX,bn,jF,bv)))else(none)))else(none)))=some (r1,r2,r3,r4,r5,r6,r7):=h;clear h;obtain⟨tO,Cw⟩:∃y_:List Int,y_=(([]:List Int)):=⟨_,rfl⟩;replace H:(if tO.length+aa.length<17592186044416 then((some (([]:List Int):List Int)).bind fun oh=>(if oh.length+au.length<17592186044416 then((Zbh.f k aI).bind fun jF=>(some (aU,(tO++aa),(oh++au),aX,bn,jF,bv)))else(none)))else(none))=some (r1,r2,r3,r4,r5,r6,r7):=by first|(rw[Cw];with_reducible exact H)|(have H2_:=(Option.bind_some _ _).symm.trans H;rw[Cw];with_reducible exact H2_)|(have H2_:=(Option.bind_some _ _).symm.trans H;with_reducible exact H2_)|with_reducible exact H|(rw[Cw];exact H)|exact H
 have Q0:=Za.mk Cw;clear Cw;by_cases c2:tO.length+aa.length<17592186044416
 case neg=>
  rw[if_neg c2]at H;exact absurd H (by simp)
 rw[if_pos c2]at H;have KS:=Za.mk c2;clear c2;obtain⟨lC,Cx⟩:∃y_:List Int,y_=(tO++aa):=⟨_,rfl⟩;replace H:((some (([]:List Int):List Int)).bind fun oh=>(if oh.length+au.length<17592186044416 then((Zbh.f k aI).bind fun jF=>(some (aU,lC,(oh++au),aX,bn,jF,bv)))else(none)))=some (r1,r2,r3,r4,r5,r6,r7):=by first|(rw[Cx];with_reducible exact H)|(have H2_:=(Option.bind_some _ _).symm.trans H;rw[Cx];with_reducible exact H2_)|(have H2_:=(Option.bind_some _ _).symm.trans H;with_reducible exact H2_)|with_reducible exact H|(rw[Cx];exact H)|exact H
 have Xn:=Za.mk Cx;clear Cx;obtain⟨oh,Cy⟩:∃y_:List Int,y_=(([]:List Int)):=⟨_,rfl⟩;replace H:(if oh.length+au.length<17592186044416 then((Zbh.f k aI).bind fun jF=>(some (aU,lC,(oh++au),aX,bn,jF,bv)))else(none))=some (r1,r2,r3,r4,r5,r6,r7):=by first|(rw[Cy];with_reducible exact H)|(have H2_:=(Option.bind_some _ _).symm.trans H;rw[Cy];with_reducible exact H2_)|(have H2_:=(Option.bind_some _ _).symm.trans H;with_reducible exact H2_)|with_reducible exact H|(rw[Cy];exact H)|exact H
 have Q8:=Za.mk Cy;clear Cy;obtain⟨c3,H⟩:=ifP H;have cra:=Za.mk c3;clear c3;obtain⟨oN,Cz⟩:∃y_:List Int,y_=(oh++au):=⟨_,rfl⟩;replace H:((Zbh.f k aI).bind fun jF=>(some (aU,lC,oN,aX,bn,jF,bv)))=some (r1,r2,r3,r4,r5,r6,r7):=by first|(rw[Cz];with_reducible exact H)|(have H2_:=(Option.bind_some _ _).symm.trans H;rw[Cz];with_reducible exact H2_)|(have H2_:=(Option.bind_some _ _).symm.trans H;with_reducible exact H2_)|with_reducible exact H|(rw[Cz];exact H)|exact H
 have Xo:=Za.mk Cz;clear Cz;obtain⟨jF,A4,H⟩:=bnd H;replace H:(some (aU,lC,oN,aX,bn,jF,bv))=some (r1,r2,r3,r4,r5,r6,r7):=H;simp only[Option.some.injEq,Prod.mk.injEq]at H;obtain⟨rfl,rfl,rfl,rfl,rfl,rfl,rfl⟩:=H;go_enter Tryz.func52,Tryz.ntmps52
 go_wp2_with (first|((with_reducible refine Zar (N:=1) rfl ?_);refine bx 1 #[.int .i64 aU,.slice aV aa.length aQ,.slice dx au.length dz,.int .i64 aX,.int .i64 bn,.slice dR aI.length dP,.int .i64 bv] 36 ?_;intro mE hg w5 hbox hb;have gp:=Za.mk (hbox);have fwa:=Za.mk ((gE hg HB.out:w.heap.size≤mE));replace HB:=Za.mk (bS HB.out hb);clear hb hbox hg)|((with_reducible refine Zar (N:=2) rfl ?_);refine bx 2 #[.int .i64 0,.slice none 0 0,.slice none 0 0,.int .i64 0,.int .i64 0,.slice none 0 0,.int .i64 0] 36 ?_;intro gP hg w6 hbox hb;have jJ:=Za.mk (hbox);have fxa:=Za.mk ((gE hg HB.out:w.heap.size≤gP));replace HB:=Za.mk (bS HB.out hb);have NE:=Za.mk ((by rw[hg];exact Nat.ne_of_lt (Zc7 (kM gp.out)):mE≠gP));have ug:=Za.mk ((by rw[hg];exact Nat.ne_of_gt (Zc7 (kM gp.out)):gP≠mE));replace gp:=Za.mk (kB gp.out hb);clear hb hbox hg)|((with_reducible refine Zar (N:=3) rfl ?_);refine Kd.Zdj (Kd.int .i64) _ 3 ?hg (N:=3) ?hd (xs:=([]:List Int)) (inner:= []) (ok:=fun _=>True) (okp:=fun _=>True) ?hr ?hp (fun _ hk=>hk) trivial (Below.refl _ _) (Nat.le_refl _) (by simp) ?_;(case hd=>rfl);(case hg=>rfl);(case hr=>first|(go_simp;done)|(go_simp;rfl));(case hp=>exact(Reps.none _ _));intro v117 w7 ho8 hb hg_ hnew_;clear hg_ hnew_;(first|rw[←Q0.out]at ho8|(simp only[Int.reduceToNat]at ho8;rw[←Q0.out]at ho8));have F9:=Za.mk (Kd.Zbm ho8 (Zaf (bM HB.out)));replace gp:=Za.mk (kB gp.out hb);replace jJ:=Za.mk (kB jJ.out hb);replace HB:=Za.mk (bS HB.out hb);clear hb ho8;have dsa:=NE.out;have dta:=ug.out;obtain⟨o9,oC,oD,qf,qg,zz,z8,o6,o7,o8,pY,qc,zo,zq⟩:=cz7 gp.out)|((with_reducible refine Zbo (b:= .append) (xs:=#[.tmp 3,.tmp 5]) rfl ?_);at_builtin;refine Kd.Zdc (Kd.int .i64) (w0:=w) w.heap.size rfl (.tmp 3) (.tmp 5) 24 3 (.int .i64 0) 8 rfl Tryz.underlying24 info3 rfl (by decide) (by omega) v117 tO aa _ _ _ (fun _=>True) (fun _=>False) rfl rfl ?aO ?aR (fun _ _ h=>h) (fun _ h=>h.elim) ?aF ?aB ?aS ?aL ?_;(case aR=>repeat(first|exact(Kd.Zac eO.out HB.out)|(with_reducible refine Kd.C_alloc ?_ _)|(with_reducible refine Kd.Zbt ?_ _)|(with_reducible refine Kd.Zb4 ?_)));(case aB=>exact(bM HB.out));(case aF=>exact(fun _ _=>trivial));(case aO=>exact(rM F9.out));(case aS=>exact(Zaf (bM HB.out)));(case aL=>have:=KS.out;omega);intro o7a w11 ho hb hg hat;rw[←Xn.out]at ho;replace gp:=Za.mk (kG gp.out hg (Kd.R_ne F9.out gp.out (by decide)));replace jJ:=Za.mk (kG jJ.out hg (Kd.R_ne F9.out jJ.out (by decide)));replace HB:=Za.mk (hb);have pK:=Za.mk (ho);clear F9;clear ho hb hg hat;obtain⟨iE,iG,pQ⟩:=Kd.Zbe pK.out;subst pQ;obtain⟨aQa,aRa,aSa,aTa,aUa,aVa,aWa,Y8,Y9,YA,YB,YC,YD,YE⟩:=cz7 gp.out)|((with_reducible refine Zar (N:=8) rfl ?_);refine Kd.Zdj (Kd.int .i64) _ 3 ?hg (N:=8) ?hd (xs:=([]:List Int)) (inner:= []) (ok:=fun _=>True) (okp:=fun _=>True) ?hr ?hp (fun _ hk=>hk) trivial (Below.refl _ _) (Nat.le_refl _) (by simp) ?_;(case hd=>rfl);(case hg=>rfl);(case hr=>first|(go_simp;done)|(go_simp;rfl));(case hp=>exact(Reps.none _ _));intro dTa w14 ER hb hg_ hnew_;clear hg_ hnew_;(first|rw[←Q8.out]at ER|(simp only[Int.reduceToNat]at ER;rw[←Q8.out]at ER));have FB:=Za.mk (Kd.Zbm (Kd.Ze3 ER (Kd.R_lt (rM (Kd.Za6 (Kd.Zbv (p:=⟨mE,1,none⟩) (Kd.Zcc pK.out gp.out (by decide)) (fun _ hk=>hk.2) (.slice iE lC.length iG)) (fun _ h_=>h_.1))))) (Zaf (bM HB.out)));replace pK:=Za.mk (Kd.Ze (rM (Kd.Za6 (Kd.Zbv (p:=⟨mE,1,none⟩) (Kd.Zcc pK.out gp.out (by decide)) (fun _ hk=>hk.2) (.slice iE lC.length iG)) (fun _ h_=>h_.1))) (Kd.Zc6 ER) hb);replace gp:=Za.mk (Zci (g:=mE) (o:= .cells #[.int .i64 aU,.slice iE lC.length iG,.slice dx au.length dz,.int .i64 aX,.int .i64 bn,.slice dR aI.length dP,.int .i64 bv] 36 (0,0)) (by(with_reducible repeat(first|refine Zah ?_ _|refine Zai ?_|refine Zab ?_ _));refine Zaz (cs:=#[.int .i64 aU,.slice aV aa.length aQ,.slice dx au.length dz,.int .i64 aX,.int .i64 bn,.slice dR aI.length dP,.int .i64 bv]) ?_ 1 _ rfl;(with_reducible repeat(first|refine Zah ?_ _|refine Zai ?_|refine Zab ?_ _));exact gp.out) hb);replace jJ:=Za.mk (Zci (g:=gP) (o:= .cells #[.int .i64 0,.slice none 0 0,.slice none 0 0,.int .i64 0,.int .i64 0,.slice none 0 0,.int .i64 0] 36 (0,0)) (by(with_reducible repeat(first|exact jJ.out|refine Zcv ?_ ug.out _|refine Zab ?_ _|refine Zai ?_|refine Zah ?_ _))) hb);replace HB:=Za.mk (bS HB.out hb);clear hb ER;obtain⟨zA,zB,zC,E5,E8,E9,EA,zt,zu,zw,En,Eo,Ep,Er⟩:=cz7 gp.out)|((with_reducible refine Zbo (b:= .append) (xs:=#[.tmp 8,.tmp 10]) rfl ?_);at_builtin;refine Kd.Zdc (Kd.int .i64) (w0:=w) w.heap.size rfl (.tmp 8) (.tmp 10) 24 3 (.int .i64 0) 8 rfl Tryz.underlying24 info3 rfl (by decide) (by omega) dTa oh au _ _ _ (fun k_=>some k_≠(.slice iE lC.length iG:Value).ownBlock) (fun _=>False) rfl rfl ?aO ?aR (fun _ _ h=>h) (fun _ h=>h.elim) ?aF ?aB ?aS ?aL ?_;(case aR=>repeat(first|exact(Kd.Zac j4.out HB.out)|(with_reducible refine Kd.C_alloc ?_ _)|(with_reducible refine Kd.Zbt ?_ _)|(with_reducible refine Kd.Zb4 ?_)));(case aB=>exact(bM HB.out));(case aF=>exact(fun k_ hk=>Kd.fresh' (Kd.R_lt (rM pK.out)) k_ hk));(case aO=>exact(rM (Kd.Za6 FB.out (fun _ hk=>hk.2))));(case aS=>exact(Zaf (bM HB.out)));(case aL=>have:=cra.out;omega);intro o8a w17 ho hb hg hat;rw[←Xo.out]at ho;replace gp:=Za.mk (kG gp.out hg (Kd.R_ne FB.out gp.out (by decide)));replace jJ:=Za.mk (kG jJ.out hg (Kd.R_ne FB.out jJ.out (by decide)));replace pK:=Za.mk (Kd.Zdu (ok:=(fun _=>True)) (rM pK.out) hg hat);replace HB:=Za.mk (hb);have Bv:=Za.mk (ho);clear FB;clear ho hb hg hat;obtain⟨dH,dE,zJ⟩:=Kd.Zbe Bv.out;subst zJ;obtain⟨Nf,Ng,Nh,Ni,Nj,aYa,baa,M6,M7,M8,M9,MB,YG,YH⟩:=cz7 gp.out)|((with_reducible refine Zal (f:=72) rfl ?_);refine gl 15 Tryz.func72 #[.slice dR aI.length dP] ?_;(with_reducible refine(Zbh.calls k _ _ aI jF _ (Kd.Zac j5.out (bM HB.out)) pJ.out A4.out).mono ?_);rintro e w20 ⟨o9a,rfl,ho0,hb⟩;refine⟨_,rfl,?_⟩;have Qq:=Za.mk (Kd.Zgz (Kd.S_new' (Kd.S_new' ho0 (Kd.R_lt (rM (Kd.Za6 (Kd.Zbv (p:=⟨mE,2,none⟩) (Kd.Zcc pK.out gp.out (by decide)) (fun _ hk=>hk.2) (.slice dH oN.length dE)) (fun _ h_=>h_.1))))) (Kd.R_lt (rM (Kd.Za6 (Kd.Zbv (p:=⟨mE,2,none⟩) (Kd.Zcc Bv.out gp.out (by decide)) (fun _ hk=>hk.2) (.slice dH oN.length dE)) (fun _ h_=>h_.1))))) (Zaf (bM HB.out)));replace pK:=Za.mk (Kd.Zb6 (rM (Kd.Za6 (Kd.Zbv (p:=⟨mE,2,none⟩) (Kd.Zcc pK.out gp.out (by decide)) (fun _ hk=>hk.2) (.slice dH oN.length dE)) (fun _ h_=>h_.1))) hb);replace Bv:=Za.mk (Kd.Zb6 (rM (Kd.Za6 (Kd.Zbv (p:=⟨mE,2,none⟩) (Kd.Zcc Bv.out gp.out (by decide)) (fun _ hk=>hk.2) (.slice dH oN.length dE)) (fun _ h_=>h_.1))) hb);replace gp:=Za.mk (Zci (g:=mE) (o:= .cells #[.int .i64 aU,.slice iE lC.length iG,.slice dH oN.length dE,.int .i64 aX,.int .i64 bn,.slice dR aI.length dP,.int .i64 bv] 36 (0,0)) (by(with_reducible repeat(first|refine Zah ?_ _|refine Zai ?_|refine Zab ?_ _));refine Zaz (cs:=#[.int .i64 aU,.slice iE lC.length iG,.slice dx au.length dz,.int .i64 aX,.int .i64 bn,.slice dR aI.length dP,.int .i64 bv]) ?_ 2 _ rfl;(with_reducible repeat(first|refine Zah ?_ _|refine Zai ?_|refine Zab ?_ _));exact gp.out) hb);replace jJ:=Za.mk (Zci (g:=gP) (o:= .cells #[.int .i64 0,.slice none 0 0,.slice none 0 0,.int .i64 0,.int .i64 0,.slice none 0 0,.int .i64 0] 36 (0,0)) (by(with_reducible repeat(first|exact jJ.out|refine Zcv ?_ ug.out _|refine Zab ?_ _|refine Zai ?_|refine Zah ?_ _))) hb);replace HB:=Za.mk (bS HB.out hb);(try clear hb);(try clear hb2);(try clear hk);(try clear hi);(try clear ho0);obtain⟨jA,kg,Ha⟩:=Kd.S_slice Qq.out;subst Ha;obtain⟨Nn,Np,Nq,Nr,Ns,kAa,kBa,MF,MG,MH,MI,MJ,hca,hda⟩:=cz7 gp.out;obtain⟨SG,SH,SI,bda,bea,kCa,kDa,RL,RN,RO,YK,YL,hea,hha⟩:=cz7 jJ.out))
 refine bodyPost_ret (results_cell_row rfl _ _ gP 36 #[.int .i64 aU,.slice iE lC.length iG,.slice dH oN.length dE,.int .i64 aX,.int .i64 bn,.slice jA jF.length kg,.int .i64 bv] (0,0) _ rfl (by(with_reducible repeat(first|refine Zah ?_ _|refine Zai ?_|refine Zab ?_ _));refine Zaz (cs:=#[.int .i64 aU,.slice iE lC.length iG,.slice dH oN.length dE,.int .i64 aX,.int .i64 bn,.slice jA jF.length kg,.int .i64 0]) ?_ 6 _ rfl;(with_reducible repeat(first|refine Zah ?_ _|refine Zai ?_|refine Zab ?_ _));refine Zaz (cs:=#[.int .i64 aU,.slice iE lC.length iG,.slice dH oN.length dE,.int .i64 aX,.int .i64 bn,.slice none 0 0,.int .i64 0]) ?_ 5 _ rfl;(with_reducible repeat(first|refine Zah ?_ _|refine Zai ?_|refine Zab ?_ _));refine Zaz (cs:=#[.int .i64 aU,.slice iE lC.length iG,.slice dH oN.length dE,.int .i64 aX,.int .i64 0,.slice none 0 0,.int .i64 0]) ?_ 4 _ rfl;(with_reducible repeat(first|refine Zah ?_ _|refine Zai ?_|refine Zab ?_ _));refine Zaz (cs:=#[.int .i64 aU,.slice iE lC.length iG,.slice dH oN.length dE,.int .i64 0,.int .i64 0,.slice none 0 0,.int .i64 0]) ?_ 3 _ rfl;(with_reducible repeat(first|refine Zah ?_ _|refine Zai ?_|refine Zab ?_ _));refine Zaz (cs:=#[.int .i64 aU,.slice iE lC.length iG,.slice none 0 0,.int .i64 0,.int .i64 0,.slice none 0 0,.int .i64 0]) ?_ 2 _ rfl;(with_reducible repeat(first|refine Zah ?_ _|refine Zai ?_|refine Zab ?_ _));refine Zaz (cs:=#[.int .i64 aU,.slice none 0 0,.slice none 0 0,.int .i64 0,.int .i64 0,.slice none 0 0,.int .i64 0]) ?_ 1 _ rfl;(with_reducible repeat(first|refine Zah ?_ _|refine Zai ?_|refine Zab ?_ _));refine Zaz (cs:=#[.int .i64 0,.slice none 0 0,.slice none 0 0,.int .i64 0,.int .i64 0,.slice none 0 0,.int .i64 0]) ?_ 0 _ rfl;(with_reducible repeat(first|refine Zah ?_ _|refine Zai ?_|refine Zab ?_ _));refine Zcv ?_ ug.out _;(with_reducible repeat(first|refine Zah ?_ _|refine Zai ?_|refine Zab ?_ _));exact jJ.out) Tryz.underlying36 rfl (by kernel_rfl)) rfl ?_;exact⟨_,_,_,eR,rM (Kd.Za6 (Kd.Zbv (p:=⟨gP,6,none⟩) (Kd.Zbv (p:=⟨gP,5,none⟩) (Kd.Zbv (p:=⟨gP,4,none⟩) (Kd.Zbv (p:=⟨gP,3,none⟩) (Kd.Zbv (p:=⟨gP,2,none⟩) (Kd.Zbv (p:=⟨gP,1,none⟩) (Kd.Zbv (p:=⟨gP,0,none⟩) (Kd.Zbv (p:=⟨mE,5,none⟩) (Kd.Zcc (Kd.Zcc pK.out gp.out (by decide)) jJ.out (by decide)) (fun _ hk=>hk.1.2) (.slice jA jF.length kg)) (fun _ hk=>hk.2) (.int .i64 aU)) (fun _ hk=>hk.2) (.slice iE lC.length iG)) (fun _ hk=>hk.2) (.slice dH oN.length dE)) (fun _ hk=>hk.2) (.int .i64 aX)) (fun _ hk=>hk.2) (.int .i64 bn)) (fun _ hk=>hk.2) (.slice jA jF.length kg)) (fun _ hk=>hk.2) (.int .i64 bv)) (fun _ hk=>hk.1.1.2)),rM (Kd.Za6 (Kd.Zbv (p:=⟨gP,6,none⟩) (Kd.Zbv (p:=⟨gP,5,none⟩) (Kd.Zbv (p:=⟨gP,4,none⟩) (Kd.Zbv (p:=⟨gP,3,none⟩) (Kd.Zbv (p:=⟨gP,2,none⟩) (Kd.Zbv (p:=⟨gP,1,none⟩) (Kd.Zbv (p:=⟨gP,0,none⟩) (Kd.Zbv (p:=⟨mE,5,none⟩) (Kd.Zcc (Kd.Zcc Bv.out gp.out (by decide)) jJ.out (by decide)) (fun _ hk=>hk.1.2) (.slice jA jF.length kg)) (fun _ hk=>hk.2) (.int .i64 aU)) (fun _ hk=>hk.2) (.slice iE lC.length iG)) (fun _ hk=>hk.2) (.slice dH oN.length dE)) (fun _ hk=>hk.2) (.int .i64 aX)) (fun _ hk=>hk.2) (.int .i64 bn)) (fun _ hk=>hk.2) (.slice jA jF.length kg)) (fun _ hk=>hk.2) (.int .i64 bv)) (fun _ hk=>hk.1.1)),sM (Kd.Zd9 (Kd.Zdw (p:=⟨gP,6,none⟩) (Kd.Zdw (p:=⟨gP,5,none⟩) (Kd.Zdw (p:=⟨gP,4,none⟩) (Kd.Zdw (p:=⟨gP,3,none⟩) (Kd.Zdw (p:=⟨gP,2,none⟩) (Kd.Zdw (p:=⟨gP,1,none⟩) (Kd.Zdw (p:=⟨gP,0,none⟩) (Kd.Zdw (p:=⟨mE,5,none⟩) (Kd.Zet (Kd.Zet Qq.out gp.out (by decide)) jJ.out (by decide)) (fun _ hk=>hk.1.2) (.slice jA jF.length kg)) (fun _ hk=>hk.2) (.int .i64 aU)) (fun _ hk=>hk.2) (.slice iE lC.length iG)) (fun _ hk=>hk.2) (.slice dH oN.length dE)) (fun _ hk=>hk.2) (.int .i64 aX)) (fun _ hk=>hk.2) (.int .i64 bn)) (fun _ hk=>hk.2) (.slice jA jF.length kg)) (fun _ hk=>hk.2) (.int .i64 bv)) (fun _ hk=>⟨hk.1.1.1.2,hk.1.1.2⟩)),bM HB.out⟩
end Go.Proofs.YtdpieallpbllkaaGreat.P
