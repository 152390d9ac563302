/- Proved: what each function of the program that the statements of this seat reach comes to, for whatever memory and arguments it is called with (on condition that its plain text tells a result). -/
import Derived.Test.YtdpieallpbllkaaGreatZ2
import Derived.Test.YtdpieallpbllkaaGreatZ1
import Derived.Shelf.GgClosure.Gives
import Derived.Deep.LoopGhost
import Derived.Maps.OwnSet
import Derived.StringKeys
import Derived.Laws.RangeString
import Derived.Laws.RangeAny
import Derived.Laws.Strings
import Derived.Laws.Strings2
import Derived.Laws.Strings3
import Derived.LoopTactic
import Derived.Lib.SliceRun
import Derived.Carry
/- All lists of values of domains, in order: what meaning.all yields, and what secateurref06.Grow grows, in plain words. -/
set_option linter.unusedSimpArgs false
set_option linter.unusedVariables false
set_option maxHeartbeats 8000000
namespace Go.Proofs.YtdpieallpbllkaaGreat.P
open Go.RowKit Go.Proofs.YtdpieallpbllkaaGreatW.PrintWords Go.Proofs.YtdpieallpbllkaaGreatW.PrintLast Go.Proofs.YtdpieallpbllkaaGreatW.PrintMore
theorem Zfd (v : Int) (h64 : -4611686018427387904 ≤ v ∧ v ≤ 4611686018427387904) : ∀ {b : Int} {d : List Rg}, Gd 1048576 b d →
    ((nextV v d).2=true→Va d (nextV v d).1∧v<(nextV v d).1∧∀z,Va d z→v<z→(nextV v d).1≤z)∧((nextV v d).2=false→∀z,Va d z→z≤v)
  | _, [], _ => ⟨fun h => absurd h (by simp [nextV]), fun _ z h => absurd h (by simp)⟩
  |b,x::d,hg@⟨h1,h2,h3,h4⟩=>by
    have hw:wrap64 (v+1)=v+1:=w64 (by omega) (by omega);by_cases q:v<x.f1;rotate_left
    · have e : nextV v (x :: d) = nextV v d := by rw [nextV, if_neg q]
      rw[e];obtain⟨a1,a2⟩:=Zfd v h64 h4;refine⟨fun h=> ?_,fun h z hz=> ?_⟩
      · obtain ⟨b1, b2, b3⟩ := a1 h
        refine⟨(Zc3 _ _ _).2 (.inr b1),b2,fun z hz hv=> ?_⟩
        rcases(Zc3 _ _ _).1 hz with hz|hz
        · omega
        exact b3 z hz hv
      rcases(Zc3 _ _ _).1 hz with hz|hz
      · omega
      exact a2 h z hz
    have e:nextV v (x::d)=(max x.f0 (wrap64 (v+1)),true):=by rw[nextV,if_pos q]
    rw[e,hw];refine⟨fun _=>⟨(Zc3 _ _ _).2 (.inl ⟨by show x.f0≤max x.f0 (v+1);omega,by show max x.f0 (v+1)≤x.f1;omega⟩),by show v<max x.f0 (v+1);omega,fun z hz hv=> ?_⟩,fun h=>absurd h (by simp)⟩
    show max x.f0 (v+1)≤z
    rcases(Zc3 _ _ _).1 hz with hz|hz
    · omega
    have:=Gd.ge h4 hz;omega
theorem SS.filter {l:List Int} (h:SS l) (p:Int→Bool):SS (l.filter p):=List.Pairwise.filter p h
def overV (v:Int) (d:List Rg):List Int:=(vals d).filter fun z=>decide (v<z)
theorem overV_next {v b:Int} {d:List Rg} (h64: -4611686018427387904≤v∧v≤4611686018427387904) (hg:Gd 1048576 b d) (h:(nextV v d).2=true):overV v d=(nextV v d).1::overV (nextV v d).1 d:=by
  obtain⟨a1,a2,a3⟩:=(Zfd v h64 hg).1 h;refine SS.ext ((Zgg hg).filter _) (List.pairwise_cons.2 ⟨fun z hz=> ?_,(Zgg hg).filter _⟩) (fun z=> ?_)
  · have := (List.mem_filter.1 hz).2
    simpa using this
  unfold overV;rw[List.mem_cons,List.mem_filter,List.mem_filter,Ze2,decide_eq_true_eq,decide_eq_true_eq]
  constructor
  · rintro ⟨hz, hv⟩
    have:=a3 z hz hv;by_cases e:z=(nextV v d).1
    · exact .inl e
    exact .inr ⟨hz,by omega⟩
  rintro(e|⟨hz,hv⟩)
  · rw[e];exact⟨a1,a2⟩
  exact⟨hz,by omega⟩
theorem overV_last {v b:Int} {d:List Rg} (h64: -4611686018427387904≤v∧v≤4611686018427387904) (hg:Gd 1048576 b d) (h:(nextV v d).2=false):overV v d= []:=by
  unfold overV;rw[List.filter_eq_nil_iff];intro z hz;have:=(Zfd v h64 hg).2 h z ((Ze2 z d).1 hz)
  simp;omega
theorem Zhy {b:Int} {d:List Rg} (hg:Gd 1048576 b d) (hn:d≠ []):Va d (leastV d).1∧vals d=(leastV d).1::overV (leastV d).1 d:=by
  cases d with
  | nil => exact absurd rfl hn
  |cons x d=>
    obtain⟨h1,h2,h3,h4⟩:=hg;have hm:Va (x::d) x.f0:=(Zc3 _ _ _).2 (.inl ⟨Int.le_refl _,h2⟩);have hg':Gd 1048576 b (x::d):=⟨h1,h2,h3,h4⟩;refine⟨hm,SS.ext (Zgg hg') (List.pairwise_cons.2 ⟨fun z hz=> ?_,(Zgg hg').filter _⟩) (fun z=> ?_)⟩
    · have := (List.mem_filter.1 hz).2
      simpa using this
    show z ∈ vals (x::d)↔z ∈ x.f0::overV x.f0 (x::d)
    unfold overV;rw[List.mem_cons,List.mem_filter,Ze2,decide_eq_true_eq]
    constructor
    · intro hz
      have hge:x.f0≤z:=Gd.ge (V:=1048576) (b:=x.f0) (d:=x::d) ⟨Int.le_refl _,h2,h3,h4⟩ hz;by_cases e:z=x.f0
      · exact .inl e
      exact .inr ⟨hz,by omega⟩
    rintro(e|⟨hz,_⟩)
    · rw[e];exact hm
    exact hz
def prV : List (List Rg) → List (List Int)
  | [] => [[]]
  |d::ds=>(vals d).flatMap fun x=>(prV ds).map (x::·)
def afterV : List (List Rg) → List Int → List (List Int)
  | d :: ds, x :: a => (afterV ds a).map (x :: ·) ++ (overV x d).flatMap fun y => (prV ds).map (y :: ·)
  |_,_=> [[]]
def GdS (ds:List (List Rg)):Prop:=∀d ∈ ds,Gd 1048576 (-1048576) d∧d≠ []
theorem Zfk : ∀ {ds : List (List Rg)}, GdS ds → afterV ds (startV ds) = prV ds
  | [], _ => rfl
  |d::ds,h=>by
    have hd:=h d List.mem_cons_self;have ih:=Zfk (ds:=ds) (fun x hx=>h x (List.mem_cons_of_mem _ hx))
    show(afterV ds (startV ds)).map _++_=_
    rw[ih,prV,(Zhy hd.1 hd.2).2,List.flatMap_cons]
def InV : List (List Rg) → List Int → Prop
  | [], [] => True
  | d :: ds, x :: a => Va d x ∧ InV ds a
  |_,_=>False
theorem InV.len : ∀ {ds : List (List Rg)} {a : List Int}, InV ds a → a.length = ds.length
  | [], [], _ => rfl
  |d::ds,x::a,h=>by simp[InV.len h.2]
theorem start_in : ∀ {ds : List (List Rg)}, GdS ds → InV ds (startV ds)
  | [], _ => trivial
  |d::ds,h=>⟨(Zhy (h d List.mem_cons_self).1 (h d List.mem_cons_self).2).1,start_in (fun x hx=>h x (List.mem_cons_of_mem _ hx))⟩
theorem incR_cons (d : List Rg) (ds : List (List Rg)) (x : Int) : ∀ (i : Nat) (a : List Int), incR (d :: ds) (i + 1) (x :: a) = if (incR ds i a).2 = true then (x :: (incR ds i a).1, true) else incR (d :: ds) 1 (x :: (incR ds i a).1)
  |0,a=>by
    have:incR ds 0 a=(a,false):=rfl;rw[this,if_neg (by simp)]
  |i+1,a=>by
    rw[incR];have e1:(x::a).getD (i+1) 0=a.getD i 0:=rfl;have e2:(d::ds).getD (i+1) []=ds.getD i []:=rfl;rw[e1,e2,incR.eq_2 ds]
    split
    · rfl
    rw[List.set_cons_succ];exact incR_cons d ds x i (a.set i _)
theorem incR_one (d:List Rg) (ds:List (List Rg)) (x:Int) (a:List Int):incR (d::ds) 1 (x::a)=if(nextV x d).2=true then((nextV x d).1::a,true)else((leastV d).1::a,false):=by
  rw[incR];have e1:(x::a).getD 0 0=x:=rfl;have e2:(d::ds).getD 0 []=d:=rfl;rw[e1,e2]
  split
  · rfl
  rfl
theorem inc_spec : ∀ {ds : List (List Rg)} {a : List Int}, GdS ds → InV ds a →
    ((incR ds ds.length a).2=true→InV ds (incR ds ds.length a).1∧afterV ds a=a::afterV ds (incR ds ds.length a).1)∧((incR ds ds.length a).2=false→(incR ds ds.length a).1=startV ds∧afterV ds a= [a])
  | [], [], _, _ => ⟨fun h => absurd h (by simp [incR]), fun _ => ⟨rfl, rfl⟩⟩
  | [], _ :: _, _, h => h.elim
  | _ :: _, [], _, h => h.elim
  |d::ds,x::a,hg,⟨hx,ha⟩=>by
    have hd:=hg d List.mem_cons_self;have hgs:GdS ds:=fun x hx=>hg x (List.mem_cons_of_mem _ hx)
    obtain⟨i1,i2⟩:=inc_spec hgs ha
    have hxb: -4611686018427387904≤x∧x≤4611686018427387904:=by
      have:=Gd.ge hd.1 hx;have:=Gd.le hd.1 hx
      omega
    show((incR (d::ds) (ds.length+1) (x::a)).2=true→InV (d::ds) (incR (d::ds) (ds.length+1) (x::a)).1∧afterV (d::ds) (x::a)=(x::a)::afterV (d::ds) (incR (d::ds) (ds.length+1) (x::a)).1)∧((incR (d::ds) (ds.length+1) (x::a)).2=false→(incR (d::ds) (ds.length+1) (x::a)).1=startV (d::ds)∧afterV (d::ds) (x::a)= [x::a])
    rw[incR_cons];by_cases q:(incR ds ds.length a).2=true
    · rw [if_pos q]
      obtain⟨j1,j2⟩:=i1 q;refine⟨fun _=>⟨⟨hx,j1⟩,?_⟩,fun h=>absurd h (by simp)⟩
      show(afterV ds a).map _++_=_
      rw[j2,List.map_cons,List.cons_append]
      rfl
    rw[if_neg q];obtain⟨j1,j2⟩:=i2 (Bool.eq_false_iff.2 q);rw[incR_one,j1];by_cases p:(nextV x d).2=true;rotate_left
    · rw [if_neg p]
      refine⟨fun h=>absurd h (by simp),fun _=>⟨rfl,?_⟩⟩
      show(afterV ds a).map _++(overV x d).flatMap _=_
      rw[j2,overV_last hxb hd.1 (Bool.eq_false_iff.2 p)]
      rfl
    rw[if_pos p];refine⟨fun _=>⟨⟨((Zfd x hxb hd.1).1 p).1,start_in hgs⟩,?_⟩,fun h=>absurd h (by simp)⟩
    show(afterV ds a).map _++(overV x d).flatMap _=(x::a)::((afterV ds (startV ds)).map _++(overV (nextV x d).1 d).flatMap _)
    rw[j2,overV_next hxb hd.1 p,List.flatMap_cons,Zfk hgs]
    rfl
theorem after_pos {ds:List (List Rg)} {a:List Int} (hg:GdS ds) (ha:InV ds a):0<(afterV ds a).length:=by
  obtain⟨h1,h2⟩:=inc_spec hg ha
  cases q:(incR ds ds.length a).2 with
  | true => rw [(h1 q).2]; simp
  |false=>rw[(h2 q).2];simp
theorem Zh4 : ∀ (m : Nat) {ds : List (List Rg)} {a : List Int}, GdS ds → InV ds a → (afterV ds a).length ≤ m → seqV ds m a = some (afterV ds a)
  | 0, ds, a, hg, ha, h => absurd h (by have := after_pos hg ha; omega)
  |m+1,ds,a,hg,ha,h=>by
    obtain⟨h1,h2⟩:=inc_spec hg ha;rw[seqV];by_cases q:(incR ds ds.length a).2=true;rotate_left
    · rw[if_neg q,(h2 (Bool.eq_false_iff.2 q)).2]
    rw[if_pos q];obtain⟨j1,j2⟩:=h1 q;rw[Zh4 m hg j1 (by rw[j2]at h;simpa using h),j2]
    rfl
theorem seqV_all {ds:List (List Rg)} (hg:GdS ds) {m:Nat} (hm:(prV ds).length≤m):seqV ds m (startV ds)=some (prV ds):=by
  have e:=Zfk hg;rw[←e];exact Zh4 m hg (start_in hg) (by rw[e];exact hm)
end Go.Proofs.YtdpieallpbllkaaGreat.P
/- dom.Has: whether a value is in a domain. -/
namespace Go.Proofs.YtdpieallpbllkaaGreat.P
open Go.RowKit Go.Shelf Go.Proofs.YtdpieallpbllkaaGreatW.PrintWords Go.Proofs.YtdpieallpbllkaaGreatW.PrintLast Go.Proofs.YtdpieallpbllkaaGreatW.PrintMore
theorem take_at_T82 {d:List S82} {k:Nat} (hk:k<d.length):d.take (k+1)=d.take k++ [Zbk d (k:Int)]:=by
  rw[List.take_succ_eq_append_getElem hk]
  simp[Zbk,List.getD_eq_getElem?_getD,List.getElem?_eq_getElem hk]
theorem Zg0 (p : S82 → Bool) (g : Nat) (lb : Array Value) (eg : ∀ args w, (callFunc g args).run Tryz.prog w = .ok (.enter g args) w) (A : Option Addr) (c : Nat) (zs : List S82) (w : World) (hr : Kd.C k82 w A zs.length zs)
    (hp:∀(x:S82) W,Below w.heap.size w W→Calls Tryz.prog g (#[.agg #[.int .i64 x.f0,.int .i64 x.f1]]++lb) W fun e w'=>e= .returned (.bool (p x))∧Below w.heap.size w w'):
    Calls Tryz.prog 97 #[.slice A zs.length c,.func (.func g) #[] lb] w fun e w'=>(∃i:Int,e= .returned (.int .i64 i)∧decide (0≤i)=zs.any p)∧Below w.heap.size w w':=by
  have hlen:zs.length≤9223372036854775807:=hr.2.1;have hany:∀k,zs.any p=((zs.take k).any p||(zs.drop k).any p):=fun k=>by rw[←List.any_append,List.take_append_drop]
  have HY:=Za.mk hany;clear hany;go_enter Tryz.func97,Tryz.ntmps97;go_wp2
  go_loopg [5,8] zs.length (fun gg _ s8 wr=>∃kk:Nat,kk≤zs.length∧zs.length - kk≤gg∧s8= .int .i64 kk∧Za (Below w.heap.size w wr)∧Za ((zs.take kk).any p=false))
  case atStart=>exact⟨0,Nat.zero_le _,by omega,rfl,⟨Below.refl _ _⟩,⟨by simp⟩⟩
  case round=>
    obtain⟨kk,hkk,hg,rfl,HB,A1⟩:=hrel;by_cases hlt:kk<zs.length;rotate_left
    · obtain rfl : kk = zs.length := by omega
      go_wp2;go_ret;refine⟨⟨_,rfl,?_⟩,HB.out⟩;have:=A1.out;rw[List.take_length]at this;rw[this]
      rfl
    obtain⟨ad,rfl,hx0,hx1⟩:=Zek hr (kk:Int) (by omega) (by omega);replace hx0:=(HB.out.cell (World.block_lt_of_cell? w _ hx0)).trans hx0;replace hx1:=(HB.out.cell (World.block_lt_of_cell? w _ hx1)).trans hx1;simp only[Int.toNat_natCast]at hx0 hx1;have hcall:=fun W=>hp (Zbk zs (kk:Int)) W
    clear hp;have htk:Za (zs.take (kk+1)=zs.take kk++ [Zbk zs (kk:Int)]):=⟨take_at_T82 hlt⟩
    generalize Zbk zs (kk:Int)=y at*
    cases hq:p y with
    |true=>
      rw[hq]at hcall;have B:=Za.mk hq;clear hq
      go_wp2_with (go_at_fn g;refine(hcall _ (by first|exact HB.out|exact HB.out.drewN _)).mono ?_;rintro e w' ⟨rfl,hb'⟩)
      go_ret;refine⟨⟨_,rfl,?_⟩,hb'⟩;rw[HY.out (kk+1),htk.out,List.any_append]
      simp[B.out]
    |false=>
      rw[hq]at hcall;have B:=Za.mk hq;clear hq
      go_wp2_with (go_at_fn g;refine(hcall _ (by first|exact HB.out|exact HB.out.drewN _)).mono ?_;rintro e w' ⟨rfl,hb'⟩)
      go_roundg (zs.length - (kk+1))
      case measure=>omega
      case rel=>exact⟨kk+1,by omega,by omega,by go_num,⟨hb'⟩,⟨by rw[htk.out,List.any_append,A1.out];simp[B.out]⟩⟩
theorem Zfw (p : S82 → Bool) (g : Nat) (lb : Array Value) (eg : ∀ args w, (callFunc g args).run Tryz.prog w = .ok (.enter g args) w) (A : Option Addr) (c : Nat) (zs : List S82) (w : World) (hr : Kd.C k82 w A zs.length zs)
    (hp:∀(x:S82) W,Below w.heap.size w W→Calls Tryz.prog g (#[.agg #[.int .i64 x.f0,.int .i64 x.f1]]++lb) W fun e w'=>e= .returned (.bool (p x))∧Below w.heap.size w w'):
    Calls Tryz.prog 67 #[.slice A zs.length c,.func (.func g) #[] lb] w fun e w'=>e= .returned (.bool (zs.any p))∧Below w.heap.size w w':=by
  have hI:=Zg0 p g lb eg A c zs w hr hp;go_enter Tryz.func67,Tryz.ntmps67
  go_wp2_with (go_at_call 97;refine hI.mono ?_;rintro e w' ⟨⟨i,rfl,hi⟩,hb⟩)
  go_ret;exact⟨by rw[←hi];rfl,hb⟩
def inR (v:Int) (x:S82):Bool:=decide (x.f0≤v) && decide (v≤x.f1)
theorem hasPred (w : World) (v : Int) (b : Nat) (hb : w.cell? ⟨b, 0, none⟩ = some (.int .i64 v)) (hbl : b < w.heap.size) (x : S82) (W : World) (hW : Below w.heap.size w W) :
    Calls Tryz.prog 68 (#[.agg #[.int .i64 x.f0,.int .i64 x.f1]]++ #[.pointer (some ⟨b,0,none⟩)]) W fun e w'=>e= .returned (.bool (inR v x))∧Below w.heap.size w w':=by
  have hc:W.cell? ⟨b,0,none⟩=some (.int .i64 v):=(hW.cell (p:=⟨b,0,none⟩) hbl).trans hb;have hne:=hW.size;have hc2:(W.alloc (.cells #[.int .i64 x.f0,.int .i64 x.f1] 82)).cell? ⟨b,0,none⟩=some (.int .i64 v):=(((Below.refl _ W).alloc (Nat.le_refl _) _).cell (p:=⟨b,0,none⟩) (by show b<W.heap.size;omega)).trans hc
  show Calls Tryz.prog 68 #[.agg #[.int .i64 x.f0,.int .i64 x.f1],.pointer (some ⟨b,0,none⟩)] W fun e w'=>e= .returned (.bool (inR v x))∧Below w.heap.size w w'
  unfold inR;by_cases h0:x.f0≤v
  · have c0 : decide (x.f0 ≤ v) = true := decide_eq_true h0
    rw[c0,Bool.true_and];clear h0;go_enter Tryz.func68,Tryz.ntmps68;go_wp2;go_ret;exact⟨rfl,by repeat(first|exact hW|exact hW.alloc hne _|apply Zcb)⟩
  have c0:decide (x.f0≤v)=false:=decide_eq_false h0;rw[c0,Bool.false_and];clear h0;go_enter Tryz.func68,Tryz.ntmps68;go_wp2;go_ret;exact⟨rfl,by repeat(first|exact hW|exact hW.alloc hne _|apply Zcb)⟩
def Zgy.f (l0:List S82) (a1:Int):Option Bool:=some (l0.any (inR a1))
theorem Zgy.calls (A0 : Option Addr) (c0 : Nat) (l0 : List S82) (a1 : Int) (r : Bool) (w : World) (hr0 : Kd.C k82 w A0 l0.length l0) (hc0 : l0.length ≤ c0) (h : Zgy.f l0 a1 = some r) :
    Calls Tryz.prog 46 #[.slice A0 l0.length c0,.int .i64 a1] w fun e w'=>e= .returned (.bool r)∧Below w.heap.size w w':=by
  obtain rfl:=Option.some.inj h;clear h;have hB:Below w.heap.size w (w.alloc (.cells #[.int .i64 a1] 3)):=(Below.refl _ w).alloc (Nat.le_refl _) _
  have cC := Zfw (inR a1) 68 #[.pointer (some ⟨w.heap.size, 0, none⟩)] (enters_of Tryz.func68 (by kernel_rfl) rfl) A0 c0 l0 (w.alloc (.cells #[.int .i64 a1] 3)) (Kd.Zad hr0 hB)
    (fun x W hW=>hasPred _ a1 w.heap.size (Boxed.new w 3 (.int .i64 a1)).cell (by simp) x W hW)
  clear hr0;go_enter Tryz.func46,Tryz.ntmps46
  go_wp2_with (go_at_call 67;refine cC.mono ?_;rintro e w' ⟨rfl,hb⟩)
  go_ret;exact⟨rfl,hB.trans (hb.mono (by simp))⟩
end Go.Proofs.YtdpieallpbllkaaGreat.P
/- meaning.Solves: do the values solve the model? (ContainsFunc over constraints; the loop over the variables.) -/
namespace Go.Proofs.YtdpieallpbllkaaGreat.P
open Go.RowKit Go.Shelf Go.Lib Go.Proofs.YtdpieallpbllkaaGreatW.PrintWords Go.Proofs.YtdpieallpbllkaaGreatW.PrintLast Go.Proofs.YtdpieallpbllkaaGreatW.PrintMore
theorem take_at_T36 {d:List S36} {k:Nat} (hk:k<d.length):d.take (k+1)=d.take k++ [Zac d (k:Int)]:=by
  rw[List.take_succ_eq_append_getElem hk]
  simp[Zac,List.getD_eq_getElem?_getD,List.getElem?_eq_getElem hk]
theorem indexFunc_Con (p : S36 → Bool) (g : Nat) (lb : Array Value) (eg : ∀ args w, (callFunc g args).run Tryz.prog w = .ok (.enter g args) w) (A : Option Addr) (c : Nat) (zs : List S36) (w : World) (hr : Kd.C k36 w A zs.length zs)
    (hp : ∀ (n : Nat), n < zs.length → ∀ x, x = Zac zs (n : Int) → ∀ W, Below w.heap.size w W → ∀ A1 c1 A2 c2 A5 c5, x.f1.length ≤ c1 → Kd.C (Kd.int .i64) W A1 x.f1.length x.f1 → x.f2.length ≤ c2 → Kd.C (Kd.int .i64) W A2 x.f2.length x.f2 → x.f5.length ≤ c5 → Kd.C (Kd.slice 3 (Kd.int .i64)) W A5 x.f5.length x.f5 →
      Calls Tryz.prog g (#[.agg #[.int .i64 x.f0, .slice A1 x.f1.length c1, .slice A2 x.f2.length c2, .int .i64 x.f3, .int .i64 x.f4, .slice A5 x.f5.length c5, .int .i64 x.f6]] ++ lb) W fun e w' => e = .returned (.bool (p x)) ∧ Below W.heap.size W w') :
    Calls Tryz.prog 69 #[.slice A zs.length c,.func (.func g) #[] lb] w fun e w'=>(∃i:Int,e= .returned (.int .i64 i)∧decide (0≤i)=zs.any p)∧Below w.heap.size w w':=by
  have hlen:zs.length≤9223372036854775807:=hr.2.1;have hany:∀k,zs.any p=((zs.take k).any p||(zs.drop k).any p):=fun k=>by rw[←List.any_append,List.take_append_drop]
  have HY:=Za.mk hany;have HR:=Za.mk hr;have HP:=Za.mk hp;clear hany hr hp;obtain⟨wo,rfl⟩:∃wo:World,wo=w:=⟨_,rfl⟩;go_enter Tryz.func69,Tryz.ntmps69;go_wp2
  go_loopg [5,8] zs.length (fun gg _ s8 wr=>∃kk:Nat,kk≤zs.length∧zs.length - kk≤gg∧s8= .int .i64 kk∧Za (Below wo.heap.size wo wr)∧Za ((zs.take kk).any p=false))
  case atStart=>exact⟨0,Nat.zero_le _,by omega,rfl,⟨bM (Below.refl wo.heap.size wo)⟩,⟨by simp⟩⟩
  case round=>
    obtain⟨kk,hkk,hg,rfl,HB,A1⟩:=hrel;by_cases hlt:kk<zs.length;rotate_left
    · obtain rfl : kk = zs.length := by omega
      have p1_:decide ((zs.length:Int)<(zs.length:Int))=false:=decide_eq_false (by omega);go_wp2;go_ret;refine⟨⟨_,rfl,?_⟩,bM HB.out⟩;have:=A1.out;rw[List.take_length]at this;rw[this]
      rfl
    have hltz:(kk:Int)<(zs.length:Int):=by omega
    have p1_:decide ((kk:Int)<(zs.length:Int))=true:=decide_eq_true hltz;have p2_:decide ((0:Int)≤(kk:Int))=true:=decide_eq_true (by omega);obtain⟨ad,A1A,c1A,A2A,c2A,A5A,c5A,rfl,hx0,hx1,hx2,hx3,hx4,hx5,hx6,l1,g1,l2,g2,l5,g5⟩:=at_T36 (Kd.Zad HR.out HB.out) (kk:Int) (by omega) hltz;have HC:=Za.mk (HP.out kk hlt _ rfl);have HG1:=Za.mk g1;have HG2:=Za.mk g2;have HG5:=Za.mk g5;clear g1 g2 g5;have htk:Za (zs.take (kk+1)=zs.take kk++ [Zac zs (kk:Int)]):=⟨take_at_T36 hlt⟩;simp only[Int.toNat_natCast]at hx0 hx1 hx2 hx3 hx4 hx5 hx6
    generalize Zac zs (kk:Int)=y at hx0 hx1 hx2 hx3 hx4 hx5 hx6 l1 l2 l5 HC HG1 HG2 HG5 htk
    cases hq:p y with
    |true=>
      have B:=Za.mk hq;rw[hq]at HC;clear hq
      go_wp2_with (go_at_fn g;refine(HC.out _ (bM HB.out) A1A c1A A2A c2A A5A c5A l1 (cM HG1.out) l2 (cM HG2.out) l5 (cM HG5.out)).mono ?_;rintro e w' ⟨rfl,hb⟩;have HB2:=Za.mk (bS HB.out hb);clear hb)
      go_ret;refine⟨⟨_,rfl,?_⟩,HB2.out⟩;rw[HY.out (kk+1),htk.out,List.any_append]
      simp[B.out]
    |false=>
      have B:=Za.mk hq;rw[hq]at HC;clear hq
      go_wp2_with (go_at_fn g;refine(HC.out _ (bM HB.out) A1A c1A A2A c2A A5A c5A l1 (cM HG1.out) l2 (cM HG2.out) l5 (cM HG5.out)).mono ?_;rintro e w' ⟨rfl,hb⟩;have HB2:=Za.mk (bS HB.out hb);clear hb)
      go_roundg (zs.length - (kk+1))
      case measure=>omega
      case rel=>exact⟨kk+1,by omega,by omega,by go_num,⟨bM HB2.out⟩,⟨by rw[htk.out,List.any_append,A1.out];simp[B.out]⟩⟩
theorem Zgo (p : S36 → Bool) (g : Nat) (lb : Array Value) (eg : ∀ args w, (callFunc g args).run Tryz.prog w = .ok (.enter g args) w) (A : Option Addr) (c : Nat) (zs : List S36) (w : World) (hr : Kd.C k36 w A zs.length zs)
    (hp : ∀ (n : Nat), n < zs.length → ∀ x, x = Zac zs (n : Int) → ∀ W, Below w.heap.size w W → ∀ A1 c1 A2 c2 A5 c5, x.f1.length ≤ c1 → Kd.C (Kd.int .i64) W A1 x.f1.length x.f1 → x.f2.length ≤ c2 → Kd.C (Kd.int .i64) W A2 x.f2.length x.f2 → x.f5.length ≤ c5 → Kd.C (Kd.slice 3 (Kd.int .i64)) W A5 x.f5.length x.f5 →
      Calls Tryz.prog g (#[.agg #[.int .i64 x.f0, .slice A1 x.f1.length c1, .slice A2 x.f2.length c2, .int .i64 x.f3, .int .i64 x.f4, .slice A5 x.f5.length c5, .int .i64 x.f6]] ++ lb) W fun e w' => e = .returned (.bool (p x)) ∧ Below W.heap.size W w') :
    Calls Tryz.prog 47 #[.slice A zs.length c,.func (.func g) #[] lb] w fun e w'=>e= .returned (.bool (zs.any p))∧Below w.heap.size w w':=by
  have hI:=Za.mk (indexFunc_Con p g lb eg A c zs w hr hp);clear hr hp;go_enter Tryz.func47,Tryz.ntmps47
  go_wp2_with (go_at_call 69;refine hI.out.mono ?_;rintro e w' ⟨⟨i,rfl,hi⟩,hb⟩)
  go_ret;exact⟨by rw[←hi];rfl,hb⟩
def hasG (vars : List S55) (a : List Int) : Nat → Nat → Bool
  | 0, _ => true
  |d+1,i=>(Zbb vars (i:Int)).f1.any (inR (rd a (i:Int))) && hasG vars a d (i+1)
def hOk (k:Nat) (a:List Int) (x:S36):Option Bool:=Za7.f k x.f0 x.f1 x.f2 x.f3 x.f4 x.f5 x.f6 a
theorem hOk_mono {k:Nat} {a:List Int} {x:S36} {b:Bool} (h:hOk k a x=some b):hOk (k+1) a x=some b:=Za7.mono _ _ _ _ _ _ _ _ _ _ h
def Za0.f (k:Nat) (vars:List S55) (cons:List S36) (gk:Int) (gv gc a:List Int):Option Bool:=
  if a.length=vars.length then(if hasG vars a vars.length 0=true then(if cons.all (fun x=>(hOk k a x).isSome)=true then some (cons.all fun x=>decide (hOk k a x=some true))else none)else some false)else some false
theorem Za0.mono:∀a0 a1 a2 a3 a4 a5 k,LeO (Za0.f k a0 a1 a2 a3 a4 a5) (Za0.f (k+1) a0 a1 a2 a3 a4 a5):=by
  intro a0 cons a2 a3 a4 a k;unfold Za0.f;refine LeO.ite (LeO.ite ?_ (LeO.refl _)) (LeO.refl _);intro r h;by_cases q:cons.all (fun x=>(hOk k a x).isSome)=true;rotate_left
  · rw [if_neg q] at h
    cases h
  rw[if_pos q]at h;obtain rfl:=Option.some.inj h;have q2:=List.all_eq_true.1 q;rw[if_pos]
  · congr 1
    rw[Bool.eq_iff_iff,List.all_eq_true,List.all_eq_true];refine⟨fun h x hx=> ?_,fun h x hx=> ?_⟩
    · have h1 := h x hx
      obtain⟨b,hb⟩:=Option.isSome_iff_exists.1 (q2 x hx);rw[decide_eq_true_eq]at h1 ⊢;rw[hOk_mono hb]at h1;rw[hb];exact h1
    have h1:=h x hx;obtain⟨b,hb⟩:=Option.isSome_iff_exists.1 (q2 x hx);rw[decide_eq_true_eq]at h1 ⊢;rw[hb]at h1;rw[hOk_mono hb];exact h1
  rw[List.all_eq_true];intro x hx;obtain⟨b,hb⟩:=Option.isSome_iff_exists.1 (q2 x hx);rw[hOk_mono hb]
  rfl
theorem solvesPred (k : Nat) (x : S36) (A1 : Option Addr) (c1 : Nat) (A2 : Option Addr) (c2 : Nat) (A5 : Option Addr) (c5 : Nat) (A : Option Addr) (c : Nat) (a : List Int) (g : Nat) (t : Bool) (w : World)
    (hl1:x.f1.length≤c1) (hr1:Kd.C (Kd.int .i64) w A1 x.f1.length x.f1) (hl2:x.f2.length≤c2) (hr2:Kd.C (Kd.int .i64) w A2 x.f2.length x.f2) (hl5:x.f5.length≤c5) (hr5:Kd.C (Kd.slice 3 (Kd.int .i64)) w A5 x.f5.length x.f5)
    (hr:Kd.C (Kd.int .i64) w A a.length a) (hc:a.length≤c) (hz:w.cell? ⟨g,0,none⟩=some (.slice A a.length c)) (h:hOk k a x=some t):
    Calls Tryz.prog 48 #[.agg #[.int .i64 x.f0,.slice A1 x.f1.length c1,.slice A2 x.f2.length c2,.int .i64 x.f3,.int .i64 x.f4,.slice A5 x.f5.length c5,.int .i64 x.f6],.pointer (some ⟨g,0,none⟩)] w fun e w'=>e= .returned (.bool (!t))∧Below w.heap.size w w':=by
  have HR1:=Za.mk hr1;have HR2:=Za.mk hr2;have HR5:=Za.mk hr5;have HR:=Za.mk hr;have HH:=Za.mk h;have HB:=Za.mk (Below.refl w.heap.size w);clear hr1 hr2 hr5 hr h;obtain⟨x0,x1,x2,x3,x4,x5,x6⟩:=x;have HH2:Za (Za7.f k x0 x1 x2 x3 x4 x5 x6 a=some t):=⟨HH.out⟩;clear HH;dsimp only at hl1 hl2 hl5 HR1 HR2 HR5 ⊢;go_enter Tryz.func48,Tryz.ntmps48
  go_wp2_with (first|((with_reducible refine Zaq (N:=2) rfl ?_);refine bx 2 #[.int .i64 x0,.slice A1 x1.length c1,.slice A2 x2.length c2,.int .i64 x3,.int .i64 x4,.slice A5 x5.length c5,.int .i64 x6] 36 ?_;intro g2 hg2 w2 hbox hb;have hz2:=hB hb hz;have B2:=Za.mk (bS HB.out hb);obtain⟨z0,z1,z2,z3,z4,z5,z6,y0,y1,y2,y3,y4,y5,y6⟩:=cz7 hbox;clear hbox hb hg2)|(go_at_call 13;go_loud (refine(Za7.calls k x0 A1 c1 x1 A2 c2 x2 x3 x4 A5 c5 x5 x6 A c a t w2 (Kd.Zad HR1.out B2.out) hl1 (Kd.Zad HR2.out B2.out) hl2 (Kd.Zad HR5.out B2.out) hl5 (Kd.Zad HR.out B2.out) hc HH2.out).mono ?_;rintro e w3 ⟨rfl,hb⟩;have B3:=Za.mk (bS B2.out hb);clear hb)))
  go_ret;exact⟨by first|rfl|(simp;done),bM B3.out⟩
set_option maxRecDepth 100000 in
theorem Za0.calls (k : Nat) (A0 : Option Addr) (c0 : Nat) (vars : List S55) (A1 : Option Addr) (c1 : Nat) (cons : List S36) (gk : Int) (A3 : Option Addr) (c3 : Nat) (gv : List Int) (A4 : Option Addr) (c4 : Nat) (gc : List Int) (A : Option Addr) (c : Nat) (a : List Int) (r : Bool) (w : World)
    (hr0:Kd.C k55 w A0 vars.length vars) (hc0:vars.length≤c0) (hr1:Kd.C k36 w A1 cons.length cons) (hc1:cons.length≤c1) (hr3:Kd.C (Kd.int .i64) w A3 gv.length gv) (hc3:gv.length≤c3) (hr4:Kd.C (Kd.int .i64) w A4 gc.length gc) (hc4:gc.length≤c4) (hr:Kd.C (Kd.int .i64) w A a.length a) (hc:a.length≤c)
    (h:Za0.f k vars cons gk gv gc a=some r):
    Calls Tryz.prog 15 #[.agg #[.slice A0 vars.length c0,.slice A1 cons.length c1,.int .i64 gk,.slice A3 gv.length c3,.slice A4 gc.length c4],.slice A a.length c] w fun e w'=>e= .returned (.bool r)∧Below w.heap.size w w':=by
  unfold Za0.f at h;have HR0:=Za.mk hr0;have HR1:=Za.mk hr1;have HR:=Za.mk hr;have HLv:Za (vars.length≤9223372036854775807):=⟨hr0.2.1⟩;have HB:=Za.mk (Below.refl w.heap.size w);clear hr0 hr1 hr3 hr4 hr;have H:=Za.mk h;clear h;go_enter Tryz.func15,Tryz.ntmps15;by_cases n0:a.length=vars.length
  case neg=>
    have h:=H.out;rw[if_neg n0]at h;obtain rfl:=Option.some.inj h;have e0:((a.length:Int)==(vars.length:Int))=false:=beq_eq_false_iff_ne.2 (by omega);have e0b:((a.length:Int) !=(vars.length:Int))=true:=by simp only[bne,e0];rfl
    clear h H n0
    go_wp2_with (first|((with_reducible refine Zaq (N:=2) rfl ?_);refine bx 2 #[.slice A0 vars.length c0,.slice A1 cons.length c1,.int .i64 gk,.slice A3 gv.length c3,.slice A4 gc.length c4] 28 ?_;intro g2 hg2 w2 hbox hb;have BK2:=Za.mk hbox;have B2:=Za.mk (bS HB.out hb);obtain⟨z0,z1,z2,z3,z4,y0,y1,y2,y3,y4⟩:=cz5 hbox;clear hbox hb hg2)|((with_reducible refine Zaq (N:=3) rfl ?_);refine bx 3 #[.slice A a.length c] 24 ?_;intro g3 hg3 w3 hbox hb;have BK3:=Za.mk hbox;have BK2:=Za.mk (kB BK2.out hb);have B3:=Za.mk (bS B2.out hb);have z10:w3.cell? ⟨g3,0,none⟩=some (.slice A a.length c):=bc hbox 0;obtain⟨z0,z1,z2,z3,z4,y0,y1,y2,y3,y4⟩:=cz5 BK2.out;clear hbox hb hg3))
    go_ret;exact⟨rfl,bM B3.out⟩
  have h:=H.out;rw[if_pos n0]at h;clear H;have H:=Za.mk h;clear h;have N0:=Za.mk n0;have e0:((a.length:Int)==(vars.length:Int))=true:=beq_iff_eq.2 (by omega);have e0b:((a.length:Int) !=(vars.length:Int))=false:=by simp only[bne,e0];rfl
  clear n0
  generalize hs_:hasG vars a vars.length 0=hs at H
  have HS:=Za.mk hs_;clear hs_
  go_wp2_with (first|((with_reducible refine Zaq (N:=2) rfl ?_);refine bx 2 #[.slice A0 vars.length c0,.slice A1 cons.length c1,.int .i64 gk,.slice A3 gv.length c3,.slice A4 gc.length c4] 28 ?_;intro g2 hg2 w2 hbox hb;have BK2:=Za.mk hbox;have B2:=Za.mk (bS HB.out hb);obtain⟨z0,z1,z2,z3,z4,y0,y1,y2,y3,y4⟩:=cz5 hbox;clear hbox hb hg2)|((with_reducible refine Zaq (N:=3) rfl ?_);refine bx 3 #[.slice A a.length c] 24 ?_;intro g3 hg3 w3 hbox hb;have BK3:=Za.mk hbox;have BK2:=Za.mk (kB BK2.out hb);have B3:=Za.mk (bS B2.out hb);have z10:w3.cell? ⟨g3,0,none⟩=some (.slice A a.length c):=bc hbox 0;obtain⟨z0,z1,z2,z3,z4,y0,y1,y2,y3,y4⟩:=cz5 BK2.out;clear hbox hb hg3))
  clear e0 e0b
  go_loopg [16] vars.length (fun gg v16 w'=>∃i:Nat,v16= .int .i64 i∧i≤vars.length∧vars.length - i≤gg∧Za (hasG vars a (vars.length - i) i=hs)∧Za (Below w3.heap.size w3 w'))
  case atStart=>exact⟨0,rfl,Nat.zero_le _,Nat.le_refl _,⟨by simpa using HS.out⟩,⟨bM (Below.refl w3.heap.size w3)⟩⟩
  case round=>
    clear HS z0 z1 z2 z3 z4 z10 y0 y1 y2 y3 y4;obtain⟨i,rfl,hi,hg,HS,BW⟩:=hrel;have BWw:=Za.mk (Zae B3.out BW.out);have BK2r:=Za.mk (kB BK2.out BW.out);have BK3r:=Za.mk (kB BK3.out BW.out);have z1:wr.cell? ⟨g2,1,none⟩=some (.slice A1 cons.length c1):=bc BK2r.out 1;have z10:wr.cell? ⟨g3,0,none⟩=some (.slice A a.length c):=bc BK3r.out 0;by_cases hlt:i<vars.length
    case neg=>
      obtain rfl:i=vars.length:=by omega
      have p1_:decide ((vars.length:Int)<(vars.length:Int))=false:=decide_eq_false (by omega);obtain rfl:true=hs:=by have h_:=HS.out;rw[Nat.sub_self]at h_;exact h_
      have h:=H.out;rw[if_pos rfl]at h;by_cases q:cons.all (fun x=>(hOk k a x).isSome)=true;case neg=>rw[if_neg q]at h;cases h
      rw[if_pos q]at h;have HRR:=Za.mk (Option.some.inj h);have HQ:=Za.mk (List.all_eq_true.1 q);clear h H q HS hi hg hlt
      have HF := Za.mk (Zgo (fun x => !(decide (hOk k a x = some true))) 48 #[.pointer (some ⟨g3, 0, none⟩)] (enters_of Tryz.func48 (by kernel_rfl) rfl) A1 c1 cons wr (Kd.Zad HR1.out BWw.out) (fun n hn x hx W hW A1 c1 A2 c2 A5 c5 l1 g1 l2 g2_ l5 g5 => by
          have hm:x ∈ cons:=by rw[hx];simp[Zac,List.getD_eq_getElem?_getD,List.getElem?_eq_getElem hn]
          obtain⟨b,hb⟩:=Option.isSome_iff_exists.1 (HQ.out x hm);have h_:=solvesPred k x A1 c1 A2 c2 A5 c5 A c a g3 b W l1 g1 l2 g2_ l5 g5 (Kd.Zad (Kd.Zad HR.out BWw.out) hW) hc (hB hW (bc BK3r.out 0)) hb;have e_:(!(decide (hOk k a x=some true)))= !b:=by rw[hb];cases b<;>rfl
          rw[e_]
          exact h_))
      go_wp2_with (first|(go_at_call 47;go_loud (refine HF.out.mono ?_;rintro e w6 ⟨rfl,hb⟩;have B6:=Za.mk (bS BWw.out hb))))
      go_ret;exact⟨by rw[←HRR.out];first|(simp;done)|(rw[List.not_any_eq_all_not];simp),bM B6.out⟩
    have hltz:(i:Int)<(vars.length:Int):=by omega
    have p1_:decide ((i:Int)<(vars.length:Int))=true:=decide_eq_true hltz;have p2_:decide ((0:Int)≤(i:Int))=true:=decide_eq_true (by omega);have hlta:(i:Int)<(a.length:Int):=by have:=N0.out;omega
    have p3_:decide ((i:Int)<(a.length:Int))=true:=decide_eq_true hlta;have hltn:i<a.length:=by omega
    obtain⟨ad,A5,c5,e_,hx0,hx1,hl1,hi1⟩:=Zeq (Kd.Zad HR0.out BWw.out) (i:Int) (by omega) hltz;cases e_;simp only[Int.toNat_natCast]at hx0 hx1;obtain⟨ada,e_,hxa⟩:=Kd.Zb1 (Kd.Zad HR.out BWw.out) (i:Int) (by omega) hlta;cases e_;simp only[Int.toNat_natCast]at hxa;have h_:=HS.out;rw[show vars.length - i=(vars.length - (i+1))+1 by omega,hasG]at h_;have HS2:=Za.mk h_;clear h_ HS
    generalize Zbb vars (i:Int)=x at hx0 hx1 hl1 hi1 HS2
    have HI1:=Za.mk hi1;clear hi1
    generalize hq_:x.f1.any (inR (rd a (i:Int)))=q at HS2
    have HQ:Za (Zgy.f x.f1 (rd a (i:Int))=some q):=⟨by rw[←hq_];rfl⟩;clear hq_
    go_wp2_with (first|((with_reducible refine Zaq (N:=6) rfl ?_);refine bx 6 #[.string (⟨#[]⟩:ByteArray),.slice none 0 0] 55 ?_;intro g6 hg6 w6 hbox hb;have BK6:=Za.mk hbox;have B6:=Za.mk (bS BWw.out hb);have W6:=Za.mk (bS BW.out hb);have WR6:=Za.mk (bS (Below.refl wr.heap.size wr) hb);have G6:Za (wr.heap.size≤g6):=⟨gE hg6 (Below.refl wr.heap.size wr)⟩;have hxa6:=hB hb hxa;have z16:=hB hb z10;obtain⟨z0,zz1,y0,y1⟩:=cz2 hbox;clear hbox hb hg6))
    have BXq:=Za.mk (Zay (cs':=#[.string x.f0,.slice A5 x.f1.length c5]) (Zay (cs':=#[.string x.f0,.slice none 0 0]) BK6.out 0 (.string x.f0) rfl) 1 (.slice A5 x.f1.length c5) rfl);have G6w:Za (w.heap.size≤g6):=⟨Nat.le_trans BWw.out.size G6.out⟩;have G6x:Za (w3.heap.size≤g6):=⟨Nat.le_trans BW.out.size G6.out⟩;have Bq:=Za.mk (show Below w.heap.size w ((w6.setCell ⟨g6,0,none⟩ (.string x.f0)).setCell ⟨g6,1,none⟩ (.slice A5 x.f1.length c5))from Zb (Zb B6.out G6w.out) G6w.out);have Wq:=Za.mk (show Below w3.heap.size w3 ((w6.setCell ⟨g6,0,none⟩ (.string x.f0)).setCell ⟨g6,1,none⟩ (.slice A5 x.f1.length c5))from Zb (Zb W6.out G6x.out) G6x.out);have WRq:=Za.mk (show Below wr.heap.size wr ((w6.setCell ⟨g6,0,none⟩ (.string x.f0)).setCell ⟨g6,1,none⟩ (.slice A5 x.f1.length c5))from Zb (Zb WR6.out G6.out) G6.out);clear z0 zz1 y0 y1 hxa6 z16 BK6 B6 W6 WR6
    generalize ((w6.setCell ⟨g6,0,none⟩ (.string x.f0)).setCell ⟨g6,1,none⟩ (.slice A5 x.f1.length c5))=wq at BXq Bq Wq WRq ⊢
    have hz6:wq.cell? ⟨g6,1,none⟩=some (.slice A5 x.f1.length c5):=bc BXq.out 1;have hz3:wq.cell? ⟨g3,0,none⟩=some (.slice (some ada) a.length c):=bc (kB BK3.out Wq.out) 0;obtain⟨adb,e_,hza⟩:=Kd.Zb1 (Kd.Zad HR.out Bq.out) (i:Int) (by omega) hlta;cases e_;simp only[Int.toNat_natCast]at hza;have HI2:=Za.mk (Kd.Zad HI1.out (show Below wr.heap.size wr wq from WRq.out));clear hx0 hx1 hxa z1 z10
    cases q with
    |true=>
      go_region_held3 (fun w'=>w'.cell? ⟨g6,1,none⟩=some (.slice A5 x.f1.length c5)∧w'.cell? ⟨g3,0,none⟩=some (.slice (some ada) a.length c)∧w'.cell? (ada.add i)=some (.int .i64 (rd a (i:Int)))) (first|go_keep|exact⟨hB Q7.out hz6,hB Q7.out hz3,hB Q7.out hza⟩) ((go_at_call 46;refine(Zgy.calls A5 c5 x.f1 (rd a (i:Int)) true _ (cM HI2.out) hl1 HQ.out).mono ?_;rintro e w7 ⟨rfl,hb⟩;have B7:=Za.mk (bS Bq.out hb);have W7:=Za.mk (bS Wq.out hb);have Q7:=Za.mk (bS (Below.refl wq.heap.size wq) hb);clear hb))
      all_goals go_wp2
      all_goals go_roundg (vars.length - (i+1))
      all_goals first|omega|exact⟨i+1,(by have hlv:=HLv.out;rw[w64 (by omega) (by omega)];first|rfl|(simp;done)),by omega,Nat.le_refl _,⟨by have h_:=HS2.out;rw[Bool.true_and]at h_;exact h_⟩,⟨bM W7.out⟩⟩
    |false=>
      go_region_held3 (fun w'=>w'.cell? ⟨g6,1,none⟩=some (.slice A5 x.f1.length c5)∧w'.cell? ⟨g3,0,none⟩=some (.slice (some ada) a.length c)∧w'.cell? (ada.add i)=some (.int .i64 (rd a (i:Int)))) (first|go_keep|exact⟨hB Q7.out hz6,hB Q7.out hz3,hB Q7.out hza⟩) ((go_at_call 46;refine(Zgy.calls A5 c5 x.f1 (rd a (i:Int)) false _ (cM HI2.out) hl1 HQ.out).mono ?_;rintro e w7 ⟨rfl,hb⟩;have B7:=Za.mk (bS Bq.out hb);have W7:=Za.mk (bS Wq.out hb);have Q7:=Za.mk (bS (Below.refl wq.heap.size wq) hb);clear hb))
      all_goals go_wp2
      all_goals go_ret
      all_goals exact⟨by have h_:=HS2.out;rw[Bool.false_and]at h_;subst h_;have h2_:=H.out;rw[if_neg Bool.false_ne_true]at h2_;obtain rfl:=Option.some.inj h2_;first|rfl|(simp;done),bM B7.out⟩
end Go.Proofs.YtdpieallpbllkaaGreat.P
/- The map of the names that came: a set of texts. -/
namespace Go.Proofs.YtdpieallpbllkaaGreat.P
open Go.RowKit Go.WideMaps Go.Maps Go.Proofs.YtdpieallpbllkaaGreatW.PrintWords Go.Proofs.YtdpieallpbllkaaGreatW.PrintLast Go.Proofs.YtdpieallpbllkaaGreatW.PrintMore
theorem keyedS:Keyed Tryz.prog 9:=string_keyed Tryz.underlying9
def nameLit (s:ByteArray):Lit:= .string s.data.toList
theorem Zgc {s:ByteArray} (h:s.size≤maxLen):keyOf Tryz.prog 9 (.string s)=some (nameLit s):=keyOf_string_mk Tryz.underlying9 h
theorem nameLit_inj {a b:ByteArray} (e:nameLit a=nameLit b):a=b:=by
  unfold nameLit at e
  injection e with e
  cases a;cases b
  congr 1
  exact Array.toList_inj.1 e
def hasN (L:List ByteArray) (x:ByteArray):Bool:=L.any fun y=>y.toList==x.toList
theorem bytes_ext {a b:ByteArray} (e:a.toList=b.toList):a=b:=by
  rw[ByteArray.toList_eq,ByteArray.toList_eq]at e;cases a;cases b
  congr 1
  exact Array.toList_inj.1 e
theorem hasN_iff (L:List ByteArray) (x:ByteArray):hasN L x=true↔x ∈ L:=by
  unfold hasN;rw[List.any_eq_true]
  constructor
  · rintro ⟨y, hy, e⟩
    rwa [←bytes_ext (beq_iff_eq.1 e)]
  intro h;exact⟨x,h,beq_iff_eq.2 rfl⟩
theorem hasN_false (L:List ByteArray) (x:ByteArray) (h:¬x ∈ L):hasN L x=false:=by
  cases e:hasN L x with
  | false => rfl
  |true=>exact absurd ((hasN_iff L x).1 e) h
theorem Zgw {H : Type} (u z : DataW H) (k : Lit) : ∀ (acc : List Lit) (m : DataW H), k ∉ acc → (acc.foldl (fun m x => m.put x u) m).atKey k z = m.atKey k z
  | [], m, _ => rfl
  |x::r,m,h=>by
    rw[List.foldl_cons,Zgw u z k r (m.put x u) (fun e=>h (by simp[e])),atKey_put_other (fun e=>h (by simp[e]))]
theorem atKey_in {H : Type} (u z : DataW H) (k : Lit) (hk : WideAt.IsKeyLit k) : ∀ (acc : List Lit) (m : DataW H), IsMap m → k ∈ acc → (acc.foldl (fun m x => m.put x u) m).atKey k z = u
  | [], m, _, h => by cases h
  |x::r,m,hm,h=>by
    rw[List.foldl_cons]
    rcases Classical.em (k ∈ r)with hr|hr
    · exact atKey_in u z k hk r (m.put x u) (hm.put x u) hr
    rw[Zgw u z k r _ hr];obtain rfl:k=x:=(List.mem_cons.1 h).resolve_right hr;exact atKey_put_same hm hk u z
def SetN (w:World) (b:Nat) (L:List ByteArray):Prop:=w.ownsMap (H:=Unit) Tryz.prog 9 (plainElem Tryz.prog 4) b L.length (setOf (.lit (.bool true)) (L.map nameLit))
theorem SetN.below {w w':World} {b:Nat} {L:List ByteArray} (h:SetN w b L) (hb:Below w.heap.size w w'):SetN w' b L:=by
  have hlt:=World.ownsMap.lt h;obtain⟨es,clock,h1,F,hs,hD⟩:=h;exact⟨es,clock,(hb.block b hlt).trans h1,F,hs,hD⟩
theorem SetN.lt {w:World} {b:Nat} {L:List ByteArray} (h:SetN w b L):b<w.heap.size:=World.ownsMap.lt h
set_option maxRecDepth 100000 in
theorem SetN.look {w:World} {b:Nat} {L:List ByteArray} {x:ByteArray} (h:SetN w b L) (hx:x.size≤maxLen):(Instr.lookup 96 (.map (some b)) (.string x) false).run Tryz.prog w= .ok (.bool (hasN L x)) w:=by
  obtain⟨v,ps,hrun,hv⟩:=World.ownsMap.lookup h keyedS Tryz.underlying96 (z:= .bool false) (by kernel_rfl) (plainElem_bool Tryz.underlying4 false) (Zgc hx)
  have e:(nameLit x ∈ L.map nameLit)↔x ∈ L:=by
    rw[List.mem_map]
    constructor
    · rintro ⟨y, hy, e⟩
      rwa [←nameLit_inj e]
    intro hy;exact⟨x,hy,rfl⟩
  rw[hrun]
  have hb:v= .bool (hasN L x):=by
    have hc:∃c,v= .bool c∧((setOf (.lit (.bool true)) (L.map nameLit)).atKey (nameLit x) (.lit (.bool false)):DataW Unit)= .lit (.bool c):=by
      unfold plainElem at hv;rw[Tryz.underlying4]at hv;clear hrun e h
      generalize ((setOf (.lit (.bool true)) (L.map nameLit)).atKey (nameLit x) (.lit (.bool false)):DataW Unit)=dd at hv ⊢
      cases v<;>simp at hv
      exact⟨_,rfl,hv.1.symm⟩
    obtain⟨c,rfl,hc⟩:=hc
    rcases Classical.em (x ∈ L)with hm|hm
    · have := (atKey_in (.lit (.bool true)) (.lit (.bool false)) _ (keyedS.key (Zgc hx)) _ _ isMap_empty (e.2 hm)).symm.trans hc
      simp at this
      rw[(hasN_iff L x).2 hm,this]
    have:=(Zgw (.lit (.bool true)) (.lit (.bool false)) (nameLit x) (L.map nameLit) (.map []) (fun h=>hm (e.1 h))).symm.trans hc;have e2:((DataW.map []:DataW Unit).atKey (nameLit x) (.lit (.bool false)))= .lit (.bool false):=rfl;rw[e2]at this
    simp at this
    rw[hasN_false L x hm,this]
  rw[hb]
theorem SetN.made (w:World):SetN (w.alloc (.map #[] 0)) w.heap.size []:=World.ownsMap_made w _ _ _
theorem Zew {w : World} {ops : Array Oper} {rest : List Oper} {o : Oper} {a : Act} {Q : Exit → Act → World → Prop} (hg : o.guard = none) (m x : Operand) (hop : o.op = Op.lookup 96 m x false) {b : Nat} {L : List ByteArray} {q : ByteArray}
    (hm:a.eval m= .map (some b)) (h:SetN w b L) (hx:a.eval x= .string q) (hq:q.size≤maxLen) (hK:wpList Tryz.prog ops Q rest (a.put o.dst (.bool (hasN L q))) w):wpList Tryz.prog ops Q (o::rest) a w:=by
  refine wpList_plain hg fun K' hK'=> ?_
  have hrun:=h.look hq;unfold Oper.wp
  simp[execOp,hop,hm,hx,hrun,Result.andThen]
  exact hK' _ _ hK
theorem wpList_putN {w : World} {ops : Array Oper} {rest : List Oper} {o : Oper} {a : Act} {Q : Exit → Act → World → Prop} (hg : o.guard = none) (m x v : Operand) (hop : o.op = Op.mapUpdate 96 m x v) {b : Nat} {L : List ByteArray} {q : ByteArray}
    (hm:a.eval m= .map (some b)) (h:SetN w b L) (hx:a.eval x= .string q) (hv:a.eval v= .bool true) (hq:q.size≤maxLen) (hn:L.length<maxLen) (hK:∀w',SetN w' b (L++ [q])→w.grownBy w' (some b)→wpList Tryz.prog ops Q rest (a.put o.dst undef) w'):wpList Tryz.prog ops Q (o::rest) a w:=by
  refine wpList_plain hg fun K' hK'=> ?_
  obtain⟨w',hrun,r1,r2⟩:=World.ownsMap.update h keyedS Tryz.underlying96 hn (Zgc hq) (plainElem_bool Tryz.underlying4 true)
  have r3:SetN w' b (L++ [q]):=by
    unfold SetN;rw[List.map_append,List.map_cons,List.map_nil,setOf_snoc,List.length_append];exact r1
  unfold Oper.wp
  simp[execOp,hop,hm,hx,hv,hrun,Result.andThen]
  exact hK' _ _ (hK w' r3 r2)
end Go.Proofs.YtdpieallpbllkaaGreat.P
/- model.Name: may a text be a name? (a range over a string) -/
namespace Go.Proofs.YtdpieallpbllkaaGreat.P
open Go.RowKit Go.Proofs.YtdpieallpbllkaaGreatW.PrintWords Go.Proofs.YtdpieallpbllkaaGreatW.PrintLast Go.Proofs.YtdpieallpbllkaaGreatW.PrintMore
def okAt (i c:Nat):Bool:=(decide (97≤c) && decide (c≤122))||(!decide (i=0) && (decide (c=95)||(decide (48≤c) && decide (c≤57))))
def nameGo (s : ByteArray) : Nat → Nat → Bool
  | 0, _ => true
  |b+1,pos=>if h:pos<s.size then okAt pos (s[pos]'h).toNat && nameGo s b (pos+1)else true
def Zd2.f (a0:ByteArray):Option Bool:=some (!decide (a0.size=0) && (decide (a0.size≤16) && nameGo a0 a0.size 0))
theorem nameGo_end (s:ByteArray) (b pos:Nat) (h:¬pos<s.size):nameGo s b pos=true:=by
  cases b with
  | zero => rfl
  |succ b=>simp[nameGo,h]
theorem okAt_high (i c:Nat) (h:128≤c):okAt i c=false:=by
  have h1:decide (c≤122)=false:=decide_eq_false (by omega);have h2:decide (c=95)=false:=decide_eq_false (by omega);have h3:decide (c≤57)=false:=decide_eq_false (by omega)
  simp[okAt,h1,h2,h3]
set_option maxRecDepth 1000000 in
theorem Zd2.calls (a0 : ByteArray) (r : Bool) (w : World) (h : Zd2.f a0 = some r) :
    Calls Tryz.prog 77 #[.string a0] w fun e w'=>e= .returned (.bool r)∧Below w.heap.size w w':=by
  obtain rfl:=Option.some.inj h;clear h;by_cases h0:a0.size=0
  · have d0 : decide (a0.size = 0) = true := decide_eq_true h0
    have e0:a0=⟨#[]⟩:=by
      have:a0.data=#[]:=Array.eq_empty_of_size_eq_zero h0;cases a0;simpa using this
    subst e0;go_enter Tryz.func77,Tryz.ntmps77;go_wp2;go_ret;exact⟨by rfl,Below.refl _ _⟩
  have d0:decide (a0.size=0)=false:=decide_eq_false h0
  have eE:a0.toList.isEmpty=false:=by
    rw[ByteArray.toList_eq]
    cases hd:a0.data.toList with
    | nil => exact absurd (show a0.data.size = 0 by rw [← Array.length_toList, hd]; rfl) h0
    |cons a l=>rfl
  have DD:=Za.mk d0;clear d0 h0;by_cases h16:16<a0.size
  · have e1 : decide (16 < (a0.size : Int)) = true := decide_eq_true (by omega)
    have e2:decide (16<a0.size)=true:=decide_eq_true h16;have e3:Za (decide (a0.size≤16)=false):=⟨decide_eq_false (by omega)⟩;clear h16;go_enter Tryz.func77,Tryz.ntmps77;go_wp2;go_ret;exact⟨by rw[DD.out,e3.out];rfl,Below.refl _ _⟩
  have e1:decide (16<(a0.size:Int))=false:=decide_eq_false (by omega);have e2:decide (16<a0.size)=false:=decide_eq_false h16;have e3:Za (decide (a0.size≤16)=true):=⟨decide_eq_true (by omega)⟩;have hsz:a0.size≤16:=by omega
  clear h16;rw[DD.out,e3.out]
  show Calls _ _ _ _ fun e w'=>e= .returned (.bool (nameGo a0 a0.size 0))∧_
  obtain⟨wo,rfl⟩:∃wo:World,wo=w:=⟨_,rfl⟩;go_enter Tryz.func77,Tryz.ntmps77;go_wp2
  go_loopw [3,4,5] (fun s3 s4 s5 w'=>∃(pos b:Nat),w'=wo.iter a0 pos∧Za (nameGo a0 b pos=nameGo a0 a0.size 0)∧Za (a0.size≤pos+b)) (fun _ _ _ w'=>a0.size - w'.iterPos wo.heap.size)
  case atStart=>exact⟨0,a0.size,rfl,⟨rfl⟩,⟨by omega⟩⟩
  case round=>
    obtain⟨pos,b,rfl,hc,hb⟩:=hrel;by_cases hp:pos<a0.size;rotate_left
    · have hnx : ∀ ty, (Instr.next (.pointer (some ⟨wo.heap.size, 0, none⟩)) true ty).run Tryz.prog (wo.iter a0 pos) = _ := fun ty => run_next_end wo a0 pos ty hp
      go_wp2;go_ret;have:=hc.out;rw[nameGo_end a0 b pos hp]at this;rw[←this];exact⟨rfl,Zbi (Below.refl _ _) _⟩
    skip
    by_cases ha:(a0[pos]'hp).toNat<128;rotate_left
    · have hnx := fun ty => run_next_any (P := Tryz.prog) wo a0 pos ty hp
      have hh:=(decode_high a0 pos hp (by omega)).1;have OKx:Za (okAt pos (a0[pos]'hp).toNat=false):=⟨okAt_high pos _ (by omega)⟩
      generalize (Utf8.decode a0 pos).1=c at hnx hh
      generalize pos+(Utf8.decode a0 pos).2=pos2 at hnx
      have OK:=OKx;clear OKx;have a1:decide ((97:Int)≤(c:Int))=true:=decide_eq_true (by omega);have a2:decide ((c:Int)≤122)=false:=decide_eq_false (by omega);have a4:((c:Int)==95)=false:=beq_eq_false_iff_ne.2 (by omega);have a4n:((c:Int) !=95)=true:=by simp only[bne,a4,Bool.not_false]
      have a4d:decide ((c:Int)=95)=false:=decide_eq_false (by omega);have a5:decide ((c:Int)<48)=false:=decide_eq_false (by omega);have a6:decide ((57:Int)<(c:Int))=true:=decide_eq_true (by omega);by_cases q3:pos=0
      · subst q3
        go_wp2;go_ret;refine⟨?_,Zbi (Below.refl _ _) _⟩;rw[←hc.out]
        cases b with
        | zero => exact absurd hb.out (by omega)
        |succ b=>(first|rw[nameGo,dif_pos hp,HX.out,OK.out,Bool.false_and]|rw[nameGo,dif_pos hp,OK.out,Bool.false_and]);rfl
      skip
      have a3:((pos:Int)==0)=false:=beq_eq_false_iff_ne.2 (by omega);have a3n:((pos:Int) !=0)=true:=by simp only[bne,a3,Bool.not_false]
      have a3d:decide ((pos:Int)=0)=false:=decide_eq_false (by omega);go_wp2;go_ret;refine⟨?_,Zbi (Below.refl _ _) _⟩;rw[←hc.out]
      cases b with
      | zero => exact absurd hb.out (by omega)
      |succ b=>(first|rw[nameGo,dif_pos hp,HX.out,OK.out,Bool.false_and]|rw[nameGo,dif_pos hp,OK.out,Bool.false_and]);rfl
    have hnx:=fun ty=>run_next_ascii (P:=Tryz.prog) wo a0 pos ty hp ha
    generalize hx:(a0[pos]'hp).toNat=c at hnx ha
    have HX:=Za.mk hx;clear hx;by_cases q1:97≤c;rotate_left
    · skip
      have a1:decide ((97:Int)≤(c:Int))=false:=decide_eq_false (by omega);by_cases q3:pos=0
      · skip
        have OK:Za (okAt pos c=false):=⟨by by_cases z1:97≤c<;>by_cases z2:c≤122<;>by_cases z3:pos=0<;>by_cases z4:c=95<;>by_cases z5:48≤c<;>by_cases z6:c≤57<;>first|(exfalso;omega)|simp[okAt,z1,z2,z3,z4,z5,z6]⟩;subst q3;go_wp2;go_ret;refine⟨?_,Zbi (Below.refl _ _) _⟩;rw[←hc.out]
        cases b with
        | zero => exact absurd hb.out (by omega)
        |succ b=>(first|rw[nameGo,dif_pos hp,HX.out,OK.out,Bool.false_and]|rw[nameGo,dif_pos hp,OK.out,Bool.false_and]);rfl
      skip
      have a3:((pos:Int)==0)=false:=beq_eq_false_iff_ne.2 (by omega);have a3n:((pos:Int) !=0)=true:=by simp only[bne,a3,Bool.not_false]
      have a3d:decide ((pos:Int)=0)=false:=decide_eq_false (by omega);by_cases q4:c=95
      · skip
        have OK:Za (okAt pos c=true):=⟨by by_cases z1:97≤c<;>by_cases z2:c≤122<;>by_cases z3:pos=0<;>by_cases z4:c=95<;>by_cases z5:48≤c<;>by_cases z6:c≤57<;>first|(exfalso;omega)|simp[okAt,z1,z2,z3,z4,z5,z6]⟩;have a4:((c:Int)==95)=true:=beq_iff_eq.2 (by omega);have a4n:((c:Int) !=95)=false:=by simp only[bne,a4,Bool.not_true]
        have a4d:decide ((c:Int)=95)=true:=decide_eq_true (by omega);go_wp2
        go_roundw
        case rel=>
          cases b with
          | zero => exact absurd hb.out (by omega)
          |succ b=>
            refine⟨pos+1,b,rfl,⟨?_⟩,⟨by have:=hb.out;omega⟩⟩;rw[←hc.out,nameGo,dif_pos hp,HX.out,OK.out,Bool.true_and]
        case measure=>simp;omega
      skip
      have a4:((c:Int)==95)=false:=beq_eq_false_iff_ne.2 (by omega);have a4n:((c:Int) !=95)=true:=by simp only[bne,a4,Bool.not_false]
      have a4d:decide ((c:Int)=95)=false:=decide_eq_false (by omega);by_cases q5:c<48
      · skip
        have OK:Za (okAt pos c=false):=⟨by by_cases z1:97≤c<;>by_cases z2:c≤122<;>by_cases z3:pos=0<;>by_cases z4:c=95<;>by_cases z5:48≤c<;>by_cases z6:c≤57<;>first|(exfalso;omega)|simp[okAt,z1,z2,z3,z4,z5,z6]⟩;have a5:decide ((c:Int)<48)=true:=decide_eq_true (by omega);go_wp2;go_ret;refine⟨?_,Zbi (Below.refl _ _) _⟩;rw[←hc.out]
        cases b with
        | zero => exact absurd hb.out (by omega)
        |succ b=>(first|rw[nameGo,dif_pos hp,HX.out,OK.out,Bool.false_and]|rw[nameGo,dif_pos hp,OK.out,Bool.false_and]);rfl
      skip
      have a5:decide ((c:Int)<48)=false:=decide_eq_false (by omega);by_cases q6:57<c
      · skip
        have OK:Za (okAt pos c=false):=⟨by by_cases z1:97≤c<;>by_cases z2:c≤122<;>by_cases z3:pos=0<;>by_cases z4:c=95<;>by_cases z5:48≤c<;>by_cases z6:c≤57<;>first|(exfalso;omega)|simp[okAt,z1,z2,z3,z4,z5,z6]⟩;have a6:decide ((57:Int)<(c:Int))=true:=decide_eq_true (by omega);go_wp2;go_ret;refine⟨?_,Zbi (Below.refl _ _) _⟩;rw[←hc.out]
        cases b with
        | zero => exact absurd hb.out (by omega)
        |succ b=>(first|rw[nameGo,dif_pos hp,HX.out,OK.out,Bool.false_and]|rw[nameGo,dif_pos hp,OK.out,Bool.false_and]);rfl
      skip
      have OK:Za (okAt pos c=true):=⟨by by_cases z1:97≤c<;>by_cases z2:c≤122<;>by_cases z3:pos=0<;>by_cases z4:c=95<;>by_cases z5:48≤c<;>by_cases z6:c≤57<;>first|(exfalso;omega)|simp[okAt,z1,z2,z3,z4,z5,z6]⟩;have a6:decide ((57:Int)<(c:Int))=false:=decide_eq_false (by omega);go_wp2
      go_roundw
      case rel=>
        cases b with
        | zero => exact absurd hb.out (by omega)
        |succ b=>
          refine⟨pos+1,b,rfl,⟨?_⟩,⟨by have:=hb.out;omega⟩⟩;rw[←hc.out,nameGo,dif_pos hp,HX.out,OK.out,Bool.true_and]
      case measure=>simp;omega
    by_cases q2:c≤122
    · skip
      have OK:Za (okAt pos c=true):=⟨by by_cases z1:97≤c<;>by_cases z2:c≤122<;>by_cases z3:pos=0<;>by_cases z4:c=95<;>by_cases z5:48≤c<;>by_cases z6:c≤57<;>first|(exfalso;omega)|simp[okAt,z1,z2,z3,z4,z5,z6]⟩;have a1:decide ((97:Int)≤(c:Int))=true:=decide_eq_true (by omega);have a2:decide ((c:Int)≤122)=true:=decide_eq_true (by omega);clear q1 q2 ha;go_wp2
      go_roundw
      case rel=>
        cases b with
        | zero => exact absurd hb.out (by omega)
        |succ b=>
          refine⟨pos+1,b,rfl,⟨?_⟩,⟨by have:=hb.out;omega⟩⟩;rw[←hc.out,nameGo,dif_pos hp,HX.out,OK.out,Bool.true_and]
      case measure=>simp;omega
    skip
    have a1:decide ((97:Int)≤(c:Int))=true:=decide_eq_true (by omega);have a2:decide ((c:Int)≤122)=false:=decide_eq_false (by omega);by_cases q3:pos=0
    · skip
      have OK:Za (okAt pos c=false):=⟨by by_cases z1:97≤c<;>by_cases z2:c≤122<;>by_cases z3:pos=0<;>by_cases z4:c=95<;>by_cases z5:48≤c<;>by_cases z6:c≤57<;>first|(exfalso;omega)|simp[okAt,z1,z2,z3,z4,z5,z6]⟩;subst q3;go_wp2;go_ret;refine⟨?_,Zbi (Below.refl _ _) _⟩;rw[←hc.out]
      cases b with
      | zero => exact absurd hb.out (by omega)
      |succ b=>(first|rw[nameGo,dif_pos hp,HX.out,OK.out,Bool.false_and]|rw[nameGo,dif_pos hp,OK.out,Bool.false_and]);rfl
    skip
    have a3:((pos:Int)==0)=false:=beq_eq_false_iff_ne.2 (by omega);have a3n:((pos:Int) !=0)=true:=by simp only[bne,a3,Bool.not_false]
    have a3d:decide ((pos:Int)=0)=false:=decide_eq_false (by omega);by_cases q4:c=95
    · skip
      have OK:Za (okAt pos c=true):=⟨by by_cases z1:97≤c<;>by_cases z2:c≤122<;>by_cases z3:pos=0<;>by_cases z4:c=95<;>by_cases z5:48≤c<;>by_cases z6:c≤57<;>first|(exfalso;omega)|simp[okAt,z1,z2,z3,z4,z5,z6]⟩;have a4:((c:Int)==95)=true:=beq_iff_eq.2 (by omega);have a4n:((c:Int) !=95)=false:=by simp only[bne,a4,Bool.not_true]
      have a4d:decide ((c:Int)=95)=true:=decide_eq_true (by omega);go_wp2
      go_roundw
      case rel=>
        cases b with
        | zero => exact absurd hb.out (by omega)
        |succ b=>
          refine⟨pos+1,b,rfl,⟨?_⟩,⟨by have:=hb.out;omega⟩⟩;rw[←hc.out,nameGo,dif_pos hp,HX.out,OK.out,Bool.true_and]
      case measure=>simp;omega
    skip
    have a4:((c:Int)==95)=false:=beq_eq_false_iff_ne.2 (by omega);have a4n:((c:Int) !=95)=true:=by simp only[bne,a4,Bool.not_false]
    have a4d:decide ((c:Int)=95)=false:=decide_eq_false (by omega);by_cases q5:c<48
    · skip
      have OK:Za (okAt pos c=false):=⟨by by_cases z1:97≤c<;>by_cases z2:c≤122<;>by_cases z3:pos=0<;>by_cases z4:c=95<;>by_cases z5:48≤c<;>by_cases z6:c≤57<;>first|(exfalso;omega)|simp[okAt,z1,z2,z3,z4,z5,z6]⟩;have a5:decide ((c:Int)<48)=true:=decide_eq_true (by omega);go_wp2;go_ret;refine⟨?_,Zbi (Below.refl _ _) _⟩;rw[←hc.out]
      cases b with
      | zero => exact absurd hb.out (by omega)
      |succ b=>(first|rw[nameGo,dif_pos hp,HX.out,OK.out,Bool.false_and]|rw[nameGo,dif_pos hp,OK.out,Bool.false_and]);rfl
    skip
    have a5:decide ((c:Int)<48)=false:=decide_eq_false (by omega);by_cases q6:57<c
    · skip
      have OK:Za (okAt pos c=false):=⟨by by_cases z1:97≤c<;>by_cases z2:c≤122<;>by_cases z3:pos=0<;>by_cases z4:c=95<;>by_cases z5:48≤c<;>by_cases z6:c≤57<;>first|(exfalso;omega)|simp[okAt,z1,z2,z3,z4,z5,z6]⟩;have a6:decide ((57:Int)<(c:Int))=true:=decide_eq_true (by omega);go_wp2;go_ret;refine⟨?_,Zbi (Below.refl _ _) _⟩;rw[←hc.out]
      cases b with
      | zero => exact absurd hb.out (by omega)
      |succ b=>(first|rw[nameGo,dif_pos hp,HX.out,OK.out,Bool.false_and]|rw[nameGo,dif_pos hp,OK.out,Bool.false_and]);rfl
    skip
    have OK:Za (okAt pos c=true):=⟨by by_cases z1:97≤c<;>by_cases z2:c≤122<;>by_cases z3:pos=0<;>by_cases z4:c=95<;>by_cases z5:48≤c<;>by_cases z6:c≤57<;>first|(exfalso;omega)|simp[okAt,z1,z2,z3,z4,z5,z6]⟩;have a6:decide ((57:Int)<(c:Int))=false:=decide_eq_false (by omega);go_wp2
    go_roundw
    case rel=>
      cases b with
      | zero => exact absurd hb.out (by omega)
      |succ b=>
        refine⟨pos+1,b,rfl,⟨?_⟩,⟨by have:=hb.out;omega⟩⟩;rw[←hc.out,nameGo,dif_pos hp,HX.out,OK.out,Bool.true_and]
    case measure=>simp;omega
end Go.Proofs.YtdpieallpbllkaaGreat.P
namespace Go.Proofs.YtdpieallpbllkaaGreat.P
open Go.RowKit Go.Proofs.YtdpieallpbllkaaGreatW.PrintWords Go.Proofs.YtdpieallpbllkaaGreatW.PrintLast Go.Proofs.YtdpieallpbllkaaGreatW.PrintMore
attribute [local go_sem] Zcw Zcy Zdd Zde Zck Zcl Zcx Zcz
def Zcp.l0 : Nat → Int → List (S82) → Int → Int → Option (Int)
 | 0, _, _, _, _ => none
 |k+1,x3,x6,x7,x8=>if x8<x7 then(if 0≤x8 then(if x8<(x6.length:Int)then(Zcp.l0 k (wrap64 (x3+(wrap64 ((wrap64 (((Zbk x6 x8).f1) - ((Zbk x6 x8).f0)))+1)))) x6 x7 (wrap64 (x8+1)))else(none))else(none))else(some x3)
def Zcp.f (k:Nat) (l0:List (S82)):Option (Int):=Zcp.l0 k 0 l0 (l0.length:Int) 0
theorem Zcp.Zc5 : ∀ k, (∀ y0 y1 y2 y3, LeO (Zcp.l0 k y0 y1 y2 y3) (Zcp.l0 (k + 1) y0 y1 y2 y3))
 | 0 => fun _ _ _ _ r h => by simp [Zcp.l0] at h
 |k+1=>by
  have ih0:=Zcp.Zc5 k;intro y0 y1 y2 y3;unfold Zcp.l0
  repeat' first
  | (with_reducible exact ih0 _ _ _ _)
  | (with_reducible exact LeO.refl _)
  | (with_reducible exact LeO.none _)
  | (with_reducible refine LeO.ite ?_ ?_)
  |(with_reducible refine LeO.bind ?_ (fun _=> ?_))
theorem Zcp.mono:∀a0 k,LeO (Zcp.f k a0) (Zcp.f (k+1) a0):=by
 intro a0 k;have ih0:=Zcp.Zc5 k;unfold Zcp.f
 repeat' first
   | (with_reducible exact ih0 _ _ _ _)
   | (with_reducible exact LeO.refl _)
   | (with_reducible exact LeO.none _)
   | (with_reducible refine LeO.ite ?_ ?_)
   |(with_reducible refine LeO.bind ?_ (fun _=> ?_))
set_option maxRecDepth 100000 in
theorem Zcp.calls (k : Nat) (A0 : Option Addr) (c0 : Nat) (l0 : List (S82)) (r : Int) (w : World) (hr0 : Kd.C k82 w A0 l0.length l0) (hc0 : l0.length ≤ c0) (h : Zcp.f k l0 = some r) :
  Calls Tryz.prog 60 #[.slice A0 l0.length c0] w fun e w'=>e= .returned (.int .i64 r)∧Below w.heap.size w w':=by
 have hu82:=Tryz.underlying82;have HR0:=Za.mk hr0;have HC0:=Za.mk hc0;clear hr0 hc0;have HB:=Za.mk (Below.refl w.heap.size w);have H:(Zcp.l0 k 0 l0 (l0.length:Int) 0)=some r:=h;clear h;have H':=Za.mk H;clear H;go_enter Tryz.func60,Tryz.ntmps60;go_wp2
 go_loopg [3,8] k (fun kq v3 v8 w'=>∃(af:Int) (eP:Int),v3= .int .i64 af∧v8= .int .i64 eP∧Za (Zcp.l0 kq af l0 (l0.length:Int) eP=some r)∧Za (kq≤k)∧Za (Below w.heap.size w w'))
 case atStart=>exact⟨(0),(0),eS,eS,H',⟨Nat.le_refl _⟩,⟨bM HB.out⟩⟩
 case round=>
  clear H';obtain⟨af,eP,rfl,rfl,HA,HK1,HB⟩:=hrel
  cases gk with
  | zero => exact absurd HA.out (by simp [Zcp.l0])
  |succ k1=>
   have H:=HA.out;clear HA;simp only[Zcp.l0]at H;by_cases c2:eP<(l0.length:Int)
   case neg=>
    rw[if_neg c2]at H;have jo:decide (eP<(l0.length:Int))=false:=decide_eq_false c2;clear c2;obtain rfl:=sj H;go_wp2;go_ret;exact⟨eR,bM HB.out⟩
   rw[if_pos c2]at H;have jo:decide (eP<(l0.length:Int))=true:=decide_eq_true c2;clear c2;obtain⟨eY,H⟩:=ifT H;obtain⟨dz,H⟩:=ifT H;have H':=Za.mk H;clear H;have nCa:(0≤(eP:Int))=True:=teq;have nFa:(eP<(l0.length:Int))=True:=teq;obtain⟨ena,rfl,Jt,Ju⟩:=Zek HR0.out eP odt odt;replace Jt:=hB HB.out Jt;replace Ju:=hB HB.out Ju
   go_wp2_with (first|((with_reducible refine Zaq (N:=5) rfl ?_);refine bx 5 #[.int .i64 0,.int .i64 0] 82 ?_;intro X0 hg w5 hbox hb;have Vp:=Za.mk (hbox);have eaa:=Za.mk ((gE hg HB.out:w.heap.size≤X0));replace HB:=Za.mk (bS HB.out hb);clear hb hbox hg;obtain⟨kH,kJ,kE,kF⟩:=cz2 Vp.out))
   go_roundg k1
   case measure=>have:=HK1.out;omega
   case rel=>exact⟨(wrap64 (af+(wrap64 ((wrap64 (((Zbk l0 eP).f1) - ((Zbk l0 eP).f0)))+1)))),(wrap64 (eP+1)),eS,eS,H',⟨by have:=HK1.out;omega⟩,⟨bM HB.out⟩⟩
def Zdh.f (a0:Int):Option (Bool):=if a0≥(-1048576)then(some (decide (a0≤1048576)))else(some false)
set_option maxRecDepth 100000 in
theorem Zdh.calls (a0 : Int) (r : Bool) (w : World) (h : Zdh.f a0 = some r) :
  Calls Tryz.prog 117 #[.int .i64 a0] w fun e w'=>e= .returned (.bool r)∧Zas w w':=by
 have H:(if a0≥(-1048576)then(some (decide (a0≤1048576)))else(some false))=some r:=h;clear h;by_cases c2:a0≥(-1048576)
 case pos=>
  rw[if_pos c2]at H;have jo:decide ((-1048576)≤a0)=true:=decide_eq_true c2;clear c2;obtain rfl:=sj H;go_enter Tryz.func117,Tryz.ntmps117;go_wp2;go_ret;exact⟨eS,by repeat(first|exact Zas.refl _|apply Zas.step)⟩
 rw[if_neg c2]at H;have jo:decide ((-1048576)≤a0)=false:=decide_eq_false c2;clear c2;obtain rfl:=sj H;go_enter Tryz.func117,Tryz.ntmps117;go_wp2;go_ret;exact⟨eS,by repeat(first|exact Zas.refl _|apply Zas.step)⟩
end Go.Proofs.YtdpieallpbllkaaGreat.P
/- secateur/dom.right: over a list of ranges. -/
namespace Go.Proofs.YtdpieallpbllkaaGreat.P
open Go.RowKit Go.Proofs.YtdpieallpbllkaaGreatW.PrintWords Go.Proofs.YtdpieallpbllkaaGreatW.PrintLast Go.Proofs.YtdpieallpbllkaaGreatW.PrintMore
def Zcj.l0 : Nat → List (S82) → List (S82) → Int → Int → Option (Bool)
 | 0, _, _, _, _ => none
 |k+1,x0,x5,x6,x7=>if x7<x6 then(if 0≤x7 then(if x7<(x5.length:Int)then((Zdh.f ((Zbk x5 x7).f0)).bind fun ta=>(if ta=true then((Zdh.f ((Zbk x5 x7).f1)).bind fun tb=>(if tb=true then(if((Zbk x5 x7).f0)>((Zbk x5 x7).f1)then(some false)else(if x7>0 then(if 0≤(wrap64 (x7 - 1))then(if(wrap64 (x7 - 1))<(x0.length:Int)then(if((Zbk x5 x7).f0)<(wrap64 (((Zbk x0 (wrap64 (x7 - 1))).f1)+2))then(some false)else(Zcj.l0 k x0 x5 x6 (wrap64 (x7+1))))else(none))else(none))else(Zcj.l0 k x0 x5 x6 (wrap64 (x7+1)))))else(some false)))else(some false)))else(none))else(none))else(some true)
def Zcj.f (k:Nat) (l0:List (S82)):Option (Bool):=Zcj.l0 k l0 l0 (l0.length:Int) 0
theorem Zcj.Zc5 : ∀ k, (∀ y0 y1 y2 y3, LeO (Zcj.l0 k y0 y1 y2 y3) (Zcj.l0 (k + 1) y0 y1 y2 y3))
  | 0 => by intro y0 y1 y2 y3 r h; simp [Zcj.l0] at h
  |k+1=>by
    have ih:=Zcj.Zc5 k;intro y0 y1 y2 y3;unfold Zcj.l0
    repeat' first
      | (with_reducible exact ih _ _ _ _)
      | (with_reducible exact LeO.refl _)
      | (with_reducible exact LeO.none _)
      | (with_reducible refine LeO.ite ?_ ?_)
      |(with_reducible refine LeO.bind ?_ (fun _=> ?_))
theorem Zcj.mono:∀a0 k,LeO (Zcj.f k a0) (Zcj.f (k+1) a0):=fun a0 k=>Zcj.Zc5 k a0 a0 _ _
set_option maxRecDepth 100000 in
theorem Zcj.calls (k : Nat) (A0 : Option Addr) (c0 : Nat) (l0 : List (S82)) (r : Bool) (w : World) (hr0 : Kd.C k82 w A0 l0.length l0) (hc0 : l0.length ≤ c0) (h : Zcj.f k l0 = some r) :
  Calls Tryz.prog 107 #[.slice A0 l0.length c0] w fun e w'=>e= .returned (.bool r)∧Below w.heap.size w w':=by
 have hu:=Tryz.underlying82;have HR0:=Za.mk hr0;clear hr0 hc0;have HB:=Za.mk (Below.refl w.heap.size w);have H':=Za.mk (show Zcj.l0 k l0 l0 (l0.length:Int) 0=some r from h);clear h;go_enter Tryz.func107,Tryz.ntmps107;go_wp2
 go_loopg [7] k (fun kq v7 w'=>∃(x:Int),v7= .int .i64 x∧Za (Zcj.l0 kq l0 l0 (l0.length:Int) x=some r)∧Za (kq≤k)∧Za (Below w.heap.size w w'))
 case atStart=>exact⟨0,rfl,H',⟨Nat.le_refl _⟩,⟨mvB HB.out⟩⟩
 case round=>
  clear H' HB;obtain⟨x,rfl,HA,HK1,HB⟩:=hrel
  cases gk with
  | zero => exact absurd HA.out (by simp [Zcj.l0])
  |succ k1=>
   have H:=HA.out;clear HA;simp only[Zcj.l0]at H;by_cases c2:x<(l0.length:Int);rotate_left
   ·rw [if_neg c2] at H
    have p1_:decide (x<(l0.length:Int))=false:=decide_eq_false c2;clear c2;obtain rfl:=Option.some.inj H;clear H;go_wp2;go_ret;exact⟨rfl,mvB HB.out⟩
   rw[if_pos c2]at H;have p1_:decide (x<(l0.length:Int))=true:=decide_eq_true c2;by_cases c3:0≤x;rotate_left
   ·rw [if_neg c3] at H
    exact absurd H (by simp)
   rw[if_pos c3]at H;rw[if_pos c2]at H;have p2_:decide (0≤x)=true:=decide_eq_true c3;obtain⟨ad,e_,hx0,hx1⟩:=Zek (Kd.Zad HR0.out HB.out) x c3 c2;cases e_;replace c2:=eq_true c2;replace c3:=eq_true c3
   generalize (Zbk l0 x).f0=a at hx0 H
   generalize (Zbk l0 x).f1=b at hx1 H
   obtain⟨va,hva,H2_⟩:=Option.bind_eq_some_iff.1 H;clear H;have H:=H2_;clear H2_;have HVa:=Za.mk hva;clear hva
   cases va with
   |false=>
    rw[if_neg Bool.false_ne_true]at H;obtain rfl:=Option.some.inj H;clear H
    go_wp2_with (first|((with_reducible refine Zaq (N:=4) rfl ?_);refine Zda ?hg (N:=4) ?hd (cs:=#[.int .i64 0,.int .i64 0]) (t:=82) ?hr ?_;(case hd=>rfl);(case hg=>rfl);(case hr=>first|(go_simp;done)|(go_simp;rfl));intro g4 hg4 w9 hbox hb;have BX:=Za.mk hbox;have lw:w9.cell? ⟨g4,0,none⟩=some (.int .i64 0):=(Zan hbox 0).trans rfl;have kR:w9.cell? ⟨g4,1,none⟩=some (.int .i64 0):=(Zan hbox 1).trans rfl;have l6:=Zax hbox 0;have l7:=Zax hbox 1;have BV:=Za.mk (Zae (mvB (Below.refl wr.heap.size wr)) hb);have HG4:Za (wr.heap.size≤g4):=⟨by rw[hg4];exact(mvB (Below.refl wr.heap.size wr)).size⟩;clear hbox hb hg4))
    have BXq:=Za.mk (Zay (cs':=#[.int .i64 a,.int .i64 b]) (Zay (cs':=#[.int .i64 a,.int .i64 0]) BX.out 0 (.int .i64 a) rfl) 1 (.int .i64 b) rfl);have BVq:=Za.mk (show Below wr.heap.size wr ((w9.setCell ⟨g4,0,none⟩ (.int .i64 a)).setCell ⟨g4,1,none⟩ (.int .i64 b))from Zb (Zb BV.out HG4.out) HG4.out);clear lw kR l6 l7
    generalize ((w9.setCell ⟨g4,0,none⟩ (.int .i64 a)).setCell ⟨g4,1,none⟩ (.int .i64 b))=wq at BXq BVq ⊢
    have hq0:wq.cell? ⟨g4,0,none⟩=some (.int .i64 a):=(Zan BXq.out 0).trans rfl;have hq1:wq.cell? ⟨g4,1,none⟩=some (.int .i64 b):=(Zan BXq.out 1).trans rfl;clear hx0 hx1;have HCa:Za (∀n,Calls Tryz.prog 117 #[.int .i64 a] (wq.drewN n) fun e w''=>e= .returned (.bool false)∧∃m,w''=wq.drewN m):=⟨fun n=>Calls.quiet_of ((Zdh.calls a _ _ HVa.out).mono fun e w' h_=>⟨h_.1,h_.2.out⟩)⟩
    go_quiet (with_reducible exact HCa.out _)
    go_wp2;go_ret;exact⟨rfl,mvB (Zae HB.out BVq.out)⟩
   |true=>
    rw[if_pos rfl]at H;obtain⟨vb,hvb,H2_⟩:=Option.bind_eq_some_iff.1 H;clear H;have H:=H2_;clear H2_;have HVb:=Za.mk hvb;clear hvb
    cases vb with
    |false=>
     rw[if_neg Bool.false_ne_true]at H;obtain rfl:=Option.some.inj H;clear H
     go_wp2_with (first|((with_reducible refine Zaq (N:=4) rfl ?_);refine Zda ?hg (N:=4) ?hd (cs:=#[.int .i64 0,.int .i64 0]) (t:=82) ?hr ?_;(case hd=>rfl);(case hg=>rfl);(case hr=>first|(go_simp;done)|(go_simp;rfl));intro g4 hg4 w9 hbox hb;have BX:=Za.mk hbox;have lw:w9.cell? ⟨g4,0,none⟩=some (.int .i64 0):=(Zan hbox 0).trans rfl;have kR:w9.cell? ⟨g4,1,none⟩=some (.int .i64 0):=(Zan hbox 1).trans rfl;have l6:=Zax hbox 0;have l7:=Zax hbox 1;have BV:=Za.mk (Zae (mvB (Below.refl wr.heap.size wr)) hb);have HG4:Za (wr.heap.size≤g4):=⟨by rw[hg4];exact(mvB (Below.refl wr.heap.size wr)).size⟩;clear hbox hb hg4))
     have BXq:=Za.mk (Zay (cs':=#[.int .i64 a,.int .i64 b]) (Zay (cs':=#[.int .i64 a,.int .i64 0]) BX.out 0 (.int .i64 a) rfl) 1 (.int .i64 b) rfl);have BVq:=Za.mk (show Below wr.heap.size wr ((w9.setCell ⟨g4,0,none⟩ (.int .i64 a)).setCell ⟨g4,1,none⟩ (.int .i64 b))from Zb (Zb BV.out HG4.out) HG4.out);clear lw kR l6 l7
     generalize ((w9.setCell ⟨g4,0,none⟩ (.int .i64 a)).setCell ⟨g4,1,none⟩ (.int .i64 b))=wq at BXq BVq ⊢
     have hq0:wq.cell? ⟨g4,0,none⟩=some (.int .i64 a):=(Zan BXq.out 0).trans rfl;have hq1:wq.cell? ⟨g4,1,none⟩=some (.int .i64 b):=(Zan BXq.out 1).trans rfl;clear hx0 hx1;have HCa:Za (∀n,Calls Tryz.prog 117 #[.int .i64 a] (wq.drewN n) fun e w''=>e= .returned (.bool true)∧∃m,w''=wq.drewN m):=⟨fun n=>Calls.quiet_of ((Zdh.calls a _ _ HVa.out).mono fun e w' h_=>⟨h_.1,h_.2.out⟩)⟩;have HCb:Za (∀n,Calls Tryz.prog 117 #[.int .i64 b] (wq.drewN n) fun e w''=>e= .returned (.bool false)∧∃m,w''=wq.drewN m):=⟨fun n=>Calls.quiet_of ((Zdh.calls b _ _ HVb.out).mono fun e w' h_=>⟨h_.1,h_.2.out⟩)⟩
     go_quiet (first|with_reducible exact HCa.out _|with_reducible exact HCb.out _)
     go_wp2;go_ret;exact⟨rfl,mvB (Zae HB.out BVq.out)⟩
    |true=>
     rw[if_pos rfl]at H;by_cases c9:a>b
     ·rw [if_pos c9] at H
      have d9_:decide (b<a)=true:=decide_eq_true c9;clear c9;obtain rfl:=Option.some.inj H;clear H
      go_wp2_with (first|((with_reducible refine Zaq (N:=4) rfl ?_);refine Zda ?hg (N:=4) ?hd (cs:=#[.int .i64 0,.int .i64 0]) (t:=82) ?hr ?_;(case hd=>rfl);(case hg=>rfl);(case hr=>first|(go_simp;done)|(go_simp;rfl));intro g4 hg4 w9 hbox hb;have BX:=Za.mk hbox;have lw:w9.cell? ⟨g4,0,none⟩=some (.int .i64 0):=(Zan hbox 0).trans rfl;have kR:w9.cell? ⟨g4,1,none⟩=some (.int .i64 0):=(Zan hbox 1).trans rfl;have l6:=Zax hbox 0;have l7:=Zax hbox 1;have BV:=Za.mk (Zae (mvB (Below.refl wr.heap.size wr)) hb);have HG4:Za (wr.heap.size≤g4):=⟨by rw[hg4];exact(mvB (Below.refl wr.heap.size wr)).size⟩;clear hbox hb hg4))
      have BXq:=Za.mk (Zay (cs':=#[.int .i64 a,.int .i64 b]) (Zay (cs':=#[.int .i64 a,.int .i64 0]) BX.out 0 (.int .i64 a) rfl) 1 (.int .i64 b) rfl);have BVq:=Za.mk (show Below wr.heap.size wr ((w9.setCell ⟨g4,0,none⟩ (.int .i64 a)).setCell ⟨g4,1,none⟩ (.int .i64 b))from Zb (Zb BV.out HG4.out) HG4.out);clear lw kR l6 l7
      generalize ((w9.setCell ⟨g4,0,none⟩ (.int .i64 a)).setCell ⟨g4,1,none⟩ (.int .i64 b))=wq at BXq BVq ⊢
      have hq0:wq.cell? ⟨g4,0,none⟩=some (.int .i64 a):=(Zan BXq.out 0).trans rfl;have hq1:wq.cell? ⟨g4,1,none⟩=some (.int .i64 b):=(Zan BXq.out 1).trans rfl;clear hx0 hx1;have HCa:Za (∀n,Calls Tryz.prog 117 #[.int .i64 a] (wq.drewN n) fun e w''=>e= .returned (.bool true)∧∃m,w''=wq.drewN m):=⟨fun n=>Calls.quiet_of ((Zdh.calls a _ _ HVa.out).mono fun e w' h_=>⟨h_.1,h_.2.out⟩)⟩;have HCb:Za (∀n,Calls Tryz.prog 117 #[.int .i64 b] (wq.drewN n) fun e w''=>e= .returned (.bool true)∧∃m,w''=wq.drewN m):=⟨fun n=>Calls.quiet_of ((Zdh.calls b _ _ HVb.out).mono fun e w' h_=>⟨h_.1,h_.2.out⟩)⟩
      go_quiet (first|with_reducible exact HCa.out _|with_reducible exact HCb.out _)
      go_wp2;go_ret;exact⟨rfl,mvB (Zae HB.out BVq.out)⟩
     rw[if_neg c9]at H;have d9_:decide (b<a)=false:=decide_eq_false c9;clear c9;by_cases c10:x>0;rotate_left
     ·rw [if_neg c10] at H
      have d10_:decide (0<x)=false:=decide_eq_false c10;clear c10;have H':=Za.mk H;clear H
      go_wp2_with (first|((with_reducible refine Zaq (N:=4) rfl ?_);refine Zda ?hg (N:=4) ?hd (cs:=#[.int .i64 0,.int .i64 0]) (t:=82) ?hr ?_;(case hd=>rfl);(case hg=>rfl);(case hr=>first|(go_simp;done)|(go_simp;rfl));intro g4 hg4 w9 hbox hb;have BX:=Za.mk hbox;have lw:w9.cell? ⟨g4,0,none⟩=some (.int .i64 0):=(Zan hbox 0).trans rfl;have kR:w9.cell? ⟨g4,1,none⟩=some (.int .i64 0):=(Zan hbox 1).trans rfl;have l6:=Zax hbox 0;have l7:=Zax hbox 1;have BV:=Za.mk (Zae (mvB (Below.refl wr.heap.size wr)) hb);have HG4:Za (wr.heap.size≤g4):=⟨by rw[hg4];exact(mvB (Below.refl wr.heap.size wr)).size⟩;clear hbox hb hg4))
      have BXq:=Za.mk (Zay (cs':=#[.int .i64 a,.int .i64 b]) (Zay (cs':=#[.int .i64 a,.int .i64 0]) BX.out 0 (.int .i64 a) rfl) 1 (.int .i64 b) rfl);have BVq:=Za.mk (show Below wr.heap.size wr ((w9.setCell ⟨g4,0,none⟩ (.int .i64 a)).setCell ⟨g4,1,none⟩ (.int .i64 b))from Zb (Zb BV.out HG4.out) HG4.out);clear lw kR l6 l7
      generalize ((w9.setCell ⟨g4,0,none⟩ (.int .i64 a)).setCell ⟨g4,1,none⟩ (.int .i64 b))=wq at BXq BVq ⊢
      have hq0:wq.cell? ⟨g4,0,none⟩=some (.int .i64 a):=(Zan BXq.out 0).trans rfl;have hq1:wq.cell? ⟨g4,1,none⟩=some (.int .i64 b):=(Zan BXq.out 1).trans rfl;clear hx0 hx1;have HCa:Za (∀n,Calls Tryz.prog 117 #[.int .i64 a] (wq.drewN n) fun e w''=>e= .returned (.bool true)∧∃m,w''=wq.drewN m):=⟨fun n=>Calls.quiet_of ((Zdh.calls a _ _ HVa.out).mono fun e w' h_=>⟨h_.1,h_.2.out⟩)⟩;have HCb:Za (∀n,Calls Tryz.prog 117 #[.int .i64 b] (wq.drewN n) fun e w''=>e= .returned (.bool true)∧∃m,w''=wq.drewN m):=⟨fun n=>Calls.quiet_of ((Zdh.calls b _ _ HVb.out).mono fun e w' h_=>⟨h_.1,h_.2.out⟩)⟩
      go_quiet (first|with_reducible exact HCa.out _|with_reducible exact HCb.out _)
      go_wp2
      go_roundg k1
      case measure=>exact Nat.lt_succ_self _
      case rel=>exact⟨_,(by first|rfl|(simp;done)|(simp[*];done)),H',⟨by have:=HK1.out;omega⟩,⟨mvB (Zae HB.out BVq.out)⟩⟩
     rw[if_pos c10]at H;have d10_:decide (0<x)=true:=decide_eq_true c10;clear c10;obtain⟨j,hj⟩:∃j_:Int,wrap64 (x - 1)=j_:=⟨_,rfl⟩;rw[hj]at H;have hjw:IntKind.i64.wrap (x - 1)=j:=(Zd0 _).trans hj;clear hj;by_cases c11:0≤j;case neg=>rw[if_neg c11]at H;exact absurd H (by simp)
     rw[if_pos c11]at H;by_cases c12:j<(l0.length:Int);case neg=>rw[if_neg c12]at H;exact absurd H (by simp)
     rw[if_pos c12]at H;obtain⟨ad2,e2_,hy0,hy1⟩:=Zek (Kd.Zad HR0.out HB.out) j c11 c12;obtain rfl:ad=ad2:=(by injection e2_);clear e2_;have d11_:decide (0≤j)=true:=decide_eq_true c11;have d12_:decide (j<(l0.length:Int))=true:=decide_eq_true c12;replace c11:=eq_true c11;replace c12:=eq_true c12
     generalize (Zbk l0 j).f1=q at hy1 H
     obtain⟨g,hg⟩:∃g_:Int,wrap64 (q+2)=g_:=⟨_,rfl⟩;rw[hg]at H;have hgw:IntKind.i64.wrap (q+2)=g:=(Zd0 _).trans hg;clear hg;by_cases c13:a<g
     ·rw [if_pos c13] at H
      have d13_:decide (a<g)=true:=decide_eq_true c13;clear c13;obtain rfl:=Option.some.inj H;clear H
      go_wp2_with (first|((with_reducible refine Zaq (N:=4) rfl ?_);refine Zda ?hg (N:=4) ?hd (cs:=#[.int .i64 0,.int .i64 0]) (t:=82) ?hr ?_;(case hd=>rfl);(case hg=>rfl);(case hr=>first|(go_simp;done)|(go_simp;rfl));intro g4 hg4 w9 hbox hb;have BX:=Za.mk hbox;have lw:w9.cell? ⟨g4,0,none⟩=some (.int .i64 0):=(Zan hbox 0).trans rfl;have kR:w9.cell? ⟨g4,1,none⟩=some (.int .i64 0):=(Zan hbox 1).trans rfl;have l6:=Zax hbox 0;have l7:=Zax hbox 1;have BV:=Za.mk (Zae (mvB (Below.refl wr.heap.size wr)) hb);have HG4:Za (wr.heap.size≤g4):=⟨by rw[hg4];exact(mvB (Below.refl wr.heap.size wr)).size⟩;clear hbox hb hg4))
      have BXq:=Za.mk (Zay (cs':=#[.int .i64 a,.int .i64 b]) (Zay (cs':=#[.int .i64 a,.int .i64 0]) BX.out 0 (.int .i64 a) rfl) 1 (.int .i64 b) rfl);have BVq:=Za.mk (show Below wr.heap.size wr ((w9.setCell ⟨g4,0,none⟩ (.int .i64 a)).setCell ⟨g4,1,none⟩ (.int .i64 b))from Zb (Zb BV.out HG4.out) HG4.out);clear lw kR l6 l7
      generalize ((w9.setCell ⟨g4,0,none⟩ (.int .i64 a)).setCell ⟨g4,1,none⟩ (.int .i64 b))=wq at BXq BVq ⊢
      have hq0:wq.cell? ⟨g4,0,none⟩=some (.int .i64 a):=(Zan BXq.out 0).trans rfl;have hq1:wq.cell? ⟨g4,1,none⟩=some (.int .i64 b):=(Zan BXq.out 1).trans rfl;have hq2:=(BVq.out.cell (World.block_lt_of_cell? wr _ hy1)).trans hy1;clear hy0 hy1 hx0 hx1;have HCa:Za (∀n,Calls Tryz.prog 117 #[.int .i64 a] (wq.drewN n) fun e w''=>e= .returned (.bool true)∧∃m,w''=wq.drewN m):=⟨fun n=>Calls.quiet_of ((Zdh.calls a _ _ HVa.out).mono fun e w' h_=>⟨h_.1,h_.2.out⟩)⟩;have HCb:Za (∀n,Calls Tryz.prog 117 #[.int .i64 b] (wq.drewN n) fun e w''=>e= .returned (.bool true)∧∃m,w''=wq.drewN m):=⟨fun n=>Calls.quiet_of ((Zdh.calls b _ _ HVb.out).mono fun e w' h_=>⟨h_.1,h_.2.out⟩)⟩
      go_quiet (first|with_reducible exact HCa.out _|with_reducible exact HCb.out _)
      go_wp2;go_ret;exact⟨rfl,mvB (Zae HB.out BVq.out)⟩
     rw[if_neg c13]at H;have d13_:decide (a<g)=false:=decide_eq_false c13;clear c13;have H':=Za.mk H;clear H
     go_wp2_with (first|((with_reducible refine Zaq (N:=4) rfl ?_);refine Zda ?hg (N:=4) ?hd (cs:=#[.int .i64 0,.int .i64 0]) (t:=82) ?hr ?_;(case hd=>rfl);(case hg=>rfl);(case hr=>first|(go_simp;done)|(go_simp;rfl));intro g4 hg4 w9 hbox hb;have BX:=Za.mk hbox;have lw:w9.cell? ⟨g4,0,none⟩=some (.int .i64 0):=(Zan hbox 0).trans rfl;have kR:w9.cell? ⟨g4,1,none⟩=some (.int .i64 0):=(Zan hbox 1).trans rfl;have l6:=Zax hbox 0;have l7:=Zax hbox 1;have BV:=Za.mk (Zae (mvB (Below.refl wr.heap.size wr)) hb);have HG4:Za (wr.heap.size≤g4):=⟨by rw[hg4];exact(mvB (Below.refl wr.heap.size wr)).size⟩;clear hbox hb hg4))
     have BXq:=Za.mk (Zay (cs':=#[.int .i64 a,.int .i64 b]) (Zay (cs':=#[.int .i64 a,.int .i64 0]) BX.out 0 (.int .i64 a) rfl) 1 (.int .i64 b) rfl);have BVq:=Za.mk (show Below wr.heap.size wr ((w9.setCell ⟨g4,0,none⟩ (.int .i64 a)).setCell ⟨g4,1,none⟩ (.int .i64 b))from Zb (Zb BV.out HG4.out) HG4.out);clear lw kR l6 l7
     generalize ((w9.setCell ⟨g4,0,none⟩ (.int .i64 a)).setCell ⟨g4,1,none⟩ (.int .i64 b))=wq at BXq BVq ⊢
     have hq0:wq.cell? ⟨g4,0,none⟩=some (.int .i64 a):=(Zan BXq.out 0).trans rfl;have hq1:wq.cell? ⟨g4,1,none⟩=some (.int .i64 b):=(Zan BXq.out 1).trans rfl;have hq2:=(BVq.out.cell (World.block_lt_of_cell? wr _ hy1)).trans hy1;clear hy0 hy1 hx0 hx1;have HCa:Za (∀n,Calls Tryz.prog 117 #[.int .i64 a] (wq.drewN n) fun e w''=>e= .returned (.bool true)∧∃m,w''=wq.drewN m):=⟨fun n=>Calls.quiet_of ((Zdh.calls a _ _ HVa.out).mono fun e w' h_=>⟨h_.1,h_.2.out⟩)⟩;have HCb:Za (∀n,Calls Tryz.prog 117 #[.int .i64 b] (wq.drewN n) fun e w''=>e= .returned (.bool true)∧∃m,w''=wq.drewN m):=⟨fun n=>Calls.quiet_of ((Zdh.calls b _ _ HVb.out).mono fun e w' h_=>⟨h_.1,h_.2.out⟩)⟩
     go_quiet (first|with_reducible exact HCa.out _|with_reducible exact HCb.out _)
     go_wp2
     go_roundg k1
     case measure=>exact Nat.lt_succ_self _
     case rel=>exact⟨_,(by first|rfl|(simp;done)|(simp[*];done)),H',⟨by have:=HK1.out;omega⟩,⟨mvB (Zae HB.out BVq.out)⟩⟩
end Go.Proofs.YtdpieallpbllkaaGreat.P
namespace Go.Proofs.YtdpieallpbllkaaGreat.P
open Go.RowKit Go.Proofs.YtdpieallpbllkaaGreatW.PrintWords Go.Proofs.YtdpieallpbllkaaGreatW.PrintLast Go.Proofs.YtdpieallpbllkaaGreatW.PrintMore
attribute [local go_sem] Zcw Zcy Zdd Zde Zck Zcl Zcx Zcz
def Zd7.f (k:Nat) (l0:List (S82)):Option (Int):=(Zcj.f k l0).bind fun Ht=>(if Ht=true then((Zcp.f k l0).bind fun wK=>(if wK>4096 then(some 2)else(some 0)))else(some 20))
theorem Zd7.mono:∀a0 k,LeO (Zd7.f k a0) (Zd7.f (k+1) a0):=by
 intro a0 k;unfold Zd7.f
 repeat' first
   | (with_reducible exact Zcp.mono _ _)
   | (with_reducible exact Zcj.mono _ _)
   | (with_reducible exact LeO.refl _)
   | (with_reducible exact LeO.none _)
   | (with_reducible refine LeO.ite ?_ ?_)
   |(with_reducible refine LeO.bind ?_ (fun _=> ?_))
set_option maxRecDepth 100000 in
theorem Zd7.calls (k : Nat) (A0 : Option Addr) (c0 : Nat) (l0 : List (S82)) (r : Int) (w : World) (hr0 : Kd.C k82 w A0 l0.length l0) (hc0 : l0.length ≤ c0) (h : Zd7.f k l0 = some r) :
  Calls Tryz.prog 78 #[.slice A0 l0.length c0] w fun e w'=>e= .returned (.int .i64 r)∧Below w.heap.size w w':=by
 have HR0:=Za.mk hr0;have HC0:=Za.mk hc0;clear hr0 hc0;have HB:=Za.mk (Below.refl w.heap.size w);have H:((Zcj.f k l0).bind fun Ht=>(if Ht=true then((Zcp.f k l0).bind fun wK=>(if wK>4096 then(some 2)else(some 0)))else(some 20)))=some r:=h;clear h;obtain⟨Ht,A2,H⟩:=bnd H;try dsimp only at H
 by_cases c3:Ht=true
 case neg=>
  replace c3:=Bool.eq_false_iff.mpr c3;subst c3;replace H:=ifF H;obtain rfl:=sj H;go_enter Tryz.func78,Tryz.ntmps78
  go_wp2_with (first|((with_reducible refine Zak (f:=107) rfl ?_);refine gl 5 Tryz.func107 #[.slice A0 l0.length c0] ?_;(with_reducible refine(Zcj.calls k _ _ l0 false _ (cM HR0.out) HC0.out A2.out).mono ?_);rintro e w10 ⟨rfl,hb⟩;refine⟨_,rfl,?_⟩;replace HB:=Za.mk (bS HB.out hb);(try clear hb);(try clear hb2);(try clear hk);(try clear hi)))
  go_ret;exact⟨eR,bM HB.out⟩
 subst c3;rw[if_pos rfl]at H;obtain⟨wK,A4,H⟩:=bnd H;try dsimp only at H
 by_cases c5:wK>4096
 case neg=>
  rw[if_neg c5]at H;have dh:decide (4096<wK)=false:=decide_eq_false c5;clear c5;obtain rfl:=sj H;go_enter Tryz.func78,Tryz.ntmps78
  go_wp2_with (first|((with_reducible refine Zak (f:=107) rfl ?_);refine gl 5 Tryz.func107 #[.slice A0 l0.length c0] ?_;(with_reducible refine(Zcj.calls k _ _ l0 true _ (cM HR0.out) HC0.out A2.out).mono ?_);rintro e w8 ⟨rfl,hb⟩;refine⟨_,rfl,?_⟩;replace HB:=Za.mk (bS HB.out hb);(try clear hb);(try clear hb2);(try clear hk);(try clear hi))|((with_reducible refine Zak (f:=60) rfl ?_);refine gl 9 Tryz.func60 #[.slice A0 l0.length c0] ?_;(with_reducible refine(Zcp.calls k _ _ l0 wK _ (cM (Kd.Zad HR0.out HB.out)) HC0.out A4.out).mono ?_);rintro e w9 ⟨rfl,hb⟩;refine⟨_,rfl,?_⟩;replace HB:=Za.mk (bS HB.out hb);(try clear hb);(try clear hb2);(try clear hk);(try clear hi)))
  go_ret;exact⟨eR,bM HB.out⟩
 rw[if_pos c5]at H;have dh:decide (4096<wK)=true:=decide_eq_true c5;clear c5;obtain rfl:=sj H;go_enter Tryz.func78,Tryz.ntmps78
 go_wp2_with (first|((with_reducible refine Zak (f:=107) rfl ?_);refine gl 5 Tryz.func107 #[.slice A0 l0.length c0] ?_;(with_reducible refine(Zcj.calls k _ _ l0 true _ (cM HR0.out) HC0.out A2.out).mono ?_);rintro e w6 ⟨rfl,hb⟩;refine⟨_,rfl,?_⟩;replace HB:=Za.mk (bS HB.out hb);(try clear hb);(try clear hb2);(try clear hk);(try clear hi))|((with_reducible refine Zak (f:=60) rfl ?_);refine gl 9 Tryz.func60 #[.slice A0 l0.length c0] ?_;(with_reducible refine(Zcp.calls k _ _ l0 wK _ (cM (Kd.Zad HR0.out HB.out)) HC0.out A4.out).mono ?_);rintro e w7 ⟨rfl,hb⟩;refine⟨_,rfl,?_⟩;replace HB:=Za.mk (bS HB.out hb);(try clear hb);(try clear hb2);(try clear hk);(try clear hi)))
 go_ret;exact⟨eR,bM HB.out⟩
end Go.Proofs.YtdpieallpbllkaaGreat.P
/- slices.Clone of ranges. -/
namespace Go.Proofs.YtdpieallpbllkaaGreat.P
open Go.RowKit Go.Proofs.YtdpieallpbllkaaGreatW.PrintWords Go.Proofs.YtdpieallpbllkaaGreatW.PrintLast Go.Proofs.YtdpieallpbllkaaGreatW.PrintMore
def cloneR.f (l0:List S82):Option (List S82):=if l0.length<8796093022208 then some l0 else none
set_option maxRecDepth 100000 in
theorem cloneR.calls (A0 : Option Addr) (c0 : Nat) (l0 : List S82) (r : List S82) (w : World) (hr0 : Kd.C k82 w A0 l0.length l0) (hc0 : l0.length ≤ c0) (h : cloneR.f l0 = some r) :
    Calls Tryz.prog 81 #[.slice A0 l0.length c0] w fun e w'=>∃v0_:Value,e= .returned (v0_)∧Kd.R k82 82 w' w.heap.size (fun _=>True) v0_ r∧Below w.heap.size w w':=by
  have hu:=Tryz.underlying82;have q22:∀(w:World) (a:Option Addr) (n c n' c':Nat),(binOp .eql 53 (.slice a n c) (.slice none n' c')).run Tryz.prog w= .ok (.bool a.isNone) w:=fun w a n c n' c'=>Lib.run_eql_slice_nil w _ _ a n c n' c' Tryz.underlying53
  unfold cloneR.f at h
  split at h
  case isFalse=>cases h
  case isTrue hl=>
    obtain rfl:=Option.some.inj h;have HL:=Za.mk hl;clear h hl;have HR:=Za.mk hr0;have hlen:l0.length≤9223372036854775807:=hr0.2.1
    cases A0 with
    |none=>
      have h0:l0= []:=by
        rcases Nat.eq_zero_or_pos l0.length with h|h
        · exact List.length_eq_zero_iff.1 h
        obtain⟨ad,e,_⟩:=hr0.2.2 h;cases e
      subst h0;clear hr0;go_enter Tryz.func81,Tryz.ntmps81;go_wp2;go_ret;exact⟨_,rfl,Kd.R_nil _ _ _ _ _,Below.refl _ _⟩
    |some ad=>
      clear hr0;have HB:=Za.mk (Below.refl w.heap.size w);go_enter Tryz.func81,Tryz.ntmps81
      go_wp2_with (first|((with_reducible refine Zaq (N:=5) rfl ?_);refine Kd.Zdb k82 _ 82 ?hg (N:=5) ?hd (xs:=([]:List S82)) (inner:= []) (ok:=fun _=>True) (okp:=fun _=>True) ?hr ?hp (fun _ hk=>hk) trivial (Below.refl w.heap.size w) (Nat.le_refl _) (by simp) ?_;(case hd=>rfl);(case hg=>rfl);(case hr=>first|(go_simp;done)|(go_simp;rfl));(case hp=>exact(Reps.none _ _));intro v1 w1 ho hb hg_ hnew_;have HO:=Za.mk ho;have HB:=Za.mk hb;clear ho hb hg_ hnew_)|((with_reducible refine Zbo (b:= .append) (xs:=#[.tmp 5,.tmp 6]) rfl ?_);at_builtin;go_loud (refine Kd.Zd k82 (Rr:=k82.K w1) (w0:=w) w.heap.size rfl (.tmp 5) (.tmp 6) 53 82 (.agg #[(.int .i64 0),(.int .i64 0)]) 16 rfl Tryz.underlying53 Zhw rfl (by decide) (by omega) v1 ([]:List S82) l0 _ _ _ (fun _=>True) (fun _=>False) rfl rfl ?aO ?aR ?aK (fun _ h=>h.elim) ?aF ?aB ?aS ?aL ?_;(case aR=>exact Kd.Zad HR.out HB.out);(case aK=>intro x cs h;have e_:=k82_open h;subst e_;exact Zg4 _ _ _ x);(case aB=>exact HB.out);(case aF=>exact(fun _ _=>trivial));(case aO=>exact HO.out);(case aS=>exact HB.out.size);(case aL=>have:=HL.out;simp;omega);intro v2 w2 ho2 hb2 hg hat;have HO2:=Za.mk ho2;have HB2:=Za.mk hb2;clear ho2 hb2 hg hat)))
      go_ret;exact⟨_,rfl,by simpa using HO2.out,HB2.out⟩
end Go.Proofs.YtdpieallpbllkaaGreat.P
namespace Go.Proofs.YtdpieallpbllkaaGreat.P
open Go.RowKit Go.Proofs.YtdpieallpbllkaaGreatW.PrintWords Go.Proofs.YtdpieallpbllkaaGreatW.PrintLast Go.Proofs.YtdpieallpbllkaaGreatW.PrintMore
attribute [local go_sem] Zcw Zcy Zdd Zde Zck Zcl Zcx Zcz
def Zcc.l0 : Nat → List (List (S82)) → List (S55) → Int → Int → Option ((List (List (S82))))
 | 0, _, _, _, _ => none
 |k+1,x3,x7,x8,x9=>if x9<x8 then(if 0≤x9 then(if x9<(x7.length:Int)then((cloneR.f ((Zbb x7 x9).f1)).bind fun Aj=>(if x3.length<5864062014805 then(Zcc.l0 k (x3++ [Aj]) x7 x8 (wrap64 (x9+1)))else(none)))else(none))else(none))else(some x3)
def Zcc.f (k:Nat) (ag:List (S55)) (aa:List (S36)) (aA:Int) (ak:List Int) (ai:List Int):Option ((List (List (S82)))):=Zcc.l0 k ([]:List (List (S82))) ag (ag.length:Int) 0
theorem Zcc.Zc5 : ∀ k, (∀ y0 y1 y2 y3, LeO (Zcc.l0 k y0 y1 y2 y3) (Zcc.l0 (k + 1) y0 y1 y2 y3))
 | 0 => fun _ _ _ _ r h => by simp [Zcc.l0] at h
 |k+1=>by
  have ih0:=Zcc.Zc5 k;intro y0 y1 y2 y3;unfold Zcc.l0
  repeat' first
  | (with_reducible exact ih0 _ _ _ _)
  | (with_reducible exact LeO.refl _)
  | (with_reducible exact LeO.none _)
  | (with_reducible refine LeO.ite ?_ ?_)
  |(with_reducible refine LeO.bind ?_ (fun _=> ?_))
theorem Zcc.mono:∀a0 a1 a2 a3 a4 k,LeO (Zcc.f k a0 a1 a2 a3 a4) (Zcc.f (k+1) a0 a1 a2 a3 a4):=by
 intro a0 a1 a2 a3 a4 k;have ih0:=Zcc.Zc5 k;unfold Zcc.f
 repeat' first
   | (with_reducible exact ih0 _ _ _ _)
   | (with_reducible exact LeO.refl _)
   | (with_reducible exact LeO.none _)
   | (with_reducible refine LeO.ite ?_ ?_)
   |(with_reducible refine LeO.bind ?_ (fun _=> ?_))
set_option maxRecDepth 100000 in
theorem Zcc.calls (k : Nat) (eG : Option Addr) (ek : Nat) (ag : List (S55)) (aW : Option Addr) (aT : Nat) (aa : List (S36)) (aA : Int) (bT : Option Addr) (bU : Nat) (ak : List Int) (bK : Option Addr) (bL : Nat) (ai : List Int) (r : List (List (S82))) (w : World) (lW : Kd.C k55 w eG ag.length ag) (lT : ag.length ≤ ek) (dV : Kd.C k36 w aW aa.length aa) (dU : aa.length ≤ aT) (jL : Kd.C (Kd.int .i64) w bT ak.length ak) (jJ : ak.length ≤ bU) (jM : Kd.C (Kd.int .i64) w bK ai.length ai) (jK : ai.length ≤ bL) (h : Zcc.f k ag aa aA ak ai = some r) :
  Calls Tryz.prog 59 #[.agg #[.slice eG ag.length ek,.slice aW aa.length aT,.int .i64 aA,.slice bT ak.length bU,.slice bK ai.length bL]] w fun e w'=>∃v0_:Value,e= .returned (v0_)∧Kd.S (Kd.slice 82 k82) 53 w' w.heap.size (fun _=>True) v0_ r∧Below w.heap.size w w':=by
 have hu28:=Tryz.underlying28;have hu55:=Tryz.underlying55;have iG:=Za.mk lW;have o9:=Za.mk lT;clear lW lT;have eD:=Za.mk dV;have fo:=Za.mk dU;clear dV dU;have jR:=Za.mk jL;have jP:=Za.mk jJ;clear jL jJ;have jS:=Za.mk jM;have jQ:=Za.mk jK;clear jM jK;have HB:=Za.mk (Below.refl w.heap.size w);have H:(Zcc.l0 k ([]:List (List (S82))) ag (ag.length:Int) 0)=some r:=h;clear h;have H':=Za.mk H;clear H;go_enter Tryz.func59,Tryz.ntmps59
 go_wp2_with (first|((with_reducible refine Zaq (N:=1) rfl ?_);refine bx 1 #[.slice eG ag.length ek,.slice aW aa.length aT,.int .i64 aA,.slice bT ak.length bU,.slice bK ai.length bL] 28 ?_;intro BM hg w2 hbox hb;have mK:=Za.mk (hbox);have dXa:=Za.mk ((gE hg HB.out:w.heap.size≤BM));replace HB:=Za.mk (bS HB.out hb);clear hb hbox hg;obtain⟨cGa,cHa,cIa,cJa,cKa,cBa,cCa,cDa,cEa,cFa⟩:=cz5 mK.out))
 go_loopg [3,9] k (fun kq v3 v9 w'=>∃(af:List (List (S82))) (nX:Int),v9= .int .i64 nX∧Za (Zcc.l0 kq af ag (ag.length:Int) nX=some r)∧Za (kq≤k)∧Za (Kd.S (Kd.slice 82 k82) 53 w' w.heap.size (fun _=>True) v3 af)∧Za (w'.heap[BM]? =some (.cells #[(.slice eG ag.length ek),(.slice aW aa.length aT),.int .i64 aA,(.slice bT ak.length bU),(.slice bK ai.length bL)] 28 (0,0)))∧Za (Below w.heap.size w w'))
 case atStart=>exact⟨(([]:List (List (S82)))),(0),eS,H',⟨Nat.le_refl _⟩,⟨by first|exact Kd.S_nil _ _ _ _ _|exact Kd.N_nil _ _ _ _ _|exact Kd.V_nil _ _ _ _ _|exact Kd.Q_nil _ _ _ _ _|exact Kd.R_nil _ _ _ _ _⟩,⟨kM mK.out⟩,⟨bM HB.out⟩⟩
 case round=>
  clear H';try clear p2
  try clear cGa cHa cIa cJa cKa cBa cCa cDa cEa cFa
  obtain⟨af,nX,rfl,HA,HK1,aM,mK,HB⟩:=hrel
  cases gk with
  | zero => exact absurd HA.out (by simp [Zcc.l0])
  |succ k1=>
   have H:=HA.out;clear HA;simp only[Zcc.l0]at H;by_cases c4:nX<(ag.length:Int)
   case neg=>
    rw[if_neg c4]at H;have dz:decide (nX<(ag.length:Int))=false:=decide_eq_false c4;clear c4;obtain rfl:=sj H;go_wp2;go_ret;exact⟨_,eR,sM aM.out,bM HB.out⟩
   rw[if_pos c4]at H;have dz:decide (nX<(ag.length:Int))=true:=decide_eq_true c4;clear c4;obtain⟨dh,H⟩:=ifT H;obtain⟨iQ,H⟩:=ifT H;obtain⟨Aj,A7,H⟩:=bnd H;try dsimp only at H
   obtain⟨c8,H⟩:=ifP H;have bba:=Za.mk c8;clear c8;obtain⟨Vd,CL⟩:∃y_:List (List (S82)),y_=(af++ [Aj]):=⟨_,rfl⟩;replace H:(Zcc.l0 k1 Vd ag (ag.length:Int) (wrap64 (nX+1)))=some r:=by first|(rw[CL];with_reducible exact H)|(have H2_:=(Option.bind_some _ _).symm.trans H;rw[CL];with_reducible exact H2_)|(have H2_:=(Option.bind_some _ _).symm.trans H;with_reducible exact H2_)|with_reducible exact H|(rw[CL];exact H)|exact H
   have Ws:=Za.mk CL;clear CL;have H':=Za.mk H;clear H;have nBa:(0≤(nX:Int))=True:=teq;have nEa:(nX<(ag.length:Int))=True:=teq;obtain⟨WK,ME,MN,rfl,Jr,Js,IY,IM⟩:=Zeq iG.out nX odt odt;replace Jr:=hB HB.out Jr;replace Js:=hB HB.out Js;have Sl:=Za.mk IM;have RV:=Za.mk IY;clear IM IY
   go_wp2_with (first|((with_reducible refine Zaq (N:=5) rfl ?_);refine bx 5 #[.string (⟨#[]⟩:ByteArray),.slice none 0 0] 55 ?_;intro BN hg w9 hbox hb;replace aM:=Za.mk (Kd.Zex (sM aM.out) hb);have JD:=Za.mk (hbox);have dYa:=Za.mk ((gE hg HB.out:w.heap.size≤BN));replace HB:=Za.mk (bS HB.out hb);have EW:=Za.mk ((by rw[hg];exact Nat.ne_of_lt (Zc1 (kM mK.out)):BM≠BN));have MK:=Za.mk ((by rw[hg];exact Nat.ne_of_gt (Zc1 (kM mK.out)):BN≠BM));replace mK:=Za.mk (kB mK.out hb);clear hb hbox hg;have X3:=MK.out;have X6:=EW.out;obtain⟨DW,DX,D8,D9⟩:=cz2 JD.out)|((with_reducible refine Zak (f:=81) rfl ?_);refine gl 16 Tryz.func81 #[.slice ME ((Zbb ag nX).f1).length MN] ?_;(with_reducible refine(cloneR.calls _ _ ((Zbb ag nX).f1) Aj _ (Kd.Zad Sl.out (bM HB.out)) RV.out A7.out).mono ?_);rintro e w12 ⟨oca,rfl,ho0,hb⟩;refine⟨_,rfl,?_⟩;replace aM:=Za.mk (Kd.Zgr (sM (Kd.Zd5 (Kd.Zds (p:=⟨BN,1,none⟩) (Kd.Zds (p:=⟨BN,0,none⟩) (Kd.Zen aM.out JD.out (by decide)) (fun _ hk=>hk.2) (.string ((Zbb ag nX).f0))) (fun _ hk=>hk.2) (.slice ME ((Zbb ag nX).f1).length MN)) (fun _ h_=>h_.1))) (Kd.Zc7 ho0) hb);have Ff:=Za.mk (Kd.Zbl ho0 (Zaf (bM HB.out)));replace mK:=Za.mk (Zcf (g:=BM) (o:= .cells #[.slice (some WK) ag.length ek,.slice aW aa.length aT,.int .i64 aA,.slice bT ak.length bU,.slice bK ai.length bL] 28 (0,0)) (by(with_reducible repeat(first|exact mK.out|refine Zcr ?_ EW.out _|refine Zab ?_ _|refine Zah ?_|refine Zag ?_ _))) hb);replace HB:=Za.mk (bS HB.out hb);clear JD;(try clear hb);(try clear hb2);(try clear hk);(try clear hi);(try clear ho0);obtain⟨JB,Lc,Ns⟩:=Kd.Zbe Ff.out;subst Ns)|((with_reducible refine Zbo (b:= .append) (xs:=#[.tmp 13,.tmp 17]) rfl ?_);at_builtin;refine Kd.S_append (Kd.slice 82 k82) (w0:=w) w.heap.size rfl (.tmp 13) (.tmp 17) 43 53 (.slice none 0 0) 24 rfl Tryz.underlying43 info53 rfl (by decide) (by omega) u3 af Aj [.slice JB Aj.length Lc] (fun _=>True) (fun k_=>some k_=(.slice JB Aj.length Lc:Value).ownBlock) rfl rfl ?aP (fun k_ hk_=>((Kd.Za4 (ok':=fun k_=>((fun _=>True)) k_∧some k_≠(u3:Value).ownBlock) (Kd.Zdj (Ff.out) (Kd.Ze aM.out) (by decide)) (fun k_ hk=>⟨trivial,hk.2⟩))).1 k_ hk_.symm) ?aF ?aO ?aB ?aS ?aL ?_;(case aP=>exact Kd.M_row (Kd.Za4 (Kd.Zf8 rfl (Kd.Za4 (ok':=fun k_=>((fun _=>True)) k_∧some k_≠(u3:Value).ownBlock) (Kd.Zdj (Ff.out) (Kd.Ze aM.out) (by decide)) (fun k_ hk=>⟨trivial,hk.2⟩))) (fun _ h_=>h_)));(case aB=>exact(bM HB.out));(case aF=>exact(fun _ _=>trivial));(case aO=>exact(sM (Kd.Zd5 aM.out (fun k_ hk=>⟨trivial,fun e_=>hk.2 e_⟩))));(case aS=>exact(Zaf (bM HB.out)));(case aL=>have:=bba.out;omega);intro oda w13 ho hb hg hat;rw[←Ws.out]at ho;replace mK:=Za.mk (kG mK.out hg (Kd.S_ne aM.out mK.out (by decide)));replace HB:=Za.mk (hb);have VG:=Za.mk (ho);clear aM Ff;clear ho hb hg hat))
   go_roundg k1
   case measure=>have:=HK1.out;omega
   case rel=>exact⟨(Vd),(wrap64 (nX+1)),eS,H',⟨by have:=HK1.out;omega⟩,⟨sM VG.out⟩,⟨kM mK.out⟩,⟨bM HB.out⟩⟩
def Zd1.f (k:Nat) (l0:List (List (S82))) (aC:Int) (az:List Int) (aJ:List Int):Option (Int):=if aC=0 then(if(az.length:Int)>0 then(some 44)else(if(aJ.length:Int)>0 then(some 44)else(some 0)))else(if aC=1 then((Zc8.f k l0 0 az aJ 0 0 ([]:List (List Int)) 0).bind fun H8=>(some H8))else(if aC=2 then((Zc8.f k l0 0 az aJ 0 0 ([]:List (List Int)) 0).bind fun H9=>(some H9))else(some 44)))
theorem Zd1.mono:∀a0 a1 a2 a3 k,LeO (Zd1.f k a0 a1 a2 a3) (Zd1.f (k+1) a0 a1 a2 a3):=by
 intro a0 a1 a2 a3 k;unfold Zd1.f
 repeat' first
   | (with_reducible exact Zc8.mono _ _ _ _ _ _ _ _ _)
   | (with_reducible exact LeO.refl _)
   | (with_reducible exact LeO.none _)
   | (with_reducible refine LeO.ite ?_ ?_)
   |(with_reducible refine LeO.bind ?_ (fun _=> ?_))
set_option maxRecDepth 100000 in
theorem Zd1.calls (k : Nat) (A0 : Option Addr) (c0 : Nat) (l0 : List (List (S82))) (aC : Int) (fG : Option Addr) (fI : Nat) (az : List Int) (fB : Option Addr) (fC : Nat) (aJ : List Int) (r : Int) (w : World) (hr0 : Kd.C (Kd.slice 82 k82) w A0 l0.length l0) (hc0 : l0.length ≤ c0) (lX : Kd.C (Kd.int .i64) w fG az.length az) (lU : az.length ≤ fI) (lY : Kd.C (Kd.int .i64) w fB aJ.length aJ) (lV : aJ.length ≤ fC) (h : Zd1.f k l0 aC az aJ = some r) :
  Calls Tryz.prog 80 #[.slice A0 l0.length c0,.agg #[.int .i64 aC,.slice fG az.length fI,.slice fB aJ.length fC]] w fun e w'=>e= .returned (.int .i64 r)∧Below w.heap.size w w':=by
 have hu26:=Tryz.underlying26;have hu36:=Tryz.underlying36;have HR0:=Za.mk hr0;have HC0:=Za.mk hc0;clear hr0 hc0;have gD:=Za.mk lX;have iE:=Za.mk lU;clear lX lU;have fT:=Za.mk lY;have iF:=Za.mk lV;clear lY lV;have HB:=Za.mk (Below.refl w.heap.size w);have H:(if aC=0 then(if(az.length:Int)>0 then(some 44)else(if(aJ.length:Int)>0 then(some 44)else(some 0)))else(if aC=1 then((Zc8.f k l0 0 az aJ 0 0 ([]:List (List Int)) 0).bind fun H8=>(some H8))else(if aC=2 then((Zc8.f k l0 0 az aJ 0 0 ([]:List (List Int)) 0).bind fun H9=>(some H9))else(some 44))))=some r:=h;clear h;by_cases c3:aC=0
 case pos=>
  rw[if_pos c3]at H;have eY:(aC==0)=true:=beq_iff_eq.mpr c3;have jN:(aC !=0)=false:=bne_eq_false_iff_eq.mpr c3;clear c3;by_cases c4:(az.length:Int)>0
  case pos=>
   rw[if_pos c4]at H;have dz:decide (0<(az.length:Int))=true:=decide_eq_true c4;have rE:decide (0<az.length)=true:=decide_eq_true (by omega);clear c4;obtain rfl:=sj H;go_enter Tryz.func80,Tryz.ntmps80
   go_wp2_with (first|((with_reducible refine Zaq (N:=3) rfl ?_);(try(refine Zb3 (by rfl) ?_;dsimp only));refine bx 3 #[.int .i64 aC,.slice fG az.length fI,.slice fB aJ.length fC] 26 ?_;intro oJ hg w5 hbox hb;have mM:=Za.mk (hbox);have AR:=Za.mk ((gE hg HB.out:w.heap.size≤oJ));replace HB:=Za.mk (bS HB.out hb);clear hb hbox hg;obtain⟨kH,kJ,kY,kE,kF,kX⟩:=cz3 mM.out))
   go_ret;exact⟨eR,bM HB.out⟩
  rw[if_neg c4]at H;have dz:decide (0<(az.length:Int))=false:=decide_eq_false c4;have rE:decide (0<az.length)=false:=decide_eq_false (by omega);clear c4;by_cases c7:(aJ.length:Int)>0
  case neg=>
   rw[if_neg c7]at H;have mF:decide (0<(aJ.length:Int))=false:=decide_eq_false c7;have Lb:decide (0<aJ.length)=false:=decide_eq_false (by omega);clear c7;obtain rfl:=sj H;go_enter Tryz.func80,Tryz.ntmps80
   go_wp2_with (first|((with_reducible refine Zaq (N:=3) rfl ?_);(try(refine Zb3 (by rfl) ?_;dsimp only));refine bx 3 #[.int .i64 aC,.slice fG az.length fI,.slice fB aJ.length fC] 26 ?_;intro oJ hg w10 hbox hb;have mM:=Za.mk (hbox);have AR:=Za.mk ((gE hg HB.out:w.heap.size≤oJ));replace HB:=Za.mk (bS HB.out hb);clear hb hbox hg;obtain⟨DW,DX,FR,D8,D9,F7⟩:=cz3 mM.out))
   go_ret;exact⟨eR,bM HB.out⟩
  rw[if_pos c7]at H;have mF:decide (0<(aJ.length:Int))=true:=decide_eq_true c7;have Lb:decide (0<aJ.length)=true:=decide_eq_true (by omega);clear c7;obtain rfl:=sj H;go_enter Tryz.func80,Tryz.ntmps80
  go_wp2_with (first|((with_reducible refine Zaq (N:=3) rfl ?_);(try(refine Zb3 (by rfl) ?_;dsimp only));refine bx 3 #[.int .i64 aC,.slice fG az.length fI,.slice fB aJ.length fC] 26 ?_;intro oJ hg w8 hbox hb;have mM:=Za.mk (hbox);have AR:=Za.mk ((gE hg HB.out:w.heap.size≤oJ));replace HB:=Za.mk (bS HB.out hb);clear hb hbox hg;obtain⟨AO,AP,AQ,AA,AB,AC⟩:=cz3 mM.out))
  go_ret;exact⟨eR,bM HB.out⟩
 rw[if_neg c3]at H;have eY:(aC==0)=false:=beq_eq_false_iff_ne.mpr c3;have jN:(aC !=0)=true:=bne_iff_ne.mpr c3;by_cases c12:aC=1
 case pos=>
  rw[if_pos c12]at H;have iM:(aC==1)=true:=beq_iff_eq.mpr c12;have tu:(aC !=1)=false:=bne_eq_false_iff_eq.mpr c12;clear c12;obtain⟨H8,A13,H⟩:=bnd H;try dsimp only at H
  obtain rfl:=sj H;go_enter Tryz.func80,Tryz.ntmps80
  go_wp2_with (first|((with_reducible refine Zaq (N:=3) rfl ?_);(try(refine Zb3 (by rfl) ?_;dsimp only));refine bx 3 #[.int .i64 aC,.slice fG az.length fI,.slice fB aJ.length fC] 26 ?_;intro oJ hg w14 hbox hb;have mM:=Za.mk (hbox);have AR:=Za.mk ((gE hg HB.out:w.heap.size≤oJ));replace HB:=Za.mk (bS HB.out hb);clear hb hbox hg;obtain⟨uf,ug,uh,tN,tO,tQ⟩:=cz3 mM.out)|((with_reducible refine Zak (f:=79) rfl ?_);refine gl 28 Tryz.func79 #[.slice A0 l0.length c0,.agg #[.int .i64 0,.slice fG az.length fI,.slice fB aJ.length fC,.int .i64 0,.int .i64 0,.slice none 0 0,.int .i64 0]] ?_;(refine(Zc8.calls k _ _ l0 0 _ _ az _ _ aJ 0 0 _ _ ([]:List (List Int)) 0 H8 _ ?side1 ?side2 ?side3 ?side4 ?side5 ?side6 ?side7 ?side8 A13.out).mono ?_);(case side1=>repeat(first|exact(Kd.Zad HR0.out HB.out)|(with_reducible refine Kd.C_alloc ?_ _)|(with_reducible refine Kd.Zb6 ?_ _)|(with_reducible refine Kd.Zci ?_)));(case side2=>exact HC0.out);(case side3=>repeat(first|exact(Kd.Zad gD.out HB.out)|(with_reducible refine Kd.C_alloc ?_ _)|(with_reducible refine Kd.Zb6 ?_ _)|(with_reducible refine Kd.Zci ?_)));(case side4=>exact iE.out);(case side5=>repeat(first|exact(Kd.Zad fT.out HB.out)|(with_reducible refine Kd.C_alloc ?_ _)|(with_reducible refine Kd.Zb6 ?_ _)|(with_reducible refine Kd.Zci ?_)));(case side6=>exact iF.out);(case side7=>exact Kd.Zgn _ _);(case side8=>exact Nat.le_refl _);rintro e w16 ⟨rfl,hb⟩;refine⟨_,rfl,?_⟩;replace HB:=Za.mk (bS HB.out hb);clear mM;(try clear hb);(try clear hb2);(try clear hk);(try clear hi)))
  go_ret;exact⟨eR,bM HB.out⟩
 rw[if_neg c12]at H;have iM:(aC==1)=false:=beq_eq_false_iff_ne.mpr c12;have tu:(aC !=1)=true:=bne_iff_ne.mpr c12;by_cases c17:aC=2
 case neg=>
  rw[if_neg c17]at H;have yI:(aC==2)=false:=beq_eq_false_iff_ne.mpr c17;have KU:(aC !=2)=true:=bne_iff_ne.mpr c17;obtain rfl:=sj H;go_enter Tryz.func80,Tryz.ntmps80
  go_wp2_with (first|((with_reducible refine Zaq (N:=3) rfl ?_);(try(refine Zb3 (by rfl) ?_;dsimp only));refine bx 3 #[.int .i64 aC,.slice fG az.length fI,.slice fB aJ.length fC] 26 ?_;intro oJ hg w22 hbox hb;have mM:=Za.mk (hbox);have AR:=Za.mk ((gE hg HB.out:w.heap.size≤oJ));replace HB:=Za.mk (bS HB.out hb);clear hb hbox hg;obtain⟨Mw,Mx,M0,LQ,LU,LV⟩:=cz3 mM.out))
  go_ret;exact⟨eR,bM HB.out⟩
 rw[if_pos c17]at H;have yI:(aC==2)=true:=beq_iff_eq.mpr c17;have KU:(aC !=2)=false:=bne_eq_false_iff_eq.mpr c17;clear c17;obtain⟨H9,A18,H⟩:=bnd H;try dsimp only at H
 obtain rfl:=sj H;go_enter Tryz.func80,Tryz.ntmps80
 go_wp2_with (first|((with_reducible refine Zaq (N:=3) rfl ?_);(try(refine Zb3 (by rfl) ?_;dsimp only));refine bx 3 #[.int .i64 aC,.slice fG az.length fI,.slice fB aJ.length fC] 26 ?_;intro oJ hg w19 hbox hb;have mM:=Za.mk (hbox);have AR:=Za.mk ((gE hg HB.out:w.heap.size≤oJ));replace HB:=Za.mk (bS HB.out hb);clear hb hbox hg;obtain⟨zn,zo,FV,ze,zf,FB⟩:=cz3 mM.out)|((with_reducible refine Zak (f:=79) rfl ?_);refine gl 28 Tryz.func79 #[.slice A0 l0.length c0,.agg #[.int .i64 0,.slice fG az.length fI,.slice fB aJ.length fC,.int .i64 0,.int .i64 0,.slice none 0 0,.int .i64 0]] ?_;(refine(Zc8.calls k _ _ l0 0 _ _ az _ _ aJ 0 0 _ _ ([]:List (List Int)) 0 H9 _ ?side1 ?side2 ?side3 ?side4 ?side5 ?side6 ?side7 ?side8 A18.out).mono ?_);(case side1=>repeat(first|exact(Kd.Zad HR0.out HB.out)|(with_reducible refine Kd.C_alloc ?_ _)|(with_reducible refine Kd.Zb6 ?_ _)|(with_reducible refine Kd.Zci ?_)));(case side2=>exact HC0.out);(case side3=>repeat(first|exact(Kd.Zad gD.out HB.out)|(with_reducible refine Kd.C_alloc ?_ _)|(with_reducible refine Kd.Zb6 ?_ _)|(with_reducible refine Kd.Zci ?_)));(case side4=>exact iE.out);(case side5=>repeat(first|exact(Kd.Zad fT.out HB.out)|(with_reducible refine Kd.C_alloc ?_ _)|(with_reducible refine Kd.Zb6 ?_ _)|(with_reducible refine Kd.Zci ?_)));(case side6=>exact iF.out);(case side7=>exact Kd.Zgn _ _);(case side8=>exact Nat.le_refl _);rintro e w21 ⟨rfl,hb⟩;refine⟨_,rfl,?_⟩;replace HB:=Za.mk (bS HB.out hb);clear mM;(try clear hb);(try clear hb2);(try clear hk);(try clear hi)))
 go_ret;exact⟨eR,bM HB.out⟩
end Go.Proofs.YtdpieallpbllkaaGreat.P
/- model.Check: may a model be? -/
namespace Go.Proofs.YtdpieallpbllkaaGreat.P
open Go.RowKit Go.Proofs.YtdpieallpbllkaaGreatW.PrintWords Go.Proofs.YtdpieallpbllkaaGreatW.PrintLast Go.Proofs.YtdpieallpbllkaaGreatW.PrintMore
def Zet (k : Nat) : List S55 → List ByteArray → Option Int
  | [], _ => some 0
  |v::vs,had=>(Zd2.f v.f0).bind fun nm=>if nm=false then some 40 else if hasN had v.f0=true then some 41 else if v.f1.length=0 then some 42 else(Zd7.f k v.f1).bind fun e=>if e=0 then Zet k vs (had++ [v.f0])else some 42
def Zes (k : Nat) (d : List (List S82)) : List S36 → Option Int
  | [] => some 0
  |c::cs=>(Zc8.f k d c.f0 c.f1 c.f2 c.f3 c.f4 c.f5 c.f6).bind fun e=>if e=0 then Zes k d cs else some e
def Zdq.f (k:Nat) (vars:List S55) (cons:List S36) (gkd:Int) (gv gc:List Int):Option Int:=
  if 64 < vars.length ∨ 256 < cons.length then some 2 else
    (Zet k vars []).bind fun e=>if e=0 then(Zcc.f k vars cons gkd gv gc).bind fun d=>(Zes k d cons).bind fun e2=>if e2=0 then Zd1.f k d gkd gv gc else some e2 else some e
theorem Zfu (k : Nat) : ∀ vs had, LeO (Zet k vs had) (Zet (k + 1) vs had)
  | [], _ => LeO.refl _
  |v::vs,had=>by
    unfold Zet;exact LeO.bind (LeO.refl _) (fun _=>LeO.ite (LeO.refl _) (LeO.ite (LeO.refl _) (LeO.ite (LeO.refl _) (LeO.bind (Zd7.mono _ _) (fun _=>LeO.ite (Zfu k vs _) (LeO.refl _))))))
theorem Zft (k : Nat) (d : List (List S82)) : ∀ cs, LeO (Zes k d cs) (Zes (k + 1) d cs)
  | [] => LeO.refl _
  |c::cs=>by
    unfold Zes;exact LeO.bind (Zc8.mono _ _ _ _ _ _ _ _ _) (fun _=>LeO.ite (Zft k d cs) (LeO.refl _))
theorem Zdq.mono:∀a0 a1 a2 a3 a4 k,LeO (Zdq.f k a0 a1 a2 a3 a4) (Zdq.f (k+1) a0 a1 a2 a3 a4):=by
  intro a0 a1 a2 a3 a4 k;unfold Zdq.f;exact LeO.ite (LeO.refl _) (LeO.bind (Zfu _ _ _) (fun _=>LeO.ite (LeO.bind (Zcc.mono _ _ _ _ _ _) (fun _=>LeO.bind (Zft _ _ _) (fun _=>LeO.ite (Zd1.mono _ _ _ _ _) (LeO.refl _)))) (LeO.refl _)))
theorem SetN.step {w w':World} {b:Nat} {L:List ByteArray} (h:SetN w b L) (hk:w'.heap[b]? =w.heap[b]?):SetN w' b L:=by
  obtain⟨es,clock,h1,F,hs,hD⟩:=h;exact⟨es,clock,hk.trans h1,F,hs,hD⟩
theorem SetN.far {w:World} {b g i j:Nat} {u v:Value} {L:List ByteArray} (h:SetN w b L) (hne:b≠g):SetN ((w.setCell ⟨g,i,none⟩ u).setCell ⟨g,j,none⟩ v) b L:=
  h.step ((Below.heap_setCell _ ⟨g,j,none⟩ v b hne).trans (Below.heap_setCell _ ⟨g,i,none⟩ u b hne))
theorem name_size {s:ByteArray} (h:Zd2.f s=some true):s.size≤maxLen:=by
  have h1:=Option.some.inj h;simp only[Bool.and_eq_true,decide_eq_true_eq]at h1;have h2:(16:Nat)≤maxLen:=by decide
  omega
theorem drop_rd {vars:List S55} {i:Nat} (hi:i<vars.length):vars.drop i=Zbb vars (i:Int)::vars.drop (i+1):=by
  rw[List.drop_eq_getElem_cons hi]
  simp[Zbb,List.getD_eq_getElem?_getD,List.getElem?_eq_getElem hi]
theorem take_rd {vars:List S55} {i:Nat} (hi:i<vars.length):(vars.take (i+1)).map (·.f0)=(vars.take i).map (·.f0)++ [(Zbb vars (i:Int)).f0]:=by
  rw[List.take_succ_eq_append_getElem hi,List.map_append]
  simp[Zbb,List.getD_eq_getElem?_getD,List.getElem?_eq_getElem hi]
theorem drop_rdC {cons:List S36} {i:Nat} (hi:i<cons.length):cons.drop i=Zac cons (i:Int)::cons.drop (i+1):=by
  rw[List.drop_eq_getElem_cons hi]
  simp[Zac,List.getD_eq_getElem?_getD,List.getElem?_eq_getElem hi]
set_option maxRecDepth 1000000 in
theorem Zdq.calls (k : Nat) (A0 : Option Addr) (c0 : Nat) (vars : List S55) (A1 : Option Addr) (c1 : Nat) (cons : List S36) (gkd : Int) (A3 : Option Addr) (c3 : Nat) (gv : List Int) (A4 : Option Addr) (c4 : Nat) (gc : List Int) (r : Int) (w : World)
    (hr0:Kd.C k55 w A0 vars.length vars) (hc0:vars.length≤c0) (hr1:Kd.C k36 w A1 cons.length cons) (hc1:cons.length≤c1) (hr3:Kd.C (Kd.int .i64) w A3 gv.length gv) (hc3:gv.length≤c3) (hr4:Kd.C (Kd.int .i64) w A4 gc.length gc) (hc4:gc.length≤c4)
    (h:Zdq.f k vars cons gkd gv gc=some r):
    Calls Tryz.prog 58 #[.agg #[.slice A0 vars.length c0,.slice A1 cons.length c1,.int .i64 gkd,.slice A3 gv.length c3,.slice A4 gc.length c4]] w fun e w'=>e= .returned (.int .i64 r)∧Below w.heap.size w w':=by
  have HR0:=Za.mk hr0;have HR1:=Za.mk hr1;have HR3:=Za.mk hr3;have HR4:=Za.mk hr4;clear hr0 hr1 hr3 hr4;have HBw:=Za.mk (Below.refl w.heap.size w);unfold Zdq.f at h;by_cases h64:64<vars.length
  · rw [if_pos (Or.inl h64)] at h
    obtain rfl:=Option.some.inj h;clear h;have d64a:decide (64<(vars.length:Int))=true:=decide_eq_true (by omega);have d64b:decide (64<vars.length)=true:=decide_eq_true (by omega);clear h64;go_enter Tryz.func58,Tryz.ntmps58
    go_wp2_with (first|((with_reducible refine Zaq (N:=1) rfl ?_);refine Zda ?hg (N:=1) ?hd (cs:=#[.slice A0 vars.length c0,.slice A1 cons.length c1,.int .i64 gkd,.slice A3 gv.length c3,.slice A4 gc.length c4]) (t:=28) ?hr ?_;(case hd=>rfl);(case hg=>rfl);(case hr=>first|(go_simp;done)|(go_simp;rfl));intro gm hg wb hbox hb;have HB:=Za.mk (Zae (mvB HBw.out) hb);have BK:=Za.mk hbox;clear hb hg;have hm0:wb.cell? ⟨gm,0,none⟩=some (.slice A0 vars.length c0):=(Zan hbox 0).trans rfl;have hm1:wb.cell? ⟨gm,1,none⟩=some (.slice A1 cons.length c1):=(Zan hbox 1).trans rfl;have hm2:wb.cell? ⟨gm,2,none⟩=some (.int .i64 gkd):=(Zan hbox 2).trans rfl;have hm3:wb.cell? ⟨gm,3,none⟩=some (.slice A3 gv.length c3):=(Zan hbox 3).trans rfl;have hm4:wb.cell? ⟨gm,4,none⟩=some (.slice A4 gc.length c4):=(Zan hbox 4).trans rfl;have hn0:(wb.alloc (.map #[] 0)).cell? ⟨gm,0,none⟩=some (.slice A0 vars.length c0):=(Zan (Zab hbox _) 0).trans rfl;have hn1:(wb.alloc (.map #[] 0)).cell? ⟨gm,1,none⟩=some (.slice A1 cons.length c1):=(Zan (Zab hbox _) 1).trans rfl;have hn2:(wb.alloc (.map #[] 0)).cell? ⟨gm,2,none⟩=some (.int .i64 gkd):=(Zan (Zab hbox _) 2).trans rfl;have hn3:(wb.alloc (.map #[] 0)).cell? ⟨gm,3,none⟩=some (.slice A3 gv.length c3):=(Zan (Zab hbox _) 3).trans rfl;have hn4:(wb.alloc (.map #[] 0)).cell? ⟨gm,4,none⟩=some (.slice A4 gc.length c4):=(Zan (Zab hbox _) 4).trans rfl;clear hbox))
    go_ret;exact⟨rfl,mvB HB.out⟩
  have d64a:decide (64<(vars.length:Int))=false:=decide_eq_false (by omega);have d64b:decide (64<vars.length)=false:=decide_eq_false (by omega);by_cases h256:256<cons.length
  · rw [if_pos (Or.inr h256)] at h
    obtain rfl:=Option.some.inj h;clear h;have d256a:decide (256<(cons.length:Int))=true:=decide_eq_true (by omega);have d256b:decide (256<cons.length)=true:=decide_eq_true (by omega);clear h64 h256;go_enter Tryz.func58,Tryz.ntmps58
    go_wp2_with (first|((with_reducible refine Zaq (N:=1) rfl ?_);refine Zda ?hg (N:=1) ?hd (cs:=#[.slice A0 vars.length c0,.slice A1 cons.length c1,.int .i64 gkd,.slice A3 gv.length c3,.slice A4 gc.length c4]) (t:=28) ?hr ?_;(case hd=>rfl);(case hg=>rfl);(case hr=>first|(go_simp;done)|(go_simp;rfl));intro gm hg wb hbox hb;have HB:=Za.mk (Zae (mvB HBw.out) hb);have BK:=Za.mk hbox;clear hb hg;have hm0:wb.cell? ⟨gm,0,none⟩=some (.slice A0 vars.length c0):=(Zan hbox 0).trans rfl;have hm1:wb.cell? ⟨gm,1,none⟩=some (.slice A1 cons.length c1):=(Zan hbox 1).trans rfl;have hm2:wb.cell? ⟨gm,2,none⟩=some (.int .i64 gkd):=(Zan hbox 2).trans rfl;have hm3:wb.cell? ⟨gm,3,none⟩=some (.slice A3 gv.length c3):=(Zan hbox 3).trans rfl;have hm4:wb.cell? ⟨gm,4,none⟩=some (.slice A4 gc.length c4):=(Zan hbox 4).trans rfl;have hn0:(wb.alloc (.map #[] 0)).cell? ⟨gm,0,none⟩=some (.slice A0 vars.length c0):=(Zan (Zab hbox _) 0).trans rfl;have hn1:(wb.alloc (.map #[] 0)).cell? ⟨gm,1,none⟩=some (.slice A1 cons.length c1):=(Zan (Zab hbox _) 1).trans rfl;have hn2:(wb.alloc (.map #[] 0)).cell? ⟨gm,2,none⟩=some (.int .i64 gkd):=(Zan (Zab hbox _) 2).trans rfl;have hn3:(wb.alloc (.map #[] 0)).cell? ⟨gm,3,none⟩=some (.slice A3 gv.length c3):=(Zan (Zab hbox _) 3).trans rfl;have hn4:(wb.alloc (.map #[] 0)).cell? ⟨gm,4,none⟩=some (.slice A4 gc.length c4):=(Zan (Zab hbox _) 4).trans rfl;clear hbox))
    go_ret;exact⟨rfl,mvB HB.out⟩
  have d256a:decide (256<(cons.length:Int))=false:=decide_eq_false (by omega);have d256b:decide (256<cons.length)=false:=decide_eq_false (by omega);have L64:Za (vars.length≤64):=⟨by omega⟩;have L256:Za (cons.length≤256):=⟨by omega⟩;rw[if_neg (fun h_=>h_.elim h64 h256)]at h;clear h64 h256;obtain⟨e1,he1,h2_⟩:=Option.bind_eq_some_iff.1 h;have H1:=Za.mk he1;have H2:=Za.mk h2_;clear h he1 h2_;have hmm:=@run_makeMap Tryz.prog;go_enter Tryz.func58,Tryz.ntmps58
  go_wp2_with (first|((with_reducible refine Zaq (N:=1) rfl ?_);refine Zda ?hg (N:=1) ?hd (cs:=#[.slice A0 vars.length c0,.slice A1 cons.length c1,.int .i64 gkd,.slice A3 gv.length c3,.slice A4 gc.length c4]) (t:=28) ?hr ?_;(case hd=>rfl);(case hg=>rfl);(case hr=>first|(go_simp;done)|(go_simp;rfl));intro gm hg wb hbox hb;have HB:=Za.mk (Zae (mvB HBw.out) hb);have BK:=Za.mk hbox;clear hb hg;have hm0:wb.cell? ⟨gm,0,none⟩=some (.slice A0 vars.length c0):=(Zan hbox 0).trans rfl;have hm1:wb.cell? ⟨gm,1,none⟩=some (.slice A1 cons.length c1):=(Zan hbox 1).trans rfl;have hm2:wb.cell? ⟨gm,2,none⟩=some (.int .i64 gkd):=(Zan hbox 2).trans rfl;have hm3:wb.cell? ⟨gm,3,none⟩=some (.slice A3 gv.length c3):=(Zan hbox 3).trans rfl;have hm4:wb.cell? ⟨gm,4,none⟩=some (.slice A4 gc.length c4):=(Zan hbox 4).trans rfl;have hn0:(wb.alloc (.map #[] 0)).cell? ⟨gm,0,none⟩=some (.slice A0 vars.length c0):=(Zan (Zab hbox _) 0).trans rfl;have hn1:(wb.alloc (.map #[] 0)).cell? ⟨gm,1,none⟩=some (.slice A1 cons.length c1):=(Zan (Zab hbox _) 1).trans rfl;have hn2:(wb.alloc (.map #[] 0)).cell? ⟨gm,2,none⟩=some (.int .i64 gkd):=(Zan (Zab hbox _) 2).trans rfl;have hn3:(wb.alloc (.map #[] 0)).cell? ⟨gm,3,none⟩=some (.slice A3 gv.length c3):=(Zan (Zab hbox _) 3).trans rfl;have hn4:(wb.alloc (.map #[] 0)).cell? ⟨gm,4,none⟩=some (.slice A4 gc.length c4):=(Zan (Zab hbox _) 4).trans rfl;clear hbox))
  go_loopg [24] vars.length (fun gg s24 w'=>∃i:Nat,s24= .int .i64 i∧i≤vars.length∧vars.length - i≤gg∧Za (Below wb.heap.size wb w')∧Za (SetN w' wb.heap.size ((vars.take i).map (·.f0)))∧Za (Zet k (vars.drop i) ((vars.take i).map (·.f0))=some e1))
  case atStart=>exact⟨0,rfl,Nat.zero_le _,Nat.le_refl _,⟨Zbi (Below.refl _ _) _⟩,⟨SetN.made wb⟩,⟨by simpa using H1.out⟩⟩
  case round=>
    clear hmm hm0 hm1 hm2 hm3 hm4 hn0 hn1 hn2 hn3 hn4;obtain⟨i,rfl,hi,hg,BW,HS,HA⟩:=hrel;have hmb:=HS.out.lt;have HMB:=Za.mk hmb;clear hmb;have HWR:=Za.mk (Zae HB.out BW.out);have BKr:=Za.mk (Zcf BK.out BW.out);have hr0:wr.cell? ⟨gm,0,none⟩=some (.slice A0 vars.length c0):=(Zan BKr.out 0).trans rfl;have hr1:wr.cell? ⟨gm,1,none⟩=some (.slice A1 cons.length c1):=(Zan BKr.out 1).trans rfl;have hr2:wr.cell? ⟨gm,2,none⟩=some (.int .i64 gkd):=(Zan BKr.out 2).trans rfl;have hr3:wr.cell? ⟨gm,3,none⟩=some (.slice A3 gv.length c3):=(Zan BKr.out 3).trans rfl;have hr4:wr.cell? ⟨gm,4,none⟩=some (.slice A4 gc.length c4):=(Zan BKr.out 4).trans rfl;by_cases hlt:i<vars.length;rotate_left
    · obtain rfl : i = vars.length := by omega
      have HA1:=HA.out;rw[List.drop_length,Zet]at HA1;obtain rfl:=Option.some.inj HA1;clear HA HA1 HS HMB hi hg hlt;have p1_:decide ((vars.length:Int)<(vars.length:Int))=false:=decide_eq_false (by omega);have H3:=H2.out;rw[if_pos rfl]at H3;clear H2;obtain⟨d,hd,H4⟩:=Option.bind_eq_some_iff.1 H3;obtain⟨e2,he2,H5⟩:=Option.bind_eq_some_iff.1 H4;have HDm:=Za.mk hd;have HE2:=Za.mk he2;have HR:=Za.mk H5;clear H3 H4 H5 hd he2
      go_wp2_with (first|(go_at_call 59;go_loud (refine(Zcc.calls k A0 c0 vars A1 c1 cons gkd A3 c3 gv A4 c4 gc d _ (Kd.Zad HR0.out (mvB HWR.out)) hc0 (Kd.Zad HR1.out (mvB HWR.out)) hc1 (Kd.Zad HR3.out (mvB HWR.out)) hc3 (Kd.Zad HR4.out (mvB HWR.out)) hc4 HDm.out).mono ?_;rintro e_ wd ⟨vd,rfl,ho,hb⟩;replace ho:=Kd.S_N ho;obtain⟨Ad,cd,ed⟩:=Kd.Zc6 ho;subst ed;have HCd:=Za.mk (Kd.Zby ho);have BD:=Za.mk (Zae (mvB HWR.out) hb);have BKd:=Za.mk (Zcf (mvK BKr.out) hb);have hd0:wd.cell? ⟨gm,0,none⟩=some (.slice A0 vars.length c0):=(Zan BKd.out 0).trans rfl;have hd1:wd.cell? ⟨gm,1,none⟩=some (.slice A1 cons.length c1):=(Zan BKd.out 1).trans rfl;have hd2:wd.cell? ⟨gm,2,none⟩=some (.int .i64 gkd):=(Zan BKd.out 2).trans rfl;have hd3:wd.cell? ⟨gm,3,none⟩=some (.slice A3 gv.length c3):=(Zan BKd.out 3).trans rfl;have hd4:wd.cell? ⟨gm,4,none⟩=some (.slice A4 gc.length c4):=(Zan BKd.out 4).trans rfl;clear ho hb)))
      go_loopg [58] cons.length (fun gg s58 w'=>∃j:Nat,s58= .int .i64 j∧j≤cons.length∧cons.length - j≤gg∧Za (Below wd.heap.size wd w')∧Za (Zes k d (cons.drop j)=some e2))
      case atStart=>exact⟨0,rfl,Nat.zero_le _,Nat.le_refl _,⟨mvB (Below.refl wd.heap.size wd)⟩,⟨by simpa using HE2.out⟩⟩
      case round=>
        clear hd0 hd1 hd2 hd3 hd4 hr0 hr1 hr2 hr3 hr4;obtain⟨j,rfl,hj,hg,BW2,HA⟩:=hrel;obtain⟨wq,rfl⟩:∃x:World,x=wr:=⟨_,rfl⟩;have HWQ:=Za.mk (Zae BD.out BW2.out);have BKq:=Za.mk (Zcf BKd.out BW2.out);have hq0:wq.cell? ⟨gm,0,none⟩=some (.slice A0 vars.length c0):=(Zan BKq.out 0).trans rfl;have hq1:wq.cell? ⟨gm,1,none⟩=some (.slice A1 cons.length c1):=(Zan BKq.out 1).trans rfl;have hq2:wq.cell? ⟨gm,2,none⟩=some (.int .i64 gkd):=(Zan BKq.out 2).trans rfl;have hq3:wq.cell? ⟨gm,3,none⟩=some (.slice A3 gv.length c3):=(Zan BKq.out 3).trans rfl;have hq4:wq.cell? ⟨gm,4,none⟩=some (.slice A4 gc.length c4):=(Zan BKq.out 4).trans rfl;by_cases hlt:j<cons.length;rotate_left
        · obtain rfl : j = cons.length := by omega
          have HA1:=HA.out;rw[List.drop_length,Zes]at HA1;obtain rfl:=Option.some.inj HA1;clear HA HA1 hj hg hlt;have p3_:decide ((cons.length:Int)<(cons.length:Int))=false:=decide_eq_false (by omega);have H6:=HR.out;rw[if_pos rfl]at H6;have HG:=Za.mk H6;clear HR H6
          go_wp2_with (first|(go_at_call 80;go_loud (refine(Zd1.calls k Ad cd d gkd A3 c3 gv A4 c4 gc r _ (Kd.Zad HCd.out.2.2 (mvB BW2.out)) HCd.out.2.1 (Kd.Zad HR3.out (mvB HWQ.out)) hc3 (Kd.Zad HR4.out (mvB HWQ.out)) hc4 HG.out).mono ?_;rintro e_ w12 ⟨rfl,hb⟩;have BV2:=Za.mk (Zae (mvB HWQ.out) hb);clear hb)))
          go_ret;exact⟨rfl,mvB BV2.out⟩
        have hltz:(j:Int)<(cons.length:Int):=by omega
        have p3_:decide ((j:Int)<(cons.length:Int))=true:=decide_eq_true hltz;have p4_:decide ((0:Int)≤(j:Int))=true:=decide_eq_true (by omega);obtain⟨ad,B1,b1,B2,b2,B5,b5,e_,hx0,hx1,hx2,hx3,hx4,hx5,hx6,hl1,hi1,hl2,hi2,hl5,hi5⟩:=at_T36 (Kd.Zad HR1.out HWQ.out) (j:Int) (by omega) hltz;cases e_;simp only[Int.toNat_natCast]at hx0 hx1 hx2 hx3 hx4 hx5 hx6;have HA1:=HA.out;rw[drop_rdC hlt,Zes]at HA1
        generalize Zac cons (j:Int)=x at hx0 hx1 hx2 hx3 hx4 hx5 hx6 hl1 hi1 hl2 hi2 hl5 hi5 HA1
        have HI1:=Za.mk hi1;have HL1:=Za.mk hl1;clear hi1 hl1;have HI2:=Za.mk hi2;have HL2:=Za.mk hl2;clear hi2 hl2;have HI5:=Za.mk hi5;have HL5:=Za.mk hl5;clear hi5 hl5;obtain⟨e,he,HA2⟩:=Option.bind_eq_some_iff.1 HA1;have HE:=Za.mk he;clear HA HA1 he;by_cases he0:e=0
        · subst he0
          rw[if_pos rfl]at HA2
          go_wp2_with (first|((with_reducible refine Zaq (N:=8) rfl ?_);refine Zda ?hg (N:=8) ?hd (cs:=#[.int .i64 0,.slice none 0 0,.slice none 0 0,.int .i64 0,.int .i64 0,.slice none 0 0,.int .i64 0]) (t:=36) ?hr ?_;(case hd=>rfl);(case hg=>rfl);(case hr=>first|(go_simp;done)|(go_simp;rfl));intro g8 hg8 w9 hbox hb;have BX:=Za.mk hbox;have lw:w9.cell? ⟨g8,0,none⟩=some (.int .i64 0):=(Zan hbox 0).trans rfl;have l6:=Zax hbox 0;have kR:w9.cell? ⟨g8,1,none⟩=some (.slice none 0 0):=(Zan hbox 1).trans rfl;have l7:=Zax hbox 1;have hcz2:w9.cell? ⟨g8,2,none⟩=some (.slice none 0 0):=(Zan hbox 2).trans rfl;have bJa:=Zax hbox 2;have bFa:w9.cell? ⟨g8,3,none⟩=some (.int .i64 0):=(Zan hbox 3).trans rfl;have bKa:=Zax hbox 3;have bGa:w9.cell? ⟨g8,4,none⟩=some (.int .i64 0):=(Zan hbox 4).trans rfl;have bLa:=Zax hbox 4;have bHa:w9.cell? ⟨g8,5,none⟩=some (.slice none 0 0):=(Zan hbox 5).trans rfl;have bMa:=Zax hbox 5;have bIa:w9.cell? ⟨g8,6,none⟩=some (.int .i64 0):=(Zan hbox 6).trans rfl;have bNa:=Zax hbox 6;have BV:=Za.mk (Zae (mvB (Below.refl wq.heap.size wq)) hb);have HG8:Za (wq.heap.size≤g8):=⟨by rw[hg8];exact(mvB (Below.refl wq.heap.size wq)).size⟩;clear hbox hb hg8)|(go_at_call 79;go_loud (have B7:=Za.mk (show Below wq.heap.size wq (((((((w9.setCell ⟨g8,0,none⟩ (.int .i64 x.f0)).setCell ⟨g8,1,none⟩ (.slice B1 x.f1.length b1)).setCell ⟨g8,2,none⟩ (.slice B2 x.f2.length b2)).setCell ⟨g8,3,none⟩ (.int .i64 x.f3)).setCell ⟨g8,4,none⟩ (.int .i64 x.f4)).setCell ⟨g8,5,none⟩ (.slice B5 x.f5.length b5)).setCell ⟨g8,6,none⟩ (.int .i64 x.f6))from Zb (Zb (Zb (Zb (Zb (Zb (Zb BV.out HG8.out) HG8.out) HG8.out) HG8.out) HG8.out) HG8.out) HG8.out);refine(Zc8.calls k Ad cd d x.f0 B1 b1 x.f1 B2 b2 x.f2 x.f3 x.f4 B5 b5 x.f5 x.f6 _ _ (Kd.Zad HCd.out.2.2 (Zae BW2.out (mvB B7.out))) HCd.out.2.1 (Kd.Zad HI1.out (mvB B7.out)) HL1.out (Kd.Zad HI2.out (mvB B7.out)) HL2.out (Kd.Zad HI5.out (mvB B7.out)) HL5.out HE.out).mono ?_;rintro e_ w12 ⟨rfl,hb⟩;have BV2:=Za.mk (Zae (mvB B7.out) hb);clear hb)))
          have h256_:=L256.out
          go_roundg (cons.length - (j+1))
          case measure=>omega
          case rel=>exact⟨j+1,(by rw[show wrap64 ((j:Int)+1)=((j+1:Nat):Int)from by unfold wrap64;omega]),by omega,Nat.le_refl _,⟨Zae BW2.out (mvB BV2.out)⟩,⟨HA2⟩⟩
        rw[if_neg he0]at HA2;obtain rfl:=Option.some.inj HA2;have h4:=HR.out;rw[if_neg he0]at h4;obtain rfl:=Option.some.inj h4;clear h4 HA2;have de1:(e==0)=false:=beq_eq_false_iff_ne.2 he0;have de2:(e !=0)=true:=by simp only[bne,de1,Bool.not_false]
        have de3:decide (e=0)=false:=decide_eq_false he0;clear he0
        go_wp2_with (first|((with_reducible refine Zaq (N:=8) rfl ?_);refine Zda ?hg (N:=8) ?hd (cs:=#[.int .i64 0,.slice none 0 0,.slice none 0 0,.int .i64 0,.int .i64 0,.slice none 0 0,.int .i64 0]) (t:=36) ?hr ?_;(case hd=>rfl);(case hg=>rfl);(case hr=>first|(go_simp;done)|(go_simp;rfl));intro g8 hg8 w9 hbox hb;have BX:=Za.mk hbox;have lw:w9.cell? ⟨g8,0,none⟩=some (.int .i64 0):=(Zan hbox 0).trans rfl;have l6:=Zax hbox 0;have kR:w9.cell? ⟨g8,1,none⟩=some (.slice none 0 0):=(Zan hbox 1).trans rfl;have l7:=Zax hbox 1;have hcz2:w9.cell? ⟨g8,2,none⟩=some (.slice none 0 0):=(Zan hbox 2).trans rfl;have bJa:=Zax hbox 2;have bFa:w9.cell? ⟨g8,3,none⟩=some (.int .i64 0):=(Zan hbox 3).trans rfl;have bKa:=Zax hbox 3;have bGa:w9.cell? ⟨g8,4,none⟩=some (.int .i64 0):=(Zan hbox 4).trans rfl;have bLa:=Zax hbox 4;have bHa:w9.cell? ⟨g8,5,none⟩=some (.slice none 0 0):=(Zan hbox 5).trans rfl;have bMa:=Zax hbox 5;have bIa:w9.cell? ⟨g8,6,none⟩=some (.int .i64 0):=(Zan hbox 6).trans rfl;have bNa:=Zax hbox 6;have BV:=Za.mk (Zae (mvB (Below.refl wq.heap.size wq)) hb);have HG8:Za (wq.heap.size≤g8):=⟨by rw[hg8];exact(mvB (Below.refl wq.heap.size wq)).size⟩;clear hbox hb hg8)|(go_at_call 79;go_loud (have B7:=Za.mk (show Below wq.heap.size wq (((((((w9.setCell ⟨g8,0,none⟩ (.int .i64 x.f0)).setCell ⟨g8,1,none⟩ (.slice B1 x.f1.length b1)).setCell ⟨g8,2,none⟩ (.slice B2 x.f2.length b2)).setCell ⟨g8,3,none⟩ (.int .i64 x.f3)).setCell ⟨g8,4,none⟩ (.int .i64 x.f4)).setCell ⟨g8,5,none⟩ (.slice B5 x.f5.length b5)).setCell ⟨g8,6,none⟩ (.int .i64 x.f6))from Zb (Zb (Zb (Zb (Zb (Zb (Zb BV.out HG8.out) HG8.out) HG8.out) HG8.out) HG8.out) HG8.out) HG8.out);refine(Zc8.calls k Ad cd d x.f0 B1 b1 x.f1 B2 b2 x.f2 x.f3 x.f4 B5 b5 x.f5 x.f6 _ _ (Kd.Zad HCd.out.2.2 (Zae BW2.out (mvB B7.out))) HCd.out.2.1 (Kd.Zad HI1.out (mvB B7.out)) HL1.out (Kd.Zad HI2.out (mvB B7.out)) HL2.out (Kd.Zad HI5.out (mvB B7.out)) HL5.out HE.out).mono ?_;rintro e_ w12 ⟨rfl,hb⟩;have BV2:=Za.mk (Zae (mvB B7.out) hb);clear hb)))
        go_ret;exact⟨rfl,Zae HWQ.out (mvB BV2.out)⟩
    have hltz:(i:Int)<(vars.length:Int):=by omega
    have p1_:decide ((i:Int)<(vars.length:Int))=true:=decide_eq_true hltz;have p2_:decide ((0:Int)≤(i:Int))=true:=decide_eq_true (by omega);obtain⟨ad,A5,c5,e_,hx0,hx1,hl1,hi1⟩:=Zeq (Kd.Zad HR0.out HWR.out) (i:Int) (by omega) hltz;cases e_;simp only[Int.toNat_natCast]at hx0 hx1;have HA1:=HA.out;rw[drop_rd hlt,Zet]at HA1;have HTK:=Za.mk (take_rd hlt)
    generalize Zbb vars (i:Int)=x at hx0 hx1 hl1 hi1 HA1 HTK
    have HI1:=Za.mk hi1;have HL1:=Za.mk hl1;clear hi1 hl1 HA;obtain⟨nm,hnm,HA2⟩:=Option.bind_eq_some_iff.1 HA1;have HN:=Za.mk hnm;clear HA1 hnm;have HGB:Za (wb.heap.size≤wr.heap.size):=⟨BW.out.size⟩
    cases nm with
    |false=>
      rw[if_pos rfl]at HA2;obtain rfl:=Option.some.inj HA2;have h4:=H2.out;rw[if_neg (by decide)]at h4;obtain rfl:=Option.some.inj h4;clear h4 HA2
      go_wp2_with (first|((with_reducible refine Zaq (N:=5) rfl ?_);refine Zda ?hg (N:=5) ?hd (cs:=#[.string (⟨#[]⟩:ByteArray),.slice none 0 0]) (t:=55) ?hr ?_;(case hd=>rfl);(case hg=>rfl);(case hr=>first|(go_simp;done)|(go_simp;rfl));intro g5 hg5 w9 hbox hb;have BX:=Za.mk hbox;have lw:w9.cell? ⟨g5,0,none⟩=some (.string (⟨#[]⟩:ByteArray)):=(Zan hbox 0).trans rfl;have kR:w9.cell? ⟨g5,1,none⟩=some (.slice none 0 0):=(Zan hbox 1).trans rfl;have l6:=Zax hbox 0;have l7:=Zax hbox 1;have BV:=Za.mk (Zae (mvB (Below.refl wr.heap.size wr)) hb);have HG5:Za (wr.heap.size≤g5):=⟨by rw[hg5];exact(mvB (Below.refl wr.heap.size wr)).size⟩;have HM5:Za (wb.heap.size≠g5):=⟨by rw[hg5];exact Nat.ne_of_lt (Nat.lt_of_lt_of_le HMB.out (mvB (Below.refl wr.heap.size wr)).size)⟩;have HS9:=Za.mk (SetN.below (SetN.below HS.out (mvB (Below.refl wr.heap.size wr))) hb);clear hbox hb hg5)|(go_at_call 77;go_loud (refine(Zd2.calls x.f0 _ _ HN.out).mono ?_;rintro e w12 ⟨rfl,hb⟩;have BX2:=Za.mk (Zcf (mvK (Zay (cs':=#[.string x.f0,.slice A5 x.f1.length c5]) (Zay (cs':=#[.string x.f0,.slice none 0 0]) BX.out 0 (.string x.f0) rfl) 1 (.slice A5 x.f1.length c5) rfl)) hb);have BV2:=Za.mk (Zae (mvB (show Below wr.heap.size wr ((w9.setCell ⟨g5,0,none⟩ (.string x.f0)).setCell ⟨g5,1,none⟩ (.slice A5 x.f1.length c5))from Zb (Zb BV.out HG5.out) HG5.out)) hb);have HS2:=Za.mk (SetN.below (SetN.below (show SetN ((w9.setCell ⟨g5,0,none⟩ (.string x.f0)).setCell ⟨g5,1,none⟩ (.slice A5 x.f1.length c5)) _ _ from SetN.far HS9.out HM5.out) (mvB (Below.refl ((w9.setCell ⟨g5,0,none⟩ (.string x.f0)).setCell ⟨g5,1,none⟩ (.slice A5 x.f1.length c5)).heap.size ((w9.setCell ⟨g5,0,none⟩ (.string x.f0)).setCell ⟨g5,1,none⟩ (.slice A5 x.f1.length c5))))) hb);have hcy0:w12.cell? ⟨g5,0,none⟩=some (.string x.f0):=(Zan BX2.out 0).trans rfl;have hcy1:w12.cell? ⟨g5,1,none⟩=some (.slice A5 x.f1.length c5):=(Zan BX2.out 1).trans rfl;clear hb)))
      go_ret;exact⟨rfl,Zae HWR.out (mvB BV2.out)⟩
    |true=>
      rw[if_neg (by decide)]at HA2;have HSZ:=Za.mk (name_size HN.out)
      generalize hhad:hasN ((vars.take i).map (·.f0)) x.f0=had at HA2
      have HD:=Za.mk hhad;clear hhad
      cases had with
      |true=>
        rw[if_pos rfl]at HA2;obtain rfl:=Option.some.inj HA2;have h4:=H2.out;rw[if_neg (by decide)]at h4;obtain rfl:=Option.some.inj h4;clear h4 HA2
        go_wp2_with (first|((with_reducible refine Zaq (N:=5) rfl ?_);refine Zda ?hg (N:=5) ?hd (cs:=#[.string (⟨#[]⟩:ByteArray),.slice none 0 0]) (t:=55) ?hr ?_;(case hd=>rfl);(case hg=>rfl);(case hr=>first|(go_simp;done)|(go_simp;rfl));intro g5 hg5 w9 hbox hb;have BX:=Za.mk hbox;have lw:w9.cell? ⟨g5,0,none⟩=some (.string (⟨#[]⟩:ByteArray)):=(Zan hbox 0).trans rfl;have kR:w9.cell? ⟨g5,1,none⟩=some (.slice none 0 0):=(Zan hbox 1).trans rfl;have l6:=Zax hbox 0;have l7:=Zax hbox 1;have BV:=Za.mk (Zae (mvB (Below.refl wr.heap.size wr)) hb);have HG5:Za (wr.heap.size≤g5):=⟨by rw[hg5];exact(mvB (Below.refl wr.heap.size wr)).size⟩;have HM5:Za (wb.heap.size≠g5):=⟨by rw[hg5];exact Nat.ne_of_lt (Nat.lt_of_lt_of_le HMB.out (mvB (Below.refl wr.heap.size wr)).size)⟩;have HS9:=Za.mk (SetN.below (SetN.below HS.out (mvB (Below.refl wr.heap.size wr))) hb);clear hbox hb hg5)|(go_at_call 77;go_loud (refine(Zd2.calls x.f0 _ _ HN.out).mono ?_;rintro e w12 ⟨rfl,hb⟩;have BX2:=Za.mk (Zcf (mvK (Zay (cs':=#[.string x.f0,.slice A5 x.f1.length c5]) (Zay (cs':=#[.string x.f0,.slice none 0 0]) BX.out 0 (.string x.f0) rfl) 1 (.slice A5 x.f1.length c5) rfl)) hb);have BV2:=Za.mk (Zae (mvB (show Below wr.heap.size wr ((w9.setCell ⟨g5,0,none⟩ (.string x.f0)).setCell ⟨g5,1,none⟩ (.slice A5 x.f1.length c5))from Zb (Zb BV.out HG5.out) HG5.out)) hb);have HS2:=Za.mk (SetN.below (SetN.below (show SetN ((w9.setCell ⟨g5,0,none⟩ (.string x.f0)).setCell ⟨g5,1,none⟩ (.slice A5 x.f1.length c5)) _ _ from SetN.far HS9.out HM5.out) (mvB (Below.refl ((w9.setCell ⟨g5,0,none⟩ (.string x.f0)).setCell ⟨g5,1,none⟩ (.slice A5 x.f1.length c5)).heap.size ((w9.setCell ⟨g5,0,none⟩ (.string x.f0)).setCell ⟨g5,1,none⟩ (.slice A5 x.f1.length c5))))) hb);have hcy0:w12.cell? ⟨g5,0,none⟩=some (.string x.f0):=(Zan BX2.out 0).trans rfl;have hcy1:w12.cell? ⟨g5,1,none⟩=some (.slice A5 x.f1.length c5):=(Zan BX2.out 1).trans rfl;clear hb))|(refine Zew rfl (.tmp 34) (.tmp 36) rfl rfl HS2.out rfl HSZ.out ?_;rw[HD.out]))
        go_ret;exact⟨rfl,Zae HWR.out (mvB BV2.out)⟩
      |false=>
        rw[if_neg (by decide)]at HA2;by_cases hl0:x.f1.length=0
        · rw [if_pos hl0] at HA2
          obtain rfl:=Option.some.inj HA2;have h4:=H2.out;rw[if_neg (by decide)]at h4;obtain rfl:=Option.some.inj h4;clear h4 HA2;have dl1:((x.f1.length:Int)==0)=true:=beq_iff_eq.2 (by omega);have dl2:decide ((x.f1.length:Int)=0)=true:=decide_eq_true (by omega);have dl3:decide (x.f1.length=0)=true:=decide_eq_true hl0;have dl4:(x.f1.length==0)=true:=beq_iff_eq.2 hl0;clear hl0
          go_wp2_with (first|((with_reducible refine Zaq (N:=5) rfl ?_);refine Zda ?hg (N:=5) ?hd (cs:=#[.string (⟨#[]⟩:ByteArray),.slice none 0 0]) (t:=55) ?hr ?_;(case hd=>rfl);(case hg=>rfl);(case hr=>first|(go_simp;done)|(go_simp;rfl));intro g5 hg5 w9 hbox hb;have BX:=Za.mk hbox;have lw:w9.cell? ⟨g5,0,none⟩=some (.string (⟨#[]⟩:ByteArray)):=(Zan hbox 0).trans rfl;have kR:w9.cell? ⟨g5,1,none⟩=some (.slice none 0 0):=(Zan hbox 1).trans rfl;have l6:=Zax hbox 0;have l7:=Zax hbox 1;have BV:=Za.mk (Zae (mvB (Below.refl wr.heap.size wr)) hb);have HG5:Za (wr.heap.size≤g5):=⟨by rw[hg5];exact(mvB (Below.refl wr.heap.size wr)).size⟩;have HM5:Za (wb.heap.size≠g5):=⟨by rw[hg5];exact Nat.ne_of_lt (Nat.lt_of_lt_of_le HMB.out (mvB (Below.refl wr.heap.size wr)).size)⟩;have HS9:=Za.mk (SetN.below (SetN.below HS.out (mvB (Below.refl wr.heap.size wr))) hb);clear hbox hb hg5)|(go_at_call 77;go_loud (refine(Zd2.calls x.f0 _ _ HN.out).mono ?_;rintro e w12 ⟨rfl,hb⟩;have BX2:=Za.mk (Zcf (mvK (Zay (cs':=#[.string x.f0,.slice A5 x.f1.length c5]) (Zay (cs':=#[.string x.f0,.slice none 0 0]) BX.out 0 (.string x.f0) rfl) 1 (.slice A5 x.f1.length c5) rfl)) hb);have BV2:=Za.mk (Zae (mvB (show Below wr.heap.size wr ((w9.setCell ⟨g5,0,none⟩ (.string x.f0)).setCell ⟨g5,1,none⟩ (.slice A5 x.f1.length c5))from Zb (Zb BV.out HG5.out) HG5.out)) hb);have HS2:=Za.mk (SetN.below (SetN.below (show SetN ((w9.setCell ⟨g5,0,none⟩ (.string x.f0)).setCell ⟨g5,1,none⟩ (.slice A5 x.f1.length c5)) _ _ from SetN.far HS9.out HM5.out) (mvB (Below.refl ((w9.setCell ⟨g5,0,none⟩ (.string x.f0)).setCell ⟨g5,1,none⟩ (.slice A5 x.f1.length c5)).heap.size ((w9.setCell ⟨g5,0,none⟩ (.string x.f0)).setCell ⟨g5,1,none⟩ (.slice A5 x.f1.length c5))))) hb);have hcy0:w12.cell? ⟨g5,0,none⟩=some (.string x.f0):=(Zan BX2.out 0).trans rfl;have hcy1:w12.cell? ⟨g5,1,none⟩=some (.slice A5 x.f1.length c5):=(Zan BX2.out 1).trans rfl;clear hb))|(refine Zew rfl (.tmp 34) (.tmp 36) rfl rfl HS2.out rfl HSZ.out ?_;rw[HD.out]))
          go_ret;exact⟨rfl,Zae HWR.out (mvB BV2.out)⟩
        rw[if_neg hl0]at HA2;obtain⟨e,he,HA3⟩:=Option.bind_eq_some_iff.1 HA2;have HE:=Za.mk he;clear HA2 he;have dl1:((x.f1.length:Int)==0)=false:=beq_eq_false_iff_ne.2 (by omega);have dl2:decide ((x.f1.length:Int)=0)=false:=decide_eq_false (by omega);have dl3:decide (x.f1.length=0)=false:=decide_eq_false hl0;have dl4:(x.f1.length==0)=false:=beq_eq_false_iff_ne.2 hl0;clear hl0;by_cases he0:e=0;rotate_left
        · rw [if_neg he0] at HA3
          obtain rfl:=Option.some.inj HA3;have h4:=H2.out;rw[if_neg (by decide)]at h4;obtain rfl:=Option.some.inj h4;clear h4 HA3;have de1:(e==0)=false:=beq_eq_false_iff_ne.2 he0;have de2:(e !=0)=true:=by simp only[bne,de1,Bool.not_false]
          have de3:decide (e=0)=false:=decide_eq_false he0;clear he0
          go_wp2_with (first|((with_reducible refine Zaq (N:=5) rfl ?_);refine Zda ?hg (N:=5) ?hd (cs:=#[.string (⟨#[]⟩:ByteArray),.slice none 0 0]) (t:=55) ?hr ?_;(case hd=>rfl);(case hg=>rfl);(case hr=>first|(go_simp;done)|(go_simp;rfl));intro g5 hg5 w9 hbox hb;have BX:=Za.mk hbox;have lw:w9.cell? ⟨g5,0,none⟩=some (.string (⟨#[]⟩:ByteArray)):=(Zan hbox 0).trans rfl;have kR:w9.cell? ⟨g5,1,none⟩=some (.slice none 0 0):=(Zan hbox 1).trans rfl;have l6:=Zax hbox 0;have l7:=Zax hbox 1;have BV:=Za.mk (Zae (mvB (Below.refl wr.heap.size wr)) hb);have HG5:Za (wr.heap.size≤g5):=⟨by rw[hg5];exact(mvB (Below.refl wr.heap.size wr)).size⟩;have HM5:Za (wb.heap.size≠g5):=⟨by rw[hg5];exact Nat.ne_of_lt (Nat.lt_of_lt_of_le HMB.out (mvB (Below.refl wr.heap.size wr)).size)⟩;have HS9:=Za.mk (SetN.below (SetN.below HS.out (mvB (Below.refl wr.heap.size wr))) hb);clear hbox hb hg5)|(go_at_call 77;go_loud (refine(Zd2.calls x.f0 _ _ HN.out).mono ?_;rintro e w12 ⟨rfl,hb⟩;have BX2:=Za.mk (Zcf (mvK (Zay (cs':=#[.string x.f0,.slice A5 x.f1.length c5]) (Zay (cs':=#[.string x.f0,.slice none 0 0]) BX.out 0 (.string x.f0) rfl) 1 (.slice A5 x.f1.length c5) rfl)) hb);have BV2:=Za.mk (Zae (mvB (show Below wr.heap.size wr ((w9.setCell ⟨g5,0,none⟩ (.string x.f0)).setCell ⟨g5,1,none⟩ (.slice A5 x.f1.length c5))from Zb (Zb BV.out HG5.out) HG5.out)) hb);have HS2:=Za.mk (SetN.below (SetN.below (show SetN ((w9.setCell ⟨g5,0,none⟩ (.string x.f0)).setCell ⟨g5,1,none⟩ (.slice A5 x.f1.length c5)) _ _ from SetN.far HS9.out HM5.out) (mvB (Below.refl ((w9.setCell ⟨g5,0,none⟩ (.string x.f0)).setCell ⟨g5,1,none⟩ (.slice A5 x.f1.length c5)).heap.size ((w9.setCell ⟨g5,0,none⟩ (.string x.f0)).setCell ⟨g5,1,none⟩ (.slice A5 x.f1.length c5))))) hb);have hcy0:w12.cell? ⟨g5,0,none⟩=some (.string x.f0):=(Zan BX2.out 0).trans rfl;have hcy1:w12.cell? ⟨g5,1,none⟩=some (.slice A5 x.f1.length c5):=(Zan BX2.out 1).trans rfl;clear hb))|(refine Zew rfl (.tmp 34) (.tmp 36) rfl rfl HS2.out rfl HSZ.out ?_;rw[HD.out])|(go_at_call 78;go_loud (refine(Zd7.calls k A5 c5 x.f1 _ _ (Kd.Zad HI1.out (mvB BV2.out)) HL1.out HE.out).mono ?_;rintro e_ w13 ⟨rfl,hb⟩;have BV3:=Za.mk (Zae (mvB BV2.out) hb);have HS3:=Za.mk (SetN.below (SetN.below HS2.out (mvB (Below.refl w12.heap.size w12))) hb);have hcw0:w13.cell? ⟨g5,0,none⟩=some (.string x.f0):=(Zan (Zcf (mvK BX2.out) hb) 0).trans rfl;have hcw1:w13.cell? ⟨g5,1,none⟩=some (.slice A5 x.f1.length c5):=(Zan (Zcf (mvK BX2.out) hb) 1).trans rfl;clear hb)))
          go_ret;exact⟨rfl,Zae HWR.out (mvB BV3.out)⟩
        subst he0;rw[if_pos rfl]at HA3;have HLN:Za (((vars.take i).map (·.f0)).length<maxLen):=⟨Nat.lt_of_le_of_lt (Nat.le_trans (by simp;omega) L64.out) (by decide)⟩
        go_wp2_with (first|((with_reducible refine Zaq (N:=5) rfl ?_);refine Zda ?hg (N:=5) ?hd (cs:=#[.string (⟨#[]⟩:ByteArray),.slice none 0 0]) (t:=55) ?hr ?_;(case hd=>rfl);(case hg=>rfl);(case hr=>first|(go_simp;done)|(go_simp;rfl));intro g5 hg5 w9 hbox hb;have BX:=Za.mk hbox;have lw:w9.cell? ⟨g5,0,none⟩=some (.string (⟨#[]⟩:ByteArray)):=(Zan hbox 0).trans rfl;have kR:w9.cell? ⟨g5,1,none⟩=some (.slice none 0 0):=(Zan hbox 1).trans rfl;have l6:=Zax hbox 0;have l7:=Zax hbox 1;have BV:=Za.mk (Zae (mvB (Below.refl wr.heap.size wr)) hb);have HG5:Za (wr.heap.size≤g5):=⟨by rw[hg5];exact(mvB (Below.refl wr.heap.size wr)).size⟩;have HM5:Za (wb.heap.size≠g5):=⟨by rw[hg5];exact Nat.ne_of_lt (Nat.lt_of_lt_of_le HMB.out (mvB (Below.refl wr.heap.size wr)).size)⟩;have HS9:=Za.mk (SetN.below (SetN.below HS.out (mvB (Below.refl wr.heap.size wr))) hb);clear hbox hb hg5)|(go_at_call 77;go_loud (refine(Zd2.calls x.f0 _ _ HN.out).mono ?_;rintro e w12 ⟨rfl,hb⟩;have BX2:=Za.mk (Zcf (mvK (Zay (cs':=#[.string x.f0,.slice A5 x.f1.length c5]) (Zay (cs':=#[.string x.f0,.slice none 0 0]) BX.out 0 (.string x.f0) rfl) 1 (.slice A5 x.f1.length c5) rfl)) hb);have BV2:=Za.mk (Zae (mvB (show Below wr.heap.size wr ((w9.setCell ⟨g5,0,none⟩ (.string x.f0)).setCell ⟨g5,1,none⟩ (.slice A5 x.f1.length c5))from Zb (Zb BV.out HG5.out) HG5.out)) hb);have HS2:=Za.mk (SetN.below (SetN.below (show SetN ((w9.setCell ⟨g5,0,none⟩ (.string x.f0)).setCell ⟨g5,1,none⟩ (.slice A5 x.f1.length c5)) _ _ from SetN.far HS9.out HM5.out) (mvB (Below.refl ((w9.setCell ⟨g5,0,none⟩ (.string x.f0)).setCell ⟨g5,1,none⟩ (.slice A5 x.f1.length c5)).heap.size ((w9.setCell ⟨g5,0,none⟩ (.string x.f0)).setCell ⟨g5,1,none⟩ (.slice A5 x.f1.length c5))))) hb);have hcy0:w12.cell? ⟨g5,0,none⟩=some (.string x.f0):=(Zan BX2.out 0).trans rfl;have hcy1:w12.cell? ⟨g5,1,none⟩=some (.slice A5 x.f1.length c5):=(Zan BX2.out 1).trans rfl;clear hb))|(refine Zew rfl (.tmp 34) (.tmp 36) rfl rfl HS2.out rfl HSZ.out ?_;rw[HD.out])|(go_at_call 78;go_loud (refine(Zd7.calls k A5 c5 x.f1 _ _ (Kd.Zad HI1.out (mvB BV2.out)) HL1.out HE.out).mono ?_;rintro e_ w13 ⟨rfl,hb⟩;have BV3:=Za.mk (Zae (mvB BV2.out) hb);have HS3:=Za.mk (SetN.below (SetN.below HS2.out (mvB (Below.refl w12.heap.size w12))) hb);have hcw0:w13.cell? ⟨g5,0,none⟩=some (.string x.f0):=(Zan (Zcf (mvK BX2.out) hb) 0).trans rfl;have hcw1:w13.cell? ⟨g5,1,none⟩=some (.slice A5 x.f1.length c5):=(Zan (Zcf (mvK BX2.out) hb) 1).trans rfl;clear hb))|(refine wpList_putN rfl (.tmp 49) (.tmp 51) (.const (.bool true)) rfl rfl HS3.out rfl rfl HSZ.out HLN.out ?_;intro w14 hm14 hg14;have HS4:=Za.mk hm14;have BV4:=Za.mk (hg14.size);have BW4:=Za.mk ((Zae BW.out (mvB BV3.out)).grown hg14 (Nat.le_trans HGB.out (mvB BV3.out).size) (fun k_ e_=>by injection e_ with e_;rw[←e_];exact Nat.le_refl _));clear hm14 hg14))
        have h64_:=L64.out
        go_roundg (vars.length - (i+1))
        case measure=>omega
        case rel=>exact⟨i+1,(by rw[show wrap64 ((i:Int)+1)=((i+1:Nat):Int)from by unfold wrap64;omega]),by omega,Nat.le_refl _,⟨mvB BW4.out⟩,⟨by rw[HTK.out];exact SetN.below HS4.out (mvB (Below.refl w14.heap.size w14))⟩,⟨by rw[HTK.out];exact HA3⟩⟩
end Go.Proofs.YtdpieallpbllkaaGreat.P
namespace Go.Proofs.YtdpieallpbllkaaGreat.P
open Go.RowKit Go.Proofs.YtdpieallpbllkaaGreatW.PrintWords Go.Proofs.YtdpieallpbllkaaGreatW.PrintLast Go.Proofs.YtdpieallpbllkaaGreatW.PrintMore
attribute [local go_sem] Zcw Zcy Zdd Zde Zck Zcl Zcx Zcz
def Zbc.f (a0:Int):Option (Bool):=if a0≥(-1048576)then(some (decide (a0≤1048576)))else(some false)
set_option maxRecDepth 100000 in
theorem Zbc.calls (a0 : Int) (r : Bool) (w : World) (h : Zbc.f a0 = some r) :
  Calls Tryz.prog 73 #[.int .i64 a0] w fun e w'=>e= .returned (.bool r)∧Zas w w':=by
 have H:(if a0≥(-1048576)then(some (decide (a0≤1048576)))else(some false))=some r:=h;clear h;by_cases c2:a0≥(-1048576)
 case pos=>
  rw[if_pos c2]at H;have jo:decide ((-1048576)≤a0)=true:=decide_eq_true c2;clear c2;obtain rfl:=sj H;go_enter Tryz.func73,Tryz.ntmps73;go_wp2;go_ret;exact⟨eS,by repeat(first|exact Zas.refl _|apply Zas.step)⟩
 rw[if_neg c2]at H;have jo:decide ((-1048576)≤a0)=false:=decide_eq_false c2;clear c2;obtain rfl:=sj H;go_enter Tryz.func73,Tryz.ntmps73;go_wp2;go_ret;exact⟨eS,by repeat(first|exact Zas.refl _|apply Zas.step)⟩
end Go.Proofs.YtdpieallpbllkaaGreat.P
/- secateur/secateurref02.Check: over a list of ranges. -/
namespace Go.Proofs.YtdpieallpbllkaaGreat.P
open Go.RowKit Go.Proofs.YtdpieallpbllkaaGreatW.PrintWords Go.Proofs.YtdpieallpbllkaaGreatW.PrintLast Go.Proofs.YtdpieallpbllkaaGreatW.PrintMore
def Za6.l0 : Nat → List (S82) → Int → Int → Option (Int)
 | 0, _, _, _ => none
 |k+1,x0,x3,x4=>if x4<(x0.length:Int)then(if 0≤x4 then((Zbc.f ((Zbk x0 x4).f0)).bind fun ta=>(if ta=true then((Zbc.f ((Zbk x0 x4).f1)).bind fun tb=>(if tb=true then(if((Zbk x0 x4).f0)>((Zbk x0 x4).f1)then(some 20)else(if x4>0 then(if 0≤(wrap64 (x4 - 1))then(if(wrap64 (x4 - 1))<(x0.length:Int)then(if(wrap64 (((Zbk x0 x4).f0) - ((Zbk x0 (wrap64 (x4 - 1))).f1)))<2 then(some 20)else(Za6.l0 k x0 (wrap64 (x3+(wrap64 ((wrap64 (((Zbk x0 x4).f1) - ((Zbk x0 x4).f0)))+1)))) (wrap64 (x4+1))))else(none))else(none))else(Za6.l0 k x0 (wrap64 (x3+(wrap64 ((wrap64 (((Zbk x0 x4).f1) - ((Zbk x0 x4).f0)))+1)))) (wrap64 (x4+1)))))else(some 20)))else(some 20)))else(none))else(if x3>4096 then(some 2)else(some 0))
def Za6.f (k:Nat) (l0:List (S82)):Option (Int):=Za6.l0 k l0 0 0
set_option maxRecDepth 100000 in
theorem Za6.calls (k : Nat) (A0 : Option Addr) (c0 : Nat) (l0 : List (S82)) (r : Int) (w : World) (hr0 : Kd.C k82 w A0 l0.length l0) (hc0 : l0.length ≤ c0) (h : Za6.f k l0 = some r) :
  Calls Tryz.prog 54 #[.slice A0 l0.length c0] w fun e w'=>e= .returned (.int .i64 r)∧Below w.heap.size w w':=by
 have HR0:=Za.mk hr0;clear hr0 hc0;have HB:=Za.mk (Below.refl w.heap.size w);have H':=Za.mk (show Za6.l0 k l0 0 0=some r from h);clear h;go_enter Tryz.func54,Tryz.ntmps54;go_wp2
 go_loopg [3,4] k (fun kq v3 v4 w'=>∃(s x:Int),v3= .int .i64 s∧v4= .int .i64 x∧Za (Za6.l0 kq l0 s x=some r)∧Za (kq≤k)∧Za (Below w.heap.size w w'))
 case atStart=>exact⟨0,0,rfl,rfl,H',⟨Nat.le_refl _⟩,⟨mvB HB.out⟩⟩
 case round=>
  clear H' HB;obtain⟨s,x,rfl,rfl,HA,HK1,HB⟩:=hrel
  cases gk with
  | zero => exact absurd HA.out (by simp [Za6.l0])
  |succ k1=>
   have H:=HA.out;clear HA;simp only[Za6.l0]at H;by_cases c2:x<(l0.length:Int);rotate_left
   ·rw [if_neg c2] at H
    have p1_:decide (x<(l0.length:Int))=false:=decide_eq_false c2;clear c2;by_cases c4:s>4096
    ·rw [if_pos c4] at H
     have d4_:decide (4096<s)=true:=decide_eq_true c4;clear c4;obtain rfl:=Option.some.inj H;clear H;go_wp2;go_ret;exact⟨rfl,mvB HB.out⟩
    rw[if_neg c4]at H;have d4_:decide (4096<s)=false:=decide_eq_false c4;clear c4;obtain rfl:=Option.some.inj H;clear H;go_wp2;go_ret;exact⟨rfl,mvB HB.out⟩
   rw[if_pos c2]at H;have p1_:decide (x<(l0.length:Int))=true:=decide_eq_true c2;by_cases c3:0≤x;rotate_left
   ·rw [if_neg c3] at H
    exact absurd H (by simp)
   rw[if_pos c3]at H;have p2_:decide (0≤x)=true:=decide_eq_true c3;obtain⟨ad,e_,hx0,hx1⟩:=Zek (Kd.Zad HR0.out HB.out) x c3 c2;cases e_;replace c2:=eq_true c2;replace c3:=eq_true c3
   generalize (Zbk l0 x).f0=a at hx0 H
   generalize (Zbk l0 x).f1=b at hx1 H
   obtain⟨va,hva,H2_⟩:=Option.bind_eq_some_iff.1 H;clear H;have H:=H2_;clear H2_;have HVa:=Za.mk hva;clear hva
   cases va with
   |false=>
    rw[if_neg Bool.false_ne_true]at H;obtain rfl:=Option.some.inj H;clear H;go_wp2;have HCa:Za (∀n,Calls Tryz.prog 73 #[.int .i64 a] (wr.drewN n) fun e w''=>e= .returned (.bool false)∧∃m,w''=wr.drewN m):=⟨fun n=>Calls.quiet_of ((Zbc.calls a _ _ HVa.out).mono fun e w' h_=>⟨h_.1,h_.2.out⟩)⟩
    go_quiet (with_reducible exact HCa.out _)
    go_wp2;go_ret;exact⟨rfl,mvB HB.out⟩
   |true=>
    rw[if_pos rfl]at H;obtain⟨vb,hvb,H2_⟩:=Option.bind_eq_some_iff.1 H;clear H;have H:=H2_;clear H2_;have HVb:=Za.mk hvb;clear hvb
    cases vb with
    |false=>
     rw[if_neg Bool.false_ne_true]at H;obtain rfl:=Option.some.inj H;clear H;go_wp2;have HCa:Za (∀n,Calls Tryz.prog 73 #[.int .i64 a] (wr.drewN n) fun e w''=>e= .returned (.bool true)∧∃m,w''=wr.drewN m):=⟨fun n=>Calls.quiet_of ((Zbc.calls a _ _ HVa.out).mono fun e w' h_=>⟨h_.1,h_.2.out⟩)⟩;have HCb:Za (∀n,Calls Tryz.prog 73 #[.int .i64 b] (wr.drewN n) fun e w''=>e= .returned (.bool false)∧∃m,w''=wr.drewN m):=⟨fun n=>Calls.quiet_of ((Zbc.calls b _ _ HVb.out).mono fun e w' h_=>⟨h_.1,h_.2.out⟩)⟩
     go_quiet (first|with_reducible exact HCa.out _|with_reducible exact HCb.out _)
     go_wp2;go_ret;exact⟨rfl,mvB HB.out⟩
    |true=>
     rw[if_pos rfl]at H;by_cases c9:a>b
     ·rw [if_pos c9] at H
      have d9_:decide (b<a)=true:=decide_eq_true c9;clear c9;obtain rfl:=Option.some.inj H;clear H;go_wp2;have HCa:Za (∀n,Calls Tryz.prog 73 #[.int .i64 a] (wr.drewN n) fun e w''=>e= .returned (.bool true)∧∃m,w''=wr.drewN m):=⟨fun n=>Calls.quiet_of ((Zbc.calls a _ _ HVa.out).mono fun e w' h_=>⟨h_.1,h_.2.out⟩)⟩;have HCb:Za (∀n,Calls Tryz.prog 73 #[.int .i64 b] (wr.drewN n) fun e w''=>e= .returned (.bool true)∧∃m,w''=wr.drewN m):=⟨fun n=>Calls.quiet_of ((Zbc.calls b _ _ HVb.out).mono fun e w' h_=>⟨h_.1,h_.2.out⟩)⟩
      go_quiet (first|with_reducible exact HCa.out _|with_reducible exact HCb.out _)
      go_wp2;go_ret;exact⟨rfl,mvB HB.out⟩
     rw[if_neg c9]at H;have d9_:decide (b<a)=false:=decide_eq_false c9;clear c9;by_cases c10:x>0;rotate_left
     ·rw [if_neg c10] at H
      have d10_:decide (0<x)=false:=decide_eq_false c10;clear c10;have H':=Za.mk H;clear H;go_wp2;have HCa:Za (∀n,Calls Tryz.prog 73 #[.int .i64 a] (wr.drewN n) fun e w''=>e= .returned (.bool true)∧∃m,w''=wr.drewN m):=⟨fun n=>Calls.quiet_of ((Zbc.calls a _ _ HVa.out).mono fun e w' h_=>⟨h_.1,h_.2.out⟩)⟩;have HCb:Za (∀n,Calls Tryz.prog 73 #[.int .i64 b] (wr.drewN n) fun e w''=>e= .returned (.bool true)∧∃m,w''=wr.drewN m):=⟨fun n=>Calls.quiet_of ((Zbc.calls b _ _ HVb.out).mono fun e w' h_=>⟨h_.1,h_.2.out⟩)⟩
      go_quiet (first|with_reducible exact HCa.out _|with_reducible exact HCb.out _)
      go_wp2
      go_quiet (fail)
      go_wp2
      go_roundg k1
      case measure=>exact Nat.lt_succ_self _
      case rel=>exact⟨_,_,(by first|rfl|(simp;done)|(simp[*];done)),(by first|rfl|(simp;done)|(simp[*];done)),H',⟨by have:=HK1.out;omega⟩,⟨mvB HB.out⟩⟩
     rw[if_pos c10]at H;have d10_:decide (0<x)=true:=decide_eq_true c10;clear c10;obtain⟨j,hj⟩:∃j_:Int,wrap64 (x - 1)=j_:=⟨_,rfl⟩;rw[hj]at H;have hjw:IntKind.i64.wrap (x - 1)=j:=(Zd0 _).trans hj;clear hj;by_cases c11:0≤j;case neg=>rw[if_neg c11]at H;exact absurd H (by simp)
     rw[if_pos c11]at H;by_cases c12:j<(l0.length:Int);case neg=>rw[if_neg c12]at H;exact absurd H (by simp)
     rw[if_pos c12]at H;obtain⟨ad2,e2_,hy0,hy1⟩:=Zek (Kd.Zad HR0.out HB.out) j c11 c12;obtain rfl:ad=ad2:=(by injection e2_);clear e2_;have d11_:decide (0≤j)=true:=decide_eq_true c11;have d12_:decide (j<(l0.length:Int))=true:=decide_eq_true c12;replace c11:=eq_true c11;replace c12:=eq_true c12
     generalize (Zbk l0 j).f1=q at hy1 H
     obtain⟨g,hg⟩:∃g_:Int,wrap64 (a - q)=g_:=⟨_,rfl⟩;rw[hg]at H;have hgw:IntKind.i64.wrap (a - q)=g:=(Zd0 _).trans hg;clear hg;by_cases c13:g<2
     ·rw [if_pos c13] at H
      have d13_:decide (g<2)=true:=decide_eq_true c13;clear c13;obtain rfl:=Option.some.inj H;clear H;go_wp2;have HCa:Za (∀n,Calls Tryz.prog 73 #[.int .i64 a] (wr.drewN n) fun e w''=>e= .returned (.bool true)∧∃m,w''=wr.drewN m):=⟨fun n=>Calls.quiet_of ((Zbc.calls a _ _ HVa.out).mono fun e w' h_=>⟨h_.1,h_.2.out⟩)⟩;have HCb:Za (∀n,Calls Tryz.prog 73 #[.int .i64 b] (wr.drewN n) fun e w''=>e= .returned (.bool true)∧∃m,w''=wr.drewN m):=⟨fun n=>Calls.quiet_of ((Zbc.calls b _ _ HVb.out).mono fun e w' h_=>⟨h_.1,h_.2.out⟩)⟩
      go_quiet (first|with_reducible exact HCa.out _|with_reducible exact HCb.out _)
      go_wp2;go_ret;exact⟨rfl,mvB HB.out⟩
     rw[if_neg c13]at H;have d13_:decide (g<2)=false:=decide_eq_false c13;clear c13;have H':=Za.mk H;clear H;go_wp2;have HCa:Za (∀n,Calls Tryz.prog 73 #[.int .i64 a] (wr.drewN n) fun e w''=>e= .returned (.bool true)∧∃m,w''=wr.drewN m):=⟨fun n=>Calls.quiet_of ((Zbc.calls a _ _ HVa.out).mono fun e w' h_=>⟨h_.1,h_.2.out⟩)⟩;have HCb:Za (∀n,Calls Tryz.prog 73 #[.int .i64 b] (wr.drewN n) fun e w''=>e= .returned (.bool true)∧∃m,w''=wr.drewN m):=⟨fun n=>Calls.quiet_of ((Zbc.calls b _ _ HVb.out).mono fun e w' h_=>⟨h_.1,h_.2.out⟩)⟩
     go_quiet (first|with_reducible exact HCa.out _|with_reducible exact HCb.out _)
     go_wp2
     go_quiet (fail)
     go_wp2
     go_roundg k1
     case measure=>exact Nat.lt_succ_self _
     case rel=>exact⟨_,_,(by first|rfl|(simp;done)|(simp[*];done)),(by first|rfl|(simp;done)|(simp[*];done)),H',⟨by have:=HK1.out;omega⟩,⟨mvB HB.out⟩⟩
end Go.Proofs.YtdpieallpbllkaaGreat.P
/- Whether ranges are a domain: the program's answer and the document's. -/
namespace Go.Proofs.YtdpieallpbllkaaGreat.P
open Go.RowKit Go.Proofs.YtdpieallpbllkaaGreatW.PrintWords Go.Proofs.YtdpieallpbllkaaGreatW.PrintLast Go.Proofs.YtdpieallpbllkaaGreatW.PrintMore
def isVal (v:Int):Bool:=decide (-1048576≤v) && decide (v≤1048576)
theorem Zg3 (x:Int):isVal x=true↔ -1048576≤x∧x≤1048576:=by simp[isVal]
theorem Zdl (x:Int):Zbc.f x=some (isVal x):=by
  unfold Zbc.f isVal;by_cases h:x≥ -1048576
  · rw[if_pos h];simp[decide_eq_true h]
  rw[if_neg h];have:decide (-1048576≤x)=false:=decide_eq_false h;simp[this]
def rb : Int → List Rg → Bool
  | _, [] => true
  |b,x::d=>isVal x.f0 && isVal x.f1 && decide (x.f0≤x.f1) && decide (b≤x.f0) && rb (x.f1+2) d
theorem rb_good : ∀ {b : Int} {d : List Rg}, rb b d = true → Gd 1048576 b d
  | _, [], _ => trivial
  |b,x::d,h=>by
    simp only[rb,Bool.and_eq_true,decide_eq_true_iff]at h;obtain⟨⟨⟨⟨h1,h2⟩,h3⟩,h4⟩,h5⟩:=h;exact⟨h4,h3,((Zg3 _).1 h2).2,rb_good h5⟩
theorem Zhh : ∀ d e : List Rg, vals (d ++ e) = vals d ++ vals e
  | [], e => rfl
  |x::d,e=>by rw[List.cons_append,vals,vals,Zhh d e,List.append_assoc]
def checkSpec (d:List Rg):Int:=if rb (-1048576) d=true then(if(vals d).length>4096 then 2 else 0)else 20
theorem endB_take (d:List Rg) (n:Nat) (hn:n<d.length):endB (-1048576) (d.take (n+1))=d[n].f1+2:=by rw[List.take_succ_eq_append_getElem hn,Zfx]
theorem ref_Check_l0 (d : List Rg) (hl : d.length < 4611686018427387904) : ∀ (m n : Nat) (s : Int), n + m = d.length → Gd 1048576 (-1048576) (d.take n) → s = (vals (d.take n)).length →
    Ev (fun k=>Za6.l0 k d s (n:Int)) (if rb (endB (-1048576) (d.take n)) (d.drop n)=true then(if(vals d).length>4096 then 2 else 0)else 20):=by
  intro m
  induction m with
  |zero=>
    intro n s h hg hs;rw[drop_nil' h,rb,if_pos rfl];rw[List.take_of_length_le (by omega)]at hs;subst hs;refine Ev.step (fun k=>by rw[Za6.l0,if_neg (by omega)]) ?_;by_cases h2:(vals d).length>4096
    · rw[if_pos h2];exact Ev.Zar (by omega) (Ev.pure _)
    rw[if_neg h2];exact Ev.Za5 (c:=((vals d).length:Int)>4096) (by omega) (Ev.pure _)
  |succ m ih=>
    intro n s h hg hs;have hn:n<d.length:=by omega
    rw[List.drop_eq_getElem_cons hn,rb];have hat:=show Zbk d (n:Int)=d[n]from Zgl d n hn
    have hvl:=Zea hg
    cases h0:isVal d[n].f0 with
    | false => exact Ev.step (G := fun _ => some 20) (fun k => by rw [Za6.l0, if_pos (by omega), if_pos (by omega), hat, Zdl, Option.bind_some, if_neg (by rw [h0]; simp)]) (Ev.const (by simp))
    |true=>
      cases h1:isVal d[n].f1 with
      | false => exact Ev.step (G := fun _ => some 20) (fun k => by rw [Za6.l0, if_pos (by omega), if_pos (by omega), hat, Zdl, Option.bind_some, if_pos h0, Zdl, Option.bind_some, if_neg (by rw [h1]; simp)]) (Ev.const (by simp))
      |true=>
        have b0:=(Zg3 _).1 h0;have b1:=(Zg3 _).1 h1;by_cases h2:d[n].f0>d[n].f1
        · have hnle : ¬ d[n].f0 ≤ d[n].f1 := by omega
          exact Ev.step (G:=fun _=>some 20) (fun k=>by rw[Za6.l0,if_pos (by omega),if_pos (by omega),hat,Zdl,Option.bind_some,if_pos h0,Zdl,Option.bind_some,if_pos h1,if_pos h2]) (Ev.const (by simp[hnle]))
        have hle:d[n].f0≤d[n].f1:=by omega
        have e:∀b,((true && true && decide (d[n].f0≤d[n].f1) && decide (b≤d[n].f0) && rb (d[n].f1+2) (d.drop (n+1))))=(decide (b≤d[n].f0) && rb (d[n].f1+2) (d.drop (n+1))):=fun b=>by simp[hle]
        rw[e];have hul:=Zgt (d[n].f1+1 - d[n].f0).toNat d[n].f0 d[n].f1
        have hv1:((vals (d.take (n+1))).length:Int)=(vals (d.take n)).length+(d[n].f1 - d[n].f0+1):=by
          rw[List.take_succ_eq_append_getElem hn,Zhh,List.length_append];simp only[vals,List.append_nil]
          omega
        have w2:wrap64 (s+wrap64 (wrap64 (d[n].f1 - d[n].f0)+1))=((vals (d.take (n+1))).length:Int):=by
          rw[w64 (n:=d[n].f1 - d[n].f0) (by omega) (by omega),w64 (n:=d[n].f1 - d[n].f0+1) (by omega) (by omega),w64 (n:=s+_) (by omega) (by omega)]
          omega
        have hnext:endB (-1048576) (d.take n)≤d[n].f0→_:=fun hh=>ih (n+1) ((vals (d.take (n+1))).length:Int) (by omega) (by rw[List.take_succ_eq_append_getElem hn];exact Gd_snoc.2 ⟨hg,hh,hle,b1.2⟩) rfl
        rw[endB_take d n hn]at hnext
        rcases Nat.eq_zero_or_pos n with rfl|hpos
        · have hh : endB (-1048576) (d.take 0) ≤ d[0].f0 := by simp [endB]; omega
          rw[decide_eq_true hh,Bool.true_and];exact Ev.step (fun k=>by rw[Za6.l0,if_pos (by omega),if_pos (by omega),hat,Zdl,Option.bind_some,if_pos h0,Zdl,Option.bind_some,if_pos h1,if_neg h2,if_neg (by omega),w2,w1 (by omega)]) (hnext hh)
        have hn1:n - 1<d.length:=by omega
        have e3:endB (-1048576) (d.take n)=d[n - 1].f1+2:=by have:=endB_take d (n - 1) hn1;rwa [show n - 1+1=n by omega]at this
        have hprev: -1048576≤d[n - 1].f1∧d[n - 1].f1≤1048576:=by
          have:d.take n=d.take (n - 1)++ [d[n - 1]]:=by have:=List.take_succ_eq_append_getElem hn1;rwa [show n - 1+1=n by omega]at this
          rw[this]at hg;obtain⟨g1,g2,g3,g4⟩:=Gd_snoc.1 hg;have:=g1.end_ge
          omega
        have e4:wrap64 ((n:Int) - 1)=((n - 1:Nat):Int):=by rw[w64 (by omega) (by omega)];omega
        have hat1:=show Zbk d ((n - 1:Nat):Int)=d[n - 1]from Zgl d (n - 1) hn1
        rw[e3]at hnext ⊢;by_cases h3:d[n].f0 - d[n - 1].f1<2;rotate_left
        · rw [decide_eq_true (show d[n - 1].f1 + 2 ≤ d[n].f0 by omega), Bool.true_and]
          exact Ev.step (fun k=>by rw[Za6.l0,if_pos (by omega),if_pos (by omega),hat,Zdl,Option.bind_some,if_pos h0,Zdl,Option.bind_some,if_pos h1,if_neg h2,if_pos (by omega),e4,if_pos (by omega),if_pos (by omega),hat1,w64 (n:=d[n].f0 - d[n - 1].f1) (by omega) (by omega),if_neg h3,w2,w1 (by omega)]) (hnext (by omega))
        rw[decide_eq_false (show ¬d[n - 1].f1+2≤d[n].f0 by omega),Bool.false_and];exact Ev.step (G:=fun _=>some 20) (fun k=>by rw[Za6.l0,if_pos (by omega),if_pos (by omega),hat,Zdl,Option.bind_some,if_pos h0,Zdl,Option.bind_some,if_pos h1,if_neg h2,if_pos (by omega),e4,if_pos (by omega),if_pos (by omega),hat1,w64 (n:=d[n].f0 - d[n - 1].f1) (by omega) (by omega),if_pos h3]) (Ev.const (by simp))
theorem ref_Check_ev (d:List Rg) (hl:d.length<4611686018427387904):Ev (fun k=>Za6.f k d) (checkSpec d):=by
  have:=ref_Check_l0 d hl d.length 0 0 (by omega) trivial rfl;exact this
end Go.Proofs.YtdpieallpbllkaaGreat.P
/- May a model be: model.Check in plain words. -/
namespace Go.Proofs.YtdpieallpbllkaaGreat.P
open Go.RowKit Go.Proofs.YtdpieallpbllkaaGreatW.PrintWords Go.Proofs.YtdpieallpbllkaaGreatW.PrintLast Go.Proofs.YtdpieallpbllkaaGreatW.PrintMore
def nameB (s:ByteArray):Bool:= !decide (s.size=0) && (decide (s.size≤16) && nameGo s s.size 0)
def chkV : List S55 → List ByteArray → Int
  | [], _ => 0
  |v::vs,had=>if nameB v.f0=false then 40 else if hasN had v.f0=true then 41 else if v.f1.length=0 then 42 else if checkSpec v.f1=0 then chkV vs (had++ [v.f0])else 42
theorem Zgh {d:List Rg} (h:checkSpec d=0):Gd 1048576 (-1048576) d:=by
  unfold checkSpec at h;by_cases q:rb (-1048576) d=true
  · exact rb_good q
  rw[if_neg q]at h;exact absurd h (by decide)
theorem chkV_ok : ∀ (vs : List S55) (had : List ByteArray), chkV vs had = 0 → ∀ v ∈ vs, Gd 1048576 (-1048576) v.f1 ∧ v.f1 ≠ []
  | [], _, _, v, hv => absurd hv List.not_mem_nil
  |x::vs,had,h,v,hv=>by
    unfold chkV at h;by_cases q1:nameB x.f0=false
    · rw[if_pos q1]at h;exact absurd h (by decide)
    rw[if_neg q1]at h;by_cases q2:hasN had x.f0=true
    · rw[if_pos q2]at h;exact absurd h (by decide)
    rw[if_neg q2]at h;by_cases q3:x.f1.length=0
    · rw[if_pos q3]at h;exact absurd h (by decide)
    rw[if_neg q3]at h;by_cases q4:checkSpec x.f1=0;rotate_left
    · rw[if_neg q4]at h;exact absurd h (by decide)
    rw[if_pos q4]at h
    rcases List.mem_cons.1 hv with e|hv
    · subst e
      exact⟨Zgh q4,fun e=>q3 (by rw[e];rfl)⟩
    exact chkV_ok vs _ h v hv
def domsOf (vars:List S55):List (List Rg):=vars.map fun v=>v.f1
def okC (c:S36):Prop:=c.f1.length≤1000000∧c.f2.length≤1000000∧(∀x ∈ c.f2,-9223372036854775808≤x)∧ -9223372036854775808≤c.f4
def conC (d:List (List Rg)) (c:S36):Int:=conE d c.f0 c.f1 c.f2 c.f3 c.f4 c.f5 c.f6
def chkC (d : List (List Rg)) : List S36 → Int
  | [] => 0
  |c::cs=>if conC d c=0 then chkC d cs else conC d c
def goalE (d:List (List Rg)) (gk:Int) (gv gc:List Int):Int:=
  if gk=0 then if 0<gv.length then 44 else if 0<gc.length then 44 else 0
  else if gk=1∨gk=2 then conE d 0 gv gc 0 0 [] 0 else 44
def chkE (vars:List S55) (cons:List S36) (gk:Int) (gv gc:List Int):Int:=
  if 64<vars.length∨256<cons.length then 2
  else if chkV vars []=0 then if chkC (domsOf vars) cons=0 then goalE (domsOf vars) gk gv gc else chkC (domsOf vars) cons
  else chkV vars []
end Go.Proofs.YtdpieallpbllkaaGreat.P
namespace Go.Proofs.YtdpieallpbllkaaGreat.P
open Go.RowKit Go.Proofs.YtdpieallpbllkaaGreatW.PrintWords Go.Proofs.YtdpieallpbllkaaGreatW.PrintLast Go.Proofs.YtdpieallpbllkaaGreatW.PrintMore
attribute [local go_sem] Zcw Zcy Zdd Zde Zck Zcl Zcx Zcz
def Zbh.l0 : Nat → List (List Int) → List (List Int) → Int → Option ((List (List Int)))
 | 0, _, _, _ => none
 |k+1,x0,x3,x4=>if x4<(x0.length:Int)then((some (([]:List Int):List Int)).bind fun y104=>(if 0≤x4 then(if y104.length+(Zco x0 x4).length<17592186044416 then(if x3.length<5864062014805 then(Zbh.l0 k x0 (x3++ [(y104++(Zco x0 x4))]) (wrap64 (x4+1)))else(none))else(none))else(none)))else(some x3)
def Zbh.f (k:Nat) (l0:List (List Int)):Option ((List (List Int))):=Zbh.l0 k l0 (([]:List (List Int))) 0
set_option maxRecDepth 100000 in
theorem Zbh.calls (k : Nat) (A0 : Option Addr) (c0 : Nat) (l0 : List (List Int)) (r : List (List Int)) (w : World) (hr0 : Kd.C (Kd.slice 3 (Kd.int .i64)) w A0 l0.length l0) (hc0 : l0.length ≤ c0) (h : Zbh.f k l0 = some r) :
  Calls Tryz.prog 72 #[.slice A0 l0.length c0] w fun e w'=>∃v0_:Value,e= .returned (v0_)∧Kd.S (Kd.slice 3 (Kd.int .i64)) 24 w' w.heap.size (fun _=>True) v0_ r∧Below w.heap.size w w':=by
 have HR0:=Za.mk hr0;have HC0:=Za.mk hc0;clear hr0 hc0;have HB:=Za.mk (Below.refl w.heap.size w);have H:(Zbh.l0 k l0 (([]:List (List Int))) 0)=some r:=h;clear h;obtain⟨y101,hy101⟩:∃y_:List (List Int),y_=(([]:List (List Int))):=⟨_,rfl⟩;replace H:(Zbh.l0 k l0 y101 0)=some r:=by first|(rw[hy101];with_reducible exact H)|(have H2_:=(Option.bind_some _ _).symm.trans H;rw[hy101];with_reducible exact H2_)|(have H2_:=(Option.bind_some _ _).symm.trans H;with_reducible exact H2_)|with_reducible exact H|(rw[hy101];exact H)|exact H
 have Px:=Za.mk hy101;clear hy101;have H':=Za.mk H;clear H;go_enter Tryz.func72,Tryz.ntmps72
 go_wp2_with (first|((with_reducible refine Zaq (N:=5) rfl ?_);refine Kd.S_lit (Kd.slice 3 (Kd.int .i64)) _ 24 ?hg (N:=5) ?hd (xs:=([]:List (List Int))) (inner:= []) (ok:=fun _=>True) (okp:=fun _=>True) ?hr ?hp (fun _ hk=>hk) trivial (Below.refl _ _) (Nat.le_refl _) (by simp) ?_;(case hd=>rfl);(case hg=>rfl);(case hr=>first|(go_simp;done)|(go_simp;rfl));(case hp=>exact(Reps.none _ _));intro nGa w2 ho3 hb hg_ hnew_;clear hg_ hnew_;(first|rw[←Px.out]at ho3|(simp only[Int.reduceToNat]at ho3;rw[←Px.out]at ho3));have V4:=Za.mk (Kd.Zgv ho3 (Zaf (bM HB.out)));replace HB:=Za.mk (bS HB.out hb);clear hb ho3))
 go_loopg [3,4] k (fun kq v3 v4 w'=>∃(af:List (List Int)) (ah:Int),v4= .int .i64 ah∧Za (Zbh.l0 kq l0 af ah=some r)∧Za (kq≤k)∧Za (Kd.S (Kd.slice 3 (Kd.int .i64)) 24 w' w.heap.size (fun _=>True) v3 af)∧Za (Below w.heap.size w w'))
 case atStart=>exact⟨(y101),(0),eS,H',⟨Nat.le_refl _⟩,⟨sM V4.out⟩,⟨bM HB.out⟩⟩
 case round=>
  clear H';try clear p2
  obtain⟨af,ah,rfl,HA,HK1,aM,HB⟩:=hrel
  cases gk with
  | zero => exact absurd HA.out (by simp [Zbh.l0])
  |succ k1=>
   have H:=HA.out;clear HA;simp only[Zbh.l0]at H;by_cases c4:ah<(l0.length:Int)
   case neg=>
    rw[if_neg c4]at H;have dz:decide (ah<(l0.length:Int))=false:=decide_eq_false c4;clear c4;obtain rfl:=sj H;go_wp2;go_ret;exact⟨_,eR,sM aM.out,bM HB.out⟩
   rw[if_pos c4]at H;have dz:decide (ah<(l0.length:Int))=true:=decide_eq_true c4;clear c4;obtain⟨y104,hy104⟩:∃y_:List Int,y_=(([]:List Int)):=⟨_,rfl⟩;replace H:(if 0≤ah then(if y104.length+(Zco l0 ah).length<17592186044416 then(if af.length<5864062014805 then(Zbh.l0 k1 l0 (af++ [(y104++(Zco l0 ah))]) (wrap64 (ah+1)))else(none))else(none))else(none))=some r:=by first|(rw[hy104];with_reducible exact H)|(have H2_:=(Option.bind_some _ _).symm.trans H;rw[hy104];with_reducible exact H2_)|(have H2_:=(Option.bind_some _ _).symm.trans H;with_reducible exact H2_)|with_reducible exact H|(rw[hy104];exact H)|exact H
   have Py:=Za.mk hy104;clear hy104;obtain⟨dh,H⟩:=ifT H;obtain⟨c6,H⟩:=ifP H;have Ng:=Za.mk c6;clear c6;obtain⟨Ig,BP⟩:∃y_:List Int,y_=(y104++(Zco l0 ah)):=⟨_,rfl⟩;replace H:(if af.length<5864062014805 then(Zbh.l0 k1 l0 (af++ [Ig]) (wrap64 (ah+1)))else(none))=some r:=by first|(rw[BP];with_reducible exact H)|(have H2_:=(Option.bind_some _ _).symm.trans H;rw[BP];with_reducible exact H2_)|(have H2_:=(Option.bind_some _ _).symm.trans H;with_reducible exact H2_)|with_reducible exact H|(rw[BP];exact H)|exact H
   have VV:=Za.mk BP;clear BP;obtain⟨c7,H⟩:=ifP H;have zq:=Za.mk c7;clear c7;obtain⟨UL,BQ⟩:∃y_:List (List Int),y_=(af++ [Ig]):=⟨_,rfl⟩;replace H:(Zbh.l0 k1 l0 UL (wrap64 (ah+1)))=some r:=by first|(rw[BQ];with_reducible exact H)|(have H2_:=(Option.bind_some _ _).symm.trans H;rw[BQ];with_reducible exact H2_)|(have H2_:=(Option.bind_some _ _).symm.trans H;with_reducible exact H2_)|with_reducible exact H|(rw[BQ];exact H)|exact H
   have VW:=Za.mk BQ;clear BQ;have H':=Za.mk H;clear H
   go_wp2_with (first|((with_reducible refine Zaq (N:=13) rfl ?_);refine Kd.Zdb (Kd.int .i64) _ 3 ?hg (N:=13) ?hd (xs:=([]:List Int)) (inner:= []) (ok:=fun _=>True) (okp:=fun _=>True) ?hr ?hp (fun _ hk=>hk) trivial (Below.refl _ _) (Nat.le_refl _) (by simp) ?_;(case hd=>rfl);(case hg=>rfl);(case hr=>first|(go_simp;done)|(go_simp;rfl));(case hp=>exact(Reps.none _ _));intro v105 w8 ho9 hb hg_ hnew_;clear hg_ hnew_;(first|rw[←Py.out]at ho9|(simp only[Int.reduceToNat]at ho9;rw[←Py.out]at ho9));replace aM:=Za.mk (Kd.Zgr (sM aM.out) (Kd.Zc7 ho9) hb);have Pm:=Za.mk (Kd.Zbl ho9 (Zaf (bM HB.out)));replace HB:=Za.mk (bS HB.out hb);clear hb ho9;have NC:0≤(ah:Int):=odt;have NQ:ah<(l0.length:Int):=odt;obtain⟨eja,cUa,cWa,bla,Ja,IP,IC⟩:=Zfq HR0.out ah NC NQ;cases bla;replace Ja:=hB HB.out Ja;have RX:=Za.mk IC;have cLa:=Za.mk IP;clear IC IP;replace NC:=eq_true NC;replace NQ:=eq_true NQ)|((with_reducible refine Zbo (b:= .append) (xs:=#[.tmp 13,.tmp 17]) rfl ?_);at_builtin;refine Kd.Zd (Kd.int .i64) (w0:=w) w.heap.size rfl (.tmp 13) (.tmp 17) 24 3 (.int .i64 0) 8 rfl Tryz.underlying24 info3 rfl (by decide) (by omega) v105 y104 (Zco l0 ah) _ _ _ (fun _=>True) (fun _=>False) rfl rfl ?aO ?aR (fun _ _ h=>h) (fun _ h=>h.elim) ?aF ?aB ?aS ?aL ?_;(case aR=>repeat(first|exact(Kd.Zad RX.out HB.out)|(with_reducible refine Kd.C_alloc ?_ _)|(with_reducible refine Kd.Zb6 ?_ _)|(with_reducible refine Kd.Zci ?_)));(case aB=>exact(bM HB.out));(case aF=>exact(fun _ _=>trivial));(case aO=>exact(rM Pm.out));(case aS=>exact(Zaf (bM HB.out)));(case aL=>have:=Ng.out;omega);intro v109 w10 ho hb hg hat;rw[←VV.out]at ho;replace aM:=Za.mk (Kd.S_after (ok:=(fun _=>True)) (sM aM.out) hg hat);replace HB:=Za.mk (hb);have EX:=Za.mk (ho);clear Pm;clear ho hb hg hat;obtain⟨bF,bG,nA⟩:=Kd.Zbe EX.out;subst nA)|((with_reducible refine Zbo (b:= .append) (xs:=#[.tmp 12,.tmp 19]) rfl ?_);at_builtin;refine Kd.S_append (Kd.slice 3 (Kd.int .i64)) (w0:=w) w.heap.size rfl (.tmp 12) (.tmp 19) 34 24 (.slice none 0 0) 24 rfl Tryz.underlying34 Zhv rfl (by decide) (by omega) u3 af Ig [.slice bF Ig.length bG] (fun _=>True) (fun k_=>some k_=(.slice bF Ig.length bG:Value).ownBlock) rfl rfl ?aP (fun k_ hk_=>((Kd.Za4 (ok':=fun k_=>((fun _=>True)) k_∧some k_≠(u3:Value).ownBlock) (Kd.Zdj (EX.out) (Kd.Ze aM.out) (by decide)) (fun k_ hk=>⟨trivial,hk.2⟩))).1 k_ hk_.symm) ?aF ?aO ?aB ?aS ?aL ?_;(case aP=>exact Kd.M_row (Kd.Za4 (Kd.Zf8 rfl (Kd.Za4 (ok':=fun k_=>((fun _=>True)) k_∧some k_≠(u3:Value).ownBlock) (Kd.Zdj (EX.out) (Kd.Ze aM.out) (by decide)) (fun k_ hk=>⟨trivial,hk.2⟩))) (fun _ h_=>h_)));(case aB=>exact(bM HB.out));(case aF=>exact(fun _ _=>trivial));(case aO=>exact(sM (Kd.Zd5 aM.out (fun k_ hk=>⟨trivial,fun e_=>hk.2 e_⟩))));(case aS=>exact(Zaf (bM HB.out)));(case aL=>have:=zq.out;omega);intro nHa w11 ho hb hg hat;rw[←VW.out]at ho;replace HB:=Za.mk (hb);have V5:=Za.mk (ho);clear aM EX;clear ho hb hg hat))
   go_roundg k1
   case measure=>have:=HK1.out;omega
   case rel=>exact⟨(UL),(wrap64 (ah+1)),eS,H',⟨by have:=HK1.out;omega⟩,⟨sM V5.out⟩,⟨bM HB.out⟩⟩
def Zcn.f (k:Nat) (aQ:Int) (aa:List Int) (au:List Int) (aV:Int) (bg:Int) (aI:List (List Int)) (bq:Int):Option (Int × List Int × List Int × Int × Int × (List (List Int)) × Int):=(some (([]:List Int):List Int)).bind fun sF=>(if sF.length+aa.length<17592186044416 then((some (([]:List Int):List Int)).bind fun nE=>(if nE.length+au.length<17592186044416 then((Zbh.f k aI).bind fun jv=>(some (aQ,(sF++aa),(nE++au),aV,bg,jv,bq)))else(none)))else(none))
set_option maxRecDepth 100000 in
theorem Zcn.calls (k : Nat) (aQ : Int) (aW : Option Addr) (aT : Nat) (aa : List Int) (di : Option Addr) (dn : Nat) (au : List Int) (aV : Int) (bg : Int) (dM : Option Addr) (dJ : Nat) (aI : List (List Int)) (bq : Int) (r1 : Int) (r2 : List Int) (r3 : List Int) (r4 : Int) (r5 : Int) (r6 : List (List Int)) (r7 : Int) (w : World) (dV : Kd.C (Kd.int .i64) w aW aa.length aa) (dU : aa.length ≤ aT) (gQ : Kd.C (Kd.int .i64) w di au.length au) (gP : au.length ≤ dn) (iO : Kd.C (Kd.slice 3 (Kd.int .i64)) w dM aI.length aI) (iN : aI.length ≤ dJ) (h : Zcn.f k aQ aa au aV bg aI bq = some (r1, r2, r3, r4, r5, r6, r7)) :
  Calls Tryz.prog 52 #[.agg #[.int .i64 aQ,.slice aW aa.length aT,.slice di au.length dn,.int .i64 aV,.int .i64 bg,.slice dM aI.length dJ,.int .i64 bq]] w fun e w'=>∃v1_ v2_ v5_:Value,e= .returned (.agg #[.int .i64 r1,v1_,v2_,.int .i64 r4,.int .i64 r5,v5_,.int .i64 r7])∧Kd.R (Kd.int .i64) 3 w' w.heap.size (fun k_=>some k_≠(v2_:Value).ownBlock) v1_ r2∧Kd.R (Kd.int .i64) 3 w' w.heap.size (fun k_=>some k_≠(v1_:Value).ownBlock) v2_ r3∧Kd.S (Kd.slice 3 (Kd.int .i64)) 24 w' w.heap.size (fun k_=>some k_≠(v1_:Value).ownBlock∧some k_≠(v2_:Value).ownBlock) v5_ r6∧Below w.heap.size w w':=by
 have hu36:=Tryz.underlying36;have eD:=Za.mk dV;have fo:=Za.mk dU;clear dV dU;have jh:=Za.mk gQ;have jA:=Za.mk gP;clear gQ gP;have ji:=Za.mk iO;have oC:=Za.mk iN;clear iO iN;have HB:=Za.mk (Below.refl w.heap.size w);have H:((some (([]:List Int):List Int)).bind fun sF=>(if sF.length+aa.length<17592186044416 then((some (([]:List Int):List Int)).bind fun nE=>(if nE.length+au.length<17592186044416 then((Zbh.f k aI).bind fun jv=>(some (aQ,(sF++aa),(nE++au),aV,bg,jv,bq)))else(none)))else(none)))=some (r1,r2,r3,r4,r5,r6,r7):=h;clear h;obtain⟨sF,BR⟩:∃y_:List Int,y_=(([]:List Int)):=⟨_,rfl⟩;replace H:(if sF.length+aa.length<17592186044416 then((some (([]:List Int):List Int)).bind fun nE=>(if nE.length+au.length<17592186044416 then((Zbh.f k aI).bind fun jv=>(some (aQ,(sF++aa),(nE++au),aV,bg,jv,bq)))else(none)))else(none))=some (r1,r2,r3,r4,r5,r6,r7):=by first|(rw[BR];with_reducible exact H)|(have H2_:=(Option.bind_some _ _).symm.trans H;rw[BR];with_reducible exact H2_)|(have H2_:=(Option.bind_some _ _).symm.trans H;with_reducible exact H2_)|with_reducible exact H|(rw[BR];exact H)|exact H
 have Pz:=Za.mk BR;clear BR;by_cases c2:sF.length+aa.length<17592186044416
 case neg=>
  rw[if_neg c2]at H;exact absurd H (by simp)
 rw[if_pos c2]at H;have Kt:=Za.mk c2;clear c2;obtain⟨kV,BS⟩:∃y_:List Int,y_=(sF++aa):=⟨_,rfl⟩;replace H:((some (([]:List Int):List Int)).bind fun nE=>(if nE.length+au.length<17592186044416 then((Zbh.f k aI).bind fun jv=>(some (aQ,kV,(nE++au),aV,bg,jv,bq)))else(none)))=some (r1,r2,r3,r4,r5,r6,r7):=by first|(rw[BS];with_reducible exact H)|(have H2_:=(Option.bind_some _ _).symm.trans H;rw[BS];with_reducible exact H2_)|(have H2_:=(Option.bind_some _ _).symm.trans H;with_reducible exact H2_)|with_reducible exact H|(rw[BS];exact H)|exact H
 have VX:=Za.mk BS;clear BS;obtain⟨nE,BU⟩:∃y_:List Int,y_=(([]:List Int)):=⟨_,rfl⟩;replace H:(if nE.length+au.length<17592186044416 then((Zbh.f k aI).bind fun jv=>(some (aQ,kV,(nE++au),aV,bg,jv,bq)))else(none))=some (r1,r2,r3,r4,r5,r6,r7):=by first|(rw[BU];with_reducible exact H)|(have H2_:=(Option.bind_some _ _).symm.trans H;rw[BU];with_reducible exact H2_)|(have H2_:=(Option.bind_some _ _).symm.trans H;with_reducible exact H2_)|with_reducible exact H|(rw[BU];exact H)|exact H
 have P5:=Za.mk BU;clear BU;obtain⟨c3,H⟩:=ifP H;have aYa:=Za.mk c3;clear c3;obtain⟨nY,Ca⟩:∃y_:List Int,y_=(nE++au):=⟨_,rfl⟩;replace H:((Zbh.f k aI).bind fun jv=>(some (aQ,kV,nY,aV,bg,jv,bq)))=some (r1,r2,r3,r4,r5,r6,r7):=by first|(rw[Ca];with_reducible exact H)|(have H2_:=(Option.bind_some _ _).symm.trans H;rw[Ca];with_reducible exact H2_)|(have H2_:=(Option.bind_some _ _).symm.trans H;with_reducible exact H2_)|with_reducible exact H|(rw[Ca];exact H)|exact H
 have VY:=Za.mk Ca;clear Ca;obtain⟨jv,A4,H⟩:=bnd H;replace H:(some (aQ,kV,nY,aV,bg,jv,bq))=some (r1,r2,r3,r4,r5,r6,r7):=H;simp only[Option.some.injEq,Prod.mk.injEq]at H;obtain⟨rfl,rfl,rfl,rfl,rfl,rfl,rfl⟩:=H;go_enter Tryz.func52,Tryz.ntmps52
 go_wp2_with (first|((with_reducible refine Zaq (N:=1) rfl ?_);refine bx 1 #[.int .i64 aQ,.slice aW aa.length aT,.slice di au.length dn,.int .i64 aV,.int .i64 bg,.slice dM aI.length dJ,.int .i64 bq] 36 ?_;intro lQ hg w5 hbox hb;have fO:=Za.mk (hbox);have dPa:=Za.mk ((gE hg HB.out:w.heap.size≤lQ));replace HB:=Za.mk (bS HB.out hb);clear hb hbox hg)|((with_reducible refine Zaq (N:=2) rfl ?_);refine bx 2 #[.int .i64 0,.slice none 0 0,.slice none 0 0,.int .i64 0,.int .i64 0,.slice none 0 0,.int .i64 0] 36 ?_;intro gH hg w6 hbox hb;have j5:=Za.mk (hbox);have dQa:=Za.mk ((gE hg HB.out:w.heap.size≤gH));replace HB:=Za.mk (bS HB.out hb);have MF:=Za.mk ((by rw[hg];exact Nat.ne_of_lt (Zc1 (kM fO.out)):lQ≠gH));have sQ:=Za.mk ((by rw[hg];exact Nat.ne_of_gt (Zc1 (kM fO.out)):gH≠lQ));replace fO:=Za.mk (kB fO.out hb);clear hb hbox hg)|((with_reducible refine Zaq (N:=3) rfl ?_);refine Kd.Zdb (Kd.int .i64) _ 3 ?hg (N:=3) ?hd (xs:=([]:List Int)) (inner:= []) (ok:=fun _=>True) (okp:=fun _=>True) ?hr ?hp (fun _ hk=>hk) trivial (Below.refl _ _) (Nat.le_refl _) (by simp) ?_;(case hd=>rfl);(case hg=>rfl);(case hr=>first|(go_simp;done)|(go_simp;rfl));(case hp=>exact(Reps.none _ _));intro v117 w7 ho8 hb hg_ hnew_;clear hg_ hnew_;(first|rw[←Pz.out]at ho8|(simp only[Int.reduceToNat]at ho8;rw[←Pz.out]at ho8));have EY:=Za.mk (Kd.Zbl ho8 (Zaf (bM HB.out)));replace fO:=Za.mk (kB fO.out hb);replace j5:=Za.mk (kB j5.out hb);replace HB:=Za.mk (bS HB.out hb);clear hb ho8;have bOa:=MF.out;have bPa:=sQ.out;obtain⟨mh,mi,mo,ng,ni,zg,zh,ma,mf,mg,mX,mY,yV,yX⟩:=cz7 fO.out)|((with_reducible refine Zbo (b:= .append) (xs:=#[.tmp 3,.tmp 5]) rfl ?_);at_builtin;refine Kd.Zd (Kd.int .i64) (w0:=w) w.heap.size rfl (.tmp 3) (.tmp 5) 24 3 (.int .i64 0) 8 rfl Tryz.underlying24 info3 rfl (by decide) (by omega) v117 sF aa _ _ _ (fun _=>True) (fun _=>False) rfl rfl ?aO ?aR (fun _ _ h=>h) (fun _ h=>h.elim) ?aF ?aB ?aS ?aL ?_;(case aR=>repeat(first|exact(Kd.Zad eD.out HB.out)|(with_reducible refine Kd.C_alloc ?_ _)|(with_reducible refine Kd.Zb6 ?_ _)|(with_reducible refine Kd.Zci ?_)));(case aB=>exact(bM HB.out));(case aF=>exact(fun _ _=>trivial));(case aO=>exact(rM EY.out));(case aS=>exact(Zaf (bM HB.out)));(case aL=>have:=Kt.out;omega);intro nIa w11 ho hb hg hat;rw[←VX.out]at ho;replace fO:=Za.mk (kG fO.out hg (Kd.R_ne EY.out fO.out (by decide)));replace j5:=Za.mk (kG j5.out hg (Kd.R_ne EY.out j5.out (by decide)));replace HB:=Za.mk (hb);have oD:=Za.mk (ho);clear EY;clear ho hb hg hat;obtain⟨bF,bG,nA⟩:=Kd.Zbe oD.out;subst nA;obtain⟨YK,YL,YM,YN,YO,YP,YQ,XB,XC,XD,XE,XF,XG,XH⟩:=cz7 fO.out)|((with_reducible refine Zaq (N:=8) rfl ?_);refine Kd.Zdb (Kd.int .i64) _ 3 ?hg (N:=8) ?hd (xs:=([]:List Int)) (inner:= []) (ok:=fun _=>True) (okp:=fun _=>True) ?hr ?hp (fun _ hk=>hk) trivial (Below.refl _ _) (Nat.le_refl _) (by simp) ?_;(case hd=>rfl);(case hg=>rfl);(case hr=>first|(go_simp;done)|(go_simp;rfl));(case hp=>exact(Reps.none _ _));intro c2a w14 Ex hb hg_ hnew_;clear hg_ hnew_;(first|rw[←P5.out]at Ex|(simp only[Int.reduceToNat]at Ex;rw[←P5.out]at Ex));have Fa:=Za.mk (Kd.Zbl (Kd.Zez Ex (Kd.R_lt (rM (Kd.Za4 (Kd.Zbp (p:=⟨lQ,1,none⟩) (Kd.Zb5 oD.out fO.out (by decide)) (fun _ hk=>hk.2) (.slice bF kV.length bG)) (fun _ h_=>h_.1))))) (Zaf (bM HB.out)));replace oD:=Za.mk (Kd.Zd8 (rM (Kd.Za4 (Kd.Zbp (p:=⟨lQ,1,none⟩) (Kd.Zb5 oD.out fO.out (by decide)) (fun _ hk=>hk.2) (.slice bF kV.length bG)) (fun _ h_=>h_.1))) (Kd.Zc7 Ex) hb);replace fO:=Za.mk (Zcf (g:=lQ) (o:= .cells #[.int .i64 aQ,.slice bF kV.length bG,.slice di au.length dn,.int .i64 aV,.int .i64 bg,.slice dM aI.length dJ,.int .i64 bq] 36 (0,0)) (by(with_reducible repeat(first|refine Zag ?_ _|refine Zah ?_|refine Zab ?_ _));refine Zay (cs:=#[.int .i64 aQ,.slice aW aa.length aT,.slice di au.length dn,.int .i64 aV,.int .i64 bg,.slice dM aI.length dJ,.int .i64 bq]) ?_ 1 _ rfl;(with_reducible repeat(first|refine Zag ?_ _|refine Zah ?_|refine Zab ?_ _));exact fO.out) hb);replace j5:=Za.mk (Zcf (g:=gH) (o:= .cells #[.int .i64 0,.slice none 0 0,.slice none 0 0,.int .i64 0,.int .i64 0,.slice none 0 0,.int .i64 0] 36 (0,0)) (by(with_reducible repeat(first|exact j5.out|refine Zcr ?_ sQ.out _|refine Zab ?_ _|refine Zah ?_|refine Zag ?_ _))) hb);replace HB:=Za.mk (bS HB.out hb);clear hb Ex;obtain⟨zi,zk,zm,Ec,Ed,Ee,Ef,yY,za,zb,DJ,DK,DL,DN⟩:=cz7 fO.out)|((with_reducible refine Zbo (b:= .append) (xs:=#[.tmp 8,.tmp 10]) rfl ?_);at_builtin;refine Kd.Zd (Kd.int .i64) (w0:=w) w.heap.size rfl (.tmp 8) (.tmp 10) 24 3 (.int .i64 0) 8 rfl Tryz.underlying24 info3 rfl (by decide) (by omega) c2a nE au _ _ _ (fun k_=>some k_≠(.slice bF kV.length bG:Value).ownBlock) (fun _=>False) rfl rfl ?aO ?aR (fun _ _ h=>h) (fun _ h=>h.elim) ?aF ?aB ?aS ?aL ?_;(case aR=>repeat(first|exact(Kd.Zad jh.out HB.out)|(with_reducible refine Kd.C_alloc ?_ _)|(with_reducible refine Kd.Zb6 ?_ _)|(with_reducible refine Kd.Zci ?_)));(case aB=>exact(bM HB.out));(case aF=>exact(fun k_ hk=>Kd.fresh' (Kd.R_lt (rM oD.out)) k_ hk));(case aO=>exact(rM (Kd.Za4 Fa.out (fun _ hk=>hk.2))));(case aS=>exact(Zaf (bM HB.out)));(case aL=>have:=aYa.out;omega);intro nJa w17 ho hb hg hat;rw[←VY.out]at ho;replace fO:=Za.mk (kG fO.out hg (Kd.R_ne Fa.out fO.out (by decide)));replace j5:=Za.mk (kG j5.out hg (Kd.R_ne Fa.out j5.out (by decide)));replace oD:=Za.mk (Kd.Zdg (ok:=(fun _=>True)) (rM oD.out) hg hat);replace HB:=Za.mk (hb);have AV:=Za.mk (ho);clear Fa;clear ho hb hg hat;obtain⟨nk,ny,Gv⟩:=Kd.Zbe AV.out;subst Gv;obtain⟨Ml,Mm,Mo,Mq,Mr,YR,YS,LF,LG,LH,LJ,LK,XI,XJ⟩:=cz7 fO.out)|((with_reducible refine Zak (f:=72) rfl ?_);refine gl 15 Tryz.func72 #[.slice dM aI.length dJ] ?_;(with_reducible refine(Zbh.calls k _ _ aI jv _ (Kd.Zad ji.out (bM HB.out)) oC.out A4.out).mono ?_);rintro e w20 ⟨nKa,rfl,ho0,hb⟩;refine⟨_,rfl,?_⟩;have Pn:=Za.mk (Kd.Zgv (Kd.S_new' (Kd.S_new' ho0 (Kd.R_lt (rM (Kd.Za4 (Kd.Zbp (p:=⟨lQ,2,none⟩) (Kd.Zb5 oD.out fO.out (by decide)) (fun _ hk=>hk.2) (.slice nk nY.length ny)) (fun _ h_=>h_.1))))) (Kd.R_lt (rM (Kd.Za4 (Kd.Zbp (p:=⟨lQ,2,none⟩) (Kd.Zb5 AV.out fO.out (by decide)) (fun _ hk=>hk.2) (.slice nk nY.length ny)) (fun _ h_=>h_.1))))) (Zaf (bM HB.out)));replace oD:=Za.mk (Kd.Zbn (rM (Kd.Za4 (Kd.Zbp (p:=⟨lQ,2,none⟩) (Kd.Zb5 oD.out fO.out (by decide)) (fun _ hk=>hk.2) (.slice nk nY.length ny)) (fun _ h_=>h_.1))) hb);replace AV:=Za.mk (Kd.Zbn (rM (Kd.Za4 (Kd.Zbp (p:=⟨lQ,2,none⟩) (Kd.Zb5 AV.out fO.out (by decide)) (fun _ hk=>hk.2) (.slice nk nY.length ny)) (fun _ h_=>h_.1))) hb);replace fO:=Za.mk (Zcf (g:=lQ) (o:= .cells #[.int .i64 aQ,.slice bF kV.length bG,.slice nk nY.length ny,.int .i64 aV,.int .i64 bg,.slice dM aI.length dJ,.int .i64 bq] 36 (0,0)) (by(with_reducible repeat(first|refine Zag ?_ _|refine Zah ?_|refine Zab ?_ _));refine Zay (cs:=#[.int .i64 aQ,.slice bF kV.length bG,.slice di au.length dn,.int .i64 aV,.int .i64 bg,.slice dM aI.length dJ,.int .i64 bq]) ?_ 2 _ rfl;(with_reducible repeat(first|refine Zag ?_ _|refine Zah ?_|refine Zab ?_ _));exact fO.out) hb);replace j5:=Za.mk (Zcf (g:=gH) (o:= .cells #[.int .i64 0,.slice none 0 0,.slice none 0 0,.int .i64 0,.int .i64 0,.slice none 0 0,.int .i64 0] 36 (0,0)) (by(with_reducible repeat(first|exact j5.out|refine Zcr ?_ sQ.out _|refine Zab ?_ _|refine Zah ?_|refine Zag ?_ _))) hb);replace HB:=Za.mk (bS HB.out hb);(try clear hb);(try clear hb2);(try clear hk);(try clear hi);(try clear ho0);obtain⟨mq,mH,Nu⟩:=Kd.S_slice Pn.out;subst Nu;obtain⟨j4a,j5a,j6a,j7a,j8a,j9a,jAa,fBa,fCa,fDa,fEa,fFa,fGa,fHa⟩:=cz7 fO.out;obtain⟨Mw,Mx,M0,Rs,Rt,jBa,jCa,LQ,LU,LV,QK,QL,fIa,fJa⟩:=cz7 j5.out))
 refine bodyPost_ret (results_cell_row rfl _ _ gH 36 #[.int .i64 aQ,.slice bF kV.length bG,.slice nk nY.length ny,.int .i64 aV,.int .i64 bg,.slice mq jv.length mH,.int .i64 bq] (0,0) _ rfl (by(with_reducible repeat(first|refine Zag ?_ _|refine Zah ?_|refine Zab ?_ _));refine Zay (cs:=#[.int .i64 aQ,.slice bF kV.length bG,.slice nk nY.length ny,.int .i64 aV,.int .i64 bg,.slice mq jv.length mH,.int .i64 0]) ?_ 6 _ rfl;(with_reducible repeat(first|refine Zag ?_ _|refine Zah ?_|refine Zab ?_ _));refine Zay (cs:=#[.int .i64 aQ,.slice bF kV.length bG,.slice nk nY.length ny,.int .i64 aV,.int .i64 bg,.slice none 0 0,.int .i64 0]) ?_ 5 _ rfl;(with_reducible repeat(first|refine Zag ?_ _|refine Zah ?_|refine Zab ?_ _));refine Zay (cs:=#[.int .i64 aQ,.slice bF kV.length bG,.slice nk nY.length ny,.int .i64 aV,.int .i64 0,.slice none 0 0,.int .i64 0]) ?_ 4 _ rfl;(with_reducible repeat(first|refine Zag ?_ _|refine Zah ?_|refine Zab ?_ _));refine Zay (cs:=#[.int .i64 aQ,.slice bF kV.length bG,.slice nk nY.length ny,.int .i64 0,.int .i64 0,.slice none 0 0,.int .i64 0]) ?_ 3 _ rfl;(with_reducible repeat(first|refine Zag ?_ _|refine Zah ?_|refine Zab ?_ _));refine Zay (cs:=#[.int .i64 aQ,.slice bF kV.length bG,.slice none 0 0,.int .i64 0,.int .i64 0,.slice none 0 0,.int .i64 0]) ?_ 2 _ rfl;(with_reducible repeat(first|refine Zag ?_ _|refine Zah ?_|refine Zab ?_ _));refine Zay (cs:=#[.int .i64 aQ,.slice none 0 0,.slice none 0 0,.int .i64 0,.int .i64 0,.slice none 0 0,.int .i64 0]) ?_ 1 _ rfl;(with_reducible repeat(first|refine Zag ?_ _|refine Zah ?_|refine Zab ?_ _));refine Zay (cs:=#[.int .i64 0,.slice none 0 0,.slice none 0 0,.int .i64 0,.int .i64 0,.slice none 0 0,.int .i64 0]) ?_ 0 _ rfl;(with_reducible repeat(first|refine Zag ?_ _|refine Zah ?_|refine Zab ?_ _));refine Zcr ?_ sQ.out _;(with_reducible repeat(first|refine Zag ?_ _|refine Zah ?_|refine Zab ?_ _));exact j5.out) Tryz.underlying36 rfl (by kernel_rfl)) rfl ?_;exact⟨_,_,_,eR,rM (Kd.Za4 (Kd.Zbp (p:=⟨gH,6,none⟩) (Kd.Zbp (p:=⟨gH,5,none⟩) (Kd.Zbp (p:=⟨gH,4,none⟩) (Kd.Zbp (p:=⟨gH,3,none⟩) (Kd.Zbp (p:=⟨gH,2,none⟩) (Kd.Zbp (p:=⟨gH,1,none⟩) (Kd.Zbp (p:=⟨gH,0,none⟩) (Kd.Zbp (p:=⟨lQ,5,none⟩) (Kd.Zb5 (Kd.Zb5 oD.out fO.out (by decide)) j5.out (by decide)) (fun _ hk=>hk.1.2) (.slice mq jv.length mH)) (fun _ hk=>hk.2) (.int .i64 aQ)) (fun _ hk=>hk.2) (.slice bF kV.length bG)) (fun _ hk=>hk.2) (.slice nk nY.length ny)) (fun _ hk=>hk.2) (.int .i64 aV)) (fun _ hk=>hk.2) (.int .i64 bg)) (fun _ hk=>hk.2) (.slice mq jv.length mH)) (fun _ hk=>hk.2) (.int .i64 bq)) (fun _ hk=>hk.1.1.2)),rM (Kd.Za4 (Kd.Zbp (p:=⟨gH,6,none⟩) (Kd.Zbp (p:=⟨gH,5,none⟩) (Kd.Zbp (p:=⟨gH,4,none⟩) (Kd.Zbp (p:=⟨gH,3,none⟩) (Kd.Zbp (p:=⟨gH,2,none⟩) (Kd.Zbp (p:=⟨gH,1,none⟩) (Kd.Zbp (p:=⟨gH,0,none⟩) (Kd.Zbp (p:=⟨lQ,5,none⟩) (Kd.Zb5 (Kd.Zb5 AV.out fO.out (by decide)) j5.out (by decide)) (fun _ hk=>hk.1.2) (.slice mq jv.length mH)) (fun _ hk=>hk.2) (.int .i64 aQ)) (fun _ hk=>hk.2) (.slice bF kV.length bG)) (fun _ hk=>hk.2) (.slice nk nY.length ny)) (fun _ hk=>hk.2) (.int .i64 aV)) (fun _ hk=>hk.2) (.int .i64 bg)) (fun _ hk=>hk.2) (.slice mq jv.length mH)) (fun _ hk=>hk.2) (.int .i64 bq)) (fun _ hk=>hk.1.1)),sM (Kd.Zd5 (Kd.Zds (p:=⟨gH,6,none⟩) (Kd.Zds (p:=⟨gH,5,none⟩) (Kd.Zds (p:=⟨gH,4,none⟩) (Kd.Zds (p:=⟨gH,3,none⟩) (Kd.Zds (p:=⟨gH,2,none⟩) (Kd.Zds (p:=⟨gH,1,none⟩) (Kd.Zds (p:=⟨gH,0,none⟩) (Kd.Zds (p:=⟨lQ,5,none⟩) (Kd.Zen (Kd.Zen Pn.out fO.out (by decide)) j5.out (by decide)) (fun _ hk=>hk.1.2) (.slice mq jv.length mH)) (fun _ hk=>hk.2) (.int .i64 aQ)) (fun _ hk=>hk.2) (.slice bF kV.length bG)) (fun _ hk=>hk.2) (.slice nk nY.length ny)) (fun _ hk=>hk.2) (.int .i64 aV)) (fun _ hk=>hk.2) (.int .i64 bg)) (fun _ hk=>hk.2) (.slice mq jv.length mH)) (fun _ hk=>hk.2) (.int .i64 bq)) (fun _ hk=>⟨hk.1.1.1.2,hk.1.1.2⟩)),bM HB.out⟩
end Go.Proofs.YtdpieallpbllkaaGreat.P
