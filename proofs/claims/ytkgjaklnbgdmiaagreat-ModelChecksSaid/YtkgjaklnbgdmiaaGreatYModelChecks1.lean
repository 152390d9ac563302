/- Proved: the statement ModelChecks. Conditions: none but those of the statement. -/
import Derived.Test.YtkgjaklnbgdmiaaGreatZ1
import Derived.Test.YtkgjaklnbgdmiaaGreatZ2
import Derived.Laws.Bits64b
import Derived.Test.YtkgjaklnbgdmiaaGreatZ3
/- Plain: the values of ranges, at most so many of them (what dom.all goes over). -/
set_option linter.unusedSimpArgs false
set_option linter.unusedVariables false
set_option maxHeartbeats 8000000
namespace Go.Proofs.YtkgjaklnbgdmiaaGreat.P
open Go.RowKit Go.Proofs.YtkgjaklnbgdmiaaGreatW.PrintWords Go.Proofs.YtkgjaklnbgdmiaaGreatW.PrintLast Go.Proofs.YtkgjaklnbgdmiaaGreatW.PrintMore
def upTo : Nat → Int → Int → List Int
  | 0, _, _ => []
  |r+1,v,hi=>if v≤hi then v::upTo r (v+1) hi else []
def niceD (d:List S59):Bool:=d.all fun x=>decide (-1048576≤x.f0∧x.f0≤1048576∧ -1048576≤x.f1∧x.f1≤1048576)
end Go.Proofs.YtkgjaklnbgdmiaaGreat.P
/- Plain: domains as lists of ranges. A domain is told by its values: two good lists of ranges with the same values are one. -/
namespace Go.Proofs.YtkgjaklnbgdmiaaGreat.P
open Go.RowKit Go.Proofs.YtkgjaklnbgdmiaaGreatW.PrintWords Go.Proofs.YtkgjaklnbgdmiaaGreatW.PrintLast Go.Proofs.YtkgjaklnbgdmiaaGreatW.PrintMore
abbrev Rg:=S59
abbrev rg (d:List Rg) (i:Int):Rg:=Zba d i
theorem Rg.ext' {x y:Rg} (h0:x.f0=y.f0) (h1:x.f1=y.f1):x=y:=by cases x;cases y;simp at*;exact⟨h0,h1⟩
theorem Zfe (d:List Rg) (n:Nat) (h:n<d.length):rg d (n:Int)=d[n]:=by simp[rg,Zba,List.getD_eq_getElem?_getD,List.getElem?_eq_getElem h]
def Gd (V : Int) : Int → List Rg → Prop
  | _, [] => True
  |b,x::d=>b≤x.f0∧x.f0≤x.f1∧x.f1≤V∧Gd V (x.f1+2) d
def Va (d:List Rg) (v:Int):Prop:=∃x ∈ d,x.f0≤v∧v≤x.f1
@[simp] theorem Va_nil (v : Int) : Va [] v ↔ False := by simp [Va]
@[simp] theorem Zd (x : Rg) (d : List Rg) (v : Int) : Va (x :: d) v ↔ (x.f0 ≤ v ∧ v ≤ x.f1) ∨ Va d v := by simp [Va]
theorem Va_append (d e:List Rg) (v:Int):Va (d++e) v↔Va d v∨Va e v:=by
  induction d with
  | nil => simp
  |cons x d ih=>simp[ih,or_assoc]
theorem Gd.mono {V b c:Int} {d:List Rg} (h:Gd V b d) (hc:c≤b):Gd V c d:=by
  cases d with
  | nil => trivial
  |cons x d=>obtain⟨h1,h2,h3,h4⟩:=h;exact⟨by omega,h2,h3,h4⟩
theorem Gd.ge {V : Int} : ∀ {b : Int} {d : List Rg} {v : Int}, Gd V b d → Va d v → b ≤ v
  | _, [], _, _, h => absurd h (by simp)
  |b,x::d,v,⟨h1,h2,h3,h4⟩,h=>by
    rcases(Zd x d v).1 h with h|h
    · omega
    have:=Gd.ge h4 h;omega
theorem Gd.le {V : Int} : ∀ {b : Int} {d : List Rg} {v : Int}, Gd V b d → Va d v → v ≤ V
  | _, [], _, _, h => absurd h (by simp)
  |b,x::d,v,⟨h1,h2,h3,h4⟩,h=>by
    rcases(Zd x d v).1 h with h|h
    · omega
    exact Gd.le h4 h
theorem Gd.ext {V : Int} : ∀ {b c : Int} {d e : List Rg}, Gd V b d → Gd V c e → (∀ v, Va d v ↔ Va e v) → d = e
  | _, _, [], [], _, _, _ => rfl
  | _, _, [], y :: e, _, ⟨_, h2, _, _⟩, h => absurd ((h y.f0).2 ((Zd _ _ _).2 (.inl ⟨Int.le_refl _, h2⟩))) (by simp)
  | _, _, x :: d, [], ⟨_, h2, _, _⟩, _, h => absurd ((h x.f0).1 ((Zd _ _ _).2 (.inl ⟨Int.le_refl _, h2⟩))) (by simp)
  |b,c,x::d,y::e,⟨h1,h2,h3,h4⟩,⟨k1,k2,k3,k4⟩,h=>by
    have gx:∀v,Va (x::d) v→x.f0≤v:=fun v hv=>Gd.ge (V:=V) (b:=x.f0) (d:=x::d) ⟨Int.le_refl _,h2,h3,h4⟩ hv
    have gy:∀v,Va (y::e) v→y.f0≤v:=fun v hv=>Gd.ge (V:=V) (b:=y.f0) (d:=y::e) ⟨Int.le_refl _,k2,k3,k4⟩ hv
    have a1:=gy _ ((h x.f0).1 ((Zd _ _ _).2 (.inl ⟨Int.le_refl _,h2⟩)));have a2:=gx _ ((h y.f0).2 ((Zd _ _ _).2 (.inl ⟨Int.le_refl _,k2⟩)));have e0:x.f0=y.f0:=by omega
    have no1:¬x.f1<y.f1:=fun hlt=>by
      have:=(h (x.f1+1)).2 ((Zd _ _ _).2 (.inl ⟨by omega,by omega⟩))
      rcases(Zd _ _ _).1 this with h|h
      · omega
      have:=Gd.ge h4 h;omega
    have no2:¬y.f1<x.f1:=fun hlt=>by
      have:=(h (y.f1+1)).1 ((Zd _ _ _).2 (.inl ⟨by omega,by omega⟩))
      rcases(Zd _ _ _).1 this with h|h
      · omega
      have:=Gd.ge k4 h;omega
    have e1:x.f1=y.f1:=by omega
    obtain rfl:=Rg.ext' e0 e1
    congr 1
    refine Gd.ext h4 k4 (fun v=>⟨fun hv=> ?_,fun hv=> ?_⟩)
    · have hg := Gd.ge h4 hv
      rcases(Zd _ _ _).1 ((h v).1 ((Zd _ _ _).2 (.inr hv)))with h|h
      · omega
      exact h
    have hg:=Gd.ge k4 hv
    rcases(Zd _ _ _).1 ((h v).2 ((Zd _ _ _).2 (.inr hv)))with h|h
    · omega
    exact h
def endB (b:Int) (d:List Rg):Int:=(d.getLast?.map fun x=>x.f1+2).getD b
theorem Zfm (b:Int) (d:List Rg) (x:Rg):endB b (d++ [x])=x.f1+2:=by simp[endB]
theorem endB_cons (b:Int) (x:Rg) (d:List Rg):endB b (x::d)=endB (x.f1+2) d:=by
  cases d with
  | nil => simp [endB]
  |cons y d=>simp[endB,List.getLast?_cons]
theorem Gd_append (V : Int) : ∀ (b : Int) (d e : List Rg), Gd V b (d ++ e) ↔ Gd V b d ∧ Gd V (endB b d) e
  | b, [], e => by simp [Gd, endB]
  |b,x::d,e=>by
    rw[List.cons_append,Gd,Gd,Gd_append V (x.f1+2) d e,endB_cons]
    simp[and_assoc]
theorem Gd_snoc {V b:Int} {d:List Rg} {x:Rg} :Gd V b (d++ [x])↔Gd V b d∧endB b d≤x.f0∧x.f0≤x.f1∧x.f1≤V:=by
  rw[Gd_append]
  simp[Gd]
theorem Gd.lt_end {V : Int} : ∀ {b : Int} {d : List Rg} {v : Int}, Gd V b d → Va d v → v + 2 ≤ endB b d
  | _, [], _, _, h => absurd h (by simp)
  |b,x::d,v,⟨h1,h2,h3,h4⟩,h=>by
    rw[endB_cons]
    have h5:x.f1+2≤endB (x.f1+2) d:=by
      cases d with
      | nil => simp [endB]
      |cons y d=>
        obtain⟨k1,k2,k3,k4⟩:=h4;have:=Gd.lt_end (V:=V) (b:=x.f1+2) (d:=y::d) (v:=y.f1) ⟨k1,k2,k3,k4⟩ ((Zd _ _ _).2 (.inl ⟨k2,Int.le_refl _⟩))
        omega
    rcases(Zd _ _ _).1 h with h|h
    · omega
    exact Gd.lt_end h4 h
theorem Gd.end_ge {V b:Int} {d:List Rg} (h:Gd V b d):b≤endB b d:=by
  cases d with
  | nil => simp [endB]
  |cons y d=>
    obtain⟨k1,k2,k3,k4⟩:=h;have:=Gd.lt_end (V:=V) (b:=b) (d:=y::d) (v:=y.f1) ⟨k1,k2,k3,k4⟩ ((Zd _ _ _).2 (.inl ⟨k2,Int.le_refl _⟩))
    omega
def vals : List Rg → List Int
  | [] => []
  |x::d=>upTo (x.f1+1 - x.f0).toNat x.f0 x.f1++vals d
theorem Zf : ∀ (r : Nat) (v hi z : Int), z ∈ upTo r v hi ↔ v ≤ z ∧ z ≤ hi ∧ z < v + r
  | 0, v, hi, z => by simp [upTo]; omega
  |r+1,v,hi,z=>by
    unfold upTo
    split
    · rw [List.mem_cons, Zf r (v + 1) hi z]
      omega
    simp
    omega
theorem upTo_ss : ∀ (r : Nat) (v hi : Int), SS (upTo r v hi)
  | 0, v, hi => by simp [upTo]
  |r+1,v,hi=>by
    unfold upTo
    split
    · refine List.pairwise_cons.2 ⟨fun z hz => ?_, upTo_ss r (v + 1) hi⟩
      have:=(Zf r (v+1) hi z).1 hz
      omega
    exact List.Pairwise.nil
theorem Zgb : ∀ (r : Nat) (v hi : Int), ((upTo r v hi).length : Int) = min (r : Int) (max 0 (hi + 1 - v))
  | 0, v, hi => by simp [upTo]; omega
  |r+1,v,hi=>by
    unfold upTo
    split
    · have := Zgb r (v + 1) hi
      simp
      omega
    simp
    omega
theorem Zg (z : Int) : ∀ d, z ∈ vals d ↔ Va d z
  | [] => by simp [vals]
  |x::d=>by
    rw[vals,List.mem_append,Zg z d,Zd,Zf];have:(x.f0≤z∧z≤x.f1∧z<x.f0+((x.f1+1 - x.f0).toNat:Int))↔(x.f0≤z∧z≤x.f1):=by omega
    rw[this]
theorem vals_ss {V : Int} : ∀ {b : Int} {d : List Rg}, Gd V b d → SS (vals d)
  | _, [], _ => List.Pairwise.nil
  |b,x::d,⟨h1,h2,h3,h4⟩=>by
    rw[vals];refine List.pairwise_append.2 ⟨upTo_ss _ _ _,vals_ss h4,fun y hy z hz=> ?_⟩;have:=(Zf _ _ _ _).1 hy;have:=Gd.ge h4 ((Zg z d).1 hz)
    omega
theorem Zea {V b:Int} {d:List Rg} (h:Gd V b d):((vals d).length:Int)≤max 0 (V+1 - b):=
  ss_length (vals_ss h) (fun x hx=>⟨Gd.ge h ((Zg x d).1 hx),Gd.le h ((Zg x d).1 hx)⟩)
theorem Zdq {V : Int} : ∀ {b : Int} {d : List Rg}, Gd V b d → d.length ≤ (vals d).length
  | _, [], _ => by simp
  |b,x::d,⟨h1,h2,h3,h4⟩=>by
    have h5:=Zdq h4;have h6:=Zgb (x.f1+1 - x.f0).toNat x.f0 x.f1;rw[vals]
    simp
    omega
def pack : List Int → List Rg
  | [] => []
  |x::l=>match pack l with
    | [] => [⟨x, x⟩]
    |r::rs=>if r.f0=x+1 then⟨x,r.f1⟩::rs else⟨x,x⟩::r::rs
theorem pack_good {V : Int} : ∀ {b : Int} {l : List Int}, SS l → (∀ x ∈ l, b ≤ x ∧ x ≤ V) → Gd V b (pack l) ∧ ∀ v, Va (pack l) v ↔ v ∈ l
  | b, [], _, _ => ⟨trivial, fun v => by simp [pack]⟩
  |b,x::l,h,hb=>by
    obtain⟨hx,hl⟩:=List.pairwise_cons.1 h;obtain⟨g,m⟩:=pack_good (V:=V) (b:=x+1) hl (fun y hy=>⟨by have:=hx y hy;omega,(hb y (List.mem_cons_of_mem _ hy)).2⟩);obtain⟨b1,b2⟩:=hb x List.mem_cons_self;unfold pack
    cases hp:pack l with
    |nil=>
      rw[hp]at m;refine⟨⟨b1,Int.le_refl _,b2,trivial⟩,fun v=> ?_⟩;have:=m v
      simp at this
      simp[this]
      omega
    |cons r rs=>
      rw[hp]at g m;obtain⟨g1,g2,g3,g4⟩:=g;dsimp only
      split
      · rename_i e
        refine⟨⟨b1,by show x≤r.f1;omega,g3,g4⟩,fun v=> ?_⟩;have:=m v;rw[List.mem_cons,←this,Zd,Zd];dsimp only
        constructor
        · rintro (h | h)
          · by_cases e2 : v = x
            · exact .inl e2
            exact .inr (.inl ⟨by omega,h.2⟩)
          exact .inr (.inr h)
        rintro(h|h|h)
        · exact .inl ⟨by omega,by omega⟩
        · exact .inl ⟨by omega,h.2⟩
        exact .inr h
      rename_i e
      refine⟨⟨b1,Int.le_refl _,b2,by show x+2≤r.f0;omega,g2,g3,g4⟩,fun v=> ?_⟩;have:=m v;rw[List.mem_cons,←this,Zd];dsimp only
      constructor
      · rintro (h | h)
        · exact .inl (by omega)
        exact .inr h
      rintro(h|h)
      · exact .inl ⟨by omega,by omega⟩
      exact .inr h
theorem pack_eq {V b:Int} {d:List Rg} {l:List Int} (hd:Gd V b d) (hl:SS l) (h:∀v,Va d v↔v ∈ l):d=pack l:=by
  obtain⟨g,m⟩:=pack_good (V:=V) (b:=b) hl (fun x hx=>⟨Gd.ge hd ((h x).2 hx),Gd.le hd ((h x).2 hx)⟩);exact Gd.ext hd g (fun v=>(h v).trans (m v).symm)
theorem upTo_enough {r:Nat} {v hi:Int} (h:hi+1 - v≤r):upTo r v hi=upTo (hi+1 - v).toNat v hi:=
  SS.ext (upTo_ss _ _ _) (upTo_ss _ _ _) (fun z=>by rw[Zf,Zf];omega)
end Go.Proofs.YtkgjaklnbgdmiaaGreat.P
namespace Go.Proofs.YtkgjaklnbgdmiaaGreat.P
open Go.RowKit Go.Proofs.YtkgjaklnbgdmiaaGreatW.PrintWords Go.Proofs.YtkgjaklnbgdmiaaGreatW.PrintLast Go.Proofs.YtkgjaklnbgdmiaaGreatW.PrintMore
attribute [local go_sem] Zci Zck Zc3 Zc4 Zcb Zcc Zcj Zcl
def Zbg.l0 : Nat → List Int → Int → Int → Option (Bool)
 | 0, _, _, _ => none
 |k+1,x0,x1,x5=>if x5<(x0.length:Int)then(if 0≤x5 then(if(rd x0 x5)=x1 then(some true)else(Zbg.l0 k x0 x1 (wrap64 (x5+1))))else(none))else(some false)
def Zbg.f (k:Nat) (l0:List Int) (a1:Int):Option (Bool):=Zbg.l0 k l0 a1 0
set_option maxRecDepth 100000 in
theorem Zbg.calls (k : Nat) (A0 : Option Addr) (c0 : Nat) (l0 : List Int) (a1 : Int) (r : Bool) (w : World) (hr0 : Kd.C (Kd.int .i64) w A0 l0.length l0) (hc0 : l0.length ≤ c0) (h : Zbg.f k l0 a1 = some r) :
  Calls Tryz.prog 73 #[.slice A0 l0.length c0,.int .i64 a1] w fun e w'=>e= .returned (.bool r)∧Za1 w w':=by
 have HR0:=Za.mk hr0;have HC0:=Za.mk hc0;clear hr0 hc0;have H:(Zbg.l0 k l0 a1 0)=some r:=h;clear h;have H':=Za.mk H;clear H;go_enter Tryz.func73,Tryz.ntmps73;go_wp2
 go_loopg [5] k (fun kq v5 w'=>∃(aH:Int),v5= .int .i64 aH∧Za (Zbg.l0 kq l0 a1 aH=some r)∧Za (kq≤k)∧Za1 w w')
 case atStart=>exact⟨(0),eS,H',⟨Nat.le_refl _⟩,by repeat(first|exact Za1.refl _|apply Za1.step)⟩
 case round=>
  clear H';try clear p2
  obtain⟨aH,rfl,HA,HK1,⟨m1,rfl⟩⟩:=hrel
  cases gk with
  | zero => exact absurd HA.out (by simp [Zbg.l0])
  |succ k1=>
   have H:=HA.out;clear HA;simp only[Zbg.l0]at H;by_cases c3:aH<(l0.length:Int)
   case neg=>
    rw[if_neg c3]at H;have gL:decide (aH<(l0.length:Int))=false:=decide_eq_false c3;clear c3;obtain rfl:=sj H;go_wp2;go_ret;exact⟨eS,by repeat(first|exact Za1.refl _|apply Za1.step)⟩
   rw[if_pos c3]at H;have gL:decide (aH<(l0.length:Int))=true:=decide_eq_true c3;clear c3;obtain⟨dV,H⟩:=ifT H;by_cases c5:(rd l0 aH)=a1
   case pos=>
    rw[if_pos c5]at H;have dS:((rd l0 aH)==a1)=true:=beq_iff_eq.mpr c5;have oV:((rd l0 aH) !=a1)=false:=bne_eq_false_iff_eq.mpr c5;clear c5;obtain rfl:=sj H;have FN:0≤(aH:Int):=odt;have Gh:aH<(l0.length:Int):=odt;obtain⟨cMa,rfl,Yc⟩:=Kd.Zb0 HR0.out aH FN Gh;replace FN:=eq_true FN;replace Gh:=eq_true Gh;go_wp2;go_ret;exact⟨eS,by repeat(first|exact Za1.refl _|apply Za1.step)⟩
   rw[if_neg c5]at H;have dS:((rd l0 aH)==a1)=false:=beq_eq_false_iff_ne.mpr c5;have oV:((rd l0 aH) !=a1)=true:=bne_iff_ne.mpr c5;have H':=Za.mk H;clear H;have FN:0≤(aH:Int):=odt;have Gh:aH<(l0.length:Int):=odt;obtain⟨cMa,rfl,Yc⟩:=Kd.Zb0 HR0.out aH FN Gh;replace FN:=eq_true FN;replace Gh:=eq_true Gh;go_wp2
   go_roundg k1
   case measure=>have:=HK1.out;omega
   case rel=>exact⟨(wrap64 (aH+1)),eS,H',⟨by have:=HK1.out;omega⟩,by repeat(first|exact Za1.refl _|apply Za1.step)⟩
end Go.Proofs.YtkgjaklnbgdmiaaGreat.P
/- The document's comparisons of lists of numbers. -/
namespace Go.Proofs.YtkgjaklnbgdmiaaGreat.P
open Go.RowKit Go.Proofs.YtkgjaklnbgdmiaaGreatW.PrintWords Go.Proofs.YtkgjaklnbgdmiaaGreatW.PrintLast Go.Proofs.YtkgjaklnbgdmiaaGreatW.PrintMore
theorem drop_nil' {α:Type} {l:List α} {n:Nat} (h:n+0=l.length):l.drop n= []:=List.drop_eq_nil_iff.2 (by omega)
theorem ref_Has_l (l:List Int) (v:Int) (hl:l.length<4611686018427387904):∀(m n:Nat),n+m=l.length→Ev (fun k=>Zbg.l0 k l v (n:Int)) (decide (v ∈ l.drop n)):=by
  intro m
  induction m with
  |zero=>
    intro n h;rw[drop_nil' h];exact Ev.step (G:=fun _=>some false) (fun k=>by rw[Zbg.l0,if_neg (by omega)]) (Ev.const (by simp))
  |succ m ih=>
    intro n h;have hn:n<l.length:=by omega
    have hm:v ∈ l.drop n↔v=l[n]∨v ∈ l.drop (n+1):=by rw[List.drop_eq_getElem_cons hn,List.mem_cons]
    by_cases e:l[n]=v
    · exact Ev.step (G:=fun _=>some true) (fun k=>by rw[Zbg.l0,if_pos (by omega),if_pos (by omega),Zdo l n hn,if_pos e]) (Ev.const (by rw[decide_eq_true (hm.2 (.inl e.symm))]))
    have e2:decide (v ∈ l.drop n)=decide (v ∈ l.drop (n+1)):=decide_eq_decide.2 (hm.trans ⟨fun h=>h.elim (fun h=>absurd h.symm e) id,.inr⟩);rw[e2];exact Ev.step (fun k=>by rw[Zbg.l0,if_pos (by omega),if_pos (by omega),Zdo l n hn,if_neg e,w1 (by omega)]) (ih (n+1) (by omega))
theorem ref_Has (l:List Int) (v:Int) (hl:l.length<4611686018427387904):Ev (fun k=>Zbg.f k l v) (decide (v ∈ l)):=ref_Has_l l v hl l.length 0 (by omega)
theorem ref_Nums_l (l m:List Int) (hl:l.length<4611686018427387904) (hm:l.length=m.length):∀(r n:Nat),n+r=l.length→Ev (fun k=>Zau.l0 k l m (n:Int)) (decide (l.drop n=m.drop n)):=by
  intro r
  induction r with
  |zero=>
    intro n h;rw[drop_nil' h,drop_nil' (l:=m) (by omega)];exact Ev.step (G:=fun _=>some true) (fun k=>by rw[Zau.l0,if_neg (by omega)]) (Ev.const (by simp))
  |succ r ih=>
    intro n h;have hn:n<l.length:=by omega
    have hn2:n<m.length:=by omega
    have hm:l.drop n=m.drop n↔l[n]=m[n]∧l.drop (n+1)=m.drop (n+1):=by rw[List.drop_eq_getElem_cons hn,List.drop_eq_getElem_cons hn2,List.cons.injEq]
    by_cases e:l[n]=m[n];rotate_left
    · exact Ev.step (G:=fun _=>some false) (fun k=>by rw[Zau.l0,if_pos (by omega),if_pos (by omega),if_pos (by omega),Zdo l n hn,Zdo m n hn2,if_neg e]) (Ev.const (by rw[decide_eq_false (fun h=>e (hm.1 h).1)]))
    have e2:decide (l.drop n=m.drop n)=decide (l.drop (n+1)=m.drop (n+1)):=decide_eq_decide.2 (hm.trans ⟨And.right,fun h=>⟨e,h⟩⟩);rw[e2];exact Ev.step (fun k=>by rw[Zau.l0,if_pos (by omega),if_pos (by omega),if_pos (by omega),Zdo l n hn,Zdo m n hn2,if_pos e,w1 (by omega)]) (ih (n+1) (by omega))
theorem Zfp (l m:List Int) (hl:l.length<4611686018427387904):Ev (fun k=>Zau.f k l m) (decide (l=m)):=by
  by_cases h:l.length=m.length
  · exact Ev.eq (fun k=>by rw[Zau.f,if_pos (by omega)];rfl) (ref_Nums_l l m hl h l.length 0 (by omega))
  exact Ev.eq (G:=fun _=>some false) (fun k=>by rw[Zau.f,if_neg (by omega)]) (Ev.const (by simp;intro e;exact h (by rw[e])))
end Go.Proofs.YtkgjaklnbgdmiaaGreat.P
/- Plain: what is in the first one alone, and truths (the seats that have no Cut and no Join). -/
namespace Go.Proofs.YtkgjaklnbgdmiaaGreat.P
open Go.RowKit Go.Proofs.YtkgjaklnbgdmiaaGreatW.PrintWords Go.Proofs.YtkgjaklnbgdmiaaGreatW.PrintLast Go.Proofs.YtkgjaklnbgdmiaaGreatW.PrintMore
theorem Gd.drop {V : Int} : ∀ {b : Int} {d : List Rg} (n : Nat), Gd V b d → Gd V b (d.drop n)
  | _, [], n, h => by simp [Gd]
  | b, x :: d, 0, h => h
  |b,x::d,n+1,⟨h1,h2,h3,h4⟩=>(Gd.drop n h4).mono (by omega)
def DomOf (r:List Rg) (q:Int→Prop):Prop:=Gd 1048576 (-1048576) r∧∀v,Va r v↔q v
theorem DomOf.eq {r s:List Rg} {q q':Int→Prop} (h:DomOf r q) (k:DomOf s q') (e:∀v,q v↔q' v):r=s:=Gd.ext h.1 k.1 (fun v=>(h.2 v).trans ((e v).trans (k.2 v).symm))
theorem DomOf.len {r:List Rg} {q:Int→Prop} (h:DomOf r q):r.length≤2097153:=by
  have h1:=Zdq h.1;have h2:=Zea h.1
  omega
theorem Gd.at {V b:Int} {d:List Rg} (h:Gd V b d) {n:Nat} (hn:n<d.length):b≤d[n].f0∧d[n].f0≤d[n].f1∧d[n].f1≤V∧Gd V (d[n].f1+2) (d.drop (n+1)):=by
  have hg:=h.drop n;rw[List.drop_eq_getElem_cons hn]at hg;exact hg
theorem Va_drop {d:List Rg} {n:Nat} (hn:n<d.length) (v:Int):Va (d.drop n) v↔(d[n].f0≤v∧v≤d[n].f1)∨Va (d.drop (n+1)) v:=by rw[List.drop_eq_getElem_cons hn,Zd]
theorem Minus_l1 (a b : List Rg) (ha : Gd 1048576 (-1048576) a) (hb : Gd 1048576 (-1048576) b) (hla : a.length ≤ 2097153) (hlb : b.length ≤ 2097153) (i : Nat) (hi : i < a.length)
    (next : ∀ out : List Rg, out.length ≤ (i + 1) * (b.length + 1) → Gd 1048576 (-1048576) out → endB (-1048576) out ≤ a[i].f1 + 2 →
      ∃ r, Ev (fun k => Za8.l0 k b out a (a.length : Int) ((i + 1 : Nat) : Int)) r ∧ DomOf r (fun v => Va out v ∨ (Va (a.drop (i + 1)) v ∧ ¬ Va b v))) : ∀ (m j : Nat) (lo : Int) (out : List Rg), j + m = b.length → out.length ≤ i * (b.length + 1) + j →
    Gd 1048576 (-1048576) out→endB (-1048576) out≤lo→a[i].f0≤lo→lo≤1048577→endB (-1048576) out≤a[i].f1+2→(lo≤a[i].f1∨∀v,Va (b.drop j) v→a[i].f1<v)→
    ∃r,Ev (fun k=>Za8.l1 k b out a (a.length:Int) (i:Int) b (b.length:Int) (j:Int) lo a[i].f1) r∧DomOf r (fun v=>Va out v∨((lo≤v∧v≤a[i].f1)∧¬Va (b.drop j) v)∨(Va (a.drop (i+1)) v∧¬Va b v)):=by
  obtain⟨x1,x2,x3,x4⟩:=ha.at hi;have hmul:(i+1)*(b.length+1)=i*(b.length+1)+(b.length+1):=by rw[Nat.add_mul,Nat.one_mul]
  have hbig:i*(b.length+1)≤2097153*2097154:=Nat.mul_le_mul (by omega) (by omega);intro m
  induction m with
  |zero=>
    intro j lo out h ho hg he hlo hlo2 he2 hor;have e1:b.drop j= []:=drop_nil' h;by_cases hle:lo≤a[i].f1
    · obtain ⟨r, hr, hD⟩ := next (out ++ [⟨lo, a[i].f1⟩]) (by simp; omega) (Gd_snoc.2 ⟨hg, he, hle, x3⟩) (by rw [Zfm]; exact Int.le_refl _)
      refine⟨r,Ev.step (fun k=>by rw[Za8.l1,if_neg (by omega),if_pos hle,if_pos (by omega),w1 (by omega)]) hr,hD.1,fun v=> ?_⟩;have hv:=hD.2 v;dsimp only at hv ⊢;rw[hv,Va_append,Zd,e1]
      simp[or_assoc]
    obtain⟨r,hr,hD⟩:=next out (by omega) hg he2;refine⟨r,Ev.step (fun k=>by rw[Za8.l1,if_neg (by omega),if_neg hle,w1 (by omega)]) hr,hD.1,fun v=> ?_⟩;have hv:=hD.2 v;dsimp only at hv ⊢;rw[hv]
    constructor
    · rintro (h | h)
      · exact .inl h
      exact .inr (.inr h)
    rintro(h|⟨h,_⟩|h)
    · exact .inl h
    · omega
    exact .inr h
  |succ m ih=>
    intro j lo out h ho hg he hlo hlo2 he2 hor;have hj:j<b.length:=by omega
    obtain⟨y1,y2,y3,y4⟩:=hb.at hj;have hyb:=show Zba b (j:Int)=b[j]from Zfe b j hj
    have hvb:=Va_drop hj
    have skip:(b[j].f1<lo∨b[j].f0>a[i].f1)→(∃r,Ev (fun k=>Za8.l1 k b out a (a.length:Int) (i:Int) b (b.length:Int) ((j+1:Nat):Int) lo a[i].f1) r∧DomOf r (fun v=>Va out v∨((lo≤v∧v≤a[i].f1)∧¬Va (b.drop j) v)∨(Va (a.drop (i+1)) v∧¬Va b v))):=fun hs=>by
      obtain⟨r,hr,hD⟩:=ih (j+1) lo out (by omega) (by omega) hg he hlo hlo2 he2 (hor.imp_right (fun hh v hv=>hh v ((hvb v).2 (.inr hv))));refine⟨r,hr,hD.1,fun v=> ?_⟩;have hv:=hD.2 v;dsimp only at hv ⊢;rw[hv,hvb v]
      constructor
      · rintro (h | ⟨h1, h2⟩ | h)
        · exact .inl h
        · exact .inr (.inl ⟨h1,fun h3=>h3.elim (fun h3=>by omega) h2⟩)
        exact .inr (.inr h)
      rintro(h|⟨h1,h2⟩|h)
      · exact .inl h
      · exact .inr (.inl ⟨h1,fun h3=>h2 (.inr h3)⟩)
      exact .inr (.inr h)
    by_cases c1:b[j].f1<lo
    · obtain ⟨r, hr, hD⟩ := skip (.inl c1)
      refine⟨r,?_,hD⟩;refine Ev.step (fun k=>by rw[Za8.l1,if_pos (by omega),if_pos (by omega),if_pos (by omega),hyb,if_pos c1]) ?_;exact Ev.step (fun k=>by rw[Za8.j2,if_pos rfl,w1 (by omega)]) hr
    by_cases c2:b[j].f0>a[i].f1
    · obtain ⟨r, hr, hD⟩ := skip (.inr c2)
      refine⟨r,?_,hD⟩;refine Ev.step (fun k=>by rw[Za8.l1,if_pos (by omega),if_pos (by omega),if_pos (by omega),hyb,if_neg c1]) ?_;exact Ev.step (fun k=>by rw[Za8.j2,if_pos (decide_eq_true c2),w1 (by omega)]) hr
    have hle:lo≤a[i].f1:=by
      rcases hor with h|h
      · exact h
      have:=h b[j].f0 ((hvb _).2 (.inl ⟨Int.le_refl _,y2⟩));omega
    have hlater:b[j].f1+1≤a[i].f1∨∀v,Va (b.drop (j+1)) v→a[i].f1<v:=by
      by_cases hh:b[j].f1+1≤a[i].f1
      · exact .inl hh
      exact .inr (fun v hv=>by have:=y4.ge hv;omega)
    have common:∀v,lo≤v→v≤a[i].f1→(¬((b[j].f0≤v∧v≤b[j].f1)∨Va (b.drop (j+1)) v)↔(v<b[j].f0∨(b[j].f1+1≤v∧¬Va (b.drop (j+1)) v))):=fun v h1 h2=>by
      constructor
      · intro hh
        by_cases h3:v<b[j].f0
        · exact .inl h3
        refine .inr ⟨?_,fun h4=>hh (.inr h4)⟩;by_cases h5:v≤b[j].f1;rotate_left
        · omega
        exact absurd (Or.inl ⟨by omega,h5⟩) hh
      rintro(h3|⟨h3,h4⟩) (h5|h5)
      · omega
      · have:=y4.ge h5;omega
      · omega
      exact h4 h5
    have start:∀ {r},Ev (fun k=>Za8.j2 k b out a (a.length:Int) (i:Int) b (b.length:Int) (j:Int) false lo a[i].f1 b[j].f0 b[j].f1) r→Ev (fun k=>Za8.l1 k b out a (a.length:Int) (i:Int) b (b.length:Int) (j:Int) lo a[i].f1) r:=fun hE=>
      Ev.step (fun k=>by rw[Za8.l1,if_pos (by omega),if_pos (by omega),if_pos (by omega),hyb,if_neg c1,decide_eq_false c2]) hE
    by_cases c3:b[j].f0>lo;rotate_left
    · obtain ⟨r, hr, hD⟩ := ih (j + 1) (b[j].f1 + 1) out (by omega) (by omega) hg (by omega) (by omega) (by omega) he2 hlater
      refine⟨r,start (Ev.step (fun k=>by rw[Za8.j2,if_neg (by simp),if_neg c3,w64 (n:=b[j].f1+1) (by omega) (by omega),w1 (by omega)]) hr),hD.1,fun v=> ?_⟩;have hv:=hD.2 v;dsimp only at hv ⊢;rw[hv,hvb v]
      constructor
      · rintro (h | ⟨h1, h2⟩ | h)
        · exact .inl h
        · exact .inr (.inl ⟨⟨by omega,h1.2⟩,(common v (by omega) h1.2).2 (.inr ⟨h1.1,h2⟩)⟩)
        exact .inr (.inr h)
      rintro(h|⟨h1,h2⟩|h)
      · exact .inl h
      · rcases (common v h1.1 h1.2).1 h2 with h3 | ⟨h3, h4⟩
        · omega
        exact .inr (.inl ⟨⟨h3,h1.2⟩,h4⟩)
      exact .inr (.inr h)
    obtain⟨r,hr,hD⟩:=ih (j+1) (b[j].f1+1) (out++ [⟨lo,b[j].f0 - 1⟩]) (by omega) (by simp;omega) (Gd_snoc.2 ⟨hg,he,by show lo≤b[j].f0 - 1;omega,by show b[j].f0 - 1≤1048576;omega⟩) (by rw[Zfm];show b[j].f0 - 1+2≤_;omega) (by omega) (by omega) (by rw[Zfm];show b[j].f0 - 1+2≤_;omega) hlater;refine⟨r,start (Ev.step (fun k=>by rw[Za8.j2,if_neg (by simp),if_pos c3,if_pos (by omega),w64 (n:=b[j].f0 - 1) (by omega) (by omega),w64 (n:=b[j].f1+1) (by omega) (by omega),w1 (by omega)]) hr),hD.1,fun v=> ?_⟩;have hv:=hD.2 v;dsimp only at hv ⊢;rw[hv,hvb v,Va_append,Zd];simp only[Va_nil,or_false]
    constructor
    · rintro ((h | h) | ⟨h1, h2⟩ | h)
      · exact .inl h
      · exact .inr (.inl ⟨⟨h.1,by omega⟩,(common v h.1 (by omega)).2 (.inl (by omega))⟩)
      · exact .inr (.inl ⟨⟨by omega,h1.2⟩,(common v (by omega) h1.2).2 (.inr ⟨h1.1,h2⟩)⟩)
      exact .inr (.inr h)
    rintro(h|⟨h1,h2⟩|h)
    · exact .inl (.inl h)
    · rcases (common v h1.1 h1.2).1 h2 with h3 | ⟨h3, h4⟩
      · exact .inl (.inr ⟨h1.1,by omega⟩)
      exact .inr (.inl ⟨⟨h3,h1.2⟩,h4⟩)
    exact .inr (.inr h)
theorem Minus_l0 (a b : List Rg) (ha : Gd 1048576 (-1048576) a) (hb : Gd 1048576 (-1048576) b) (hla : a.length ≤ 2097153) (hlb : b.length ≤ 2097153) : ∀ (m i : Nat) (out : List Rg), i + m = a.length → out.length ≤ i * (b.length + 1) → Gd 1048576 (-1048576) out → (∀ hi : i < a.length, endB (-1048576) out ≤ a[i].f0) →
    ∃r,Ev (fun k=>Za8.l0 k b out a (a.length:Int) (i:Int)) r∧DomOf r (fun v=>Va out v∨(Va (a.drop i) v∧¬Va b v)):=by
  intro m
  induction m with
  |zero=>
    intro i out h ho hg _;refine⟨out,Ev.step (G:=fun _=>some out) (fun k=>by rw[Za8.l0,if_neg (by omega)]) (Ev.pure _),hg,fun v=>by rw[drop_nil' h];simp⟩
  |succ m ih=>
    intro i out h ho hg he;have hi:i<a.length:=by omega
    obtain⟨x1,x2,x3,x4⟩:=ha.at hi;have hxa:=show Zba a (i:Int)=a[i]from Zfe a i hi
    have hva:=Va_drop hi
    obtain ⟨r, hr, hD⟩ := Minus_l1 a b ha hb hla hlb i hi (fun out' h1 h2 h3 => ih (i + 1) out' (by omega) h1 h2 (fun hi1 => by
      have:=(ha.at hi).2.2.2;rw[List.drop_eq_getElem_cons hi1]at this;have:=this.1
      omega)) b.length 0 a[i].f0 out (by omega) (by omega) hg (he hi) (Int.le_refl _) (by omega) (by have := he hi; omega) (.inl x2)
    refine⟨r,Ev.step (fun k=>by rw[Za8.l0,if_pos (by omega),if_pos (by omega),if_pos (by omega),hxa];rfl) hr,hD.1,fun v=> ?_⟩;have hv:=hD.2 v;dsimp only at hv ⊢;rw[hv,hva v,List.drop_zero]
    constructor
    · rintro (h | ⟨h1, h2⟩ | ⟨h1, h2⟩)
      · exact .inl h
      · exact .inr ⟨.inl h1,h2⟩
      exact .inr ⟨.inr h1,h2⟩
    rintro(h|⟨h1|h1,h2⟩)
    · exact .inl h
    · exact .inr (.inl ⟨h1,h2⟩)
    exact .inr (.inr ⟨h1,h2⟩)
theorem Minus_ev (a b:List Rg) (ha:Gd 1048576 (-1048576) a) (hb:Gd 1048576 (-1048576) b):∃r,Ev (fun k=>Za8.f k a b) r∧DomOf r (fun v=>Va a v∧¬Va b v):=by
  have h1:=Zdq ha;have h2:=Zea ha;have h3:=Zdq hb;have h4:=Zea hb;obtain⟨r,hr,hD⟩:=Minus_l0 a b ha hb (by omega) (by omega) a.length 0 [] (by omega) (by simp) trivial (fun hi=>by simp[endB];exact(ha.at hi).1);exact⟨r,hr,hD.1,fun v=>by have hv:=hD.2 v;dsimp only at hv ⊢;rw[hv];simp⟩
theorem truth_ev (d:List Rg) (hd:Gd 1048576 (-1048576) d):∃b:Bool,Ev (fun k=>Zcd.f k d) b∧(b=true↔∀v,Va d v→0≤v∧v≤1):=by
  have h01:Gd 1048576 (-1048576) [(⟨0,1⟩:Rg)]:=by
    simp[Gd]
  obtain⟨r,hr,hD⟩:=Minus_ev d [(⟨0,1⟩:Rg)] hd h01;refine⟨((r.length:Int)==0),?_,?_⟩
  · unfold Zcd.f
    exact Ev.bind hr (Ev.const rfl)
  have hv:∀v,Va [(⟨0,1⟩:Rg)] v↔0≤v∧v≤1:=fun v=>by simp[Va]
  rw[beq_iff_eq]
  constructor
  · intro h0 v hd1
    obtain rfl:r= []:=List.length_eq_zero_iff.1 (by omega);refine Classical.byContradiction (fun hn=> ?_);have:=(hD.2 v).2 ⟨hd1,fun h=>hn ((hv v).1 h)⟩
    simp[Va]at this
  intro h
  cases r with
  | nil => rfl
  |cons x r=>
    exfalso
    have hx:x.f0≤x.f1:=(hD.1.at (n:=0) (by simp)).2.1;have hva:Va (x::r) x.f0:=by simp only[Va,List.mem_cons];exact⟨x,.inl rfl,Int.le_refl _,hx⟩
    obtain⟨h1,h2⟩:=(hD.2 x.f0).1 hva;exact h2 ((hv _).2 (h _ h1))
end Go.Proofs.YtkgjaklnbgdmiaaGreat.P
/- Whole numbers with their bound, in plain words: Add, Sub, Mul by 2^20, size, big. -/
namespace Go.Proofs.YtkgjaklnbgdmiaaGreat.P
open Go.RowKit Go.Proofs.YtkgjaklnbgdmiaaGreatW.PrintWords Go.Proofs.YtkgjaklnbgdmiaaGreatW.PrintLast
def Sml (x:Int):Prop:= -4611686018427387904≤x∧x≤4611686018427387904
instance (x:Int):Decidable (Sml x):=inferInstanceAs (Decidable (_∧_))
theorem Zhi (l : List Int) (hl : l.length ≤ 1000000) : ∀ (d i : Nat), i + d = l.length → Ev (fun k => Zbo.l0 k l (l.length : Int) (i : Int)) ((l.drop i).all fun x => decide (Sml x))
  |0,i,h=>by
    obtain rfl:i=l.length:=by omega
    refine Ev.step (G:=fun _=>some true) (fun k=>by rw[Zbo.l0,if_neg (by omega)]) (Ev.const ?_);rw[List.drop_length]
    rfl
  |d+1,i,h=>by
    have hi:i<l.length:=by omega
    have hw:wrap64 ((i:Int)+1)=((i+1:Nat):Int):=by unfold wrap64;omega
    have hr:rd l (i:Int)=l[i]:=by simp[rd,List.getD_eq_getElem?_getD,List.getElem?_eq_getElem hi]
    have ih:=Zhi l hl d (i+1) (by omega);rw[List.drop_eq_getElem_cons hi,List.all_cons];by_cases h1:l[i]< -4611686018427387904
    · have e : decide (Sml l[i]) = false := decide_eq_false (fun hs => absurd hs.1 (by omega))
      rw[e,Bool.false_and];exact Ev.step (G:=fun _=>some false) (fun k=>by rw[Zbo.l0,if_pos (by omega),if_pos (by omega),if_pos (by omega),hr,if_pos h1]) (Ev.const rfl)
    by_cases h2:l[i]>4611686018427387904;rotate_left
    · have e : decide (Sml l[i]) = true := decide_eq_true ⟨by omega, by omega⟩
      rw[e,Bool.true_and];exact Ev.step (fun k=>by rw[Zbo.l0,if_pos (by omega),if_pos (by omega),if_pos (by omega),hr,if_neg h1,if_neg h2,hw]) ih
    have e:decide (Sml l[i])=false:=decide_eq_false (fun hs=>absurd hs.2 (by omega));rw[e,Bool.false_and];exact Ev.step (G:=fun _=>some false) (fun k=>by rw[Zbo.l0,if_pos (by omega),if_pos (by omega),if_pos (by omega),hr,if_neg h1,if_pos h2]) (Ev.const rfl)
theorem Zga (l:List Int) (hl:l.length≤1000000):Ev (fun k=>Zbo.f k l) (l.all fun x=>decide (Sml x)):=by
  have:=Zhi l hl l.length 0 (by omega);rw[List.drop_zero]at this;exact this
theorem told_ev (a:Int):Ev (fun k=>Zb5.f k a) (if Sml a then(a,true)else(0,false)):=by
  unfold Zb5.f;have h:=Zga [a] (by simp);by_cases hs:Sml a
  · rw [if_pos hs]
    rw[show([a].all fun x=>decide (Sml x))=true by simp[hs]]at h;exact Ev.bind h (Ev.Zan rfl (Ev.const rfl))
  rw[if_neg hs];rw[show([a].all fun x=>decide (Sml x))=false by simp[hs]]at h;exact Ev.bind h (Ev.Za4 (by simp) (Ev.const rfl))
def addS (a b:Int):Int × Bool:=if Sml a∧Sml b∧Sml (a+b)then(a+b,true)else(0,false)
theorem add_ev (a b:Int):Ev (fun k=>Zdp.f k a b) (addS a b):=by
  unfold Zdp.f;have h:=Zga [a,b] (by simp);by_cases hs:Sml a∧Sml b;rotate_left
  · have e : addS a b = (0, false) := if_neg (fun hh => hs ⟨hh.1, hh.2.1⟩)
    rw[e]
    have e2:([a,b].all fun x=>decide (Sml x))=false:=by
      by_cases ha:Sml a;rotate_left
      · simp[ha]
      have hb:¬Sml b:=fun hb=>hs ⟨ha,hb⟩
      simp[ha,hb]
    rw[e2]at h;exact Ev.bind h (Ev.Za4 (by simp) (Ev.const rfl))
  rw[show([a,b].all fun x=>decide (Sml x))=true by simp[hs.1,hs.2]]at h;refine Ev.bind h (Ev.Zan rfl ?_);obtain⟨⟨a1,a2⟩,b1,b2⟩:=hs;have w1:a>0→wrap64 (4611686018427387904 - a)=4611686018427387904 - a:=fun _=>by unfold wrap64;omega
  have w2:a<0→wrap64 (-4611686018427387904 - a)= -4611686018427387904 - a:=fun _=>by unfold wrap64;omega
  have ht:=told_ev (a+b);by_cases hab:Sml (a+b)
  · have e : addS a b = (a + b, true) := if_pos ⟨⟨a1, a2⟩, ⟨b1, b2⟩, hab⟩
    rw[if_pos hab]at ht;rw[e];have hb:=Ev.bind (H:=fun _ (p:Int × Bool)=>some (p.1,p.2)) ht (Ev.const rfl);obtain⟨c1,c2⟩:=hab;have w3:wrap64 (a+b)=a+b:=by unfold wrap64;omega
    simp only[w3];by_cases q1:a>0
    · exact Ev.Zan q1 (Ev.Za4 (by rw[w1 q1];omega) (Ev.Za4 (by omega) hb))
    by_cases q2:a<0;rotate_left
    · exact Ev.Za4 q1 (Ev.Za4 q2 hb)
    exact Ev.Za4 q1 (Ev.Zan q2 (Ev.Za4 (by rw[w2 q2];omega) hb))
  have e:addS a b=(0,false):=if_neg (fun hh=>hab hh.2.2);rw[e]
  have hab':a+b< -4611686018427387904∨4611686018427387904<a+b:=by
    rcases Int.lt_or_le (a+b) (-4611686018427387904)with z|z
    · exact .inl z
    rcases Int.lt_or_le 4611686018427387904 (a+b)with z2|z2
    · exact .inr z2
    exact absurd ⟨z,z2⟩ hab
  by_cases q1:a>0
  · exact Ev.Zan q1 (Ev.Zan (by rw[w1 q1];omega) (Ev.const rfl))
  by_cases q2:a<0;rotate_left
  · exfalso;omega
  exact Ev.Za4 q1 (Ev.Zan q2 (Ev.Zan (by rw[w2 q2];omega) (Ev.const rfl)))
theorem sub0_ev (a:Int) (h0:a<0) (hw: -9223372036854775808≤a):Ev (fun k=>Ze2.f k 0 a) (if Sml a then(-a,true)else(0,false)):=by
  unfold Ze2.f;have h:=Zga [0,a] (by simp);by_cases hs:Sml a;rotate_left
  · rw [if_neg hs]
    rw[show([0,a].all fun x=>decide (Sml x))=false by simp[hs]]at h;exact Ev.bind h (Ev.Za4 (by simp) (Ev.const rfl))
  rw[if_pos hs];rw[show([0,a].all fun x=>decide (Sml x))=true by simp[hs];exact⟨by omega,by omega⟩]at h
  have hn:wrap64 (-a)= -a:=by
    have:=hs.1;unfold wrap64;omega
  have hadd:=add_ev 0 (-a)
  have e:addS 0 (-a)=(-a,true):=by
    unfold addS;have h1:=hs.1;have h2:=hs.2;rw[if_pos ⟨⟨by omega,by omega⟩,⟨by omega,by omega⟩,by rw[Int.zero_add];exact⟨by omega,by omega⟩⟩,Int.zero_add]
  rw[e]at hadd;refine Ev.bind h (Ev.Zan rfl ?_);rw[hn];exact Ev.bind (H:=fun _ (p:Int × Bool)=>some (p.1,p.2)) hadd (Ev.const rfl)
theorem size_ev (a:Int) (hw: -9223372036854775808≤a):Ev (fun k=>Zdd.f k a) (if Sml a then((a.natAbs:Int),true)else(0,false)):=by
  unfold Zdd.f;by_cases h0:a<0
  · refine Ev.Zan h0 ?_
    have h:=sub0_ev a h0 hw
    have e:(if Sml a then(-a,true)else((0:Int),false))=(if Sml a then((a.natAbs:Int),true)else(0,false)):=by
      rw[show(-a:Int)=(a.natAbs:Int) by omega]
    rw[e]at h;refine Ev.bind h (Ev.const ?_)
    split<;>rfl
  refine Ev.Za4 h0 ?_;have h:=add_ev 0 a
  have e:addS 0 a=(if Sml a then((a.natAbs:Int),true)else(0,false)):=by
    unfold addS;rw[Int.zero_add,show(a.natAbs:Int)=a by omega];by_cases hs:Sml a;rotate_left
    · rw[if_neg (fun hh=>hs hh.2.1),if_neg hs]
    rw[if_pos ⟨⟨by omega,by omega⟩,hs,hs⟩,if_pos hs]
  rw[e]at h;refine Ev.bind h (Ev.const ?_)
  split<;>rfl
theorem wrapU {x:Int} (h0:0≤x) (h1:x<18446744073709551616):IntKind.u64.wrap x=x:=by
  rw[IntKind.wrap_u64]
  omega
theorem maskU {x:Int} (h0:0≤x) (h1:x<18446744073709551616):Go.bits .and .u64 x 4294967295=x%4294967296:=by
  obtain⟨n,rfl⟩:∃n:Nat,x=n:=⟨x.toNat,by omega⟩;rw[show(4294967295:Int)=((4294967295:Nat):Int)from rfl,bits_and_u64_nat n 4294967295 (by omega) (by omega),show(4294967295:Nat)=2^32 - 1 from rfl,Nat.and_two_pow_sub_one_eq_mod]
  omega
theorem mul64_mega {a:Int} (h0:0≤a) (h1:a≤4611686018427387904):bits_Mul64.f a 1048576=some (a*1048576 / 18446744073709551616,a*1048576%18446744073709551616):=by
  unfold bits_Mul64.f;have e1:(1048576:Int) / 4294967296=0:=by decide
  have e2:Go.bits .and .u64 (1048576:Int) 4294967295=1048576:=by rw[maskU (by omega) (by omega)];decide
  rw[e1,e2,maskU h0 (by omega)];have w1:IntKind.u64.wrap (a / 4294967296*0)=0:=by rw[Int.mul_zero];exact wrapU (by omega) (by omega)
  have w2:IntKind.u64.wrap (a / 4294967296*1048576)=a / 4294967296*1048576:=wrapU (by omega) (by omega);have w3:IntKind.u64.wrap (a%4294967296*1048576)=a%4294967296*1048576:=wrapU (by omega) (by omega);have w4:IntKind.u64.wrap (a%4294967296*0)=0:=by rw[Int.mul_zero];exact wrapU (by omega) (by omega)
  rw[w1,w2,w3,w4];have w5:IntKind.u64.wrap (a / 4294967296*1048576+a%4294967296*1048576 / 4294967296)=a / 4294967296*1048576+a%4294967296*1048576 / 4294967296:=wrapU (by omega) (by omega);rw[w5,maskU (by omega) (by omega)]
  have w6:∀t:Int,0≤t→t<18446744073709551616→IntKind.u64.wrap (IntKind.u64.wrap (0+t / 4294967296)+IntKind.u64.wrap (t%4294967296+0) / 4294967296)=t / 4294967296:=fun t ht0 ht1=>by
    rw[wrapU (x:=0+t / 4294967296) (by omega) (by omega),wrapU (x:=t%4294967296+0) (by omega) (by omega),wrapU (by omega) (by omega)]
    omega
  rw[w6 _ (by omega) (by omega)]
  have w7:IntKind.u64.wrap (a*1048576)=a*1048576%18446744073709551616:=by
    rw[IntKind.wrap_u64]
  rw[w7]
  congr 2
  omega
theorem mul_ev {a:Int} (h0:0≤a) (h1:a≤4611686018427387904):Ev (fun k=>Zc.f k a 1048576) (if a*1048576≤4611686018427387904 then(a*1048576,true)else(0,false)):=by
  unfold Zc.f;have h:=Zga [a,1048576] (by simp)
  rw [show ([a, 1048576].all fun x => decide (Sml x)) = true by
    have hs1:Sml a:=⟨by omega,h1⟩;have hs2:Sml 1048576:=⟨by omega,by omega⟩
    simp [hs1, hs2]] at h
  have s1:Zcr.f a=some a:=by
    unfold Zcr.f;rw[if_neg (by omega),wrapU h0 (by omega)]
  have s2:Zcr.f 1048576=some 1048576:=by
    unfold Zcr.f;rw[if_neg (by omega),wrapU (by omega) (by omega)]
  refine Ev.bind h (Ev.Zan rfl ?_);simp only[s1,s2,mul64_mega h0 h1,Option.bind_some];by_cases hc:a*1048576≤4611686018427387904;rotate_left
  · rw [if_neg hc]
    have key:∀b:Bool,b=true→∀x:Int,Ev (fun k=>Zc.j0 k a 1048576 x b) (0,false):=fun b hb x=>Ev.step (G:=fun _=>some (0,false)) (fun k=>by rw[Zc.j0,if_pos hb]) (Ev.const rfl)
    by_cases q1:a*1048576 / 18446744073709551616=0;rotate_left
    · exact Ev.Za4 q1 (key _ rfl _)
    exact Ev.Zan q1 (key _ (by simp;omega) _)
  rw[if_pos hc];have q1:a*1048576 / 18446744073709551616=0:=by omega
  have q2:a*1048576%18446744073709551616=a*1048576:=by omega
  simp only[q1,q2];refine Ev.Zan trivial (Ev.step (G:=fun _=>some (a*1048576,true)) (fun k=> ?_) (Ev.const rfl));rw[Zc.j0,if_neg (by simp;omega),if_neg (by simp;omega),show wrap64 (a*1048576)=a*1048576 by unfold wrap64;omega]
def tot : List Int → Int
  | [] => 0
  |c::l=>(c.natAbs:Int)*1048576+tot l
theorem Zet : ∀ l, 0 ≤ tot l
  | [] => Int.le_refl _
  |c::l=>by have:=Zet l;unfold tot;omega
theorem big_no (l : List Int) (hl : l.length ≤ 1000000) (hw : ∀ c ∈ l, -9223372036854775808 ≤ c) (s : Int) : ∀ (d i : Nat), i + d = l.length → Ev (fun k => Zco.l0 k s false l (l.length : Int) (i : Int)) true
  |0,i,h=>by
    obtain rfl:i=l.length:=by omega
    exact Ev.step (G:=fun _=>some true) (fun k=>by rw[Zco.l0,if_neg (by omega)];rfl) (Ev.const rfl)
  |d+1,i,h=>by
    have hi:i<l.length:=by omega
    have hr:rd l (i:Int)=l[i]:=by simp[rd,List.getD_eq_getElem?_getD,List.getElem?_eq_getElem hi]
    have hs:=size_ev l[i] (hw _ (List.getElem_mem hi));refine Ev.step (fun k=>by rw[Zco.l0,if_pos (by omega),if_pos (by omega),if_pos (by omega),hr]) ?_;refine Ev.bind hs ?_;by_cases hsm:Sml l[i];rotate_left
    · rw [if_neg hsm]
      exact Ev.Za4 (by simp) (Ev.const rfl)
    rw[if_pos hsm];obtain⟨m1,m2⟩:=hsm;refine Ev.Zan rfl (Ev.bind (mul_ev (a:=(l[i].natAbs:Int)) (by omega) (by omega)) ?_);by_cases hm:(l[i].natAbs:Int)*1048576≤4611686018427387904;rotate_left
    · rw [if_neg hm]
      exact Ev.Za4 (by simp) (Ev.const rfl)
    rw[if_pos hm];exact Ev.Zan rfl (Ev.Za4 (by simp) (Ev.const rfl))
theorem big_loop (l : List Int) (hl : l.length ≤ 1000000) (hw : ∀ c ∈ l, -9223372036854775808 ≤ c) : ∀ (d i : Nat) (s : Int), i + d = l.length → 0 ≤ s → s ≤ 4611686018427387904 → Ev (fun k => Zco.l0 k s true l (l.length : Int) (i : Int)) (!decide (s + tot (l.drop i) ≤ 4611686018427387904))
  |0,i,s,h,h0,h1=>by
    obtain rfl:i=l.length:=by omega
    rw[List.drop_length];refine Ev.step (G:=fun _=>some false) (fun k=>by rw[Zco.l0,if_neg (by omega)];rfl) (Ev.const ?_);rw[decide_eq_true (by unfold tot;omega)]
    rfl
  |d+1,i,s,h,h0,h1=>by
    have hi:i<l.length:=by omega
    have hr:rd l (i:Int)=l[i]:=by simp[rd,List.getD_eq_getElem?_getD,List.getElem?_eq_getElem hi]
    have hz:wrap64 ((i:Int)+1)=((i+1:Nat):Int):=by unfold wrap64;omega
    have hs:=size_ev l[i] (hw _ (List.getElem_mem hi));rw[List.drop_eq_getElem_cons hi,tot];have ht:=Zet (l.drop (i+1));refine Ev.step (fun k=>by rw[Zco.l0,if_pos (by omega),if_pos (by omega),if_pos (by omega),hr]) ?_;refine Ev.bind hs ?_;by_cases hsm:Sml l[i];rotate_left
    · rw [if_neg hsm, decide_eq_false (by
        have:¬(-4611686018427387904≤l[i]∧l[i]≤4611686018427387904):=hsm
        omega)]
      exact Ev.Za4 (by simp) (Ev.const rfl)
    rw[if_pos hsm];obtain⟨m1,m2⟩:=hsm;refine Ev.Zan rfl (Ev.bind (mul_ev (a:=(l[i].natAbs:Int)) (by omega) (by omega)) ?_);by_cases hm:(l[i].natAbs:Int)*1048576≤4611686018427387904;rotate_left
    · rw [if_neg hm, decide_eq_false (by omega)]
      exact Ev.Za4 (by simp) (Ev.const rfl)
    rw[if_pos hm];refine Ev.Zan rfl (Ev.Zan rfl ?_);have ha:=add_ev s ((l[i].natAbs:Int)*1048576);refine Ev.bind ha ?_;rw[hz];by_cases hab:s+(l[i].natAbs:Int)*1048576≤4611686018427387904;rotate_left
    · have e : addS s ((l[i].natAbs : Int) * 1048576) = (0, false) := if_neg (fun hh => hab hh.2.2.2)
      rw[e,decide_eq_false (by omega)];exact big_no l hl hw 0 d (i+1) (by omega)
    have e:addS s ((l[i].natAbs:Int)*1048576)=(s+(l[i].natAbs:Int)*1048576,true):=if_pos ⟨⟨by omega,h1⟩,⟨by omega,hm⟩,⟨by omega,hab⟩⟩;rw[e,←Int.add_assoc];exact big_loop l hl hw d (i+1) _ (by omega) (by omega) hab
theorem big_ev (l:List Int) (rhs:Int) (hl:l.length≤1000000) (hw:∀c ∈ l,-9223372036854775808≤c) (hr: -9223372036854775808≤rhs):Ev (fun k=>Zco.f k l rhs) (!decide ((rhs.natAbs:Int)+tot l≤4611686018427387904)):=by
  unfold Zco.f;have ht:=Zet l;refine Ev.bind (size_ev rhs hr) ?_;by_cases hsm:Sml rhs;rotate_left
  · rw [if_neg hsm, decide_eq_false (by
      have:¬(-4611686018427387904≤rhs∧rhs≤4611686018427387904):=hsm
      omega)]
    exact big_no l hl hw 0 l.length 0 (by omega)
  rw[if_pos hsm];obtain⟨m1,m2⟩:=hsm;have:=big_loop l hl hw l.length 0 (rhs.natAbs:Int) (by omega) (by omega) (by omega);rw[List.drop_zero]at this;exact this
end Go.Proofs.YtkgjaklnbgdmiaaGreat.P
/- May a constraint be: model.Con in plain words. -/
namespace Go.Proofs.YtkgjaklnbgdmiaaGreat.P
open Go.RowKit Go.Proofs.YtkgjaklnbgdmiaaGreatW.PrintWords Go.Proofs.YtkgjaklnbgdmiaaGreatW.PrintLast Go.Proofs.YtkgjaklnbgdmiaaGreatW.PrintMore
theorem idx_loop (l : List Int) (x : Int) (hl : l.length ≤ 1000000) : ∀ (d i : Nat), i + d = l.length → ∃ r : Int, Ev (fun k => slices_Index_int.l0 k l x (l.length : Int) (i : Int)) r ∧ (0 ≤ r ↔ x ∈ l.drop i)
  |0,i,h=>by
    refine⟨-1,Ev.step (G:=fun _=>some (-1)) (fun k=>by rw[slices_Index_int.l0,if_neg (by omega)]) (Ev.const rfl),?_⟩;rw[List.drop_eq_nil_of_le (by omega)]
    simp
  |d+1,i,h=>by
    have hi:i<l.length:=by omega
    have hr:rd l (i:Int)=l[i]:=Zdo l i hi;rw[List.drop_eq_getElem_cons hi];by_cases e:x=l[i]
    · refine⟨(i:Int),Ev.step (G:=fun _=>some (i:Int)) (fun k=>by rw[slices_Index_int.l0,if_pos (by omega),if_pos (by omega),if_pos (by omega),hr,if_pos e]) (Ev.const rfl),⟨fun _=>List.mem_cons.2 (.inl e),fun _=>by omega⟩⟩
    obtain⟨r,h1,h2⟩:=idx_loop l x hl d (i+1) (by omega);refine⟨r,Ev.step (fun k=>by rw[slices_Index_int.l0,if_pos (by omega),if_pos (by omega),if_pos (by omega),hr,if_neg e,w1 (by omega)]) h1,?_⟩;rw[h2,List.mem_cons];exact⟨.inr,fun h_=>h_.resolve_left e⟩
theorem Zgi (l:List Int) (x:Int) (hl:l.length≤1000000):Ev (fun k=>slices_Contains_int.f k l x) (decide (x ∈ l)):=by
  obtain⟨r,h1,h2⟩:=idx_loop l x hl l.length 0 (by omega);unfold slices_Contains_int.f slices_Index_int.f;refine Ev.bind h1 (Ev.const ?_);rw[List.drop_zero]at h2
  congr 1
  exact decide_eq_decide.2 h2
def truB (d:List Rg):Bool:=d.all fun r=>decide (0≤r.f0) && decide (r.f1≤1)
theorem Gd.ne {V : Int} : ∀ {b : Int} {d : List Rg}, Gd V b d → ∀ r ∈ d, r.f0 ≤ r.f1
  | _, [], _, r, h => absurd h List.not_mem_nil
  |_,x::d,⟨_,h2,_,h4⟩,r,h=>by
    rcases List.mem_cons.1 h with e|h
    · subst e;exact h2
    exact Gd.ne h4 r h
theorem truth_evB (d:List Rg) (hd:Gd 1048576 (-1048576) d):Ev (fun k=>Zcd.f k d) (truB d):=by
  obtain⟨b,h1,h2⟩:=truth_ev d hd
  have:b=truB d:=by
    rw[Bool.eq_iff_iff,h2];unfold truB;rw[List.all_eq_true]
    constructor
    · intro h r hr
      have hne:=hd.ne r hr;have a1:=h r.f0 ⟨r,hr,Int.le_refl _,hne⟩;have a2:=h r.f1 ⟨r,hr,hne,Int.le_refl _⟩;simp only[Bool.and_eq_true,decide_eq_true_eq]
      omega
    rintro h v ⟨r,hr,h3,h4⟩;have:=h r hr;simp only[Bool.and_eq_true,decide_eq_true_eq]at this
    omega
  rw[←this];exact h1
def domAt (d:List (List Rg)) (v:Int):List Rg:=d.getD v.toNat []
theorem domAt_Gd {d:List (List Rg)} (hd:∀x ∈ d,Gd 1048576 (-1048576) x) (v:Int):Gd 1048576 (-1048576) (domAt d v):=by
  unfold domAt;rw[List.getD_eq_getElem?_getD]
  cases h:d[v.toNat]? with
  | none => trivial
  |some x=>exact hd x (List.mem_of_getElem? h)
theorem truths_ev (d : List (List Rg)) (hd : ∀ x ∈ d, Gd 1048576 (-1048576) x) : ∀ l : List Int, l.any (awayV d.length) = false → Ev (fun k => truthsL k d l) (l.map fun v => truB (domAt d v))
  | [], _ => Ev.const rfl
  |v::l,h=>by
    rw[List.any_cons,Bool.or_eq_false_iff]at h
    have hv:0≤v∧v<(d.length:Int):=by
      have:=h.1;unfold awayV at this;simp only[Bool.or_eq_false_iff,decide_eq_false_iff_not]at this
      omega
    have ih:=truths_ev d hd l h.2;unfold truthsL;refine Ev.Zan hv (Ev.bind (truth_evB _ (domAt_Gd hd v)) (Ev.bind ih (Ev.const rfl)))
def allB (l:List Int):Bool:=decide ((sd l).length=l.length)
theorem all_evB (l:List Int) (hl:l.length≤1000000):Zdb.f l=some (allB l):=by
  unfold Zdb.f allB;rw[if_neg (by omega)]
  congr 1
  exact decide_eq_decide.2 (by omega)
def sumB (vars coefs:List Int):Bool:=decide (0<vars.length) && (decide (vars.length=coefs.length) && (allB vars && !decide ((0:Int) ∈ coefs)))
theorem sum_evB (kd:Int) (vars coefs:List Int) (op rhs:Int) (rows:List (List Int)) (b:Int) (h1:vars.length≤1000000) (h2:coefs.length≤1000000):Ev (fun k=>Zcz.f k kd vars coefs op rhs rows b) (sumB vars coefs):=by
  unfold Zcz.f sumB;by_cases q1:0<vars.length;rotate_left
  · rw [decide_eq_false q1, Bool.false_and]
    exact Ev.Za4 (by omega) (Ev.const rfl)
  rw[decide_eq_true q1,Bool.true_and];refine Ev.Zan (by omega) ?_;by_cases q2:vars.length=coefs.length;rotate_left
  · rw [decide_eq_false q2, Bool.false_and]
    exact Ev.Za4 (by omega) (Ev.const rfl)
  rw[decide_eq_true q2,Bool.true_and];refine Ev.Zan (by omega) (Ev.bind (Ev.const (all_evB vars h1)) ?_)
  cases allB vars with
  | true => exact Ev.Zan rfl (Ev.bind (Zgi coefs 0 h2) (Ev.const rfl))
  |false=>exact Ev.Za4 (by simp) (Ev.const rfl)
def heldB (vars coefs:List Int) (op:Int):Bool:=sumB vars coefs && (decide (0≤op) && decide (op<3))
theorem held_evB (kd:Int) (vars coefs:List Int) (op rhs:Int) (rows:List (List Int)) (b:Int) (h1:vars.length≤1000000) (h2:coefs.length≤1000000):Ev (fun k=>Zc1.f k kd vars coefs op rhs rows b) (heldB vars coefs op):=by
  unfold Zc1.f heldB;refine Ev.bind (sum_evB kd vars coefs op rhs rows b h1 h2) ?_
  cases sumB vars coefs with
  | false => exact Ev.Za4 (by simp) (Ev.const rfl)
  |true=>
    refine Ev.Zan rfl ?_;by_cases q:0≤op;rotate_left
    · rw [decide_eq_false q]
      exact Ev.Za4 q (Ev.const rfl)
    rw[decide_eq_true q];exact Ev.Zan q (Ev.const (by simp))
def plainB (coefs:List Int) (op rhs b:Int):Bool:=decide (coefs.length=0) && (decide (op=0) && (decide (rhs=0) && decide (b=0)))
theorem plain_evB (kd:Int) (vars coefs:List Int) (op rhs:Int) (rows:List (List Int)) (b:Int):Zc5.f kd vars coefs op rhs rows b=some (plainB coefs op rhs b):=by
  unfold Zc5.f plainB
  by_cases q1:coefs.length=0<;>by_cases q2:op=0<;>by_cases q3:rhs=0<;>by_cases q4:b=0<;>simp[q1,q2,q3,q4]
def rightB (d:List (List Rg)) (kd:Int) (vars coefs:List Int) (op rhs:Int) (rows:List (List Int)) (b:Int):Bool:=
  if kd≠2∧0<rows.length then false
  else if kd=0 then heldB vars coefs op && decide (b=0)
  else if kd=1 then plainB coefs op rhs b && (decide (0<vars.length) && allB vars)
  else if kd=2 then plainB coefs op rhs b && (decide (0<vars.length) && (allB vars && (decide (rows.length≤1024) && !(rows.any fun l=> !rowOk vars l))))
  else if kd=3 then plainB coefs op rhs b && (decide (3≤vars.length) && allB vars)
  else if kd=4 then heldB vars coefs op && (truB (domAt d b) && !decide (b ∈ vars))
  else if kd=5 then sumB vars coefs && (decide (op=0) && (decide (rhs=0) && (decide (b=0) && (!(coefs.any oddU) && vars.all fun v=>truB (domAt d v)))))
  else plainB coefs op rhs b && (decide (2≤vars.length) && decide ((vars.length:Int)%2=0))
theorem right_evB (d : List (List Rg)) (hd : ∀ x ∈ d, Gd 1048576 (-1048576) x) (kd : Int) (vars coefs : List Int) (op rhs : Int) (rows : List (List Int)) (b : Int) (h1 : vars.length ≤ 1000000) (h2 : coefs.length ≤ 1000000) (hv : vars.any (awayV d.length) = false) (hb : kd = 4 → awayV d.length b = false) :
    Ev (fun k=>Zbw.f k d kd vars coefs op rhs rows b) (rightB d kd vars coefs op rhs rows b):=by
  have hall:=all_evB vars h1;have hpl:=plain_evB kd vars coefs op rhs rows b;unfold Zbw.f rightB;by_cases q0:kd≠2∧0<rows.length
  · rw[if_pos q0];exact Ev.Zan q0 (Ev.const rfl)
  rw[if_neg q0];refine Ev.Za4 q0 ?_;by_cases k0:kd=0
  · rw[if_pos k0];exact Ev.Zan k0 (Ev.bind (held_evB kd vars coefs op rhs rows b h1 h2) (Ev.const rfl))
  rw[if_neg k0];refine Ev.Za4 k0 ?_;by_cases k1:kd=1
  · rw[if_pos k1];exact Ev.Zan k1 (Ev.bind (Ev.const hpl) (Ev.bind (Ev.const hall) (Ev.const rfl)))
  rw[if_neg k1];refine Ev.Za4 k1 ?_;by_cases k2:kd=2
  · rw[if_pos k2];exact Ev.Zan k2 (Ev.bind (Ev.const hpl) (Ev.bind (Ev.const hall) (Ev.const rfl)))
  rw[if_neg k2];refine Ev.Za4 k2 ?_;by_cases k3:kd=3
  · rw[if_pos k3];exact Ev.Zan k3 (Ev.bind (Ev.const hpl) (Ev.bind (Ev.const hall) (Ev.const rfl)))
  rw[if_neg k3];refine Ev.Za4 k3 ?_;by_cases k4:kd=4
  · rw [if_pos k4]
    have hbb:0≤b∧b<(d.length:Int):=by
      have:=hb k4;unfold awayV at this;simp only[Bool.or_eq_false_iff,decide_eq_false_iff_not]at this
      omega
    exact Ev.Zan k4 (Ev.Zan hbb (Ev.bind (held_evB kd vars coefs op rhs rows b h1 h2) (Ev.bind (truth_evB _ (domAt_Gd hd b)) (Ev.bind (Zgi vars b h1) (Ev.const rfl)))))
  rw[if_neg k4];refine Ev.Za4 k4 ?_;by_cases k5:kd=5
  · rw [if_pos k5]
    refine Ev.Zan k5 (Ev.bind (sum_evB kd vars coefs op rhs rows b h1 h2) (Ev.bind (truths_ev d hd vars hv) (Ev.const ?_)));rw[List.all_map]
    rfl
  rw[if_neg k5];exact Ev.Za4 k5 (Ev.bind (Ev.const hpl) (Ev.const rfl))
def conE (d:List (List Rg)) (kd:Int) (vars coefs:List Int) (op rhs:Int) (rows:List (List Int)) (b:Int):Int:=
  if kd<0∨7≤kd then 44
  else if vars.any (awayV d.length)=true then 43
  else if kd=4∧awayV d.length b=true then 43
  else if rightB d kd vars coefs op rhs rows b=false then 44
  else if(rhs.natAbs:Int)+tot coefs≤4611686018427387904 then 0 else 45
theorem con_evB (d : List (List Rg)) (hd : ∀ x ∈ d, Gd 1048576 (-1048576) x) (kd : Int) (vars coefs : List Int) (op rhs : Int) (rows : List (List Int)) (b : Int) (h1 : vars.length ≤ 1000000) (h2 : coefs.length ≤ 1000000) (hw : ∀ c ∈ coefs, -9223372036854775808 ≤ c) (hr : -9223372036854775808 ≤ rhs) :
    Ev (fun k=>Zdl.f k d kd vars coefs op rhs rows b) (conE d kd vars coefs op rhs rows b):=by
  unfold Zdl.f conE;by_cases q0:kd<0∨7≤kd
  · rw[if_pos q0];exact Ev.Zan q0 (Ev.const rfl)
  rw[if_neg q0];refine Ev.Za4 q0 ?_;by_cases q1:vars.any (awayV d.length)=true
  · rw[if_pos q1];exact Ev.Zan q1 (Ev.const rfl)
  rw[if_neg q1];refine Ev.Za4 q1 ?_;by_cases q2:kd=4∧awayV d.length b=true
  · rw[if_pos q2];exact Ev.Zan q2 (Ev.const rfl)
  rw[if_neg q2];refine Ev.Za4 q2 ?_;refine Ev.bind (right_evB d hd kd vars coefs op rhs rows b h1 h2 (Bool.eq_false_iff.2 q1) (fun k4=>Bool.eq_false_iff.2 (fun h_=>q2 ⟨k4,h_⟩))) ?_;by_cases q3:rightB d kd vars coefs op rhs rows b=false
  · rw[if_pos q3];exact Ev.Zan q3 (Ev.const rfl)
  rw[if_neg q3];refine Ev.Za4 q3 (Ev.bind (big_ev coefs rhs h2 hw hr) (Ev.const ?_));by_cases q:(rhs.natAbs:Int)+tot coefs≤4611686018427387904
  · rw[if_pos q,decide_eq_true q];rfl
  rw[if_neg q,decide_eq_false q];rfl
theorem conE_ok {d:List (List Rg)} {kd:Int} {vars coefs:List Int} {op rhs:Int} {rows:List (List Int)} {b:Int} (h:conE d kd vars coefs op rhs rows b=0):vars.any (awayV d.length)=false∧(kd=4→awayV d.length b=false):=by
  unfold conE at h
  split at h
  · exact absurd h (by decide)
  split at h
  · exact absurd h (by decide)
  split at h
  · exact absurd h (by decide)
  rename_i q1 q2
  exact⟨Bool.eq_false_iff.2 q1,fun k4=>Bool.eq_false_iff.2 (fun h_=>q2 ⟨k4,h_⟩)⟩
end Go.Proofs.YtkgjaklnbgdmiaaGreat.P
namespace Go.Proofs.YtkgjaklnbgdmiaaGreat.P
open Go.RowKit Go.Proofs.YtkgjaklnbgdmiaaGreatW.PrintWords Go.Proofs.YtkgjaklnbgdmiaaGreatW.PrintLast Go.Proofs.YtkgjaklnbgdmiaaGreatW.PrintMore
attribute [local go_sem] Zci Zck Zc3 Zc4 Zcb Zcc Zcj Zcl
def Zbb.f (a0:Int):Option (Bool):=if a0≥(-1048576)then(some (decide (a0≤1048576)))else(some false)
set_option maxRecDepth 100000 in
theorem Zbb.calls (a0 : Int) (r : Bool) (w : World) (h : Zbb.f a0 = some r) :
  Calls Tryz.prog 36 #[.int .i64 a0] w fun e w'=>e= .returned (.bool r)∧Za1 w w':=by
 have H:(if a0≥(-1048576)then(some (decide (a0≤1048576)))else(some false))=some r:=h;clear h;by_cases c2:a0≥(-1048576)
 case pos=>
  rw[if_pos c2]at H;have mh:decide ((-1048576)≤a0)=true:=decide_eq_true c2;clear c2;obtain rfl:=sj H;go_enter Tryz.func36,Tryz.ntmps36;go_wp2;go_ret;exact⟨eS,by repeat(first|exact Za1.refl _|apply Za1.step)⟩
 rw[if_neg c2]at H;have mh:decide ((-1048576)≤a0)=false:=decide_eq_false c2;clear c2;obtain rfl:=sj H;go_enter Tryz.func36,Tryz.ntmps36;go_wp2;go_ret;exact⟨eS,by repeat(first|exact Za1.refl _|apply Za1.step)⟩
end Go.Proofs.YtkgjaklnbgdmiaaGreat.P
/- secateur/secateurref02.Check: over a list of ranges. -/
namespace Go.Proofs.YtkgjaklnbgdmiaaGreat.P
open Go.RowKit Go.Proofs.YtkgjaklnbgdmiaaGreatW.PrintWords Go.Proofs.YtkgjaklnbgdmiaaGreatW.PrintLast Go.Proofs.YtkgjaklnbgdmiaaGreatW.PrintMore
def Za6.l0 : Nat → List (S59) → Int → Int → Option (Int)
 | 0, _, _, _ => none
 |k+1,x0,x3,x4=>if x4<(x0.length:Int)then(if 0≤x4 then((Zbb.f ((Zba x0 x4).f0)).bind fun ta=>(if ta=true then((Zbb.f ((Zba x0 x4).f1)).bind fun tb=>(if tb=true then(if((Zba x0 x4).f0)>((Zba x0 x4).f1)then(some 20)else(if x4>0 then(if 0≤(wrap64 (x4 - 1))then(if(wrap64 (x4 - 1))<(x0.length:Int)then(if(wrap64 (((Zba x0 x4).f0) - ((Zba x0 (wrap64 (x4 - 1))).f1)))<2 then(some 20)else(Za6.l0 k x0 (wrap64 (x3+(wrap64 ((wrap64 (((Zba x0 x4).f1) - ((Zba x0 x4).f0)))+1)))) (wrap64 (x4+1))))else(none))else(none))else(Za6.l0 k x0 (wrap64 (x3+(wrap64 ((wrap64 (((Zba x0 x4).f1) - ((Zba x0 x4).f0)))+1)))) (wrap64 (x4+1)))))else(some 20)))else(some 20)))else(none))else(if x3>4096 then(some 2)else(some 0))
def Za6.f (k:Nat) (l0:List (S59)):Option (Int):=Za6.l0 k l0 0 0
set_option maxRecDepth 100000 in
theorem Za6.calls (k : Nat) (A0 : Option Addr) (c0 : Nat) (l0 : List (S59)) (r : Int) (w : World) (hr0 : Kd.C k59 w A0 l0.length l0) (hc0 : l0.length ≤ c0) (h : Za6.f k l0 = some r) :
  Calls Tryz.prog 17 #[.slice A0 l0.length c0] w fun e w'=>e= .returned (.int .i64 r)∧Below w.heap.size w w':=by
 have HR0:=Za.mk hr0;clear hr0 hc0;have HB:=Za.mk (Below.refl w.heap.size w);have H':=Za.mk (show Za6.l0 k l0 0 0=some r from h);clear h;go_enter Tryz.func17,Tryz.ntmps17;go_wp2
 go_loopg [3,4] k (fun kq v3 v4 w'=>∃(s x:Int),v3= .int .i64 s∧v4= .int .i64 x∧Za (Za6.l0 kq l0 s x=some r)∧Za (kq≤k)∧Za (Below w.heap.size w w'))
 case atStart=>exact⟨0,0,rfl,rfl,H',⟨Nat.le_refl _⟩,⟨mvB HB.out⟩⟩
 case round=>
  clear H' HB;obtain⟨s,x,rfl,rfl,HA,HK1,HB⟩:=hrel
  cases gk with
  | zero => exact absurd HA.out (by simp [Za6.l0])
  |succ k1=>
   have H:=HA.out;clear HA;simp only[Za6.l0]at H;by_cases c2:x<(l0.length:Int);rotate_left
   ·rw [if_neg c2] at H
    have p1_:decide (x<(l0.length:Int))=false:=decide_eq_false c2;clear c2;by_cases c4:s>4096
    ·rw [if_pos c4] at H
     have d4_:decide (4096<s)=true:=decide_eq_true c4;clear c4;obtain rfl:=Option.some.inj H;clear H;go_wp2;go_ret;exact⟨rfl,mvB HB.out⟩
    rw[if_neg c4]at H;have d4_:decide (4096<s)=false:=decide_eq_false c4;clear c4;obtain rfl:=Option.some.inj H;clear H;go_wp2;go_ret;exact⟨rfl,mvB HB.out⟩
   rw[if_pos c2]at H;have p1_:decide (x<(l0.length:Int))=true:=decide_eq_true c2;by_cases c3:0≤x;rotate_left
   ·rw [if_neg c3] at H
    exact absurd H (by simp)
   rw[if_pos c3]at H;have p2_:decide (0≤x)=true:=decide_eq_true c3;obtain⟨ad,e_,hx0,hx1⟩:=Zd0 (Kd.Zaf HR0.out HB.out) x c3 c2;cases e_;replace c2:=eq_true c2;replace c3:=eq_true c3
   generalize (Zba l0 x).f0=a at hx0 H
   generalize (Zba l0 x).f1=b at hx1 H
   obtain⟨va,hva,H2_⟩:=Option.bind_eq_some_iff.1 H;clear H;have H:=H2_;clear H2_;have HVa:=Za.mk hva;clear hva
   cases va with
   |false=>
    rw[if_neg Bool.false_ne_true]at H;obtain rfl:=Option.some.inj H;clear H;go_wp2;have HCa:Za (∀n,Calls Tryz.prog 36 #[.int .i64 a] (wr.drewN n) fun e w''=>e= .returned (.bool false)∧∃m,w''=wr.drewN m):=⟨fun n=>Calls.quiet_of ((Zbb.calls a _ _ HVa.out).mono fun e w' h_=>⟨h_.1,h_.2.out⟩)⟩
    go_quiet (with_reducible exact HCa.out _)
    go_wp2;go_ret;exact⟨rfl,mvB HB.out⟩
   |true=>
    rw[if_pos rfl]at H;obtain⟨vb,hvb,H2_⟩:=Option.bind_eq_some_iff.1 H;clear H;have H:=H2_;clear H2_;have HVb:=Za.mk hvb;clear hvb
    cases vb with
    |false=>
     rw[if_neg Bool.false_ne_true]at H;obtain rfl:=Option.some.inj H;clear H;go_wp2;have HCa:Za (∀n,Calls Tryz.prog 36 #[.int .i64 a] (wr.drewN n) fun e w''=>e= .returned (.bool true)∧∃m,w''=wr.drewN m):=⟨fun n=>Calls.quiet_of ((Zbb.calls a _ _ HVa.out).mono fun e w' h_=>⟨h_.1,h_.2.out⟩)⟩;have HCb:Za (∀n,Calls Tryz.prog 36 #[.int .i64 b] (wr.drewN n) fun e w''=>e= .returned (.bool false)∧∃m,w''=wr.drewN m):=⟨fun n=>Calls.quiet_of ((Zbb.calls b _ _ HVb.out).mono fun e w' h_=>⟨h_.1,h_.2.out⟩)⟩
     go_quiet (first|with_reducible exact HCa.out _|with_reducible exact HCb.out _)
     go_wp2;go_ret;exact⟨rfl,mvB HB.out⟩
    |true=>
     rw[if_pos rfl]at H;by_cases c9:a>b
     ·rw [if_pos c9] at H
      have d9_:decide (b<a)=true:=decide_eq_true c9;clear c9;obtain rfl:=Option.some.inj H;clear H;go_wp2;have HCa:Za (∀n,Calls Tryz.prog 36 #[.int .i64 a] (wr.drewN n) fun e w''=>e= .returned (.bool true)∧∃m,w''=wr.drewN m):=⟨fun n=>Calls.quiet_of ((Zbb.calls a _ _ HVa.out).mono fun e w' h_=>⟨h_.1,h_.2.out⟩)⟩;have HCb:Za (∀n,Calls Tryz.prog 36 #[.int .i64 b] (wr.drewN n) fun e w''=>e= .returned (.bool true)∧∃m,w''=wr.drewN m):=⟨fun n=>Calls.quiet_of ((Zbb.calls b _ _ HVb.out).mono fun e w' h_=>⟨h_.1,h_.2.out⟩)⟩
      go_quiet (first|with_reducible exact HCa.out _|with_reducible exact HCb.out _)
      go_wp2;go_ret;exact⟨rfl,mvB HB.out⟩
     rw[if_neg c9]at H;have d9_:decide (b<a)=false:=decide_eq_false c9;clear c9;by_cases c10:x>0;rotate_left
     ·rw [if_neg c10] at H
      have d10_:decide (0<x)=false:=decide_eq_false c10;clear c10;have H':=Za.mk H;clear H;go_wp2;have HCa:Za (∀n,Calls Tryz.prog 36 #[.int .i64 a] (wr.drewN n) fun e w''=>e= .returned (.bool true)∧∃m,w''=wr.drewN m):=⟨fun n=>Calls.quiet_of ((Zbb.calls a _ _ HVa.out).mono fun e w' h_=>⟨h_.1,h_.2.out⟩)⟩;have HCb:Za (∀n,Calls Tryz.prog 36 #[.int .i64 b] (wr.drewN n) fun e w''=>e= .returned (.bool true)∧∃m,w''=wr.drewN m):=⟨fun n=>Calls.quiet_of ((Zbb.calls b _ _ HVb.out).mono fun e w' h_=>⟨h_.1,h_.2.out⟩)⟩
      go_quiet (first|with_reducible exact HCa.out _|with_reducible exact HCb.out _)
      go_wp2
      go_quiet (fail)
      go_wp2
      go_roundg k1
      case measure=>exact Nat.lt_succ_self _
      case rel=>exact⟨_,_,(by first|rfl|(simp;done)|(simp[*];done)),(by first|rfl|(simp;done)|(simp[*];done)),H',⟨by have:=HK1.out;omega⟩,⟨mvB HB.out⟩⟩
     rw[if_pos c10]at H;have d10_:decide (0<x)=true:=decide_eq_true c10;clear c10;obtain⟨j,hj⟩:∃j_:Int,wrap64 (x - 1)=j_:=⟨_,rfl⟩;rw[hj]at H;have hjw:IntKind.i64.wrap (x - 1)=j:=(Zdk _).trans hj;clear hj;by_cases c11:0≤j;case neg=>rw[if_neg c11]at H;exact absurd H (by simp)
     rw[if_pos c11]at H;by_cases c12:j<(l0.length:Int);case neg=>rw[if_neg c12]at H;exact absurd H (by simp)
     rw[if_pos c12]at H;obtain⟨ad2,e2_,hy0,hy1⟩:=Zd0 (Kd.Zaf HR0.out HB.out) j c11 c12;obtain rfl:ad=ad2:=(by injection e2_);clear e2_;have d11_:decide (0≤j)=true:=decide_eq_true c11;have d12_:decide (j<(l0.length:Int))=true:=decide_eq_true c12;replace c11:=eq_true c11;replace c12:=eq_true c12
     generalize (Zba l0 j).f1=q at hy1 H
     obtain⟨g,hg⟩:∃g_:Int,wrap64 (a - q)=g_:=⟨_,rfl⟩;rw[hg]at H;have hgw:IntKind.i64.wrap (a - q)=g:=(Zdk _).trans hg;clear hg;by_cases c13:g<2
     ·rw [if_pos c13] at H
      have d13_:decide (g<2)=true:=decide_eq_true c13;clear c13;obtain rfl:=Option.some.inj H;clear H;go_wp2;have HCa:Za (∀n,Calls Tryz.prog 36 #[.int .i64 a] (wr.drewN n) fun e w''=>e= .returned (.bool true)∧∃m,w''=wr.drewN m):=⟨fun n=>Calls.quiet_of ((Zbb.calls a _ _ HVa.out).mono fun e w' h_=>⟨h_.1,h_.2.out⟩)⟩;have HCb:Za (∀n,Calls Tryz.prog 36 #[.int .i64 b] (wr.drewN n) fun e w''=>e= .returned (.bool true)∧∃m,w''=wr.drewN m):=⟨fun n=>Calls.quiet_of ((Zbb.calls b _ _ HVb.out).mono fun e w' h_=>⟨h_.1,h_.2.out⟩)⟩
      go_quiet (first|with_reducible exact HCa.out _|with_reducible exact HCb.out _)
      go_wp2;go_ret;exact⟨rfl,mvB HB.out⟩
     rw[if_neg c13]at H;have d13_:decide (g<2)=false:=decide_eq_false c13;clear c13;have H':=Za.mk H;clear H;go_wp2;have HCa:Za (∀n,Calls Tryz.prog 36 #[.int .i64 a] (wr.drewN n) fun e w''=>e= .returned (.bool true)∧∃m,w''=wr.drewN m):=⟨fun n=>Calls.quiet_of ((Zbb.calls a _ _ HVa.out).mono fun e w' h_=>⟨h_.1,h_.2.out⟩)⟩;have HCb:Za (∀n,Calls Tryz.prog 36 #[.int .i64 b] (wr.drewN n) fun e w''=>e= .returned (.bool true)∧∃m,w''=wr.drewN m):=⟨fun n=>Calls.quiet_of ((Zbb.calls b _ _ HVb.out).mono fun e w' h_=>⟨h_.1,h_.2.out⟩)⟩
     go_quiet (first|with_reducible exact HCa.out _|with_reducible exact HCb.out _)
     go_wp2
     go_quiet (fail)
     go_wp2
     go_roundg k1
     case measure=>exact Nat.lt_succ_self _
     case rel=>exact⟨_,_,(by first|rfl|(simp;done)|(simp[*];done)),(by first|rfl|(simp;done)|(simp[*];done)),H',⟨by have:=HK1.out;omega⟩,⟨mvB HB.out⟩⟩
end Go.Proofs.YtkgjaklnbgdmiaaGreat.P
/- Whether ranges are a domain: the program's answer and the document's. -/
namespace Go.Proofs.YtkgjaklnbgdmiaaGreat.P
open Go.RowKit Go.Proofs.YtkgjaklnbgdmiaaGreatW.PrintWords Go.Proofs.YtkgjaklnbgdmiaaGreatW.PrintLast Go.Proofs.YtkgjaklnbgdmiaaGreatW.PrintMore
def isVal (v:Int):Bool:=decide (-1048576≤v) && decide (v≤1048576)
theorem Zes (x:Int):isVal x=true↔ -1048576≤x∧x≤1048576:=by simp[isVal]
theorem Zde (x:Int):Zbb.f x=some (isVal x):=by
  unfold Zbb.f isVal;by_cases h:x≥ -1048576
  · rw[if_pos h];simp[decide_eq_true h]
  rw[if_neg h];have:decide (-1048576≤x)=false:=decide_eq_false h;simp[this]
theorem value_f (x:Int):Zcv.f x=some (isVal x):=by
  unfold Zcv.f isVal;by_cases h:x≥ -1048576
  · rw[if_pos h];simp[decide_eq_true h]
  rw[if_neg h];have:decide (-1048576≤x)=false:=decide_eq_false h;simp[this]
theorem Size_l0 (d : List Rg) (hl : d.length ≤ 3000000) {b : Int} (hd : Gd 1048576 b d) (hb : -1048576 ≤ b) : ∀ (m n : Nat) (s : Int), n + m = d.length → 0 ≤ s → s + (vals (d.drop n)).length ≤ 3000000 →
    Ev (fun k=>Zdh.l0 k s d (d.length:Int) (n:Int)) (s+(vals (d.drop n)).length):=by
  intro m
  induction m with
  |zero=>
    intro n s h h0 h1;rw[drop_nil' h];exact Ev.step (G:=fun _=>some s) (fun k=>by rw[Zdh.l0,if_neg (by omega)]) (Ev.const (by simp[vals]))
  |succ m ih=>
    intro n s h h0 h1;have hn:n<d.length:=by omega
    have hg:=hd.drop n;rw[List.drop_eq_getElem_cons hn]at hg;obtain⟨g1,g2,g3,g4⟩:=hg
    have e:(vals (d.drop n)).length=(d[n].f1+1 - d[n].f0).toNat+(vals (d.drop (n+1))).length:=by
      rw[List.drop_eq_getElem_cons hn,vals,List.length_append];have:=Zgb (d[n].f1+1 - d[n].f0).toNat d[n].f0 d[n].f1
      omega
    rw[e]at h1 ⊢;refine Ev.step (fun k=>by rw[Zdh.l0,if_pos (by omega),if_pos (by omega),if_pos (by omega),show Zba d (n:Int)=d[n]from Zfe d n hn,w64 (n:=d[n].f1 - d[n].f0) (by omega) (by omega),w64 (n:=d[n].f1 - d[n].f0+1) (by omega) (by omega),w64 (n:=s+(d[n].f1 - d[n].f0+1)) (by omega) (by omega),w1 (by omega)]) ?_;have:=ih (n+1) (s+(d[n].f1 - d[n].f0+1)) (by omega) (by omega) (by omega)
    rwa [show s+(d[n].f1 - d[n].f0+1)+((vals (d.drop (n+1))).length:Int)=s+(((d[n].f1+1 - d[n].f0).toNat+(vals (d.drop (n+1))).length:Nat):Int) by omega]at this
theorem Size_ev (d:List Rg) {b:Int} (hd:Gd 1048576 b d) (hb: -1048576≤b):Ev (fun k=>Zdh.f k d) (vals d).length:=by
  have h1:=Zea hd;have h2:=Zdq hd;have:=Size_l0 d (by omega) hd hb d.length 0 0 (by omega) (by omega) (by simp;omega);simp only[Int.zero_add,List.drop_zero]at this;exact this
def rb : Int → List Rg → Bool
  | _, [] => true
  |b,x::d=>isVal x.f0 && isVal x.f1 && decide (x.f0≤x.f1) && decide (b≤x.f0) && rb (x.f1+2) d
theorem rb_good : ∀ {b : Int} {d : List Rg}, rb b d = true → Gd 1048576 b d
  | _, [], _ => trivial
  |b,x::d,h=>by
    simp only[rb,Bool.and_eq_true,decide_eq_true_iff]at h;obtain⟨⟨⟨⟨h1,h2⟩,h3⟩,h4⟩,h5⟩:=h;exact⟨h4,h3,((Zes _).1 h2).2,rb_good h5⟩
theorem Zg1 : ∀ d e : List Rg, vals (d ++ e) = vals d ++ vals e
  | [], e => rfl
  |x::d,e=>by rw[List.cons_append,vals,vals,Zg1 d e,List.append_assoc]
def checkSpec (d:List Rg):Int:=if rb (-1048576) d=true then(if(vals d).length>4096 then 2 else 0)else 20
theorem Zcq (v:Int):Zcv.f v=some (isVal v):=value_f v
theorem Zfn (d:List Rg) (n:Nat) (hn:n<d.length):endB (-1048576) (d.take (n+1))=d[n].f1+2:=by rw[List.take_succ_eq_append_getElem hn,Zfm]
theorem right_l0 (d : List Rg) (hl : d.length < 4611686018427387904) : ∀ (m n : Nat), n + m = d.length → (0 < n → ∀ h : n - 1 < d.length, isVal d[n - 1].f1 = true) →
    Ev (fun k=>Zcf.l0 k d d (d.length:Int) (n:Int)) (rb (endB (-1048576) (d.take n)) (d.drop n)):=by
  intro m
  induction m with
  |zero=>
    intro n h _;rw[drop_nil' h];exact Ev.step (G:=fun _=>some true) (fun k=>by rw[Zcf.l0,if_neg (by omega)]) (Ev.pure _)
  |succ m ih=>
    intro n h hp;have hn:n<d.length:=by omega
    rw[List.drop_eq_getElem_cons hn,rb];have hat:=show Zba d (n:Int)=d[n]from Zfe d n hn
    cases h0:isVal d[n].f0 with
    | false => exact Ev.step (G := fun _ => some false) (fun k => by rw [Zcf.l0, if_pos (by omega), if_pos (by omega), if_pos (by omega), hat, Zcq, Option.bind_some, if_neg (by rw [h0]; simp)]) (Ev.const (by simp))
    |true=>
      cases h1:isVal d[n].f1 with
      | false => exact Ev.step (G := fun _ => some false) (fun k => by rw [Zcf.l0, if_pos (by omega), if_pos (by omega), if_pos (by omega), hat, Zcq, Option.bind_some, if_pos h0, Zcq, Option.bind_some, if_neg (by rw [h1]; simp)]) (Ev.const (by simp))
      |true=>
        have b0:=(Zes _).1 h0;have b1:=(Zes _).1 h1;by_cases h2:d[n].f0>d[n].f1
        · have hnle : ¬ d[n].f0 ≤ d[n].f1 := by omega
          exact Ev.step (G:=fun _=>some false) (fun k=>by rw[Zcf.l0,if_pos (by omega),if_pos (by omega),if_pos (by omega),hat,Zcq,Option.bind_some,if_pos h0,Zcq,Option.bind_some,if_pos h1,if_pos h2]) (Ev.const (by simp[hnle]))
        have hle:d[n].f0≤d[n].f1:=by omega
        have hnext:=ih (n+1) (by omega) (fun _ _=>h1);rw[Zfn d n hn]at hnext;have e:∀b,((true && true && decide (d[n].f0≤d[n].f1) && decide (b≤d[n].f0) && rb (d[n].f1+2) (d.drop (n+1))))=(decide (b≤d[n].f0) && rb (d[n].f1+2) (d.drop (n+1))):=fun b=>by simp[hle]
        rw[e]
        rcases Nat.eq_zero_or_pos n with rfl|hpos
        · have e2 : decide (endB (-1048576) (d.take 0) ≤ d[0].f0) = true := decide_eq_true (by simp [endB]; omega)
          rw[e2,Bool.true_and];exact Ev.step (fun k=>by rw[Zcf.l0,if_pos (by omega),if_pos (by omega),if_pos (by omega),hat,Zcq,Option.bind_some,if_pos h0,Zcq,Option.bind_some,if_pos h1,if_neg h2,if_neg (by omega),w1 (by omega)]) hnext
        have hn1:n - 1<d.length:=by omega
        have hprev:=(Zes _).1 (hp hpos hn1);have e3:endB (-1048576) (d.take n)=d[n - 1].f1+2:=by have:=Zfn d (n - 1) hn1;rwa [show n - 1+1=n by omega]at this
        have e4:wrap64 ((n:Int) - 1)=((n - 1:Nat):Int):=by rw[w64 (by omega) (by omega)];omega
        have hat1:=show Zba d ((n - 1:Nat):Int)=d[n - 1]from Zfe d (n - 1) hn1
        rw[e3];by_cases h3:d[n].f0<d[n - 1].f1+2;rotate_left
        · rw [decide_eq_true (show d[n - 1].f1 + 2 ≤ d[n].f0 by omega), Bool.true_and]
          exact Ev.step (fun k=>by rw[Zcf.l0,if_pos (by omega),if_pos (by omega),if_pos (by omega),hat,Zcq,Option.bind_some,if_pos h0,Zcq,Option.bind_some,if_pos h1,if_neg h2,if_pos (by omega),e4,if_pos (by omega),if_pos (by omega),hat1,w64 (n:=d[n - 1].f1+2) (by omega) (by omega),if_neg h3,w1 (by omega)]) hnext
        rw[decide_eq_false (show ¬d[n - 1].f1+2≤d[n].f0 by omega),Bool.false_and];exact Ev.step (G:=fun _=>some false) (fun k=>by rw[Zcf.l0,if_pos (by omega),if_pos (by omega),if_pos (by omega),hat,Zcq,Option.bind_some,if_pos h0,Zcq,Option.bind_some,if_pos h1,if_neg h2,if_pos (by omega),e4,if_pos (by omega),if_pos (by omega),hat1,w64 (n:=d[n - 1].f1+2) (by omega) (by omega),if_pos h3]) (Ev.pure _)
theorem dom_Check_ev (d:List Rg) (hl:d.length<4611686018427387904):Ev (fun k=>Zer.f k d) (checkSpec d):=by
  refine Ev.bind (a:=rb (-1048576) d) (by have:=right_l0 d hl d.length 0 (by omega) (fun h=>by omega);exact this) ?_;unfold checkSpec;by_cases h:rb (-1048576) d=true;rotate_left
  · rw [if_neg h]
    simp only[if_neg h];exact Ev.pure _
  rw[if_pos h];simp only[if_pos h];refine Ev.bind (Size_ev d (rb_good h) (Int.le_refl _)) ?_;by_cases h2:(vals d).length>4096
  · rw[if_pos h2];exact Ev.Zan (by omega) (Ev.pure _)
  rw[if_neg h2];exact Ev.Za4 (c:=((vals d).length:Int)>4096) (by omega) (Ev.pure _)
theorem ref_Check_l0 (d : List Rg) (hl : d.length < 4611686018427387904) : ∀ (m n : Nat) (s : Int), n + m = d.length → Gd 1048576 (-1048576) (d.take n) → s = (vals (d.take n)).length →
    Ev (fun k=>Za6.l0 k d s (n:Int)) (if rb (endB (-1048576) (d.take n)) (d.drop n)=true then(if(vals d).length>4096 then 2 else 0)else 20):=by
  intro m
  induction m with
  |zero=>
    intro n s h hg hs;rw[drop_nil' h,rb,if_pos rfl];rw[List.take_of_length_le (by omega)]at hs;subst hs;refine Ev.step (fun k=>by rw[Za6.l0,if_neg (by omega)]) ?_;by_cases h2:(vals d).length>4096
    · rw[if_pos h2];exact Ev.Zan (by omega) (Ev.pure _)
    rw[if_neg h2];exact Ev.Za4 (c:=((vals d).length:Int)>4096) (by omega) (Ev.pure _)
  |succ m ih=>
    intro n s h hg hs;have hn:n<d.length:=by omega
    rw[List.drop_eq_getElem_cons hn,rb];have hat:=show Zba d (n:Int)=d[n]from Zfe d n hn
    have hvl:=Zea hg
    cases h0:isVal d[n].f0 with
    | false => exact Ev.step (G := fun _ => some 20) (fun k => by rw [Za6.l0, if_pos (by omega), if_pos (by omega), hat, Zde, Option.bind_some, if_neg (by rw [h0]; simp)]) (Ev.const (by simp))
    |true=>
      cases h1:isVal d[n].f1 with
      | false => exact Ev.step (G := fun _ => some 20) (fun k => by rw [Za6.l0, if_pos (by omega), if_pos (by omega), hat, Zde, Option.bind_some, if_pos h0, Zde, Option.bind_some, if_neg (by rw [h1]; simp)]) (Ev.const (by simp))
      |true=>
        have b0:=(Zes _).1 h0;have b1:=(Zes _).1 h1;by_cases h2:d[n].f0>d[n].f1
        · have hnle : ¬ d[n].f0 ≤ d[n].f1 := by omega
          exact Ev.step (G:=fun _=>some 20) (fun k=>by rw[Za6.l0,if_pos (by omega),if_pos (by omega),hat,Zde,Option.bind_some,if_pos h0,Zde,Option.bind_some,if_pos h1,if_pos h2]) (Ev.const (by simp[hnle]))
        have hle:d[n].f0≤d[n].f1:=by omega
        have e:∀b,((true && true && decide (d[n].f0≤d[n].f1) && decide (b≤d[n].f0) && rb (d[n].f1+2) (d.drop (n+1))))=(decide (b≤d[n].f0) && rb (d[n].f1+2) (d.drop (n+1))):=fun b=>by simp[hle]
        rw[e];have hul:=Zgb (d[n].f1+1 - d[n].f0).toNat d[n].f0 d[n].f1
        have hv1:((vals (d.take (n+1))).length:Int)=(vals (d.take n)).length+(d[n].f1 - d[n].f0+1):=by
          rw[List.take_succ_eq_append_getElem hn,Zg1,List.length_append];simp only[vals,List.append_nil]
          omega
        have w2:wrap64 (s+wrap64 (wrap64 (d[n].f1 - d[n].f0)+1))=((vals (d.take (n+1))).length:Int):=by
          rw[w64 (n:=d[n].f1 - d[n].f0) (by omega) (by omega),w64 (n:=d[n].f1 - d[n].f0+1) (by omega) (by omega),w64 (n:=s+_) (by omega) (by omega)]
          omega
        have hnext:endB (-1048576) (d.take n)≤d[n].f0→_:=fun hh=>ih (n+1) ((vals (d.take (n+1))).length:Int) (by omega) (by rw[List.take_succ_eq_append_getElem hn];exact Gd_snoc.2 ⟨hg,hh,hle,b1.2⟩) rfl
        rw[Zfn d n hn]at hnext
        rcases Nat.eq_zero_or_pos n with rfl|hpos
        · have hh : endB (-1048576) (d.take 0) ≤ d[0].f0 := by simp [endB]; omega
          rw[decide_eq_true hh,Bool.true_and];exact Ev.step (fun k=>by rw[Za6.l0,if_pos (by omega),if_pos (by omega),hat,Zde,Option.bind_some,if_pos h0,Zde,Option.bind_some,if_pos h1,if_neg h2,if_neg (by omega),w2,w1 (by omega)]) (hnext hh)
        have hn1:n - 1<d.length:=by omega
        have e3:endB (-1048576) (d.take n)=d[n - 1].f1+2:=by have:=Zfn d (n - 1) hn1;rwa [show n - 1+1=n by omega]at this
        have hprev: -1048576≤d[n - 1].f1∧d[n - 1].f1≤1048576:=by
          have:d.take n=d.take (n - 1)++ [d[n - 1]]:=by have:=List.take_succ_eq_append_getElem hn1;rwa [show n - 1+1=n by omega]at this
          rw[this]at hg;obtain⟨g1,g2,g3,g4⟩:=Gd_snoc.1 hg;have:=g1.end_ge
          omega
        have e4:wrap64 ((n:Int) - 1)=((n - 1:Nat):Int):=by rw[w64 (by omega) (by omega)];omega
        have hat1:=show Zba d ((n - 1:Nat):Int)=d[n - 1]from Zfe d (n - 1) hn1
        rw[e3]at hnext ⊢;by_cases h3:d[n].f0 - d[n - 1].f1<2;rotate_left
        · rw [decide_eq_true (show d[n - 1].f1 + 2 ≤ d[n].f0 by omega), Bool.true_and]
          exact Ev.step (fun k=>by rw[Za6.l0,if_pos (by omega),if_pos (by omega),hat,Zde,Option.bind_some,if_pos h0,Zde,Option.bind_some,if_pos h1,if_neg h2,if_pos (by omega),e4,if_pos (by omega),if_pos (by omega),hat1,w64 (n:=d[n].f0 - d[n - 1].f1) (by omega) (by omega),if_neg h3,w2,w1 (by omega)]) (hnext (by omega))
        rw[decide_eq_false (show ¬d[n - 1].f1+2≤d[n].f0 by omega),Bool.false_and];exact Ev.step (G:=fun _=>some 20) (fun k=>by rw[Za6.l0,if_pos (by omega),if_pos (by omega),hat,Zde,Option.bind_some,if_pos h0,Zde,Option.bind_some,if_pos h1,if_neg h2,if_pos (by omega),e4,if_pos (by omega),if_pos (by omega),hat1,w64 (n:=d[n].f0 - d[n - 1].f1) (by omega) (by omega),if_pos h3]) (Ev.const (by simp))
theorem ref_Check_ev (d:List Rg) (hl:d.length<4611686018427387904):Ev (fun k=>Za6.f k d) (checkSpec d):=by
  have:=ref_Check_l0 d hl d.length 0 0 (by omega) trivial rfl;exact this
end Go.Proofs.YtkgjaklnbgdmiaaGreat.P
/- May a model be: model.Check in plain words. -/
namespace Go.Proofs.YtkgjaklnbgdmiaaGreat.P
open Go.RowKit Go.Proofs.YtkgjaklnbgdmiaaGreatW.PrintWords Go.Proofs.YtkgjaklnbgdmiaaGreatW.PrintLast Go.Proofs.YtkgjaklnbgdmiaaGreatW.PrintMore
def nameB (s:ByteArray):Bool:= !decide (s.size=0) && (decide (s.size≤16) && nameGo s s.size 0)
def chkV : List S37 → List ByteArray → Int
  | [], _ => 0
  |v::vs,had=>if nameB v.f0=false then 40 else if hasN had v.f0=true then 41 else if v.f1.length=0 then 42 else if checkSpec v.f1=0 then chkV vs (had++ [v.f0])else 42
theorem chkV_ev : ∀ (vs : List S37) (had : List ByteArray), (∀ v ∈ vs, v.f1.length ≤ 1000000) → Ev (fun k => Ze0 k vs had) (chkV vs had)
  | [], _, _ => Ev.const rfl
  |v::vs,had,h=>by
    have hv:=h v List.mem_cons_self;unfold Ze0 chkV;refine Ev.bind (a:=nameB v.f0) (Ev.const rfl) ?_;by_cases q1:nameB v.f0=false
    · rw[if_pos q1];exact Ev.Zan q1 (Ev.const rfl)
    rw[if_neg q1];refine Ev.Za4 q1 ?_;by_cases q2:hasN had v.f0=true
    · rw[if_pos q2];exact Ev.Zan q2 (Ev.const rfl)
    rw[if_neg q2];refine Ev.Za4 q2 ?_;by_cases q3:v.f1.length=0
    · rw[if_pos q3];exact Ev.Zan q3 (Ev.const rfl)
    rw[if_neg q3];refine Ev.Za4 q3 (Ev.bind (dom_Check_ev v.f1 (by omega)) ?_);by_cases q4:checkSpec v.f1=0;rotate_left
    · rw[if_neg q4];exact Ev.Za4 q4 (Ev.const rfl)
    rw[if_pos q4];exact Ev.Zan q4 (chkV_ev vs _ (fun x hx=>h x (List.mem_cons_of_mem _ hx)))
theorem Zf2 {d:List Rg} (h:checkSpec d=0):Gd 1048576 (-1048576) d:=by
  unfold checkSpec at h;by_cases q:rb (-1048576) d=true
  · exact rb_good q
  rw[if_neg q]at h;exact absurd h (by decide)
theorem chkV_ok : ∀ (vs : List S37) (had : List ByteArray), chkV vs had = 0 → ∀ v ∈ vs, Gd 1048576 (-1048576) v.f1 ∧ v.f1 ≠ []
  | [], _, _, v, hv => absurd hv List.not_mem_nil
  |x::vs,had,h,v,hv=>by
    unfold chkV at h;by_cases q1:nameB x.f0=false
    · rw[if_pos q1]at h;exact absurd h (by decide)
    rw[if_neg q1]at h;by_cases q2:hasN had x.f0=true
    · rw[if_pos q2]at h;exact absurd h (by decide)
    rw[if_neg q2]at h;by_cases q3:x.f1.length=0
    · rw[if_pos q3]at h;exact absurd h (by decide)
    rw[if_neg q3]at h;by_cases q4:checkSpec x.f1=0;rotate_left
    · rw[if_neg q4]at h;exact absurd h (by decide)
    rw[if_pos q4]at h
    rcases List.mem_cons.1 hv with e|hv
    · subst e
      exact⟨Zf2 q4,fun e=>q3 (by rw[e];rfl)⟩
    exact chkV_ok vs _ h v hv
theorem doms_loop (vars : List S37) (hl : vars.length ≤ 1000000) (hr : ∀ v ∈ vars, v.f1.length ≤ 1000000) : ∀ (d n : Nat) (acc : List (List Rg)), n + d = vars.length → acc.length ≤ n → Ev (fun k => Zcg.l0 k acc vars (vars.length : Int) (n : Int)) (acc ++ (vars.drop n).map fun v => v.f1)
  |0,n,acc,h,ha=>by
    rw[List.drop_eq_nil_of_le (by omega),List.map_nil,List.append_nil];exact Ev.step (G:=fun _=>some acc) (fun k=>by rw[Zcg.l0,if_neg (by omega)]) (Ev.const rfl)
  |d+1,n,acc,h,ha=>by
    have hn:n<vars.length:=by omega
    have hrd:Zaq vars (n:Int)=vars[n]:=by simp[Zaq,List.getD_eq_getElem?_getD,List.getElem?_eq_getElem hn]
    have hq:=hr _ (List.getElem_mem hn);have ih:=doms_loop vars hl hr d (n+1) (acc++ [vars[n].f1]) (by omega) (by simp;omega);rw[List.drop_eq_getElem_cons hn,List.map_cons];rw[List.append_assoc,List.singleton_append]at ih
    have hc:cloneR.f vars[n].f1=some vars[n].f1:=by
      unfold cloneR.f
      first|rfl|(rw[if_pos (by omega)])|(rw[if_neg (by omega)])
    refine Ev.step (fun k=>by rw[Zcg.l0,if_pos (by omega),if_pos (by omega),if_pos (by omega),hrd]) (Ev.bind (a:=vars[n].f1) (Ev.const hc) ?_);rw[w1 (by omega)];have hlt:acc.length<5864062014805:=by omega
    exact Ev.Zan hlt ih
def domsOf (vars:List S37):List (List Rg):=vars.map fun v=>v.f1
theorem doms_ev (vars:List S37) (cons:List S40) (gk:Int) (gv gc:List Int) (hl:vars.length≤1000000) (hr:∀v ∈ vars,v.f1.length≤1000000):Ev (fun k=>Zcg.f k vars cons gk gv gc) (domsOf vars):=doms_loop vars hl hr vars.length 0 [] (by omega) (by simp)
def okC (c:S40):Prop:=c.f1.length≤1000000∧c.f2.length≤1000000∧(∀x ∈ c.f2,-9223372036854775808≤x)∧ -9223372036854775808≤c.f4
def conC (d:List (List Rg)) (c:S40):Int:=conE d c.f0 c.f1 c.f2 c.f3 c.f4 c.f5 c.f6
def chkC (d : List (List Rg)) : List S40 → Int
  | [] => 0
  |c::cs=>if conC d c=0 then chkC d cs else conC d c
theorem chkC_ev (d : List (List Rg)) (hd : ∀ x ∈ d, Gd 1048576 (-1048576) x) : ∀ cs : List S40, (∀ c ∈ cs, okC c) → Ev (fun k => Zez k d cs) (chkC d cs)
  | [], _ => Ev.const rfl
  |c::cs,h=>by
    obtain⟨h1,h2,h3,h4⟩:=h c List.mem_cons_self;unfold Zez chkC;refine Ev.bind (con_evB d hd c.f0 c.f1 c.f2 c.f3 c.f4 c.f5 c.f6 h1 h2 h3 h4) ?_;by_cases q:conC d c=0;rotate_left
    · rw[if_neg q];exact Ev.Za4 q (Ev.const rfl)
    rw[if_pos q];exact Ev.Zan q (chkC_ev d hd cs (fun x hx=>h x (List.mem_cons_of_mem _ hx)))
def goalE (d:List (List Rg)) (gk:Int) (gv gc:List Int):Int:=
  if gk=0 then if 0<gv.length then 44 else if 0<gc.length then 44 else 0
  else if gk=1∨gk=2 then conE d 0 gv gc 0 0 [] 0 else 44
theorem goal_evB (d:List (List Rg)) (hd:∀x ∈ d,Gd 1048576 (-1048576) x) (gk:Int) (gv gc:List Int) (h1:gv.length≤1000000) (h2:gc.length≤1000000) (hw:∀c ∈ gc,-9223372036854775808≤c):Ev (fun k=>Zei.f k d gk gv gc) (goalE d gk gv gc):=by
  have hc:=con_evB d hd 0 gv gc 0 0 [] 0 h1 h2 hw (by omega);unfold Zei.f goalE;by_cases q0:gk=0
  · rw [if_pos q0]; refine Ev.Zan q0 ?_
    by_cases q1:0<gv.length
    · rw[if_pos q1];exact Ev.Zan (by omega) (Ev.const rfl)
    rw[if_neg q1];refine Ev.Za4 (by omega) ?_;by_cases q2:0<gc.length
    · rw[if_pos q2];exact Ev.Zan (by omega) (Ev.const rfl)
    rw[if_neg q2];exact Ev.Za4 (by omega) (Ev.const rfl)
  rw[if_neg q0];refine Ev.Za4 q0 ?_;by_cases q1:gk=1
  · rw[if_pos (.inl q1)];exact Ev.Zan q1 (Ev.bind hc (Ev.const rfl))
  refine Ev.Za4 q1 ?_;by_cases q2:gk=2;rotate_left
  · rw[if_neg (by omega)];exact Ev.Za4 q2 (Ev.const rfl)
  rw[if_pos (.inr q2)];exact Ev.Zan q2 (Ev.bind hc (Ev.const rfl))
def chkE (vars:List S37) (cons:List S40) (gk:Int) (gv gc:List Int):Int:=
  if 64<vars.length∨256<cons.length then 2
  else if chkV vars []=0 then if chkC (domsOf vars) cons=0 then goalE (domsOf vars) gk gv gc else chkC (domsOf vars) cons
  else chkV vars []
theorem check_evB (vars:List S37) (cons:List S40) (gk:Int) (gv gc:List Int) (hr:∀v ∈ vars,v.f1.length≤1000000) (hc:∀c ∈ cons,okC c) (h1:gv.length≤1000000) (h2:gc.length≤1000000) (hw:∀c ∈ gc,-9223372036854775808≤c):Ev (fun k=>Zb1.f k vars cons gk gv gc) (chkE vars cons gk gv gc):=by
  unfold Zb1.f chkE;by_cases q0:64<vars.length∨256<cons.length
  · rw[if_pos q0];exact Ev.Zan q0 (Ev.const rfl)
  rw[if_neg q0];refine Ev.Za4 q0 (Ev.bind (chkV_ev vars [] hr) ?_);by_cases q1:chkV vars []=0;rotate_left
  · rw[if_neg q1];exact Ev.Za4 q1 (Ev.const rfl)
  rw[if_pos q1]
  have hd:∀x ∈ domsOf vars,Gd 1048576 (-1048576) x:=fun x hx=>by
    obtain⟨v,hv,rfl⟩:=List.mem_map.1 hx;exact(chkV_ok vars [] q1 v hv).1
  refine Ev.Zan q1 (Ev.bind (doms_ev vars cons gk gv gc (by omega) hr) (Ev.bind (chkC_ev _ hd cons hc) ?_));by_cases q2:chkC (domsOf vars) cons=0;rotate_left
  · rw[if_neg q2];exact Ev.Za4 q2 (Ev.const rfl)
  rw[if_pos q2];exact Ev.Zan q2 (goal_evB _ hd gk gv gc h1 h2 hw)
end Go.Proofs.YtkgjaklnbgdmiaaGreat.P
namespace Go.Proofs.YtkgjaklnbgdmiaaGreat.P
open Go.RowKit Go.Proofs.YtkgjaklnbgdmiaaGreatW.PrintWords Go.Proofs.YtkgjaklnbgdmiaaGreatW.PrintLast Go.Proofs.YtkgjaklnbgdmiaaGreatW.PrintMore
attribute [local go_sem] Zci Zck Zc3 Zc4 Zcb Zcc Zcj Zcl
def Zbe.l0 : Nat → List (List Int) → List (List Int) → Int → Option ((List (List Int)))
 | 0, _, _, _ => none
 |k+1,x0,x3,x4=>if x4<(x0.length:Int)then((some (([]:List Int):List Int)).bind fun y104=>(if 0≤x4 then(if y104.length+(Zca x0 x4).length<17592186044416 then(if x3.length<5864062014805 then(Zbe.l0 k x0 (x3++ [(y104++(Zca x0 x4))]) (wrap64 (x4+1)))else(none))else(none))else(none)))else(some x3)
def Zbe.f (k:Nat) (l0:List (List Int)):Option ((List (List Int))):=Zbe.l0 k l0 (([]:List (List Int))) 0
set_option maxRecDepth 100000 in
theorem Zbe.calls (k : Nat) (A0 : Option Addr) (c0 : Nat) (l0 : List (List Int)) (r : List (List Int)) (w : World) (hr0 : Kd.C (Kd.slice 3 (Kd.int .i64)) w A0 l0.length l0) (hc0 : l0.length ≤ c0) (h : Zbe.f k l0 = some r) :
  Calls Tryz.prog 28 #[.slice A0 l0.length c0] w fun e w'=>∃v0_:Value,e= .returned (v0_)∧Kd.S (Kd.slice 3 (Kd.int .i64)) 24 w' w.heap.size (fun _=>True) v0_ r∧Below w.heap.size w w':=by
 have HR0:=Za.mk hr0;have HC0:=Za.mk hc0;clear hr0 hc0;have HB:=Za.mk (Below.refl w.heap.size w);have H:(Zbe.l0 k l0 (([]:List (List Int))) 0)=some r:=h;clear h;obtain⟨y101,hy101⟩:∃y_:List (List Int),y_=(([]:List (List Int))):=⟨_,rfl⟩;replace H:(Zbe.l0 k l0 y101 0)=some r:=by first|(rw[hy101];with_reducible exact H)|(have H2_:=(Option.bind_some _ _).symm.trans H;rw[hy101];with_reducible exact H2_)|(have H2_:=(Option.bind_some _ _).symm.trans H;with_reducible exact H2_)|with_reducible exact H|(rw[hy101];exact H)|exact H
 have Vz:=Za.mk hy101;clear hy101;have H':=Za.mk H;clear H;go_enter Tryz.func28,Tryz.ntmps28
 go_wp2_with (first|((with_reducible refine Zap (N:=5) rfl ?_);refine Kd.S_lit (Kd.slice 3 (Kd.int .i64)) _ 24 ?hg (N:=5) ?hd (xs:=([]:List (List Int))) (inner:= []) (ok:=fun _=>True) (okp:=fun _=>True) ?hr ?hp (fun _ hk=>hk) trivial (Below.refl _ _) (Nat.le_refl _) (by simp) ?_;(case hd=>rfl);(case hg=>rfl);(case hr=>first|(go_simp;done)|(go_simp;rfl));(case hp=>exact(Reps.none _ _));intro tHa w2 ho3 hb hg_ hnew_;clear hg_ hnew_;(first|rw[←Vz.out]at ho3|(simp only[Int.reduceToNat]at ho3;rw[←Vz.out]at ho3));have bRa:=Za.mk (Kd.Zfg ho3 (Zaj (bM HB.out)));replace HB:=Za.mk (bS HB.out hb);clear hb ho3))
 go_loopg [3,4] k (fun kq v3 v4 w'=>∃(ah:List (List Int)) (az:Int),v4= .int .i64 az∧Za (Zbe.l0 kq l0 ah az=some r)∧Za (kq≤k)∧Za (Kd.S (Kd.slice 3 (Kd.int .i64)) 24 w' w.heap.size (fun _=>True) v3 ah)∧Za (Below w.heap.size w w'))
 case atStart=>exact⟨(y101),(0),eS,H',⟨Nat.le_refl _⟩,⟨sM bRa.out⟩,⟨bM HB.out⟩⟩
 case round=>
  clear H';try clear c2
  try clear p2
  obtain⟨ah,az,rfl,HA,HK1,bL,HB⟩:=hrel
  cases gk with
  | zero => exact absurd HA.out (by simp [Zbe.l0])
  |succ k1=>
   have H:=HA.out;clear HA;simp only[Zbe.l0]at H;by_cases c4:az<(l0.length:Int)
   case neg=>
    rw[if_neg c4]at H;have dV:decide (az<(l0.length:Int))=false:=decide_eq_false c4;clear c4;obtain rfl:=sj H;go_wp2;go_ret;exact⟨_,eR,sM bL.out,bM HB.out⟩
   rw[if_pos c4]at H;have dV:decide (az<(l0.length:Int))=true:=decide_eq_true c4;clear c4;obtain⟨y104,hy104⟩:∃y_:List Int,y_=(([]:List Int)):=⟨_,rfl⟩;replace H:(if 0≤az then(if y104.length+(Zca l0 az).length<17592186044416 then(if ah.length<5864062014805 then(Zbe.l0 k1 l0 (ah++ [(y104++(Zca l0 az))]) (wrap64 (az+1)))else(none))else(none))else(none))=some r:=by first|(rw[hy104];with_reducible exact H)|(have H2_:=(Option.bind_some _ _).symm.trans H;rw[hy104];with_reducible exact H2_)|(have H2_:=(Option.bind_some _ _).symm.trans H;with_reducible exact H2_)|with_reducible exact H|(rw[hy104];exact H)|exact H
   have V3:=Za.mk hy104;clear hy104;obtain⟨dS,H⟩:=ifT H;obtain⟨c6,H⟩:=ifP H;have TH:=Za.mk c6;clear c6;obtain⟨NB,Ie⟩:∃y_:List Int,y_=(y104++(Zca l0 az)):=⟨_,rfl⟩;replace H:(if ah.length<5864062014805 then(Zbe.l0 k1 l0 (ah++ [NB]) (wrap64 (az+1)))else(none))=some r:=by first|(rw[Ie];with_reducible exact H)|(have H2_:=(Option.bind_some _ _).symm.trans H;rw[Ie];with_reducible exact H2_)|(have H2_:=(Option.bind_some _ _).symm.trans H;with_reducible exact H2_)|with_reducible exact H|(rw[Ie];exact H)|exact H
   have cua:=Za.mk Ie;clear Ie;obtain⟨c7,H⟩:=ifP H;have M6:=Za.mk c7;clear c7;obtain⟨b3a,Ig⟩:∃y_:List (List Int),y_=(ah++ [NB]):=⟨_,rfl⟩;replace H:(Zbe.l0 k1 l0 b3a (wrap64 (az+1)))=some r:=by first|(rw[Ig];with_reducible exact H)|(have H2_:=(Option.bind_some _ _).symm.trans H;rw[Ig];with_reducible exact H2_)|(have H2_:=(Option.bind_some _ _).symm.trans H;with_reducible exact H2_)|with_reducible exact H|(rw[Ig];exact H)|exact H
   have cva:=Za.mk Ig;clear Ig;have H':=Za.mk H;clear H
   go_wp2_with (first|((with_reducible refine Zap (N:=13) rfl ?_);refine Kd.Zdf (Kd.int .i64) _ 3 ?hg (N:=13) ?hd (xs:=([]:List Int)) (inner:= []) (ok:=fun _=>True) (okp:=fun _=>True) ?hr ?hp (fun _ hk=>hk) trivial (Below.refl _ _) (Nat.le_refl _) (by simp) ?_;(case hd=>rfl);(case hg=>rfl);(case hr=>first|(go_simp;done)|(go_simp;rfl));(case hp=>exact(Reps.none _ _));intro v105 w8 ho9 hb hg_ hnew_;clear hg_ hnew_;(first|rw[←V3.out]at ho9|(simp only[Int.reduceToNat]at ho9;rw[←V3.out]at ho9));replace bL:=Za.mk (Kd.Zek (sM bL.out) (Kd.Zb4 ho9) hb);have Vl:=Za.mk (Kd.Zbp ho9 (Zaj (bM HB.out)));replace HB:=Za.mk (bS HB.out hb);clear hb ho9;have Uo:0≤(az:Int):=odt;have U4:az<(l0.length:Int):=odt;obtain⟨lca,jBa,jEa,hYa,OL,O0,Oc⟩:=Ze6 HR0.out az Uo U4;cases hYa;replace OL:=hB HB.out OL;have XH:=Za.mk Oc;have j0a:=Za.mk O0;clear Oc O0;replace Uo:=eq_true Uo;replace U4:=eq_true U4)|((with_reducible refine Zbk (b:= .append) (xs:=#[.tmp 13,.tmp 17]) rfl ?_);at_builtin;refine Kd.Zcx (Kd.int .i64) (w0:=w) w.heap.size rfl (.tmp 13) (.tmp 17) 24 3 (.int .i64 0) 8 rfl Tryz.underlying24 info3 rfl (by decide) (by omega) v105 y104 (Zca l0 az) _ _ _ (fun _=>True) (fun _=>False) rfl rfl ?aO ?aR (fun _ _ h=>h) (fun _ h=>h.elim) ?aF ?aB ?aS ?aL ?_;(case aR=>repeat(first|exact(Kd.Zaf XH.out HB.out)|(with_reducible refine Kd.C_alloc ?_ _)|(with_reducible refine Kd.Zcm ?_ _)|(with_reducible refine Kd.C_drew ?_)));(case aB=>exact(bM HB.out));(case aF=>exact(fun _ _=>trivial));(case aO=>exact(rM Vl.out));(case aS=>exact(Zaj (bM HB.out)));(case aL=>have:=TH.out;omega);intro v109 w10 ho hb hg hat;rw[←cua.out]at ho;replace bL:=Za.mk (Kd.S_after (ok:=(fun _=>True)) (sM bL.out) hg hat);replace HB:=Za.mk (hb);have KL:=Za.mk (ho);clear Vl;clear ho hb hg hat;obtain⟨lm,lw,BM⟩:=Kd.Za9 KL.out;subst BM)|((with_reducible refine Zbk (b:= .append) (xs:=#[.tmp 12,.tmp 19]) rfl ?_);at_builtin;refine Kd.Zf8 (Kd.slice 3 (Kd.int .i64)) (w0:=w) w.heap.size rfl (.tmp 12) (.tmp 19) 38 24 (.slice none 0 0) 24 rfl Tryz.underlying38 info24 rfl (by decide) (by omega) u3 ah NB [.slice lm NB.length lw] (fun _=>True) (fun k_=>some k_=(.slice lm NB.length lw:Value).ownBlock) rfl rfl ?aP (fun k_ hk_=>((Kd.Zaw (ok':=fun k_=>((fun _=>True)) k_∧some k_≠(u3:Value).ownBlock) (Kd.Zcp (KL.out) (Kd.Zda bL.out) (by decide)) (fun k_ hk=>⟨trivial,hk.2⟩))).1 k_ hk_.symm) ?aF ?aO ?aB ?aS ?aL ?_;(case aP=>exact Kd.M_row (Kd.Zaw (Kd.Zdr rfl (Kd.Zaw (ok':=fun k_=>((fun _=>True)) k_∧some k_≠(u3:Value).ownBlock) (Kd.Zcp (KL.out) (Kd.Zda bL.out) (by decide)) (fun k_ hk=>⟨trivial,hk.2⟩))) (fun _ h_=>h_)));(case aB=>exact(bM HB.out));(case aF=>exact(fun _ _=>trivial));(case aO=>exact(sM (Kd.Zcu bL.out (fun k_ hk=>⟨trivial,fun e_=>hk.2 e_⟩))));(case aS=>exact(Zaj (bM HB.out)));(case aL=>have:=M6.out;omega);intro tIa w11 ho hb hg hat;rw[←cva.out]at ho;replace HB:=Za.mk (hb);have bSa:=Za.mk (ho);clear bL KL;clear ho hb hg hat))
   go_roundg k1
   case measure=>have:=HK1.out;omega
   case rel=>exact⟨(b3a),(wrap64 (az+1)),eS,H',⟨by have:=HK1.out;omega⟩,⟨sM bSa.out⟩,⟨bM HB.out⟩⟩
def Zb3.f (k:Nat) (bB:Int) (aa:List Int) (aT:List Int) (bz:Int) (bG:Int) (aW:List (List Int)) (bH:Int):Option (Int × List Int × List Int × Int × Int × (List (List Int)) × Int):=(some (([]:List Int):List Int)).bind fun xm=>(if xm.length+aa.length<17592186044416 then((some (([]:List Int):List Int)).bind fun qF=>(if qF.length+aT.length<17592186044416 then((Zbe.f k aW).bind fun mo=>(some (bB,(xm++aa),(qF++aT),bz,bG,mo,bH)))else(none)))else(none))
set_option maxRecDepth 100000 in
theorem Zb3.calls (k : Nat) (bB : Int) (aI : Option Addr) (aG : Nat) (aa : List Int) (dJ : Option Addr) (dK : Nat) (aT : List Int) (bz : Int) (bG : Int) (dI : Option Addr) (dH : Nat) (aW : List (List Int)) (bH : Int) (r1 : Int) (r2 : List Int) (r3 : List Int) (r4 : Int) (r5 : Int) (r6 : List (List Int)) (r7 : Int) (w : World) (eO : Kd.C (Kd.int .i64) w aI aa.length aa) (eH : aa.length ≤ aG) (kE : Kd.C (Kd.int .i64) w dJ aT.length aT) (kw : aT.length ≤ dK) (kJ : Kd.C (Kd.slice 3 (Kd.int .i64)) w dI aW.length aW) (kD : aW.length ≤ dH) (h : Zb3.f k bB aa aT bz bG aW bH = some (r1, r2, r3, r4, r5, r6, r7)) :
  Calls Tryz.prog 10 #[.agg #[.int .i64 bB,.slice aI aa.length aG,.slice dJ aT.length dK,.int .i64 bz,.int .i64 bG,.slice dI aW.length dH,.int .i64 bH]] w fun e w'=>∃v1_ v2_ v5_:Value,e= .returned (.agg #[.int .i64 r1,v1_,v2_,.int .i64 r4,.int .i64 r5,v5_,.int .i64 r7])∧Kd.R (Kd.int .i64) 3 w' w.heap.size (fun k_=>some k_≠(v2_:Value).ownBlock) v1_ r2∧Kd.R (Kd.int .i64) 3 w' w.heap.size (fun k_=>some k_≠(v1_:Value).ownBlock) v2_ r3∧Kd.S (Kd.slice 3 (Kd.int .i64)) 24 w' w.heap.size (fun k_=>some k_≠(v1_:Value).ownBlock∧some k_≠(v2_:Value).ownBlock) v5_ r6∧Below w.heap.size w w':=by
 have hu40:=Tryz.underlying40;have fE:=Za.mk eO;have gU:=Za.mk eH;clear eO eH;have nL:=Za.mk kE;have oG:=Za.mk kw;clear kE kw;have lS:=Za.mk kJ;have qN:=Za.mk kD;clear kJ kD;have HB:=Za.mk (Below.refl w.heap.size w);have H:((some (([]:List Int):List Int)).bind fun xm=>(if xm.length+aa.length<17592186044416 then((some (([]:List Int):List Int)).bind fun qF=>(if qF.length+aT.length<17592186044416 then((Zbe.f k aW).bind fun mo=>(some (bB,(xm++aa),(qF++aT),bz,bG,mo,bH)))else(none)))else(none)))=some (r1,r2,r3,r4,r5,r6,r7):=h;clear h;obtain⟨xm,Ih⟩:∃y_:List Int,y_=(([]:List Int)):=⟨_,rfl⟩;replace H:(if xm.length+aa.length<17592186044416 then((some (([]:List Int):List Int)).bind fun qF=>(if qF.length+aT.length<17592186044416 then((Zbe.f k aW).bind fun mo=>(some (bB,(xm++aa),(qF++aT),bz,bG,mo,bH)))else(none)))else(none))=some (r1,r2,r3,r4,r5,r6,r7):=by first|(rw[Ih];with_reducible exact H)|(have H2_:=(Option.bind_some _ _).symm.trans H;rw[Ih];with_reducible exact H2_)|(have H2_:=(Option.bind_some _ _).symm.trans H;with_reducible exact H2_)|with_reducible exact H|(rw[Ih];exact H)|exact H
 have V4:=Za.mk Ih;clear Ih;by_cases c2:xm.length+aa.length<17592186044416
 case neg=>
  rw[if_neg c2]at H;exact absurd H (by simp)
 rw[if_pos c2]at H;have Bz:=Za.mk c2;clear c2;obtain⟨nT,Ii⟩:∃y_:List Int,y_=(xm++aa):=⟨_,rfl⟩;replace H:((some (([]:List Int):List Int)).bind fun qF=>(if qF.length+aT.length<17592186044416 then((Zbe.f k aW).bind fun mo=>(some (bB,nT,(qF++aT),bz,bG,mo,bH)))else(none)))=some (r1,r2,r3,r4,r5,r6,r7):=by first|(rw[Ii];with_reducible exact H)|(have H2_:=(Option.bind_some _ _).symm.trans H;rw[Ii];with_reducible exact H2_)|(have H2_:=(Option.bind_some _ _).symm.trans H;with_reducible exact H2_)|with_reducible exact H|(rw[Ii];exact H)|exact H
 have cwa:=Za.mk Ii;clear Ii;obtain⟨qF,Ij⟩:∃y_:List Int,y_=(([]:List Int)):=⟨_,rfl⟩;replace H:(if qF.length+aT.length<17592186044416 then((Zbe.f k aW).bind fun mo=>(some (bB,nT,(qF++aT),bz,bG,mo,bH)))else(none))=some (r1,r2,r3,r4,r5,r6,r7):=by first|(rw[Ij];with_reducible exact H)|(have H2_:=(Option.bind_some _ _).symm.trans H;rw[Ij];with_reducible exact H2_)|(have H2_:=(Option.bind_some _ _).symm.trans H;with_reducible exact H2_)|with_reducible exact H|(rw[Ij];exact H)|exact H
 have V5:=Za.mk Ij;clear Ij;obtain⟨c3,H⟩:=ifP H;have Qf:=Za.mk c3;clear c3;obtain⟨rA,Ik⟩:∃y_:List Int,y_=(qF++aT):=⟨_,rfl⟩;replace H:((Zbe.f k aW).bind fun mo=>(some (bB,nT,rA,bz,bG,mo,bH)))=some (r1,r2,r3,r4,r5,r6,r7):=by first|(rw[Ik];with_reducible exact H)|(have H2_:=(Option.bind_some _ _).symm.trans H;rw[Ik];with_reducible exact H2_)|(have H2_:=(Option.bind_some _ _).symm.trans H;with_reducible exact H2_)|with_reducible exact H|(rw[Ik];exact H)|exact H
 have cxa:=Za.mk Ik;clear Ik;obtain⟨mo,A4,H⟩:=bnd H;replace H:(some (bB,nT,rA,bz,bG,mo,bH))=some (r1,r2,r3,r4,r5,r6,r7):=H;simp only[Option.some.injEq,Prod.mk.injEq]at H;obtain⟨rfl,rfl,rfl,rfl,rfl,rfl,rfl⟩:=H;go_enter Tryz.func10,Tryz.ntmps10
 go_wp2_with (first|((with_reducible refine Zap (N:=1) rfl ?_);refine bx 1 #[.int .i64 bB,.slice aI aa.length aG,.slice dJ aT.length dK,.int .i64 bz,.int .i64 bG,.slice dI aW.length dH,.int .i64 bH] 40 ?_;intro oO hg w5 hbox hb;have ik:=Za.mk (hbox);have k8a:=Za.mk ((gE hg HB.out:w.heap.size≤oO));replace HB:=Za.mk (bS HB.out hb);clear hb hbox hg)|((with_reducible refine Zap (N:=2) rfl ?_);refine bx 2 #[.int .i64 0,.slice none 0 0,.slice none 0 0,.int .i64 0,.int .i64 0,.slice none 0 0,.int .i64 0] 40 ?_;intro iY hg w6 hbox hb;have mH:=Za.mk (hbox);have k9a:=Za.mk ((gE hg HB.out:w.heap.size≤iY));replace HB:=Za.mk (bS HB.out hb);have Ta:=Za.mk ((by rw[hg];exact Nat.ne_of_lt (Zbj (kM ik.out)):oO≠iY));have xy:=Za.mk ((by rw[hg];exact Nat.ne_of_gt (Zbj (kM ik.out)):iY≠oO));replace ik:=Za.mk (kB ik.out hb);clear hb hbox hg)|((with_reducible refine Zap (N:=3) rfl ?_);refine Kd.Zdf (Kd.int .i64) _ 3 ?hg (N:=3) ?hd (xs:=([]:List Int)) (inner:= []) (ok:=fun _=>True) (okp:=fun _=>True) ?hr ?hp (fun _ hk=>hk) trivial (Below.refl _ _) (Nat.le_refl _) (by simp) ?_;(case hd=>rfl);(case hg=>rfl);(case hr=>first|(go_simp;done)|(go_simp;rfl));(case hp=>exact(Reps.none _ _));intro v117 w7 ho8 hb hg_ hnew_;clear hg_ hnew_;(first|rw[←V4.out]at ho8|(simp only[Int.reduceToNat]at ho8;rw[←V4.out]at ho8));have KM:=Za.mk (Kd.Zbp ho8 (Zaj (bM HB.out)));replace ik:=Za.mk (kB ik.out hb);replace mH:=Za.mk (kB mH.out hb);replace HB:=Za.mk (bS HB.out hb);clear hb ho8;have a4a:=Ta.out;have a5a:=xy.out;obtain⟨qy,qz,q8,qW,qX,CF,CJ,qp,qw,qx,qU,qV,Cf,Cg⟩:=cz7 ik.out)|((with_reducible refine Zbk (b:= .append) (xs:=#[.tmp 3,.tmp 5]) rfl ?_);at_builtin;refine Kd.Zcx (Kd.int .i64) (w0:=w) w.heap.size rfl (.tmp 3) (.tmp 5) 24 3 (.int .i64 0) 8 rfl Tryz.underlying24 info3 rfl (by decide) (by omega) v117 xm aa _ _ _ (fun _=>True) (fun _=>False) rfl rfl ?aO ?aR (fun _ _ h=>h) (fun _ h=>h.elim) ?aF ?aB ?aS ?aL ?_;(case aR=>repeat(first|exact(Kd.Zaf fE.out HB.out)|(with_reducible refine Kd.C_alloc ?_ _)|(with_reducible refine Kd.Zcm ?_ _)|(with_reducible refine Kd.C_drew ?_)));(case aB=>exact(bM HB.out));(case aF=>exact(fun _ _=>trivial));(case aO=>exact(rM KM.out));(case aS=>exact(Zaj (bM HB.out)));(case aL=>have:=Bz.out;omega);intro tJa w11 ho hb hg hat;rw[←cwa.out]at ho;replace ik:=Za.mk (kG ik.out hg (Kd.R_ne KM.out ik.out (by decide)));replace mH:=Za.mk (kG mH.out hg (Kd.R_ne KM.out mH.out (by decide)));replace HB:=Za.mk (hb);have sH:=Za.mk (ho);clear KM;clear ho hb hg hat;obtain⟨lm,lw,BM⟩:=Kd.Za9 sH.out;subst BM;obtain⟨LX,LY,Ma,Mc,Md,fLa,fMa,Ls,Lt,Lu,Lv,Lx,eea,efa⟩:=cz7 ik.out)|((with_reducible refine Zap (N:=8) rfl ?_);refine Kd.Zdf (Kd.int .i64) _ 3 ?hg (N:=8) ?hd (xs:=([]:List Int)) (inner:= []) (ok:=fun _=>True) (okp:=fun _=>True) ?hr ?hp (fun _ hk=>hk) trivial (Below.refl _ _) (Nat.le_refl _) (by simp) ?_;(case hd=>rfl);(case hg=>rfl);(case hr=>first|(go_simp;done)|(go_simp;rfl));(case hp=>exact(Reps.none _ _));intro jia w14 JP hb hg_ hnew_;clear hg_ hnew_;(first|rw[←V5.out]at JP|(simp only[Int.reduceToNat]at JP;rw[←V5.out]at JP));have KN:=Za.mk (Kd.Zbp (Kd.Zcs JP (Kd.R_lt (rM (Kd.Zaw (Kd.Za2 (p:=⟨oO,1,none⟩) (Kd.Zbh sH.out ik.out (by decide)) (fun _ hk=>hk.2) (.slice lm nT.length lw)) (fun _ h_=>h_.1))))) (Zaj (bM HB.out)));replace sH:=Za.mk (Kd.Zce (rM (Kd.Zaw (Kd.Za2 (p:=⟨oO,1,none⟩) (Kd.Zbh sH.out ik.out (by decide)) (fun _ hk=>hk.2) (.slice lm nT.length lw)) (fun _ h_=>h_.1))) (Kd.Zb4 JP) hb);replace ik:=Za.mk (Zbz (g:=oO) (o:= .cells #[.int .i64 bB,.slice lm nT.length lw,.slice dJ aT.length dK,.int .i64 bz,.int .i64 bG,.slice dI aW.length dH,.int .i64 bH] 40 (0,0)) (by(with_reducible repeat(first|refine Zab ?_ _|refine Zad ?_|refine Zaa ?_ _));refine Zas (cs:=#[.int .i64 bB,.slice aI aa.length aG,.slice dJ aT.length dK,.int .i64 bz,.int .i64 bG,.slice dI aW.length dH,.int .i64 bH]) ?_ 1 _ rfl;(with_reducible repeat(first|refine Zab ?_ _|refine Zad ?_|refine Zaa ?_ _));exact ik.out) hb);replace mH:=Za.mk (Zbz (g:=iY) (o:= .cells #[.int .i64 0,.slice none 0 0,.slice none 0 0,.int .i64 0,.int .i64 0,.slice none 0 0,.int .i64 0] 40 (0,0)) (by(with_reducible repeat(first|refine Zab ?_ _|refine Zad ?_|refine Zaa ?_ _));refine Zav ?_ xy.out _;(with_reducible repeat(first|refine Zab ?_ _|refine Zad ?_|refine Zaa ?_ _));exact mH.out) hb);replace HB:=Za.mk (bS HB.out hb);clear hb JP;obtain⟨uL,uM,uN,vG,vH,Fy,Fz,uE,uF,uG,vE,vF,EY,Fa⟩:=cz7 ik.out)|((with_reducible refine Zbk (b:= .append) (xs:=#[.tmp 8,.tmp 10]) rfl ?_);at_builtin;refine Kd.Zcx (Kd.int .i64) (w0:=w) w.heap.size rfl (.tmp 8) (.tmp 10) 24 3 (.int .i64 0) 8 rfl Tryz.underlying24 info3 rfl (by decide) (by omega) jia qF aT _ _ _ (fun k_=>some k_≠(.slice lm nT.length lw:Value).ownBlock) (fun _=>False) rfl rfl ?aO ?aR (fun _ _ h=>h) (fun _ h=>h.elim) ?aF ?aB ?aS ?aL ?_;(case aR=>repeat(first|exact(Kd.Zaf nL.out HB.out)|(with_reducible refine Kd.C_alloc ?_ _)|(with_reducible refine Kd.Zcm ?_ _)|(with_reducible refine Kd.C_drew ?_)));(case aB=>exact(bM HB.out));(case aF=>exact(fun k_ hk=>Kd.fresh' (Kd.R_lt (rM sH.out)) k_ hk));(case aO=>exact(rM (Kd.Zaw KN.out (fun _ hk=>hk.2))));(case aS=>exact(Zaj (bM HB.out)));(case aL=>have:=Qf.out;omega);intro tKa w17 ho hb hg hat;rw[←cxa.out]at ho;replace ik:=Za.mk (kG ik.out hg (Kd.R_ne KN.out ik.out (by decide)));replace mH:=Za.mk (kG mH.out hg (Kd.R_ne KN.out mH.out (by decide)));replace sH:=Za.mk (Kd.Zc8 (ok:=(fun _=>True)) (rM sH.out) hg hat);replace HB:=Za.mk (hb);have Ha:=Za.mk (ho);clear KN;clear ho hb hg hat;obtain⟨gT,gW,DY⟩:=Kd.Za9 Ha.out;subst DY;obtain⟨F4,F5,F6,F7,F8,fNa,fOa,Fe,Ff,Fg,Fh,Fj,ega,eha⟩:=cz7 ik.out)|((with_reducible refine Zat (f:=28) rfl ?_);refine gl 15 Tryz.func28 #[.slice dI aW.length dH] ?_;(with_reducible refine(Zbe.calls k _ _ aW mo _ (Kd.Zaf lS.out (bM HB.out)) qN.out A4.out).mono ?_);rintro e w20 ⟨tLa,rfl,ho0,hb⟩;refine⟨_,rfl,?_⟩;have Vm:=Za.mk (Kd.Zfg (Kd.S_new' (Kd.S_new' ho0 (Kd.R_lt (rM (Kd.Zaw (Kd.Za2 (p:=⟨oO,2,none⟩) (Kd.Zbh sH.out ik.out (by decide)) (fun _ hk=>hk.2) (.slice gT rA.length gW)) (fun _ h_=>h_.1))))) (Kd.R_lt (rM (Kd.Zaw (Kd.Za2 (p:=⟨oO,2,none⟩) (Kd.Zbh Ha.out ik.out (by decide)) (fun _ hk=>hk.2) (.slice gT rA.length gW)) (fun _ h_=>h_.1))))) (Zaj (bM HB.out)));replace sH:=Za.mk (Kd.Zbt (rM (Kd.Zaw (Kd.Za2 (p:=⟨oO,2,none⟩) (Kd.Zbh sH.out ik.out (by decide)) (fun _ hk=>hk.2) (.slice gT rA.length gW)) (fun _ h_=>h_.1))) hb);replace Ha:=Za.mk (Kd.Zbt (rM (Kd.Zaw (Kd.Za2 (p:=⟨oO,2,none⟩) (Kd.Zbh Ha.out ik.out (by decide)) (fun _ hk=>hk.2) (.slice gT rA.length gW)) (fun _ h_=>h_.1))) hb);replace ik:=Za.mk (Zbz (g:=oO) (o:= .cells #[.int .i64 bB,.slice lm nT.length lw,.slice gT rA.length gW,.int .i64 bz,.int .i64 bG,.slice dI aW.length dH,.int .i64 bH] 40 (0,0)) (by(with_reducible repeat(first|refine Zab ?_ _|refine Zad ?_|refine Zaa ?_ _));refine Zas (cs:=#[.int .i64 bB,.slice lm nT.length lw,.slice dJ aT.length dK,.int .i64 bz,.int .i64 bG,.slice dI aW.length dH,.int .i64 bH]) ?_ 2 _ rfl;(with_reducible repeat(first|refine Zab ?_ _|refine Zad ?_|refine Zaa ?_ _));exact ik.out) hb);replace mH:=Za.mk (Zbz (g:=iY) (o:= .cells #[.int .i64 0,.slice none 0 0,.slice none 0 0,.int .i64 0,.int .i64 0,.slice none 0 0,.int .i64 0] 40 (0,0)) (by(with_reducible repeat(first|refine Zab ?_ _|refine Zad ?_|refine Zaa ?_ _));refine Zav ?_ xy.out _;(with_reducible repeat(first|refine Zab ?_ _|refine Zad ?_|refine Zaa ?_ _));exact mH.out) hb);replace HB:=Za.mk (bS HB.out hb);(try clear hb);(try clear hb2);(try clear hk);(try clear hi);(try clear ho0);obtain⟨Dx,DT,ika⟩:=Kd.Zd7 Vm.out;subst ika;obtain⟨yz,yA,yB,yC,yD,qca,qda,xW,xX,xY,yc,yf,mNa,mOa⟩:=cz7 ik.out;obtain⟨Me,Mf,Mg,Sa,Sb,qea,qfa,L6,L9,LA,Rm,Rn,mPa,mQa⟩:=cz7 mH.out))
 refine bodyPost_ret (results_cell_row rfl _ _ iY 40 #[.int .i64 bB,.slice lm nT.length lw,.slice gT rA.length gW,.int .i64 bz,.int .i64 bG,.slice Dx mo.length DT,.int .i64 bH] (0,0) _ rfl (by(with_reducible repeat(first|refine Zab ?_ _|refine Zad ?_|refine Zaa ?_ _));refine Zas (cs:=#[.int .i64 bB,.slice lm nT.length lw,.slice gT rA.length gW,.int .i64 bz,.int .i64 bG,.slice Dx mo.length DT,.int .i64 0]) ?_ 6 _ rfl;(with_reducible repeat(first|refine Zab ?_ _|refine Zad ?_|refine Zaa ?_ _));refine Zas (cs:=#[.int .i64 bB,.slice lm nT.length lw,.slice gT rA.length gW,.int .i64 bz,.int .i64 bG,.slice none 0 0,.int .i64 0]) ?_ 5 _ rfl;(with_reducible repeat(first|refine Zab ?_ _|refine Zad ?_|refine Zaa ?_ _));refine Zas (cs:=#[.int .i64 bB,.slice lm nT.length lw,.slice gT rA.length gW,.int .i64 bz,.int .i64 0,.slice none 0 0,.int .i64 0]) ?_ 4 _ rfl;(with_reducible repeat(first|refine Zab ?_ _|refine Zad ?_|refine Zaa ?_ _));refine Zas (cs:=#[.int .i64 bB,.slice lm nT.length lw,.slice gT rA.length gW,.int .i64 0,.int .i64 0,.slice none 0 0,.int .i64 0]) ?_ 3 _ rfl;(with_reducible repeat(first|refine Zab ?_ _|refine Zad ?_|refine Zaa ?_ _));refine Zas (cs:=#[.int .i64 bB,.slice lm nT.length lw,.slice none 0 0,.int .i64 0,.int .i64 0,.slice none 0 0,.int .i64 0]) ?_ 2 _ rfl;(with_reducible repeat(first|refine Zab ?_ _|refine Zad ?_|refine Zaa ?_ _));refine Zas (cs:=#[.int .i64 bB,.slice none 0 0,.slice none 0 0,.int .i64 0,.int .i64 0,.slice none 0 0,.int .i64 0]) ?_ 1 _ rfl;(with_reducible repeat(first|refine Zab ?_ _|refine Zad ?_|refine Zaa ?_ _));refine Zas (cs:=#[.int .i64 0,.slice none 0 0,.slice none 0 0,.int .i64 0,.int .i64 0,.slice none 0 0,.int .i64 0]) ?_ 0 _ rfl;(with_reducible repeat(first|refine Zab ?_ _|refine Zad ?_|refine Zaa ?_ _));refine Zav ?_ xy.out _;(with_reducible repeat(first|refine Zab ?_ _|refine Zad ?_|refine Zaa ?_ _));exact mH.out) Tryz.underlying40 rfl (by kernel_rfl)) rfl ?_;exact⟨_,_,_,eR,rM (Kd.Zaw (Kd.Za2 (p:=⟨iY,6,none⟩) (Kd.Za2 (p:=⟨iY,5,none⟩) (Kd.Za2 (p:=⟨iY,4,none⟩) (Kd.Za2 (p:=⟨iY,3,none⟩) (Kd.Za2 (p:=⟨iY,2,none⟩) (Kd.Za2 (p:=⟨iY,1,none⟩) (Kd.Za2 (p:=⟨iY,0,none⟩) (Kd.Za2 (p:=⟨oO,5,none⟩) (Kd.Zbh (Kd.Zbh sH.out ik.out (by decide)) mH.out (by decide)) (fun _ hk=>hk.1.2) (.slice Dx mo.length DT)) (fun _ hk=>hk.2) (.int .i64 bB)) (fun _ hk=>hk.2) (.slice lm nT.length lw)) (fun _ hk=>hk.2) (.slice gT rA.length gW)) (fun _ hk=>hk.2) (.int .i64 bz)) (fun _ hk=>hk.2) (.int .i64 bG)) (fun _ hk=>hk.2) (.slice Dx mo.length DT)) (fun _ hk=>hk.2) (.int .i64 bH)) (fun _ hk=>hk.1.1.2)),rM (Kd.Zaw (Kd.Za2 (p:=⟨iY,6,none⟩) (Kd.Za2 (p:=⟨iY,5,none⟩) (Kd.Za2 (p:=⟨iY,4,none⟩) (Kd.Za2 (p:=⟨iY,3,none⟩) (Kd.Za2 (p:=⟨iY,2,none⟩) (Kd.Za2 (p:=⟨iY,1,none⟩) (Kd.Za2 (p:=⟨iY,0,none⟩) (Kd.Za2 (p:=⟨oO,5,none⟩) (Kd.Zbh (Kd.Zbh Ha.out ik.out (by decide)) mH.out (by decide)) (fun _ hk=>hk.1.2) (.slice Dx mo.length DT)) (fun _ hk=>hk.2) (.int .i64 bB)) (fun _ hk=>hk.2) (.slice lm nT.length lw)) (fun _ hk=>hk.2) (.slice gT rA.length gW)) (fun _ hk=>hk.2) (.int .i64 bz)) (fun _ hk=>hk.2) (.int .i64 bG)) (fun _ hk=>hk.2) (.slice Dx mo.length DT)) (fun _ hk=>hk.2) (.int .i64 bH)) (fun _ hk=>hk.1.1)),sM (Kd.Zcu (Kd.Zb2 (p:=⟨iY,6,none⟩) (Kd.Zb2 (p:=⟨iY,5,none⟩) (Kd.Zb2 (p:=⟨iY,4,none⟩) (Kd.Zb2 (p:=⟨iY,3,none⟩) (Kd.Zb2 (p:=⟨iY,2,none⟩) (Kd.Zb2 (p:=⟨iY,1,none⟩) (Kd.Zb2 (p:=⟨iY,0,none⟩) (Kd.Zb2 (p:=⟨oO,5,none⟩) (Kd.Zcy (Kd.Zcy Vm.out ik.out (by decide)) mH.out (by decide)) (fun _ hk=>hk.1.2) (.slice Dx mo.length DT)) (fun _ hk=>hk.2) (.int .i64 bB)) (fun _ hk=>hk.2) (.slice lm nT.length lw)) (fun _ hk=>hk.2) (.slice gT rA.length gW)) (fun _ hk=>hk.2) (.int .i64 bz)) (fun _ hk=>hk.2) (.int .i64 bG)) (fun _ hk=>hk.2) (.slice Dx mo.length DT)) (fun _ hk=>hk.2) (.int .i64 bH)) (fun _ hk=>⟨hk.1.1.1.2,hk.1.1.2⟩)),bM HB.out⟩
def cutR (l:List (List Int)):List (List Int):=(l.take 20).map fun r=>r.take 14
def bRows.f (l:List (List Int)):Option (List (List Int)):=some (cutR l)
mutual
def Zag.j1 : Nat → List (S37) → List (S40) → Int → List Int → List Int → List (S37) → Int → List Int → List Int → Option ((List (S37)) × (List (S40)) × Int × List Int × List Int)
 | 0, _, _, _, _, _, _, _, _, _ => none
 |k+1,iw,fV,om,jR,jS,mF,nz,oo,oq=>Zag.l1 k 0 iw fV om jR jS mF ([]:List (S40)) nz oo oq
def Zag.l1 : Nat → Int → List (S37) → List (S40) → Int → List Int → List Int → List (S37) → List (S40) → Int → List Int → List Int → Option ((List (S37)) × (List (S40)) × Int × List Int × List Int)
 | 0, _, _, _, _, _, _, _, _, _, _, _ => none
 |k+1,x6,iw,fV,om,jR,jS,mF,vY,nz,oo,oq=>if x6<(fV.length:Int)then(Zag.j3 k x6 (decide (x6<16)) iw fV om jR jS mF vY nz oo oq)else(Zag.j3 k x6 false iw fV om jR jS mF vY nz oo oq)
def Zag.j3 : Nat → Int → Bool → List (S37) → List (S40) → Int → List Int → List Int → List (S37) → List (S40) → Int → List Int → List Int → Option ((List (S37)) × (List (S40)) × Int × List Int × List Int)
 | 0, _, _, _, _, _, _, _, _, _, _, _, _ => none
 |k+1,x6,x59,iw,fV,om,jR,jS,mF,vY,nz,oo,oq=>if x59=true then(if 0≤x6 then(if x6<(fV.length:Int)then(if 0≤(mn (((Zac fV x6).f1).length:Int) 14)then(if(mn (((Zac fV x6).f1).length:Int) 14)≤(((Zac fV x6).f1).length:Int)then(if 0≤(mn (((Zac fV x6).f2).length:Int) 14)then(if(mn (((Zac fV x6).f2).length:Int) 14)≤(((Zac fV x6).f2).length:Int)then((bRows.f ((Zac fV x6).f5)).bind fun t167=>((Zb3.f k ((Zac fV x6).f0) (((Zac fV x6).f1).take ((mn (((Zac fV x6).f1).length:Int) 14):Int).toNat) (((Zac fV x6).f2).take ((mn (((Zac fV x6).f2).length:Int) 14):Int).toNat) ((Zac fV x6).f3) ((Zac fV x6).f4) t167 ((Zac fV x6).f6)).bind fun fM=>(if vY.length<1353245080339 then(Zag.l1 k (wrap64 (x6+1)) iw fV om jR jS mF (vY++ [(⟨fM.1,fM.2.1,fM.2.2.1,fM.2.2.2.1,fM.2.2.2.2.1,fM.2.2.2.2.2.1,fM.2.2.2.2.2.2⟩:S40)]) nz oo oq)else(none))))else(none))else(none))else(none))else(none))else(none))else(none))else((some (([]:List Int):List Int)).bind fun Ch=>(if 0≤(mn (jR.length:Int) 14)then(if(mn (jR.length:Int) 14)≤(jR.length:Int)then(if Ch.length+(jR.take ((mn (jR.length:Int) 14):Int).toNat).length<17592186044416 then((some (([]:List Int):List Int)).bind fun o9=>(if 0≤(mn (jS.length:Int) 14)then(if(mn (jS.length:Int) 14)≤(jS.length:Int)then(if o9.length+(jS.take ((mn (jS.length:Int) 14):Int).toNat).length<17592186044416 then(some (mF,vY,nz,(Ch++(jR.take ((mn (jR.length:Int) 14):Int).toNat)),(o9++(jS.take ((mn (jS.length:Int) 14):Int).toNat))))else(none))else(none))else(none)))else(none))else(none))else(none)))
def Zag.l0 : Nat → Int → List (S37) → List (S40) → Int → List Int → List Int → List (S37) → Int → List Int → List Int → Option ((List (S37)) × (List (S40)) × Int × List Int × List Int)
 | 0, _, _, _, _, _, _, _, _, _, _ => none
 |k+1,x4,iw,fV,om,jR,jS,mF,nz,oo,oq=>if x4<(iw.length:Int)then(if x4<10 then(if 0≤x4 then(if 0≤(mn (((Zaq iw x4).f0).size:Int) 20)then(if(mn (((Zaq iw x4).f0).size:Int) 20)≤(((Zaq iw x4).f0).size:Int)then((some (([]:List (S59)):List (S59))).bind fun tC=>(if 0≤(mn (((Zaq iw x4).f1).length:Int) 12)then(if(mn (((Zaq iw x4).f1).length:Int) 12)≤(((Zaq iw x4).f1).length:Int)then((some (((Zaq iw x4).f1).take ((mn (((Zaq iw x4).f1).length:Int) 12):Int).toNat:List (S59))).bind fun o8=>(if tC.length+o8.length<8796093022208 then(if mF.length<3518437208883 then(Zag.l0 k (wrap64 (x4+1)) iw fV om jR jS (mF++ [(⟨((Zaq iw x4).f0).extract 0 ((mn (((Zaq iw x4).f0).size:Int) 20):Int).toNat,(tC++o8)⟩:S37)]) nz oo oq)else(none))else(none)))else(none))else(none)))else(none))else(none))else(none))else(Zag.j1 k iw fV om jR jS mF nz oo oq))else(Zag.j1 k iw fV om jR jS mF nz oo oq)
end
def Zag.f (k:Nat) (ae:List (S37)) (aa:List (S40)) (aj:Int) (ak:List Int) (ai:List Int):Option ((List (S37)) × (List (S40)) × Int × List Int × List Int):=Zag.l0 k 0 ae aa aj ak ai ([]:List (S37)) aj ak ai
def Zag.T6:Bool × List (List Nat × List Nat):=(true,[([],[]),([0],[0]),([],[]),([2],[2]),([],[]),([4],[4]),([5],[5]),([6],[6]),([3,7],[3,7]),([],[]),([],[]),([10],[10]),([],[]),([12],[12]),([13],[13]),([14],[14]),([11,15],[11,15]),([9,16],[9,16]),([8,17],[8,17]),([18],[18]),([1,19,17],[1,19]),([0,1,2,3,4,5,6,7,8,9,10,11,12,13,14,15,16,17,18,19,20],[]),([21,20,20,0,1,2,3,4,5,6,7,8,9,10,11,12,13,14,15,16,17,18,19,20],[20,21])])
def Zag.B6:List Nat:= [0,1,0,4,0,16,48,112,252,0,0,1024,0,4096,12288,28672,64512,130560,262140,524284,1048575,2097151,4194303]
theorem Zag.tab6:rtab .any (opsOf Tryz.f4 6)=Zag.T6:=by kernel_rfl
theorem Zag.bits6:waitsOk Zag.T6.2 Zag.B6=true:=by kernel_rfl
def Zag.T17:Bool × List (List Nat × List Nat):=(true,[([],[]),([],[]),([1],[1]),([],[]),([2,3],[2,3]),([4],[4]),([],[]),([6],[6]),([],[]),([7,8],[7,8]),([9],[9]),([10],[10]),([11],[11]),([5,12],[5,12]),([13],[13]),([0,14],[0,14]),([15,15,0,1,2,3,4,5,6,7,8,9,10,11,12,13,14,15],[0,15])])
def Zag.B17:List Nat:= [0,0,2,0,14,30,0,64,0,448,960,1984,4032,8190,16382,32767,65535]
theorem Zag.tab17:rtab .any (opsOf Tryz.f4 17)=Zag.T17:=by kernel_rfl
theorem Zag.bits17:waitsOk Zag.T17.2 Zag.B17=true:=by kernel_rfl
def Zag.T19:Bool × List (List Nat × List Nat):=(true,[([],[]),([0],[0]),([],[]),([2],[2]),([3],[3]),([1,4,3],[1,4]),([0,1,2,3,4,5],[]),([6,5,5,0,1,2,3,4,5],[5,6])])
def Zag.B19:List Nat:= [0,1,0,4,12,31,63,127]
theorem Zag.tab19:rtab .any (opsOf Tryz.f4 19)=Zag.T19:=by kernel_rfl
theorem Zag.bits19:waitsOk Zag.T19.2 Zag.B19=true:=by kernel_rfl
set_option maxRecDepth 100000 in
theorem Zag.calls (k : Nat) (bF : Option Addr) (bv : Nat) (ae : List (S37)) (aI : Option Addr) (aG : Nat) (aa : List (S40)) (aj : Int) (bi : Option Addr) (bn : Nat) (ak : List Int) (bf : Option Addr) (bg : Nat) (ai : List Int) (r1 : List (S37)) (r2 : List (S40)) (r3 : Int) (r4 : List Int) (r5 : List Int) (w : World) (lC : Kd.C k37 w bF ae.length ae) (l8 : ae.length ≤ bv) (eO : Kd.C k40 w aI aa.length aa) (eH : aa.length ≤ aG) (kF : Kd.C (Kd.int .i64) w bi ak.length ak) (ky : ak.length ≤ bn) (kH : Kd.C (Kd.int .i64) w bf ai.length ai) (kz : ai.length ≤ bg) (h : Zag.f k ae aa aj ak ai = some (r1, r2, r3, r4, r5)) :
  Calls Tryz.prog 4 #[.agg #[.slice bF ae.length bv,.slice aI aa.length aG,.int .i64 aj,.slice bi ak.length bn,.slice bf ai.length bg]] w fun e w'=>∃v0_ v1_ v3_ v4_:Value,e= .returned (.agg #[v0_,v1_,.int .i64 r3,v3_,v4_])∧Kd.S k37 37 w' w.heap.size (fun _=>True) v0_ r1∧Kd.R k40 40 w' w.heap.size (fun k_=>some k_≠(v3_:Value).ownBlock∧some k_≠(v4_:Value).ownBlock) v1_ r2∧Kd.R (Kd.int .i64) 3 w' w.heap.size (fun k_=>some k_≠(v4_:Value).ownBlock) v3_ r4∧Kd.R (Kd.int .i64) 3 w' w.heap.size (fun k_=>some k_≠(v3_:Value).ownBlock) v4_ r5∧Below w.heap.size w w':=by
 have hu28:=Tryz.underlying28;have hu26:=Tryz.underlying26;have hu37:=Tryz.underlying37;have hu40:=Tryz.underlying40;have gV:=Za.mk lC;have uA:=Za.mk l8;clear lC l8;have fE:=Za.mk eO;have gU:=Za.mk eH;clear eO eH;have kr:=Za.mk kF;have lI:=Za.mk ky;clear kF ky;have lh:=Za.mk kH;have lJ:=Za.mk kz;clear kH kz;have HB:=Za.mk (Below.refl w.heap.size w);have H:(Zag.l0 k 0 ae aa aj ak ai ([]:List (S37)) aj ak ai)=some (r1,r2,r3,r4,r5):=h;clear h;have HC2:=Za.mk H;clear H;go_enter Tryz.func4,Tryz.ntmps4
 go_upto_block 0 with (first|((with_reducible refine Zap (N:=1) rfl ?_);refine bx 1 #[.slice bF ae.length bv,.slice aI aa.length aG,.int .i64 aj,.slice bi ak.length bn,.slice bf ai.length bg] 28 ?_;intro kT hg w3 hbox hb;have cz:=Za.mk (hbox);have GW131:=Za.mk ((gE hg HB.out:w.heap.size≤kT));have bJa:=Za.mk ((gE hg HB.out:w.heap.size≤kT));replace HB:=Za.mk (bS HB.out hb);clear hb hbox hg)|((with_reducible refine Zap (N:=2) rfl ?_);refine bx 2 #[.slice none 0 0,.slice none 0 0,.int .i64 0,.slice none 0 0,.slice none 0 0] 28 ?_;intro fC hg w4 hbox hb;have di:=Za.mk (hbox);have GW132:=Za.mk ((gE hg HB.out:w.heap.size≤fC));have bKa:=Za.mk ((gE hg HB.out:w.heap.size≤fC));replace HB:=Za.mk (bS HB.out hb);have nJ:=Za.mk ((by rw[hg];exact Nat.ne_of_lt (Zbj (kM cz.out)):kT≠fC));have nK:=Za.mk ((by rw[hg];exact Nat.ne_of_gt (Zbj (kM cz.out)):fC≠kT));replace cz:=Za.mk (kB cz.out hb);clear hb hbox hg;have t2a:=nJ.out;have t4a:=nK.out;obtain⟨nH,nI,nW,qI,qJ,nE,nG,nV,qG,qH⟩:=cz5 cz.out)|((with_reducible refine Zap (N:=3) rfl ?_);refine bx 3 #[.slice none 0 0,.slice none 0 0,.int .i64 0,.slice none 0 0,.slice none 0 0] 28 ?_;intro fq hg w7 hbox hb;have aY:=Za.mk (hbox);have GW133:=Za.mk ((gE hg HB.out:w.heap.size≤fq));have bLa:=Za.mk ((gE hg HB.out:w.heap.size≤fq));replace HB:=Za.mk (bS HB.out hb);have gI:=Za.mk ((by rw[hg];exact Nat.ne_of_lt (Zbj (kM cz.out)):kT≠fq));have lW:=Za.mk ((by rw[hg];exact Nat.ne_of_gt (Zbj (kM cz.out)):fq≠kT));replace cz:=Za.mk (kB cz.out hb);have jM:=Za.mk ((by rw[hg];exact Nat.ne_of_lt (Zbj (kM di.out)):fC≠fq));have xz:=Za.mk ((by rw[hg];exact Nat.ne_of_gt (Zbj (kM di.out)):fq≠fC));replace di:=Za.mk (kB di.out hb);clear hb hbox hg;have t3a:=lW.out;have t5a:=gI.out;have a4a:=xz.out;have a5a:=jM.out;obtain⟨qy,qz,q8,qW,qX,qp,qw,qx,qU,qV⟩:=cz5 aY.out))
 (try simp only[Act.put,List.setIfInBounds_toArray,List.set_cons_zero,List.set_cons_succ])
 go_cut [] (fun wc=>∃(kq:Nat) (bR:List (S37)) (fo:Value),Za (Zag.j1 kq ae aa aj ak ai bR aj ak ai=some (r1,r2,r3,r4,r5))∧Za (kq≤k)∧Za (Kd.S k37 37 wc w.heap.size (fun _=>True) fo bR)∧Za (wc.heap[kT]? =some (.cells #[(.slice bF ae.length bv),(.slice aI aa.length aG),.int .i64 aj,(.slice bi ak.length bn),(.slice bf ai.length bg)] 28 (0,0)))∧Za (wc.heap[fC]? =some (.cells #[(.slice none 0 0),(.slice none 0 0),.int .i64 0,(.slice none 0 0),(.slice none 0 0)] 28 (0,0)))∧Za (wc.heap[fq]? =some (.cells #[fo,(.slice none 0 0),.int .i64 aj,(.slice bi ak.length bn),(.slice bf ai.length bg)] 28 (0,0)))∧Za (Below w.heap.size w wc))
 case first=>
  have H:=HC2.out;clear HC2;have H':=Za.mk H;clear H;go_wp2
  go_loopg [4] k (fun kq v4 w'=>∃(az:Int) (bR:List (S37)) (fo:Value),v4= .int .i64 az∧Za (Zag.l0 kq az ae aa aj ak ai bR aj ak ai=some (r1,r2,r3,r4,r5))∧Za (kq≤k)∧Za (Kd.S k37 37 w' w.heap.size (fun _=>True) fo bR)∧Za (w'.heap[kT]? =some (.cells #[(.slice bF ae.length bv),(.slice aI aa.length aG),.int .i64 aj,(.slice bi ak.length bn),(.slice bf ai.length bg)] 28 (0,0)))∧Za (w'.heap[fC]? =some (.cells #[(.slice none 0 0),(.slice none 0 0),.int .i64 0,(.slice none 0 0),(.slice none 0 0)] 28 (0,0)))∧Za (w'.heap[fq]? =some (.cells #[fo,(.slice none 0 0),.int .i64 aj,(.slice bi ak.length bn),(.slice bf ai.length bg)] 28 (0,0)))∧Za (Below w.heap.size w w'))
  case atStart=>exact⟨(0),(([]:List (S37))),(.slice none 0 0),eS,H',⟨Nat.le_refl _⟩,⟨by first|exact Kd.Zge _ _ _ _ _|exact Kd.N_nil _ _ _ _ _|exact Kd.Zey _ _ _ _ _|exact Kd.Q_nil _ _ _ _ _|exact Kd.Zfk _ _ _ _ _⟩,⟨by(with_reducible repeat(first|refine Zab ?_ _|refine Zad ?_|refine Zaa ?_ _));refine Zav ?_ gI.out _;(with_reducible repeat(first|refine Zab ?_ _|refine Zad ?_|refine Zaa ?_ _));refine Zav ?_ gI.out _;(with_reducible repeat(first|refine Zab ?_ _|refine Zad ?_|refine Zaa ?_ _));refine Zav ?_ gI.out _;(with_reducible repeat(first|refine Zab ?_ _|refine Zad ?_|refine Zaa ?_ _));refine Zav ?_ gI.out _;(with_reducible repeat(first|refine Zab ?_ _|refine Zad ?_|refine Zaa ?_ _));refine Zav ?_ gI.out _;(with_reducible repeat(first|refine Zab ?_ _|refine Zad ?_|refine Zaa ?_ _));exact cz.out⟩,⟨by(with_reducible repeat(first|refine Zab ?_ _|refine Zad ?_|refine Zaa ?_ _));refine Zav ?_ jM.out _;(with_reducible repeat(first|refine Zab ?_ _|refine Zad ?_|refine Zaa ?_ _));refine Zav ?_ jM.out _;(with_reducible repeat(first|refine Zab ?_ _|refine Zad ?_|refine Zaa ?_ _));refine Zav ?_ jM.out _;(with_reducible repeat(first|refine Zab ?_ _|refine Zad ?_|refine Zaa ?_ _));refine Zav ?_ jM.out _;(with_reducible repeat(first|refine Zab ?_ _|refine Zad ?_|refine Zaa ?_ _));refine Zav ?_ jM.out _;(with_reducible repeat(first|refine Zab ?_ _|refine Zad ?_|refine Zaa ?_ _));exact di.out⟩,⟨by(with_reducible repeat(first|refine Zab ?_ _|refine Zad ?_|refine Zaa ?_ _));refine Zas (cs:=#[.slice none 0 0,.slice none 0 0,.int .i64 aj,.slice bi ak.length bn,.slice none 0 0]) ?_ 4 _ rfl;(with_reducible repeat(first|refine Zab ?_ _|refine Zad ?_|refine Zaa ?_ _));refine Zas (cs:=#[.slice none 0 0,.slice none 0 0,.int .i64 aj,.slice none 0 0,.slice none 0 0]) ?_ 3 _ rfl;(with_reducible repeat(first|refine Zab ?_ _|refine Zad ?_|refine Zaa ?_ _));refine Zas (cs:=#[.slice none 0 0,.slice none 0 0,.int .i64 0,.slice none 0 0,.slice none 0 0]) ?_ 2 _ rfl;(with_reducible repeat(first|refine Zab ?_ _|refine Zad ?_|refine Zaa ?_ _));refine Zas (cs:=#[.slice none 0 0,.slice none 0 0,.int .i64 0,.slice none 0 0,.slice none 0 0]) ?_ 1 _ rfl;(with_reducible repeat(first|refine Zab ?_ _|refine Zad ?_|refine Zaa ?_ _));refine Zas (cs:=#[.slice none 0 0,.slice none 0 0,.int .i64 0,.slice none 0 0,.slice none 0 0]) ?_ 0 _ rfl;(with_reducible repeat(first|refine Zab ?_ _|refine Zad ?_|refine Zaa ?_ _));exact aY.out⟩,⟨bM HB.out⟩⟩
  case round=>
   clear H';try clear p2
   try clear c4
   try clear c5
   try clear c8
   try clear c9
   try clear qy qz q8 qW qX qp qw qx qU qV
   try clear nH nI nW qI qJ nE nG nV qG qH
   obtain⟨az,bR,fo,rfl,HA,HK1,bA,cz,di,aY,HB⟩:=hrel
   cases gk with
   | zero => exact absurd HA.out (by simp [Zag.l0])
   |succ k1=>
    have H:=HA.out;clear HA;simp only[Zag.l0]at H;by_cases c11:az<(ae.length:Int)
    case neg=>
     rw[if_neg c11]at H;have qQ:decide (az<(ae.length:Int))=false:=decide_eq_false c11;clear c11
     (first|rw[qQ]|(simp only[Zdk,Zdn];rw[qQ])|skip)
     have H':=Za.mk H;clear H;have dIa:=nJ.out;have dWa:=nK.out;have dJa:=gI.out;have dXa:=lW.out;obtain⟨J7,J8,J9,JA,JB,Jt,Ju,Jv,Jw,Jy⟩:=cz5 cz.out;go_wp2
     go_meet
     case rel=>exact⟨_,(bR),(fo),H',⟨by have:=HK1.out;first|omega|exact Nat.le_refl _⟩,⟨sM bA.out⟩,⟨by(with_reducible repeat(first|refine Zab ?_ _|refine Zad ?_|refine Zaa ?_ _));exact cz.out⟩,⟨by(with_reducible repeat(first|refine Zab ?_ _|refine Zad ?_|refine Zaa ?_ _));exact di.out⟩,⟨by(with_reducible repeat(first|refine Zab ?_ _|refine Zad ?_|refine Zaa ?_ _));exact aY.out⟩,⟨bM HB.out⟩⟩
    rw[if_pos c11]at H;have qQ:decide (az<(ae.length:Int))=true:=decide_eq_true c11;clear c11
    (first|rw[qQ]|(simp only[Zdk,Zdn];rw[qQ])|skip)
    by_cases c12:az<10
    case neg=>
     rw[if_neg c12]at H;have ll:decide (az<10)=false:=decide_eq_false c12;clear c12;have H':=Za.mk H;clear H;have QP:=nJ.out;have QQ:=nK.out;have dHa:=gI.out;have dVa:=lW.out;obtain⟨Db,Dc,De,Df,Dh,Cr,Cs,Ct,Cu,Cv⟩:=cz5 cz.out;go_wp2
     go_meet
     case rel=>exact⟨_,(bR),(fo),H',⟨by have:=HK1.out;first|omega|exact Nat.le_refl _⟩,⟨sM bA.out⟩,⟨by(with_reducible repeat(first|refine Zab ?_ _|refine Zad ?_|refine Zaa ?_ _));exact cz.out⟩,⟨by(with_reducible repeat(first|refine Zab ?_ _|refine Zad ?_|refine Zaa ?_ _));exact di.out⟩,⟨by(with_reducible repeat(first|refine Zab ?_ _|refine Zad ?_|refine Zaa ?_ _));exact aY.out⟩,⟨bM HB.out⟩⟩
    rw[if_pos c12]at H;have ll:decide (az<10)=true:=decide_eq_true c12;clear c12;obtain⟨qR,H⟩:=ifT H;obtain⟨mi,hji14⟩:∃j_:Int,(mn (((Zaq ae az).f0).size:Int) 20)=j_:=⟨_,rfl⟩;replace H:(if 0≤(mi)then(if(mi)≤(((Zaq ae az).f0).size:Int)then((some (([]:List (S59)):List (S59))).bind fun tC=>(if 0≤(mn (((Zaq ae az).f1).length:Int) 12)then(if(mn (((Zaq ae az).f1).length:Int) 12)≤(((Zaq ae az).f1).length:Int)then((some (((Zaq ae az).f1).take ((mn (((Zaq ae az).f1).length:Int) 12):Int).toNat:List (S59))).bind fun o8=>(if tC.length+o8.length<8796093022208 then(if bR.length<3518437208883 then(Zag.l0 k1 (wrap64 (az+1)) ae aa aj ak ai (bR++ [(⟨((Zaq ae az).f0).extract 0 ((mi):Int).toNat,(tC++o8)⟩:S37)]) aj ak ai)else(none))else(none)))else(none))else(none)))else(none))else(none))=some (r1,r2,r3,r4,r5):=by first|(rw[hji14]at H;exact H)|(simp only[hji14]at H ⊢;exact H)
    have hji14_:(if 20<(((Zaq ae az).f0).size:Int)then 20 else(((Zaq ae az).f0).size:Int))=mi:=hji14;obtain⟨c15,H⟩:=ifP H;have lU:=eq_true c15;have BC:decide (0≤(mi))=true:=decide_eq_true c15;clear c15;obtain⟨c16,H⟩:=ifP H;have xK:=eq_true c16;have QC:decide ((mi)≤(((Zaq ae az).f0).size:Int))=true:=decide_eq_true c16;clear c16;obtain⟨tC,Il⟩:∃y_:List (S59),y_=(([]:List (S59))):=⟨_,rfl⟩;replace H:(if 0≤(mn (((Zaq ae az).f1).length:Int) 12)then(if(mn (((Zaq ae az).f1).length:Int) 12)≤(((Zaq ae az).f1).length:Int)then((some (((Zaq ae az).f1).take ((mn (((Zaq ae az).f1).length:Int) 12):Int).toNat:List (S59))).bind fun o8=>(if tC.length+o8.length<8796093022208 then(if bR.length<3518437208883 then(Zag.l0 k1 (wrap64 (az+1)) ae aa aj ak ai (bR++ [(⟨((Zaq ae az).f0).extract 0 ((mi):Int).toNat,(tC++o8)⟩:S37)]) aj ak ai)else(none))else(none)))else(none))else(none))=some (r1,r2,r3,r4,r5):=by first|(rw[Il];with_reducible exact H)|(have H2_:=(Option.bind_some _ _).symm.trans H;rw[Il];with_reducible exact H2_)|(have H2_:=(Option.bind_some _ _).symm.trans H;with_reducible exact H2_)|with_reducible exact H|(rw[Il];exact H)|exact H
    have V6:=Za.mk Il;clear Il;obtain⟨wS,hji17⟩:∃j_:Int,(mn (((Zaq ae az).f1).length:Int) 12)=j_:=⟨_,rfl⟩;replace H:(if 0≤(wS)then(if(wS)≤(((Zaq ae az).f1).length:Int)then((some (((Zaq ae az).f1).take ((wS):Int).toNat:List (S59))).bind fun o8=>(if tC.length+o8.length<8796093022208 then(if bR.length<3518437208883 then(Zag.l0 k1 (wrap64 (az+1)) ae aa aj ak ai (bR++ [(⟨((Zaq ae az).f0).extract 0 ((mi):Int).toNat,(tC++o8)⟩:S37)]) aj ak ai)else(none))else(none)))else(none))else(none))=some (r1,r2,r3,r4,r5):=by first|(rw[hji17]at H;exact H)|(simp only[hji17]at H ⊢;exact H)
    have hji17_:(if 12<(((Zaq ae az).f1).length:Int)then 12 else(((Zaq ae az).f1).length:Int))=wS:=hji17;obtain⟨c18,H⟩:=ifP H;have nO:=eq_true c18;have vB:decide (0≤(wS))=true:=decide_eq_true c18;clear c18;obtain⟨c19,H⟩:=ifP H;have Hz:=eq_true c19;have QE:decide ((wS)≤(((Zaq ae az).f1).length:Int))=true:=decide_eq_true c19;clear c19;obtain⟨o8,Im⟩:∃y_:List (S59),y_=(((Zaq ae az).f1).take ((wS):Int).toNat):=⟨_,rfl⟩;replace H:(if tC.length+o8.length<8796093022208 then(if bR.length<3518437208883 then(Zag.l0 k1 (wrap64 (az+1)) ae aa aj ak ai (bR++ [(⟨((Zaq ae az).f0).extract 0 ((mi):Int).toNat,(tC++o8)⟩:S37)]) aj ak ai)else(none))else(none))=some (r1,r2,r3,r4,r5):=by first|(rw[Im];with_reducible exact H)|(have H2_:=(Option.bind_some _ _).symm.trans H;rw[Im];with_reducible exact H2_)|(have H2_:=(Option.bind_some _ _).symm.trans H;with_reducible exact H2_)|with_reducible exact H|(rw[Im];exact H)|exact H
    have V7:=Za.mk Im;clear Im;obtain⟨c20,H⟩:=ifP H;have Ho:=Za.mk c20;clear c20;obtain⟨Kz,Io⟩:∃y_:List (S59),y_=(tC++o8):=⟨_,rfl⟩;replace H:(if bR.length<3518437208883 then(Zag.l0 k1 (wrap64 (az+1)) ae aa aj ak ai (bR++ [(⟨((Zaq ae az).f0).extract 0 ((mi):Int).toNat,Kz⟩:S37)]) aj ak ai)else(none))=some (r1,r2,r3,r4,r5):=by first|(rw[Io];with_reducible exact H)|(have H2_:=(Option.bind_some _ _).symm.trans H;rw[Io];with_reducible exact H2_)|(have H2_:=(Option.bind_some _ _).symm.trans H;with_reducible exact H2_)|with_reducible exact H|(rw[Io];exact H)|exact H
    have cya:=Za.mk Io;clear Io;obtain⟨c21,H⟩:=ifP H;have cka:=Za.mk c21;clear c21;obtain⟨Rc,Ip⟩:∃y_:List (S37),y_=(bR++ [(⟨((Zaq ae az).f0).extract 0 ((mi):Int).toNat,Kz⟩:S37)]):=⟨_,rfl⟩;replace H:(Zag.l0 k1 (wrap64 (az+1)) ae aa aj ak ai Rc aj ak ai)=some (r1,r2,r3,r4,r5):=by first|(rw[Ip];with_reducible exact H)|(have H2_:=(Option.bind_some _ _).symm.trans H;rw[Ip];with_reducible exact H2_)|(have H2_:=(Option.bind_some _ _).symm.trans H;with_reducible exact H2_)|with_reducible exact H|(rw[Ip];exact H)|exact H
    have cza:=Za.mk Ip;clear Ip;have H':=Za.mk H;clear H;have lFa:=nJ.out;have mpa:=nK.out;have lGa:=gI.out;have mqa:=lW.out;obtain⟨F9,FB,FC,FD,FE,Fp,Fq,Fs,Fu,Fv⟩:=cz5 cz.out;have Uq:(0≤(az:Int))=True:=teq;have U5:(az<(ae.length:Int))=True:=teq;obtain⟨cIa,nX,mU,rfl,Aw,Ay,O1,Od⟩:=Zdc gV.out az odt odt;replace Aw:=hB HB.out Aw;replace Ay:=hB HB.out Ay;have XI:=Za.mk Od;have Xz:=Za.mk O1;clear Od O1;try go_wp2_with (first|((with_reducible refine Zap (N:=5) rfl ?_);refine bx 5 #[.string (⟨#[]⟩:ByteArray),.slice none 0 0] 37 ?_;intro gJ hg w25 hbox hb;replace bA:=Za.mk (Kd.Zc9 (Kd.S_elderB (sM bA.out) gJ (Nat.le_of_eq hg.symm)) hb);have iV:=Za.mk (hbox);have kAa:=Za.mk ((gE hg HB.out:w.heap.size≤gJ));replace HB:=Za.mk (bS HB.out hb);have D5:=Za.mk ((by rw[hg];exact Nat.ne_of_lt (Zbj (kM cz.out)):kT≠gJ));have Tc:=Za.mk ((by rw[hg];exact Nat.ne_of_gt (Zbj (kM cz.out)):gJ≠kT));replace cz:=Za.mk (kB cz.out hb);have D6:=Za.mk ((by rw[hg];exact Nat.ne_of_lt (Zbj (kM di.out)):fC≠gJ));have Td:=Za.mk ((by rw[hg];exact Nat.ne_of_gt (Zbj (kM di.out)):gJ≠fC));replace di:=Za.mk (kB di.out hb);have xA:=Za.mk ((by rw[hg];exact Nat.ne_of_lt (Zbj (kM aY.out)):fq≠gJ));have KH:=Za.mk ((by rw[hg];exact Nat.ne_of_gt (Zbj (kM aY.out)):gJ≠fq));replace aY:=Za.mk (kB aY.out hb);clear hb hbox hg;have lIa:=Tc.out;have msa:=D5.out;have lJa:=Td.out;have mta:=D6.out;have dDa:=KH.out;have dRa:=xA.out;obtain⟨yE,yF,yg,yh⟩:=cz2 iV.out))
    have n0_:Za (Kd.S k37 37 ((w25.setCell ⟨gJ,0,none⟩ (.string ((Zaq ae az).f0))).setCell ⟨gJ,1,none⟩ (.slice nX ((Zaq ae az).f1).length mU)) w.heap.size (fun k_=>k_≠gJ) fo bR):=⟨sM (Kd.Zcu (Kd.Zb2 (p:=⟨gJ,1,none⟩) (Kd.Zb2 (p:=⟨gJ,0,none⟩) (Kd.Zcu bA.out (fun k_ hk=>(⟨hk,hk.2⟩:_∧k_≠gJ))) (fun _ hk=>hk.2) (.string ((Zaq ae az).f0))) (fun _ hk=>hk.2) (.slice nX ((Zaq ae az).f1).length mU)) (fun _ hk=>hk.1.2))⟩;have n1_:Za (((w25.setCell ⟨gJ,0,none⟩ (.string ((Zaq ae az).f0))).setCell ⟨gJ,1,none⟩ (.slice nX ((Zaq ae az).f1).length mU)).heap[kT]? =some (.cells #[.slice (some cIa) ae.length bv,.slice aI aa.length aG,.int .i64 aj,.slice bi ak.length bn,.slice bf ai.length bg] 28 (0,0))):=⟨by(with_reducible repeat(first|refine Zab ?_ _|refine Zad ?_|refine Zaa ?_ _));refine Zav ?_ D5.out _;(with_reducible repeat(first|refine Zab ?_ _|refine Zad ?_|refine Zaa ?_ _));refine Zav ?_ D5.out _;(with_reducible repeat(first|refine Zab ?_ _|refine Zad ?_|refine Zaa ?_ _));exact cz.out⟩;have n2_:Za (((w25.setCell ⟨gJ,0,none⟩ (.string ((Zaq ae az).f0))).setCell ⟨gJ,1,none⟩ (.slice nX ((Zaq ae az).f1).length mU)).heap[fC]? =some (.cells #[.slice none 0 0,.slice none 0 0,.int .i64 0,.slice none 0 0,.slice none 0 0] 28 (0,0))):=⟨by(with_reducible repeat(first|refine Zab ?_ _|refine Zad ?_|refine Zaa ?_ _));refine Zav ?_ D6.out _;(with_reducible repeat(first|refine Zab ?_ _|refine Zad ?_|refine Zaa ?_ _));refine Zav ?_ D6.out _;(with_reducible repeat(first|refine Zab ?_ _|refine Zad ?_|refine Zaa ?_ _));exact di.out⟩;have n3_:Za (((w25.setCell ⟨gJ,0,none⟩ (.string ((Zaq ae az).f0))).setCell ⟨gJ,1,none⟩ (.slice nX ((Zaq ae az).f1).length mU)).heap[fq]? =some (.cells #[fo,.slice none 0 0,.int .i64 aj,.slice bi ak.length bn,.slice bf ai.length bg] 28 (0,0))):=⟨by(with_reducible repeat(first|refine Zab ?_ _|refine Zad ?_|refine Zaa ?_ _));refine Zav ?_ xA.out _;(with_reducible repeat(first|refine Zab ?_ _|refine Zad ?_|refine Zaa ?_ _));refine Zav ?_ xA.out _;(with_reducible repeat(first|refine Zab ?_ _|refine Zad ?_|refine Zaa ?_ _));exact aY.out⟩;have n4_:Za (((w25.setCell ⟨gJ,0,none⟩ (.string ((Zaq ae az).f0))).setCell ⟨gJ,1,none⟩ (.slice nX ((Zaq ae az).f1).length mU)).heap[gJ]? =some (.cells #[.string ((Zaq ae az).f0),.slice nX ((Zaq ae az).f1).length mU] 37 (0,0))):=⟨by(with_reducible repeat(first|refine Zab ?_ _|refine Zad ?_|refine Zaa ?_ _));refine Zas (cs:=#[.string ((Zaq ae az).f0),.slice none 0 0]) ?_ 1 _ rfl;(with_reducible repeat(first|refine Zab ?_ _|refine Zad ?_|refine Zaa ?_ _));refine Zas (cs:=#[.string (⟨#[]⟩:ByteArray),.slice none 0 0]) ?_ 0 _ rfl;(with_reducible repeat(first|refine Zab ?_ _|refine Zad ?_|refine Zaa ?_ _));exact iV.out⟩;have n5_:Za (Below w.heap.size w ((w25.setCell ⟨gJ,0,none⟩ (.string ((Zaq ae az).f0))).setCell ⟨gJ,1,none⟩ (.slice nX ((Zaq ae az).f1).length mU))):=⟨bM HB.out⟩
    (try clear bA)
    (try clear cz)
    (try clear di)
    (try clear aY)
    (try clear iV)
    (try clear HB)
    generalize ((w25.setCell ⟨gJ,0,none⟩ (.string ((Zaq ae az).f0))).setCell ⟨gJ,1,none⟩ (.slice nX ((Zaq ae az).f1).length mU))=w30 at n0_ n1_ n2_ n3_ n4_ n5_ ⊢
    have bA:=n0_;have cz:=n1_;have di:=n2_;have aY:=n3_;have iV:=n4_;have HB:=n5_;clear n0_ n1_ n2_ n3_ n4_ n5_;replace bA:=Za.mk (Kd.Zfl bA.out);replace cz:=Za.mk (Zad cz.out);replace di:=Za.mk (Zad di.out);replace aY:=Za.mk (Zad aY.out);replace iV:=Za.mk (Zad iV.out);replace HB:=Za.mk (Zb6 HB.out);have q32:((wS):Int)≤((((Zaq ae az).f1).length:Int):Int):=odt;obtain⟨i032,Wm,_,hsz32,_⟩:=info_parts Zgl;have hroom32:((Zaq ae az).f1).length≤mU:=Xz.out;have hC32:Kd.C k59 _ nX ((Zaq ae az).f1).length ((Zaq ae az).f1):=XI.out;have hcut32:=cut_to (P:=Tryz.prog) 35 59 .i64 Tryz.underlying35 Wm nX ((Zaq ae az).f1).length mU (wS) (of_decide_eq_true (by first|(with_reducible assumption)|assumption)) q32 hroom32;have Um:=Kd.C_take (m:=((wS):Int).toNat) hC32 (by omega);have hy32:o8.length=((wS):Int).toNat:=(by rw[V7.out,List.length_take];omega);rw[←V7.out]at Um;rw[←hy32]at hcut32;have Vx:=Za.mk Um;have kXa:=Za.mk (show o8.length≤mU from by omega);clear Um hC32 hroom32 Wm hsz32;have KY32:=Za.mk hy32;clear hy32;replace q32:=eq_true q32;refine Zef (n:=23) (S:=fun w'=>w'.cell? ⟨fq,0,none⟩=some (fo)∧w'.cell? ⟨fq,1,none⟩=some (.slice none 0 0)∧w'.cell? ⟨fq,2,none⟩=some (.int .i64 aj)∧w'.cell? ⟨fq,3,none⟩=some (.slice bi ak.length bn)∧w'.cell? ⟨fq,4,none⟩=some (.slice bf ai.length bg)∧w'.cell? ⟨gJ,0,none⟩=some (.string ((Zaq ae az).f0))∧w'.cell? ⟨gJ,1,none⟩=some (.slice nX ((Zaq ae az).f1).length mU)) (ds:= [22]) #[false,false,false,false,false,false,false,false,false,false,false,false,false,false,false,false,false,false,false,false,false,false,false] (by kernel_rfl) rfl rfl ⟨bc aY.out 0,bc aY.out 1,bc aY.out 2,bc aY.out 3,bc aY.out 4,bc iV.out 0,bc iV.out 1⟩ (fun hHeld=> ?_);refine Zc6 Zag.tab6 Zag.bits6 (fun HT_ HW_=> ?_)
    generalize w30.drew=w31 at bA cz di aY iV HB Vx hHeld ⊢
    refine pu HT_ 0 29 ?_;refine pu HT_ 2 31 ?_;refine pu HT_ 4 33 ?_;refine pu HT_ 10 39 ?_;refine pu HT_ 12 41 ?_;refine tk HT_ HW_ hHeld 1 30 ?_;refine tk HT_ HW_ hHeld 3 32 ?_;refine tk HT_ HW_ hHeld 5 34 ?_;refine pu HT_ 6 35 ?_;refine pu HT_ 7 36 ?_;refine pu HT_ 8 37 ?_;refine tk HT_ HW_ hHeld 11 40 ?_;refine tk HT_ HW_ hHeld 13 42 ?_;refine pu HT_ 14 43 ?_;refine pu HT_ 15 44 ?_;refine pu HT_ 16 45 ?_;refine on1 HT_ 9 38 (fun K hK=> ?_);refine Kd.Zc0 k59 _ 59 ?hg (N:=38) ?hd (xs:=([]:List (S59))) (inner:= []) (ok:=fun _=>True) (okp:=fun _=>True) ?hr ?hp (fun _ hk=>hk) trivial (Below.refl _ _) (Nat.le_refl _) (by simp) ?_;(case hd=>rfl);(case hg=>rfl);(case hr=>first|(go_simp;done)|(go_simp;rfl));(case hp=>exact(Reps.none _ _));intro jja w33 JR hb hg_ hnew_;clear hg_ hnew_
    (first|rw[←V6.out]at JR|(simp only[Int.reduceToNat]at JR;rw[←V6.out]at JR))
    replace bA:=Za.mk (Kd.Zek (sM bA.out) (Kd.Zb4 JR) hb);have Ep:=Za.mk (Kd.Zbp JR (Zaj (bM HB.out)));replace cz:=Za.mk (kB cz.out hb);replace di:=Za.mk (kB di.out hb);replace aY:=Za.mk (kB aY.out hb);replace iV:=Za.mk (kB iV.out hb);replace HB:=Za.mk (bS HB.out hb);clear hb JR;refine hK.out _ _ ⟨bc aY.out 0,bc aY.out 1,bc aY.out 2,bc aY.out 3,bc aY.out 4,bc iV.out 0,bc iV.out 1⟩ (fun hHeld=> ?_);clear hK K;refine nmp 38 ?_;refine on1 HT_ 17 46 (fun K hK=> ?_);refine Kd.Zch k59 (w0:=w) w.heap.size (by rfl) (.tmp 38) (.tmp 45) 35 59 (.agg #[(.int .i64 0),(.int .i64 0)]) 16 rfl Tryz.underlying35 Zgl rfl (by decide) (by omega) jja tC o8 _ _ _ (fun _=>True) (fun _=>False) rfl rfl ?aO ?aR (fun _ _ h=>h) (fun _ h=>h.elim) ?aF ?aB ?aS ?aL ?_
    (case aR=>repeat(first|exact(Kd.Zaf Vx.out HB.out)|(with_reducible refine Kd.C_alloc ?_ _)|(with_reducible refine Kd.Zcm ?_ _)|(with_reducible refine Kd.C_drew ?_)))
    (case aB=>exact(bM HB.out))
    (case aF=>exact(fun _ _=>trivial))
    (case aO=>exact(rM Ep.out))
    (case aS=>exact(Zaj (bM HB.out)))
    (case aL=>have:=Ho.out;omega)
    intro tMa w35 ho hb hg hat;rw[←cya.out]at ho;replace bA:=Za.mk (Kd.S_after (ok:=(fun k_=>k_≠gJ)) (sM bA.out) hg hat);replace cz:=Za.mk (kG cz.out hg (Kd.R_ne Ep.out cz.out (by decide)));replace di:=Za.mk (kG di.out hg (Kd.R_ne Ep.out di.out (by decide)));replace aY:=Za.mk (kG aY.out hg (Kd.R_ne Ep.out aY.out (by decide)));replace iV:=Za.mk (kG iV.out hg (Kd.R_ne Ep.out iV.out (by decide)));replace HB:=Za.mk (hb);have KO:=Za.mk (ho);clear Ep ho hb hg hat;obtain⟨M3,M9,ML⟩:=Kd.Za9 KO.out
    (first|subst ML|(injection ML with f1_ f2_ f3_;have f4_:=f1_.symm;have f5_:=f3_.symm;clear f1_ f2_ f3_;subst f4_;subst f5_))
    refine hK.out _ _ ⟨bc aY.out 0,bc aY.out 1,bc aY.out 2,bc aY.out 3,bc aY.out 4,bc iV.out 0,bc iV.out 1⟩ (fun hHeld=> ?_);clear hK K;refine nmp 46 ?_;refine pu HT_ 18 47 ?_;refine on1 HT_ 19 48 (fun K hK=> ?_);refine Zhj (w1:=?_) (v:=?_) (by rfl) rfl ?_ ?_;rotate_left 2
    ·go_simp
     constructor
     ·rfl
     rfl
    refine hK.out _ _ ⟨(Zah (Zaa aY.out _) 0).trans rfl,(Zah (Zaa aY.out _) 1).trans rfl,(Zah (Zaa aY.out _) 2).trans rfl,(Zah (Zaa aY.out _) 3).trans rfl,(Zah (Zaa aY.out _) 4).trans rfl,(Zah (Zaa iV.out _) 0).trans rfl,(Zah (Zaa iV.out _) 1).trans rfl⟩ (fun hHeld=> ?_);clear hK K;refine nmp 48 ?_;refine on1 HT_ 20 49 (fun K hK=> ?_);refine Kd.Zev k37 (w0:=w) w.heap.size (by rfl) (.tmp 30) (.tmp 48) 22 37 (.agg #[(.string ⟨#[]⟩),(.slice none 0 0)]) 40 rfl Tryz.underlying22 info37 rfl (by decide) (by omega) fo bR (⟨((Zaq ae az).f0).extract 0 ((mi):Int).toNat,Kz⟩:S37) [.string (((Zaq ae az).f0).extract 0 ((mi):Int).toNat),.slice M3 Kz.length M9] (fun k_=>k_≠gJ) (fun k_=>some k_=(.slice M3 Kz.length M9:Value).ownBlock) rfl rfl ?aP (fun k_ hk_=>((Kd.Zaw (ok':=fun k_=>((fun k_=>k_≠gJ)) k_∧some k_≠(fo:Value).ownBlock) (Kd.Zbh (Kd.Zcp (KO.out) (Kd.Zda bA.out) (by decide)) iV.out (by decide)) (fun k_ hk=>⟨hk.2,hk.1.2⟩))).1 k_ hk_.symm) ?aF ?aO ?aB ?aS ?aL ?_
    (case aP=>exact k37_mkM _ _ _ (⟨((Zaq ae az).f0).extract 0 ((mi):Int).toNat,Kz⟩:S37) (Kd.Zaw (Kd.Zdr rfl (Kd.Zaw (ok':=fun k_=>((fun k_=>k_≠gJ)) k_∧some k_≠(fo:Value).ownBlock) (Kd.Zbh (Kd.Zcp (KO.out) (Kd.Zda bA.out) (by decide)) iV.out (by decide)) (fun k_ hk=>⟨hk.2,hk.1.2⟩))) (fun _ h_=>h_)))
    (case aB=>exact(bM HB.out))
    (case aF=>exact(fun k_ hk=>Kd.freshB (kM iV.out) k_ hk))
    (case aO=>exact(sM (Kd.Zcu bA.out (fun k_ hk=>⟨hk.1,fun e_=>hk.2 e_⟩))))
    (case aS=>exact(Zaj (bM HB.out)))
    (case aL=>have:=cka.out;omega)
    intro tNa w37 ho hb hg hat;rw[←cza.out]at ho;replace cz:=Za.mk (kG cz.out hg (Kd.S_ne bA.out cz.out (by decide)));replace di:=Za.mk (kG di.out hg (Kd.S_ne bA.out di.out (by decide)));replace aY:=Za.mk (kG aY.out hg (Kd.S_ne bA.out aY.out (by decide)));replace iV:=Za.mk (kG iV.out hg (Kd.S_away bA.out (fun _ hk=>hk.1)));replace HB:=Za.mk (hb);have Vn:=Za.mk (ho);clear bA KO ho hb hg hat;obtain⟨Bn,BI,FL⟩:=Kd.Zd7 Vn.out
    (first|subst FL|(injection FL with f1_ f2_ f3_;have f4_:=f1_.symm;have f5_:=f3_.symm;clear f1_ f2_ f3_;subst f4_;subst f5_))
    refine hK.out _ _ ⟨bc aY.out 0,bc aY.out 1,bc aY.out 2,bc aY.out 3,bc aY.out 4,bc iV.out 0,bc iV.out 1⟩ (fun hHeld=> ?_);clear hK K;refine nmp 49 ?_;refine pu HT_ 21 50 ?_;refine last_ (i:=22) (N:=none) #[true,true,true,true,true,true,true,true,true,true,true,true,true,true,true,true,true,true,true,true,true,true,true] rfl rfl (Ze8 HT_.out (by kernel_rfl)) (by decide) (fun K hK=> ?_);have hs39:w37.cell? ⟨fq,0,none⟩=some (fo):=(Zah aY.out 0).trans rfl;have hfs39:=Zam aY.out 0;have hns39_0:=gI.out;have hns39_1:=jM.out;have hns39_3:=KH.out;have hms39_0:=lW.out;have hms39_1:=xz.out;have hms39_3:=xA.out;refine skip_ (w1:=?_) (by rfl) rfl ?_ ?_;rotate_left
    ·go_simp
     rfl
    refine hK.out _ _ ?_;clear hK K;refine Zfb (Zdw HT_.out (by kernel_rfl)) ?_;try go_wp2
    go_roundg k1
    case measure=>have:=HK1.out;omega
    case rel=>exact⟨(wrap64 (az+1)),(Rc),(.slice Bn Rc.length BI),eS,H',⟨by have:=HK1.out;omega⟩,⟨sM (Kd.Zcu (Kd.Zb2 (p:=⟨fq,0,none⟩) (Kd.Zcy Vn.out aY.out (by decide)) (fun _ hk=>hk.2) (.slice Bn Rc.length BI)) (fun _ hk=>trivial))⟩,⟨by(with_reducible repeat(first|refine Zab ?_ _|refine Zad ?_|refine Zaa ?_ _));refine Zav ?_ gI.out _;(with_reducible repeat(first|refine Zab ?_ _|refine Zad ?_|refine Zaa ?_ _));exact cz.out⟩,⟨by(with_reducible repeat(first|refine Zab ?_ _|refine Zad ?_|refine Zaa ?_ _));refine Zav ?_ jM.out _;(with_reducible repeat(first|refine Zab ?_ _|refine Zad ?_|refine Zaa ?_ _));exact di.out⟩,⟨by(with_reducible repeat(first|refine Zab ?_ _|refine Zad ?_|refine Zaa ?_ _));refine Zas (cs:=#[fo,.slice none 0 0,.int .i64 aj,.slice bi ak.length bn,.slice bf ai.length bg]) ?_ 0 _ rfl;(with_reducible repeat(first|refine Zab ?_ _|refine Zad ?_|refine Zaa ?_ _));exact aY.out⟩,⟨bM HB.out⟩⟩
 case rest=>
  clear HC2;try clear c1
  try clear p1
  try clear q1
  try clear hx1
  try clear c2
  try clear p2
  try clear q3
  try clear c4
  try clear c5
  try clear p6
  try clear c8
  try clear c9
  try clear c11
  try clear qQ
  try clear c12
  try clear ll
  try clear c13
  try clear qR
  try clear p13
  try clear q13
  try clear QR
  try clear c15
  try clear lU
  try clear BC
  try clear c16
  try clear xK
  try clear QC
  try clear c18
  try clear nO
  try clear vB
  try clear c19
  try clear Hz
  try clear QE
  try clear c20
  try clear c21
  try clear c22
  try clear c23
  try clear c26
  try clear c27
  try clear c28
  try clear q32
  try clear c40
  try clear c41
  try clear c43
  try clear c44
  try clear qy qz q8 qW qX qp qw qx qU qV
  try clear F9 FB FC FD FE Fp Fq Fs Fu Fv
  try clear yE yF yg yh
  try clear Db Dc De Df Dh Cr Cs Ct Cu Cv
  try clear J7 J8 J9 JA JB Jt Ju Jv Jw Jy
  try clear nH nI nW qI qJ nE nG nV qG qH
  try clear Aw
  try clear Ay
  try clear Uq
  try clear p2
  try clear U5
  try clear q32
  obtain⟨kq,bR,fo,HA,HJ1,bA,cz,di,aY,HB⟩:=hcut
  cases kq with
  | zero => exact absurd HA.out (by simp [Zag.j1])
  |succ kj1=>
   have H:=HA.out;clear HA;simp only[Zag.j1]at H;have H':=Za.mk H;clear H;go_wp2
   go_loopg [6] kj1 (fun kq v6 w'=>∃(af:Int) (dG:List (S40)) (jq:Value),v6= .int .i64 af∧Za (Zag.l1 kq af ae aa aj ak ai bR dG aj ak ai=some (r1,r2,r3,r4,r5))∧Za (kq≤kj1)∧Za (Kd.S k37 37 w' w.heap.size (fun _=>True) fo bR)∧Za (Kd.R k40 40 w' w.heap.size (fun _=>True) jq dG)∧Za (w'.heap[kT]? =some (.cells #[(.slice bF ae.length bv),(.slice aI aa.length aG),.int .i64 aj,(.slice bi ak.length bn),(.slice bf ai.length bg)] 28 (0,0)))∧Za (w'.heap[fC]? =some (.cells #[(.slice none 0 0),(.slice none 0 0),.int .i64 0,(.slice none 0 0),(.slice none 0 0)] 28 (0,0)))∧Za (w'.heap[fq]? =some (.cells #[fo,jq,.int .i64 aj,(.slice bi ak.length bn),(.slice bf ai.length bg)] 28 (0,0)))∧Za (Below w.heap.size w w'))
   case atStart=>exact⟨(0),(([]:List (S40))),(.slice none 0 0),eS,H',⟨Nat.le_refl _⟩,⟨sM bA.out⟩,⟨by first|exact Kd.Zfk _ _ _ _ _|exact Kd.N_nil _ _ _ _ _|exact Kd.Zey _ _ _ _ _|exact Kd.Q_nil _ _ _ _ _|exact Kd.Zge _ _ _ _ _⟩,⟨by(with_reducible repeat(first|refine Zab ?_ _|refine Zad ?_|refine Zaa ?_ _));exact cz.out⟩,⟨by(with_reducible repeat(first|refine Zab ?_ _|refine Zad ?_|refine Zaa ?_ _));exact di.out⟩,⟨by(with_reducible repeat(first|refine Zab ?_ _|refine Zad ?_|refine Zaa ?_ _));exact aY.out⟩,⟨bM HB.out⟩⟩
   case round=>
    clear H';try clear c1
    try clear p1
    try clear q1
    try clear hx1
    try clear c2
    try clear p2
    try clear q3
    try clear c4
    try clear c5
    try clear p6
    try clear c8
    try clear c9
    try clear c11
    try clear qQ
    try clear c12
    try clear ll
    try clear c13
    try clear qR
    try clear p13
    try clear q13
    try clear QR
    try clear c15
    try clear lU
    try clear BC
    try clear c16
    try clear xK
    try clear QC
    try clear c18
    try clear nO
    try clear vB
    try clear c19
    try clear Hz
    try clear QE
    try clear c20
    try clear c21
    try clear c22
    try clear c23
    try clear c26
    try clear c27
    try clear c28
    try clear q32
    try clear c40
    try clear c41
    try clear c43
    try clear c44
    try clear qy qz q8 qW qX qp qw qx qU qV
    try clear F9 FB FC FD FE Fp Fq Fs Fu Fv
    try clear yE yF yg yh
    try clear Db Dc De Df Dh Cr Cs Ct Cu Cv
    try clear J7 J8 J9 JA JB Jt Ju Jv Jw Jy
    try clear nH nI nW qI qJ nE nG nV qG qH
    try clear Aw
    try clear Ay
    try clear p1
    try clear p13
    try clear Uq
    try clear p2
    try clear p6
    try clear q1
    try clear q13
    try clear U5
    try clear q3
    try clear q32
    obtain⟨af,dG,jq,rfl,HA,HK2,bA,dw,cz,di,aY,HB⟩:=hrel
    cases gk with
    | zero => exact absurd HA.out (by simp [Zag.l1])
    |succ k2=>
     have H:=HA.out;clear HA;simp only[Zag.l1]at H;have TG:=Za.mk H;clear H
     go_upto_region 8 with (fail)
     go_cut [59] (fun v59 wc=>∃(kq:Nat) (Jl:Bool),v59= .bool Jl∧Za (Zag.j3 kq af Jl ae aa aj ak ai bR dG aj ak ai=some (r1,r2,r3,r4,r5))∧Za (kq≤k2)∧Za (Kd.S k37 37 wc w.heap.size (fun _=>True) fo bR)∧Za (Kd.R k40 40 wc w.heap.size (fun _=>True) jq dG)∧Za (wc.heap[kT]? =some (.cells #[(.slice bF ae.length bv),(.slice aI aa.length aG),.int .i64 aj,(.slice bi ak.length bn),(.slice bf ai.length bg)] 28 (0,0)))∧Za (wc.heap[fC]? =some (.cells #[(.slice none 0 0),(.slice none 0 0),.int .i64 0,(.slice none 0 0),(.slice none 0 0)] 28 (0,0)))∧Za (wc.heap[fq]? =some (.cells #[fo,jq,.int .i64 aj,(.slice bi ak.length bn),(.slice bf ai.length bg)] 28 (0,0)))∧Za (Below w.heap.size w wc))
     case first=>
      have H:=TG.out;clear TG;by_cases c47:af<(aa.length:Int)
      case neg=>
       rw[if_neg c47]at H;have BG:decide (af<(aa.length:Int))=false:=decide_eq_false c47;clear c47
       (first|rw[BG]|(simp only[Zdk,Zdn];rw[BG])|skip)
       have H':=Za.mk H;clear H;have dMa:=nJ.out;have eba:=nK.out;have lPa:=gI.out;have mza:=lW.out;obtain⟨Xo,Xp,Xq,Xr,Xt,WN,WO,WP,WQ,WR⟩:=cz5 cz.out;go_wp2
       go_meet
       case rel=>exact⟨_,(false),eS,H',⟨by have:=HJ1.out;have:=HK2.out;first|omega|exact Nat.le_refl _⟩,⟨sM bA.out⟩,⟨rM dw.out⟩,⟨by(with_reducible repeat(first|refine Zab ?_ _|refine Zad ?_|refine Zaa ?_ _));exact cz.out⟩,⟨by(with_reducible repeat(first|refine Zab ?_ _|refine Zad ?_|refine Zaa ?_ _));exact di.out⟩,⟨by(with_reducible repeat(first|refine Zab ?_ _|refine Zad ?_|refine Zaa ?_ _));exact aY.out⟩,⟨bM HB.out⟩⟩
      rw[if_pos c47]at H;have BG:decide (af<(aa.length:Int))=true:=decide_eq_true c47;clear c47
      (first|rw[BG]|(simp only[Zdk,Zdn];rw[BG])|skip)
      have H':=Za.mk H;clear H;have lOa:=nJ.out;have mya:=nK.out;have dKa:=gI.out;have dYa:=lW.out;obtain⟨gJa,gKa,gLa,gMa,gNa,fba,fca,fda,fea,ffa⟩:=cz5 cz.out;go_wp2
      go_meet
      case rel=>exact⟨_,(decide (af<16)),eS,H',⟨by have:=HJ1.out;have:=HK2.out;first|omega|exact Nat.le_refl _⟩,⟨sM bA.out⟩,⟨rM dw.out⟩,⟨by(with_reducible repeat(first|refine Zab ?_ _|refine Zad ?_|refine Zaa ?_ _));exact cz.out⟩,⟨by(with_reducible repeat(first|refine Zab ?_ _|refine Zad ?_|refine Zaa ?_ _));exact di.out⟩,⟨by(with_reducible repeat(first|refine Zab ?_ _|refine Zad ?_|refine Zaa ?_ _));exact aY.out⟩,⟨bM HB.out⟩⟩
     case rest=>
      clear TG;try clear c1
      try clear p1
      try clear q1
      try clear hx1
      try clear c2
      try clear p2
      try clear q3
      try clear c4
      try clear c5
      try clear p6
      try clear c8
      try clear c9
      try clear c11
      try clear qQ
      try clear c12
      try clear ll
      try clear c13
      try clear qR
      try clear p13
      try clear q13
      try clear QR
      try clear c15
      try clear lU
      try clear BC
      try clear c16
      try clear xK
      try clear QC
      try clear c18
      try clear nO
      try clear vB
      try clear c19
      try clear Hz
      try clear QE
      try clear c20
      try clear c21
      try clear c22
      try clear c23
      try clear c26
      try clear c27
      try clear c28
      try clear q32
      try clear c40
      try clear c41
      try clear c43
      try clear c44
      try clear c47
      try clear BG
      try clear c48
      try clear c49
      try clear c51
      try clear c52
      try clear qy qz q8 qW qX qp qw qx qU qV
      try clear F9 FB FC FD FE Fp Fq Fs Fu Fv
      try clear yE yF yg yh
      try clear Db Dc De Df Dh Cr Cs Ct Cu Cv
      try clear J7 J8 J9 JA JB Jt Ju Jv Jw Jy
      try clear gJa gKa gLa gMa gNa fba fca fda fea ffa
      try clear Xo Xp Xq Xr Xt WN WO WP WQ WR
      try clear nH nI nW qI qJ nE nG nV qG qH
      try clear Aw
      try clear Ay
      try clear p1
      try clear p13
      try clear Uq
      try clear p2
      try clear p6
      try clear q1
      try clear q13
      try clear U5
      try clear q3
      try clear q32
      obtain⟨kq,Jl,rfl,HA,HJ45,bA,dw,cz,di,aY,HB⟩:=hcut
      cases kq with
      | zero => exact absurd HA.out (by simp [Zag.j3])
      |succ kj45=>
       have H:=HA.out;clear HA;simp only[Zag.j3]at H;by_cases c54:Jl=true
       case neg=>
        replace c54:=Bool.eq_false_iff.mpr c54;subst c54;replace H:=ifF H;obtain⟨Ch,Iq⟩:∃y_:List Int,y_=(([]:List Int)):=⟨_,rfl⟩;replace H:(if 0≤(mn (ak.length:Int) 14)then(if(mn (ak.length:Int) 14)≤(ak.length:Int)then(if Ch.length+(ak.take ((mn (ak.length:Int) 14):Int).toNat).length<17592186044416 then((some (([]:List Int):List Int)).bind fun o9=>(if 0≤(mn (ai.length:Int) 14)then(if(mn (ai.length:Int) 14)≤(ai.length:Int)then(if o9.length+(ai.take ((mn (ai.length:Int) 14):Int).toNat).length<17592186044416 then(some (bR,dG,aj,(Ch++(ak.take ((mn (ak.length:Int) 14):Int).toNat)),(o9++(ai.take ((mn (ai.length:Int) 14):Int).toNat))))else(none))else(none))else(none)))else(none))else(none))else(none))=some (r1,r2,r3,r4,r5):=by first|(rw[Iq];with_reducible exact H)|(have H2_:=(Option.bind_some _ _).symm.trans H;rw[Iq];with_reducible exact H2_)|(have H2_:=(Option.bind_some _ _).symm.trans H;with_reducible exact H2_)|with_reducible exact H|(rw[Iq];exact H)|exact H
        have V8:=Za.mk Iq;clear Iq;obtain⟨nu,hji88⟩:∃j_:Int,(mn (ak.length:Int) 14)=j_:=⟨_,rfl⟩;replace H:(if 0≤(nu)then(if(nu)≤(ak.length:Int)then(if Ch.length+(ak.take ((nu):Int).toNat).length<17592186044416 then((some (([]:List Int):List Int)).bind fun o9=>(if 0≤(mn (ai.length:Int) 14)then(if(mn (ai.length:Int) 14)≤(ai.length:Int)then(if o9.length+(ai.take ((mn (ai.length:Int) 14):Int).toNat).length<17592186044416 then(some (bR,dG,aj,(Ch++(ak.take ((nu):Int).toNat)),(o9++(ai.take ((mn (ai.length:Int) 14):Int).toNat))))else(none))else(none))else(none)))else(none))else(none))else(none))=some (r1,r2,r3,r4,r5):=by first|(rw[hji88]at H;exact H)|(simp only[hji88]at H ⊢;exact H)
        have hji88_:(if 14<(ak.length:Int)then 14 else(ak.length:Int))=nu:=hji88;by_cases c89:0≤(nu)
        case neg=>
         rw[if_neg c89]at H;exact absurd H (by simp)
        rw[if_pos c89]at H;have l0a:=eq_true c89;have l1a:decide (0≤(nu))=true:=decide_eq_true c89;clear c89;obtain⟨c90,H⟩:=ifP H;have l2a:=eq_true c90;have l3a:decide ((nu)≤(ak.length:Int))=true:=decide_eq_true c90;clear c90;obtain⟨c91,H⟩:=ifP H;have csa:=Za.mk c91;clear c91;obtain⟨y153,hy153⟩:∃y_:List Int,y_=(Ch++(ak.take ((nu):Int).toNat)):=⟨_,rfl⟩;replace H:((some (([]:List Int):List Int)).bind fun o9=>(if 0≤(mn (ai.length:Int) 14)then(if(mn (ai.length:Int) 14)≤(ai.length:Int)then(if o9.length+(ai.take ((mn (ai.length:Int) 14):Int).toNat).length<17592186044416 then(some (bR,dG,aj,y153,(o9++(ai.take ((mn (ai.length:Int) 14):Int).toNat))))else(none))else(none))else(none)))=some (r1,r2,r3,r4,r5):=by first|(rw[hy153];with_reducible exact H)|(have H2_:=(Option.bind_some _ _).symm.trans H;rw[hy153];with_reducible exact H2_)|(have H2_:=(Option.bind_some _ _).symm.trans H;with_reducible exact H2_)|with_reducible exact H|(rw[hy153];exact H)|exact H
        have c2a:=Za.mk hy153;clear hy153;obtain⟨o9,Ir⟩:∃y_:List Int,y_=(([]:List Int)):=⟨_,rfl⟩;replace H:(if 0≤(mn (ai.length:Int) 14)then(if(mn (ai.length:Int) 14)≤(ai.length:Int)then(if o9.length+(ai.take ((mn (ai.length:Int) 14):Int).toNat).length<17592186044416 then(some (bR,dG,aj,y153,(o9++(ai.take ((mn (ai.length:Int) 14):Int).toNat))))else(none))else(none))else(none))=some (r1,r2,r3,r4,r5):=by first|(rw[Ir];with_reducible exact H)|(have H2_:=(Option.bind_some _ _).symm.trans H;rw[Ir];with_reducible exact H2_)|(have H2_:=(Option.bind_some _ _).symm.trans H;with_reducible exact H2_)|with_reducible exact H|(rw[Ir];exact H)|exact H
        have V9:=Za.mk Ir;clear Ir;obtain⟨nR,hji92⟩:∃j_:Int,(mn (ai.length:Int) 14)=j_:=⟨_,rfl⟩;replace H:(if 0≤(nR)then(if(nR)≤(ai.length:Int)then(if o9.length+(ai.take ((nR):Int).toNat).length<17592186044416 then(some (bR,dG,aj,y153,(o9++(ai.take ((nR):Int).toNat))))else(none))else(none))else(none))=some (r1,r2,r3,r4,r5):=by first|(rw[hji92]at H;exact H)|(simp only[hji92]at H ⊢;exact H)
        have hji92_:(if 14<(ai.length:Int)then 14 else(ai.length:Int))=nR:=hji92;obtain⟨c93,H⟩:=ifP H;have l5a:=eq_true c93;have l6a:decide (0≤(nR))=true:=decide_eq_true c93;clear c93;obtain⟨c94,H⟩:=ifP H;have VY:=eq_true c94;have Wd:decide ((nR)≤(ai.length:Int))=true:=decide_eq_true c94;clear c94;obtain⟨c95,H⟩:=ifP H;have cta:=Za.mk c95;clear c95;obtain⟨y160,hy160⟩:∃y_:List Int,y_=(o9++(ai.take ((nR):Int).toNat)):=⟨_,rfl⟩;replace H:(some (bR,dG,aj,y153,y160))=some (r1,r2,r3,r4,r5):=by first|(rw[hy160];with_reducible exact H)|(have H2_:=(Option.bind_some _ _).symm.trans H;rw[hy160];with_reducible exact H2_)|(have H2_:=(Option.bind_some _ _).symm.trans H;with_reducible exact H2_)|with_reducible exact H|(rw[hy160];exact H)|exact H
        have c3a:=Za.mk hy160;clear hy160;simp only[Option.some.injEq,Prod.mk.injEq]at H;obtain⟨rfl,rfl,rfl,rfl,rfl⟩:=H
        go_wp2_with (first|((with_reducible refine Zap (N:=120) rfl ?_);refine Kd.Zdf (Kd.int .i64) _ 3 ?hg (N:=120) ?hd (xs:=([]:List Int)) (inner:= []) (ok:=fun _=>True) (okp:=fun _=>True) ?hr ?hp (fun _ hk=>hk) trivial (Below.refl _ _) (Nat.le_refl _) (by simp) ?_;(case hd=>rfl);(case hg=>rfl);(case hr=>first|(go_simp;done)|(go_simp;rfl));(case hp=>exact(Reps.none _ _));intro jka w96 JS hb hg_ hnew_;clear hg_ hnew_;(first|rw[←V8.out]at JS|(simp only[Int.reduceToNat]at JS;rw[←V8.out]at JS));replace bA:=Za.mk (Kd.Zc9 (sM bA.out) hb);replace dw:=Za.mk (Kd.Zce (rM dw.out) (Kd.Zb4 JS) hb);have Er:=Za.mk (Kd.Zbp JS (Zaj (bM HB.out)));replace cz:=Za.mk (kB cz.out hb);replace di:=Za.mk (kB di.out hb);replace aY:=Za.mk (kB aY.out hb);replace HB:=Za.mk (bS HB.out hb);clear hb JS;have mfa:=nJ.out;have mIa:=nK.out;have mga:=gI.out;have mJa:=lW.out;obtain⟨kja,kka,kla,kma,kna,jJa,jKa,jLa,jMa,jNa⟩:=cz5 cz.out;obtain⟨i0101,Ty,_,hsz101,_⟩:=info_parts info3;obtain⟨hcut101,hA101,hC101⟩:=Zd4 (P:=Tryz.prog) (Value.int .i64) 0 24 3 .i64 Tryz.underlying24 Ty hsz101 bi bn ak (nu) (of_decide_eq_true (by first|(with_reducible assumption)|assumption)) (of_decide_eq_true (by first|(with_reducible assumption)|assumption)) lI.out;have PX:=Za.mk (Kd.Zep (h1:=fun _=>rfl) (hA101 _ (Kd.Zej kr.out)));have kYa:=Za.mk hC101;clear hA101 hC101 Ty hsz101)|((with_reducible refine Zbk (b:= .append) (xs:=#[.tmp 120,.tmp 129]) rfl ?_);at_builtin;refine Kd.Zcx (Kd.int .i64) (w0:=w) w.heap.size rfl (.tmp 120) (.tmp 129) 24 3 (.int .i64 0) 8 rfl Tryz.underlying24 info3 rfl (by decide) (by omega) jka Ch (ak.take ((nu):Int).toNat) _ _ _ (fun _=>True) (fun _=>False) rfl rfl ?aO ?aR (fun _ _ h=>h) (fun _ h=>h.elim) ?aF ?aB ?aS ?aL ?_;(case aR=>first|(have q_:=(Kd.Zaf PX.out HB.out);rw[show(ak.take ((nu):Int).toNat).length=(nu).toNat from(by rw[List.length_take];have h_:((nu):Int)≤(ak.length:Int):=(by first|exact odt|(have h2_:=hji88_;split at h2_<;>omega));omega)]at q_;exact q_)|(rw[←show(ak.take ((nu):Int).toNat).length=(nu).toNat from(by rw[List.length_take];have h_:((nu):Int)≤(ak.length:Int):=(by first|exact odt|(have h2_:=hji88_;split at h2_<;>omega));omega)];repeat(first|exact(Kd.Zaf PX.out HB.out)|(with_reducible refine Kd.C_alloc ?_ _)|(with_reducible refine Kd.Zcm ?_ _)|(with_reducible refine Kd.C_drew ?_)))|(repeat(first|exact(Kd.Zaf PX.out HB.out)|(with_reducible refine Kd.C_alloc ?_ _)|(with_reducible refine Kd.Zcm ?_ _)|(with_reducible refine Kd.C_drew ?_))));(case aB=>exact(bM HB.out));(case aF=>exact(fun _ _=>trivial));(case aO=>exact(rM Er.out));(case aS=>exact(Zaj (bM HB.out)));(case aL=>have:=csa.out;have hlx_:=(show(ak.take ((nu):Int).toNat).length=(nu).toNat from(by rw[List.length_take];have h_:((nu):Int)≤(ak.length:Int):=(by first|exact odt|(have h2_:=hji88_;split at h2_<;>omega));omega));omega);intro v154 u3a ho hb hg hat;rw[←c2a.out]at ho;replace bA:=Za.mk (Kd.Zfw (sM bA.out) (Kd.Zdm (rM Er.out)) (by decide) hg);replace dw:=Za.mk (Kd.Zc8 (ok:=(fun _=>True)) (rM dw.out) hg hat);replace cz:=Za.mk (kG cz.out hg (Kd.R_ne Er.out cz.out (by decide)));replace di:=Za.mk (kG di.out hg (Kd.R_ne Er.out di.out (by decide)));replace aY:=Za.mk (kG aY.out hg (Kd.R_ne Er.out aY.out (by decide)));replace HB:=Za.mk (hb);have xq:=Za.mk (ho);clear Er;clear ho hb hg hat;obtain⟨pq,pJ,d6a⟩:=Kd.Za9 xq.out;subst d6a;have jHa:=xz.out;have jIa:=jM.out;obtain⟨koa,kpa,kqa,kra,ksa,jOa,jPa,jQa,jRa,jSa⟩:=cz5 aY.out)|((with_reducible refine Zap (N:=133) rfl ?_);refine Kd.Zdf (Kd.int .i64) _ 3 ?hg (N:=133) ?hd (xs:=([]:List Int)) (inner:= []) (ok:=fun _=>True) (okp:=fun _=>True) ?hr ?hp (fun _ hk=>hk) trivial (Below.refl _ _) (Nat.le_refl _) (by simp) ?_;(case hd=>rfl);(case hg=>rfl);(case hr=>first|(go_simp;done)|(go_simp;rfl));(case hp=>exact(Reps.none _ _));intro v157 u4a BS hb hg_ hnew_;clear hg_ hnew_;(first|rw[←V9.out]at BS|(simp only[Int.reduceToNat]at BS;rw[←V9.out]at BS));replace bA:=Za.mk (Kd.Zc9 (sM (Kd.Zcu (Kd.Zb2 (p:=⟨fq,3,none⟩) (Kd.Zcy bA.out aY.out (by decide)) (fun _ hk=>hk.2) (.slice pq y153.length pJ)) (fun _ h_=>h_.1))) hb);replace dw:=Za.mk (Kd.Zce (rM (Kd.Zaw (Kd.Za2 (p:=⟨fq,3,none⟩) (Kd.Zbh dw.out aY.out (by decide)) (fun _ hk=>hk.2) (.slice pq y153.length pJ)) (fun _ h_=>h_.1))) (Kd.Zb4 BS) hb);have Hd:=Za.mk (Kd.Zbp (Kd.Zcs BS (Kd.R_lt (rM (Kd.Zaw (Kd.Za2 (p:=⟨fq,3,none⟩) (Kd.Zbh xq.out aY.out (by decide)) (fun _ hk=>hk.2) (.slice pq y153.length pJ)) (fun _ h_=>h_.1))))) (Zaj (bM HB.out)));replace xq:=Za.mk (Kd.Zce (rM (Kd.Zaw (Kd.Za2 (p:=⟨fq,3,none⟩) (Kd.Zbh xq.out aY.out (by decide)) (fun _ hk=>hk.2) (.slice pq y153.length pJ)) (fun _ h_=>h_.1))) (Kd.Zb4 BS) hb);replace cz:=Za.mk (Zbz (g:=kT) (o:= .cells #[.slice bF ae.length bv,.slice aI aa.length aG,.int .i64 aj,.slice bi ak.length bn,.slice bf ai.length bg] 28 (0,0)) (by(with_reducible repeat(first|refine Zab ?_ _|refine Zad ?_|refine Zaa ?_ _));refine Zav ?_ gI.out _;(with_reducible repeat(first|refine Zab ?_ _|refine Zad ?_|refine Zaa ?_ _));exact cz.out) hb);replace di:=Za.mk (Zbz (g:=fC) (o:= .cells #[.slice none 0 0,.slice none 0 0,.int .i64 0,.slice none 0 0,.slice none 0 0] 28 (0,0)) (by(with_reducible repeat(first|refine Zab ?_ _|refine Zad ?_|refine Zaa ?_ _));refine Zav ?_ jM.out _;(with_reducible repeat(first|refine Zab ?_ _|refine Zad ?_|refine Zaa ?_ _));exact di.out) hb);replace aY:=Za.mk (Zbz (g:=fq) (o:= .cells #[fo,jq,.int .i64 aj,.slice pq y153.length pJ,.slice bf ai.length bg] 28 (0,0)) (by(with_reducible repeat(first|refine Zab ?_ _|refine Zad ?_|refine Zaa ?_ _));refine Zas (cs:=#[fo,jq,.int .i64 aj,.slice bi ak.length bn,.slice bf ai.length bg]) ?_ 3 _ rfl;(with_reducible repeat(first|refine Zab ?_ _|refine Zad ?_|refine Zaa ?_ _));exact aY.out) hb);replace HB:=Za.mk (bS HB.out hb);clear hb BS;obtain⟨kta,kua,kva,kwa,kxa,jTa,jUa,jVa,jWa,jXa⟩:=cz5 cz.out;obtain⟨i0109,Tz,_,hsz109,_⟩:=info_parts info3;obtain⟨hcut109,hA109,hC109⟩:=Zd4 (P:=Tryz.prog) (Value.int .i64) 0 24 3 .i64 Tryz.underlying24 Tz hsz109 bf bg ai (nR) (of_decide_eq_true (by first|(with_reducible assumption)|assumption)) (of_decide_eq_true (by first|(with_reducible assumption)|assumption)) lJ.out;have PY:=Za.mk (Kd.Zep (h1:=fun _=>rfl) (hA109 _ (Kd.Zej lh.out)));have laa:=Za.mk hC109;clear hA109 hC109 Tz hsz109)|((with_reducible refine Zbk (b:= .append) (xs:=#[.tmp 133,.tmp 142]) rfl ?_);at_builtin;refine Kd.Zcx (Kd.int .i64) (w0:=w) w.heap.size rfl (.tmp 133) (.tmp 142) 24 3 (.int .i64 0) 8 rfl Tryz.underlying24 info3 rfl (by decide) (by omega) v157 o9 (ai.take ((nR):Int).toNat) _ _ _ (fun k_=>some k_≠(.slice pq y153.length pJ:Value).ownBlock) (fun _=>False) rfl rfl ?aO ?aR (fun _ _ h=>h) (fun _ h=>h.elim) ?aF ?aB ?aS ?aL ?_;(case aR=>first|(have q_:=(Kd.Zaf PY.out HB.out);rw[show(ai.take ((nR):Int).toNat).length=(nR).toNat from(by rw[List.length_take];have h_:((nR):Int)≤(ai.length:Int):=(by first|exact odt|(have h2_:=hji92_;split at h2_<;>omega));omega)]at q_;exact q_)|(rw[←show(ai.take ((nR):Int).toNat).length=(nR).toNat from(by rw[List.length_take];have h_:((nR):Int)≤(ai.length:Int):=(by first|exact odt|(have h2_:=hji92_;split at h2_<;>omega));omega)];repeat(first|exact(Kd.Zaf PY.out HB.out)|(with_reducible refine Kd.C_alloc ?_ _)|(with_reducible refine Kd.Zcm ?_ _)|(with_reducible refine Kd.C_drew ?_)))|(repeat(first|exact(Kd.Zaf PY.out HB.out)|(with_reducible refine Kd.C_alloc ?_ _)|(with_reducible refine Kd.Zcm ?_ _)|(with_reducible refine Kd.C_drew ?_))));(case aB=>exact(bM HB.out));(case aF=>exact(fun k_ hk=>Kd.fresh' (Kd.R_lt (rM xq.out)) k_ hk));(case aO=>exact(rM (Kd.Zaw Hd.out (fun _ hk=>hk.2))));(case aS=>exact(Zaj (bM HB.out)));(case aL=>have:=cta.out;have hlx_:=(show(ai.take ((nR):Int).toNat).length=(nR).toNat from(by rw[List.length_take];have h_:((nR):Int)≤(ai.length:Int):=(by first|exact odt|(have h2_:=hji92_;split at h2_<;>omega));omega));omega);intro tOa u5a ho hb hg hat;rw[←c3a.out]at ho;replace bA:=Za.mk (Kd.Zfw (sM bA.out) (Kd.Zdm (rM Hd.out)) (by decide) hg);replace dw:=Za.mk (Kd.Zc8 (ok:=(fun k_=>some k_≠(.slice pq y153.length pJ:Value).ownBlock)) (rM (Kd.Zaw dw.out (fun _ hk=>⟨hk.1.2,hk.2⟩))) hg hat);replace di:=Za.mk (kG di.out hg (Kd.R_ne Hd.out di.out (by decide)));replace aY:=Za.mk (kG aY.out hg (Kd.R_ne Hd.out aY.out (by decide)));replace xq:=Za.mk (Kd.Zc8 (ok:=(fun _=>True)) (rM xq.out) hg hat);replace HB:=Za.mk (hb);have Vo:=Za.mk (ho);clear cz Hd;clear ho hb hg hat;obtain⟨vv,vC,d7a⟩:=Kd.Za9 Vo.out;subst d7a;obtain⟨kya,kza,k0a,k1a,k2a,jYa,kaa,kba,kca,kda⟩:=cz5 aY.out;obtain⟨vw,vD,d8a⟩:=Kd.Zd7 bA.out;subst d8a;obtain⟨k3a,k4a,k5a,k6a,k7a,kea,kfa,kga,kha,kia⟩:=cz5 di.out;obtain⟨xn,xL,d9a⟩:=Kd.Za9 dw.out;subst d9a))
        refine bodyPost_ret (results_cell_row rfl _ _ fC 28 #[.slice vw bR.length vD,.slice xn dG.length xL,.int .i64 aj,.slice pq y153.length pJ,.slice vv y160.length vC] (0,0) _ rfl (by(with_reducible repeat(first|refine Zab ?_ _|refine Zad ?_|refine Zaa ?_ _));refine Zas (cs:=#[.slice vw bR.length vD,.slice xn dG.length xL,.int .i64 aj,.slice pq y153.length pJ,.slice none 0 0]) ?_ 4 _ rfl;(with_reducible repeat(first|refine Zab ?_ _|refine Zad ?_|refine Zaa ?_ _));refine Zas (cs:=#[.slice vw bR.length vD,.slice xn dG.length xL,.int .i64 aj,.slice none 0 0,.slice none 0 0]) ?_ 3 _ rfl;(with_reducible repeat(first|refine Zab ?_ _|refine Zad ?_|refine Zaa ?_ _));refine Zas (cs:=#[.slice vw bR.length vD,.slice xn dG.length xL,.int .i64 0,.slice none 0 0,.slice none 0 0]) ?_ 2 _ rfl;(with_reducible repeat(first|refine Zab ?_ _|refine Zad ?_|refine Zaa ?_ _));refine Zas (cs:=#[.slice vw bR.length vD,.slice none 0 0,.int .i64 0,.slice none 0 0,.slice none 0 0]) ?_ 1 _ rfl;(with_reducible repeat(first|refine Zab ?_ _|refine Zad ?_|refine Zaa ?_ _));refine Zas (cs:=#[.slice none 0 0,.slice none 0 0,.int .i64 0,.slice none 0 0,.slice none 0 0]) ?_ 0 _ rfl;(with_reducible repeat(first|refine Zab ?_ _|refine Zad ?_|refine Zaa ?_ _));refine Zav ?_ jM.out _;(with_reducible repeat(first|refine Zab ?_ _|refine Zad ?_|refine Zaa ?_ _));exact di.out) Tryz.underlying28 rfl (by kernel_rfl)) rfl ?_;exact⟨_,_,_,_,by first|rfl|(simp[Zdi,Zdj]<;>rfl)|(simp only[←hji88,←hji92];first|rfl|(simp[Zdi,Zdj]<;>rfl))|(simp[*,Zdi,Zdj]<;>rfl),sM (Kd.Zcu (Kd.Zb2 (p:=⟨fC,4,none⟩) (Kd.Zb2 (p:=⟨fC,3,none⟩) (Kd.Zb2 (p:=⟨fC,2,none⟩) (Kd.Zb2 (p:=⟨fC,1,none⟩) (Kd.Zb2 (p:=⟨fC,0,none⟩) (Kd.Zb2 (p:=⟨fq,4,none⟩) (Kd.Zcy (Kd.Zcy bA.out aY.out (by decide)) di.out (by decide)) (fun _ hk=>hk.1.2) (.slice vv y160.length vC)) (fun _ hk=>hk.2) (.slice vw bR.length vD)) (fun _ hk=>hk.2) (.slice xn dG.length xL)) (fun _ hk=>hk.2) (.int .i64 aj)) (fun _ hk=>hk.2) (.slice pq y153.length pJ)) (fun _ hk=>hk.2) (.slice vv y160.length vC)) (fun _ hk=>trivial)),rM (Kd.Zaw (Kd.Za2 (p:=⟨fC,4,none⟩) (Kd.Za2 (p:=⟨fC,3,none⟩) (Kd.Za2 (p:=⟨fC,2,none⟩) (Kd.Za2 (p:=⟨fC,1,none⟩) (Kd.Za2 (p:=⟨fC,0,none⟩) (Kd.Za2 (p:=⟨fq,4,none⟩) (Kd.Zbh (Kd.Zbh dw.out aY.out (by decide)) di.out (by decide)) (fun _ hk=>hk.1.2) (.slice vv y160.length vC)) (fun _ hk=>hk.2) (.slice vw bR.length vD)) (fun _ hk=>hk.2) (.slice xn dG.length xL)) (fun _ hk=>hk.2) (.int .i64 aj)) (fun _ hk=>hk.2) (.slice pq y153.length pJ)) (fun _ hk=>hk.2) (.slice vv y160.length vC)) (fun _ hk=>⟨hk.1.1.1,hk.1.1.2⟩)),rM (Kd.Zaw (Kd.Za2 (p:=⟨fC,4,none⟩) (Kd.Za2 (p:=⟨fC,3,none⟩) (Kd.Za2 (p:=⟨fC,2,none⟩) (Kd.Za2 (p:=⟨fC,1,none⟩) (Kd.Za2 (p:=⟨fC,0,none⟩) (Kd.Za2 (p:=⟨fq,4,none⟩) (Kd.Zbh (Kd.Zbh xq.out aY.out (by decide)) di.out (by decide)) (fun _ hk=>hk.1.2) (.slice vv y160.length vC)) (fun _ hk=>hk.2) (.slice vw bR.length vD)) (fun _ hk=>hk.2) (.slice xn dG.length xL)) (fun _ hk=>hk.2) (.int .i64 aj)) (fun _ hk=>hk.2) (.slice pq y153.length pJ)) (fun _ hk=>hk.2) (.slice vv y160.length vC)) (fun _ hk=>hk.1.1.2)),rM (Kd.Zaw (Kd.Za2 (p:=⟨fC,4,none⟩) (Kd.Za2 (p:=⟨fC,3,none⟩) (Kd.Za2 (p:=⟨fC,2,none⟩) (Kd.Za2 (p:=⟨fC,1,none⟩) (Kd.Za2 (p:=⟨fC,0,none⟩) (Kd.Za2 (p:=⟨fq,4,none⟩) (Kd.Zbh (Kd.Zbh Vo.out aY.out (by decide)) di.out (by decide)) (fun _ hk=>hk.1.2) (.slice vv y160.length vC)) (fun _ hk=>hk.2) (.slice vw bR.length vD)) (fun _ hk=>hk.2) (.slice xn dG.length xL)) (fun _ hk=>hk.2) (.int .i64 aj)) (fun _ hk=>hk.2) (.slice pq y153.length pJ)) (fun _ hk=>hk.2) (.slice vv y160.length vC)) (fun _ hk=>hk.1.1)),bM HB.out⟩
       subst c54;have H1:(if 0≤af then(if af<(aa.length:Int)then(if 0≤(mn (((Zac aa af).f1).length:Int) 14)then(if(mn (((Zac aa af).f1).length:Int) 14)≤(((Zac aa af).f1).length:Int)then(if 0≤(mn (((Zac aa af).f2).length:Int) 14)then(if(mn (((Zac aa af).f2).length:Int) 14)≤(((Zac aa af).f2).length:Int)then((bRows.f ((Zac aa af).f5)).bind fun t167=>((Zb3.f kj45 ((Zac aa af).f0) (((Zac aa af).f1).take ((mn (((Zac aa af).f1).length:Int) 14):Int).toNat) (((Zac aa af).f2).take ((mn (((Zac aa af).f2).length:Int) 14):Int).toNat) ((Zac aa af).f3) ((Zac aa af).f4) t167 ((Zac aa af).f6)).bind fun fM=>(if dG.length<1353245080339 then(Zag.l1 kj45 (wrap64 (af+1)) ae aa aj ak ai bR (dG++ [(⟨fM.1,fM.2.1,fM.2.2.1,fM.2.2.2.1,fM.2.2.2.2.1,fM.2.2.2.2.2.1,fM.2.2.2.2.2.2⟩:S40)]) aj ak ai)else(none))))else(none))else(none))else(none))else(none))else(none))else(none))=some (r1,r2,r3,r4,r5):=by rw[if_pos rfl]at H;exact H
       clear H;have H:=H1;clear H1;obtain⟨lqa,H⟩:=ifT H;obtain⟨lra,H⟩:=ifT H;obtain⟨iK,hji57⟩:∃j_:Int,(mn (((Zac aa af).f1).length:Int) 14)=j_:=⟨_,rfl⟩;replace H:(if 0≤(iK)then(if(iK)≤(((Zac aa af).f1).length:Int)then(if 0≤(mn (((Zac aa af).f2).length:Int) 14)then(if(mn (((Zac aa af).f2).length:Int) 14)≤(((Zac aa af).f2).length:Int)then((bRows.f ((Zac aa af).f5)).bind fun t167=>((Zb3.f kj45 ((Zac aa af).f0) (((Zac aa af).f1).take ((iK):Int).toNat) (((Zac aa af).f2).take ((mn (((Zac aa af).f2).length:Int) 14):Int).toNat) ((Zac aa af).f3) ((Zac aa af).f4) t167 ((Zac aa af).f6)).bind fun fM=>(if dG.length<1353245080339 then(Zag.l1 kj45 (wrap64 (af+1)) ae aa aj ak ai bR (dG++ [(⟨fM.1,fM.2.1,fM.2.2.1,fM.2.2.2.1,fM.2.2.2.2.1,fM.2.2.2.2.2.1,fM.2.2.2.2.2.2⟩:S40)]) aj ak ai)else(none))))else(none))else(none))else(none))else(none))=some (r1,r2,r3,r4,r5):=by first|(rw[hji57]at H;exact H)|(simp only[hji57]at H ⊢;exact H)
       have hji57_:(if 14<(((Zac aa af).f1).length:Int)then 14 else(((Zac aa af).f1).length:Int))=iK:=hji57;obtain⟨c58,H⟩:=ifP H;have VW:=eq_true c58;have VX:decide (0≤(iK))=true:=decide_eq_true c58;clear c58;obtain⟨c59,H⟩:=ifP H;have lta:=eq_true c59;have lua:decide ((iK)≤(((Zac aa af).f1).length:Int))=true:=decide_eq_true c59;clear c59;obtain⟨jA,hji60⟩:∃j_:Int,(mn (((Zac aa af).f2).length:Int) 14)=j_:=⟨_,rfl⟩;replace H:(if 0≤(jA)then(if(jA)≤(((Zac aa af).f2).length:Int)then((bRows.f ((Zac aa af).f5)).bind fun t167=>((Zb3.f kj45 ((Zac aa af).f0) (((Zac aa af).f1).take ((iK):Int).toNat) (((Zac aa af).f2).take ((jA):Int).toNat) ((Zac aa af).f3) ((Zac aa af).f4) t167 ((Zac aa af).f6)).bind fun fM=>(if dG.length<1353245080339 then(Zag.l1 kj45 (wrap64 (af+1)) ae aa aj ak ai bR (dG++ [(⟨fM.1,fM.2.1,fM.2.2.1,fM.2.2.2.1,fM.2.2.2.2.1,fM.2.2.2.2.2.1,fM.2.2.2.2.2.2⟩:S40)]) aj ak ai)else(none))))else(none))else(none))=some (r1,r2,r3,r4,r5):=by first|(rw[hji60]at H;exact H)|(simp only[hji60]at H ⊢;exact H)
       have hji60_:(if 14<(((Zac aa af).f2).length:Int)then 14 else(((Zac aa af).f2).length:Int))=jA:=hji60;obtain⟨c61,H⟩:=ifP H;have lva:=eq_true c61;have lwa:decide (0≤(jA))=true:=decide_eq_true c61;clear c61;obtain⟨c62,H⟩:=ifP H;have QL:=eq_true c62;have lxa:decide ((jA)≤(((Zac aa af).f2).length:Int))=true:=decide_eq_true c62;clear c62;obtain⟨t167,A63,H⟩:=bnd H;replace H:((Zb3.f kj45 ((Zac aa af).f0) (((Zac aa af).f1).take ((iK):Int).toNat) (((Zac aa af).f2).take ((jA):Int).toNat) ((Zac aa af).f3) ((Zac aa af).f4) t167 ((Zac aa af).f6)).bind fun fM=>(if dG.length<1353245080339 then(Zag.l1 kj45 (wrap64 (af+1)) ae aa aj ak ai bR (dG++ [(⟨fM.1,fM.2.1,fM.2.2.1,fM.2.2.2.1,fM.2.2.2.2.1,fM.2.2.2.2.2.1,fM.2.2.2.2.2.2⟩:S40)]) aj ak ai)else(none)))=some (r1,r2,r3,r4,r5):=H;obtain⟨⟨Kj,t171,Gy,Kk,Kl,Gz,t182⟩,A64,H⟩:=bnd H;replace H:(if dG.length<1353245080339 then(Zag.l1 kj45 (wrap64 (af+1)) ae aa aj ak ai bR (dG++ [(⟨Kj,t171,Gy,Kk,Kl,Gz,t182⟩:S40)]) aj ak ai)else(none))=some (r1,r2,r3,r4,r5):=H;obtain⟨c65,H⟩:=ifP H;have cpa:=Za.mk c65;clear c65;obtain⟨NC,Iu⟩:∃y_:List (S40),y_=(dG++ [(⟨Kj,t171,Gy,Kk,Kl,Gz,t182⟩:S40)]):=⟨_,rfl⟩;replace H:(Zag.l1 kj45 (wrap64 (af+1)) ae aa aj ak ai bR NC aj ak ai)=some (r1,r2,r3,r4,r5):=by first|(rw[Iu];with_reducible exact H)|(have H2_:=(Option.bind_some _ _).symm.trans H;rw[Iu];with_reducible exact H2_)|(have H2_:=(Option.bind_some _ _).symm.trans H;with_reducible exact H2_)|with_reducible exact H|(rw[Iu];exact H)|exact H
       have c4a:=Za.mk Iu;clear Iu;have H':=Za.mk H;clear H;have lTa:=nJ.out;have m7a:=nK.out;have lUa:=gI.out;have m8a:=lW.out;obtain⟨rpa,rqa,rra,rsa,rta,oba,oca,oda,oea,ofa⟩:=cz5 cz.out;have t7a:(0≤(af:Int))=True:=teq;have tCa:(af<(aa.length:Int))=True:=teq;obtain⟨Ql,dQ,dR,eD,eG,jL,j4,rfl,OM,OO,OP,OQ,OT,OU,OV,O3,Oe,O4,Og,O5,Oh⟩:=Zeq fE.out af odt odt;replace OM:=hB HB.out OM;replace OO:=hB HB.out OO;replace OP:=hB HB.out OP;replace OQ:=hB HB.out OQ;replace OT:=hB HB.out OT;replace OU:=hB HB.out OU;replace OV:=hB HB.out OV;have XJ:=Za.mk Oe;have X0:=Za.mk O3;clear Oe O3;have XK:=Za.mk Og;have X3:=Za.mk O4;clear Og O4;have XL:=Za.mk Oh;have j1a:=Za.mk O5;clear Oh O5;have WB164:=Za.mk (Below.refl w.heap.size w)
       go_upto_region 13 with (first|((with_reducible refine Zap (N:=7) rfl ?_);refine bx 7 #[.int .i64 0,.slice none 0 0,.slice none 0 0,.int .i64 0,.int .i64 0,.slice none 0 0,.int .i64 0] 40 ?_;intro bD hg w69 hbox hb;replace bA:=Za.mk (Kd.Zc9 (sM bA.out) hb);replace dw:=Za.mk (Kd.Zbt (Kd.Zf7 (rM dw.out) bD (Nat.le_of_eq hg.symm)) hb);have dN:=Za.mk (hbox);have GW164:=Za.mk ((gE hg HB.out:w.heap.size≤bD));have bMa:=Za.mk ((gE hg HB.out:w.heap.size≤bD));replace HB:=Za.mk (bS HB.out hb);have gp:=Za.mk ((by rw[hg];exact Nat.ne_of_lt (Zbj (kM cz.out)):kT≠bD));have Te:=Za.mk ((by rw[hg];exact Nat.ne_of_gt (Zbj (kM cz.out)):bD≠kT));replace cz:=Za.mk (kB cz.out hb);have gq:=Za.mk ((by rw[hg];exact Nat.ne_of_lt (Zbj (kM di.out)):fC≠bD));have Tf:=Za.mk ((by rw[hg];exact Nat.ne_of_gt (Zbj (kM di.out)):bD≠fC));replace di:=Za.mk (kB di.out hb);have fQ:=Za.mk ((by rw[hg];exact Nat.ne_of_lt (Zbj (kM aY.out)):fq≠bD));have KI:=Za.mk ((by rw[hg];exact Nat.ne_of_gt (Zbj (kM aY.out)):bD≠fq));replace aY:=Za.mk (kB aY.out hb);clear hb hbox hg;have lVa:=Te.out;have m9a:=gp.out;have lWa:=Tf.out;have mAa:=gq.out;have dOa:=KI.out;have eda:=fQ.out;obtain⟨hqa,hta,hua,hwa,h0a,h2a,h3a,f2a,f3a,f4a,f5a,f6a,f7a,f8a⟩:=cz7 dN.out;obtain⟨i074,Wn,_,hsz74,_⟩:=info_parts info3;obtain⟨hcut74,hA74,hC74⟩:=Zd4 (P:=Tryz.prog) (Value.int .i64) 0 24 3 .i64 Tryz.underlying24 Wn hsz74 dQ dR ((Zac aa af).f1) (iK) (of_decide_eq_true (by first|(with_reducible assumption)|assumption)) (of_decide_eq_true (by first|(with_reducible assumption)|assumption)) X0.out;have cha:=Za.mk (Kd.Zep (h1:=fun _=>rfl) (hA74 _ (Kd.Zej XJ.out)));have bOa:=Za.mk hC74;clear hA74 hC74 Wn hsz74;obtain⟨i075,Wo,_,hsz75,_⟩:=info_parts info3;obtain⟨hcut75,hA75,hC75⟩:=Zd4 (P:=Tryz.prog) (Value.int .i64) 0 24 3 .i64 Tryz.underlying24 Wo hsz75 eD eG ((Zac aa af).f2) (jA) (of_decide_eq_true (by first|(with_reducible assumption)|assumption)) (of_decide_eq_true (by first|(with_reducible assumption)|assumption)) X3.out;have cia:=Za.mk (Kd.Zep (h1:=fun _=>rfl) (hA75 _ (Kd.Zej XK.out)));have bPa:=Za.mk hC75;clear hA75 hC75 Wo hsz75))
       obtain⟨wX,hX⟩:∃x_:World,x_=(((((((((w69.setCell ⟨bD,0,none⟩ (.int .i64 ((Zac aa af).f0))).setCell ⟨bD,1,none⟩ (.slice dQ ((Zac aa af).f1).length dR)).setCell ⟨bD,2,none⟩ (.slice eD ((Zac aa af).f2).length eG)).setCell ⟨bD,3,none⟩ (.int .i64 ((Zac aa af).f3))).setCell ⟨bD,4,none⟩ (.int .i64 ((Zac aa af).f4))).setCell ⟨bD,5,none⟩ (.slice jL ((Zac aa af).f5).length j4)).setCell ⟨bD,6,none⟩ (.int .i64 ((Zac aa af).f6))).setCell ⟨bD,1,none⟩ (.slice dQ (((Zac aa af).f1).take ((iK):Int).toNat).length dR)).setCell ⟨bD,2,none⟩ (.slice eD (((Zac aa af).f2).take ((jA):Int).toNat).length eG)):=⟨_,rfl⟩;have BX:Za (wX.heap[bD]? =some (.cells #[.int .i64 ((Zac aa af).f0),.slice dQ (((Zac aa af).f1).take ((iK):Int).toNat).length dR,.slice eD (((Zac aa af).f2).take ((jA):Int).toNat).length eG,.int .i64 ((Zac aa af).f3),.int .i64 ((Zac aa af).f4),.slice jL ((Zac aa af).f5).length j4,.int .i64 ((Zac aa af).f6)] 40 (0,0))):=⟨by rw[hX];(with_reducible repeat(first|refine Zab ?_ _|refine Zad ?_|refine Zaa ?_ _));refine Zas (cs:=#[.int .i64 ((Zac aa af).f0),.slice dQ (((Zac aa af).f1).take ((iK):Int).toNat).length dR,.slice eD ((Zac aa af).f2).length eG,.int .i64 ((Zac aa af).f3),.int .i64 ((Zac aa af).f4),.slice jL ((Zac aa af).f5).length j4,.int .i64 ((Zac aa af).f6)]) ?_ 2 _ rfl;(with_reducible repeat(first|refine Zab ?_ _|refine Zad ?_|refine Zaa ?_ _));refine Zas (cs:=#[.int .i64 ((Zac aa af).f0),.slice dQ ((Zac aa af).f1).length dR,.slice eD ((Zac aa af).f2).length eG,.int .i64 ((Zac aa af).f3),.int .i64 ((Zac aa af).f4),.slice jL ((Zac aa af).f5).length j4,.int .i64 ((Zac aa af).f6)]) ?_ 1 _ rfl;(with_reducible repeat(first|refine Zab ?_ _|refine Zad ?_|refine Zaa ?_ _));refine Zas (cs:=#[.int .i64 ((Zac aa af).f0),.slice dQ ((Zac aa af).f1).length dR,.slice eD ((Zac aa af).f2).length eG,.int .i64 ((Zac aa af).f3),.int .i64 ((Zac aa af).f4),.slice jL ((Zac aa af).f5).length j4,.int .i64 0]) ?_ 6 _ rfl;(with_reducible repeat(first|refine Zab ?_ _|refine Zad ?_|refine Zaa ?_ _));refine Zas (cs:=#[.int .i64 ((Zac aa af).f0),.slice dQ ((Zac aa af).f1).length dR,.slice eD ((Zac aa af).f2).length eG,.int .i64 ((Zac aa af).f3),.int .i64 ((Zac aa af).f4),.slice none 0 0,.int .i64 0]) ?_ 5 _ rfl;(with_reducible repeat(first|refine Zab ?_ _|refine Zad ?_|refine Zaa ?_ _));refine Zas (cs:=#[.int .i64 ((Zac aa af).f0),.slice dQ ((Zac aa af).f1).length dR,.slice eD ((Zac aa af).f2).length eG,.int .i64 ((Zac aa af).f3),.int .i64 0,.slice none 0 0,.int .i64 0]) ?_ 4 _ rfl;(with_reducible repeat(first|refine Zab ?_ _|refine Zad ?_|refine Zaa ?_ _));refine Zas (cs:=#[.int .i64 ((Zac aa af).f0),.slice dQ ((Zac aa af).f1).length dR,.slice eD ((Zac aa af).f2).length eG,.int .i64 0,.int .i64 0,.slice none 0 0,.int .i64 0]) ?_ 3 _ rfl;(with_reducible repeat(first|refine Zab ?_ _|refine Zad ?_|refine Zaa ?_ _));refine Zas (cs:=#[.int .i64 ((Zac aa af).f0),.slice dQ ((Zac aa af).f1).length dR,.slice none 0 0,.int .i64 0,.int .i64 0,.slice none 0 0,.int .i64 0]) ?_ 2 _ rfl;(with_reducible repeat(first|refine Zab ?_ _|refine Zad ?_|refine Zaa ?_ _));refine Zas (cs:=#[.int .i64 ((Zac aa af).f0),.slice none 0 0,.slice none 0 0,.int .i64 0,.int .i64 0,.slice none 0 0,.int .i64 0]) ?_ 1 _ rfl;(with_reducible repeat(first|refine Zab ?_ _|refine Zad ?_|refine Zaa ?_ _));refine Zas (cs:=#[.int .i64 0,.slice none 0 0,.slice none 0 0,.int .i64 0,.int .i64 0,.slice none 0 0,.int .i64 0]) ?_ 0 _ rfl;(with_reducible repeat(first|refine Zab ?_ _|refine Zad ?_|refine Zaa ?_ _));exact dN.out⟩;have HBW:Za (Below w.heap.size w wX):=⟨by rw[hX];repeat(first|(with_reducible first|exact HB.out|apply Zb|apply Zb7|apply Zb6|refine Zax ?_ bJa.out|refine Zax ?_ bKa.out|refine Zax ?_ bLa.out|refine Zax ?_ bMa.out)|exact HB.out)⟩;have eL1:(((Zac aa af).f1).take (iK:Int).toNat).length=(iK:Int).toNat:=by(have h_:(iK:Int)≤(((Zac aa af).f1).length:Int):=of_decide_eq_true (by first|(with_reducible assumption)|assumption));rw[List.length_take];omega
       have eL2:(((Zac aa af).f2).take (jA:Int).toNat).length=(jA:Int).toNat:=by(have h_:(jA:Int)≤(((Zac aa af).f2).length:Int):=of_decide_eq_true (by first|(with_reducible assumption)|assumption));rw[List.length_take];omega
       have eT:(((((((((w69.setCell ⟨bD,0,none⟩ (.int .i64 ((Zac aa af).f0))).setCell ⟨bD,1,none⟩ (.slice dQ ((Zac aa af).f1).length dR)).setCell ⟨bD,2,none⟩ (.slice eD ((Zac aa af).f2).length eG)).setCell ⟨bD,3,none⟩ (.int .i64 ((Zac aa af).f3))).setCell ⟨bD,4,none⟩ (.int .i64 ((Zac aa af).f4))).setCell ⟨bD,5,none⟩ (.slice jL ((Zac aa af).f5).length j4)).setCell ⟨bD,6,none⟩ (.int .i64 ((Zac aa af).f6))).setCell ⟨bD,1,none⟩ (.slice dQ (iK:Int).toNat dR)).setCell ⟨bD,2,none⟩ (.slice eD (jA:Int).toNat eG))=wX:=by rw[hX,eL1,eL2]
       rw[eT];clear eT eL1 eL2;have HX:=Za.mk hX;clear hX
       go_upto_block 4 with (first|((with_reducible refine Zap (N:=83) rfl ?_);refine Kd.S_lit (Kd.slice 3 (Kd.int .i64)) _ 24 ?hg (N:=83) ?hd (xs:=([]:List (List Int))) (inner:= []) (ok:=fun _=>True) (okp:=fun _=>True) ?hr ?hp (fun _ hk=>hk) trivial (Below.refl _ _) (Nat.le_refl _) (by simp) ?_;(case hd=>rfl);(case hg=>rfl);(case hr=>first|(go_simp;done)|(go_simp;rfl));(case hp=>exact(Reps.none _ _));intro vL wL hoL hb hg_ hnew_;clear hg_ hnew_;have HL:=Za.mk (Kd.Ze5 (ok':=fun k_=>k_<w.heap.size∨wX.heap.size≤k_) (Kd.S_N (Kd.S_bound hoL)) (fun k_ hk_=> .inr hk_.2.1));have HBL:=Za.mk hb;clear hb hoL))
       (try simp only[Act.put,List.setIfInBounds_toArray,List.set_cons_zero,List.set_cons_succ])
       go_cut [8] (fun v8 wc=>∃vr:Value,vr=v8∧Za (Kd.N (Kd.slice 3 (Kd.int .i64)) 24 wc wX.heap.size (fun k_=>k_<w.heap.size∨wX.heap.size≤k_) vr t167)∧Za (Below wX.heap.size wX wc))
       case first=>
        obtain rfl:cutR (Zac aa af).f5=t167:=Option.some.inj A63.out;clear A63;go_wp2
        go_loopg [8,9] 21 (fun kq v8 v9 w'=>∃(n:Nat) (x:Int),v9= .int .i64 x∧Za (x=(n:Int))∧Za (n+kq=21)∧Za (n≤((Zac aa af).f5).length∧n≤20)∧Za (Kd.N (Kd.slice 3 (Kd.int .i64)) 24 w' wX.heap.size (fun k_=>k_<w.heap.size∨wX.heap.size≤k_) v8 ((((Zac aa af).f5).take n).map fun r=>r.take 14))∧Za (Below wX.heap.size wX w'))
        case atStart=>exact⟨0,0,rfl,⟨rfl⟩,⟨rfl⟩,⟨Nat.zero_le _,Nat.zero_le _⟩,⟨nM HL.out⟩,⟨bM HBL.out⟩⟩
        case round=>
         clear HL HBL;obtain⟨n,x,rfl,HE,HK,HN,HO8,HBL⟩:=hrel
         cases gk with
         | zero => exact absurd HK.out (by have := HN.out.2; omega)
         |succ kI=>
          have BXr:=Za.mk (Zbz (g:=bD) (o:= .cells #[.int .i64 ((Zac aa af).f0),.slice dQ (((Zac aa af).f1).take ((iK):Int).toNat).length dR,.slice eD (((Zac aa af).f2).take ((jA):Int).toNat).length eG,.int .i64 ((Zac aa af).f3),.int .i64 ((Zac aa af).f4),.slice jL ((Zac aa af).f5).length j4,.int .i64 ((Zac aa af).f6)] 40 (0,0)) BX.out HBL.out);obtain⟨hczI_0,hczI_1,hczI_2,hczI_3,hczI_4,hczI_5,hczI_6,hfzI_0,hfzI_1,hfzI_2,hfzI_3,hfzI_4,hfzI_5,hfzI_6⟩:=cz7 BXr.out;by_cases c1:n<((Zac aa af).f5).length
          case neg=>
           have d1:decide (x<(((Zac aa af).f5).length:Int))=false:=decide_eq_false (by have:=HE.out;omega);have d1p:¬(x<(((Zac aa af).f5).length:Int)):=by have:=HE.out;omega
           have HOF:Za (Kd.N (Kd.slice 3 (Kd.int .i64)) 24 wr wX.heap.size (fun k_=>k_<w.heap.size∨wX.heap.size≤k_) u8 (cutR (Zac aa af).f5)):=⟨by have e_:cutR (Zac aa af).f5=(((Zac aa af).f5).take n).map fun r=>r.take 14:=(by have h1_:=HN.out;unfold cutR;rw[List.take_of_length_le (by omega:((Zac aa af).f5).length≤n),List.take_of_length_le (by omega:((Zac aa af).f5).length≤20)]);rw[e_];exact HO8.out⟩;clear c1;go_wp2
           go_meet
           case rel=>exact⟨_,rfl,⟨nM HOF.out⟩,⟨bM HBL.out⟩⟩
          have d1:decide (x<(((Zac aa af).f5).length:Int))=true:=decide_eq_true (by have:=HE.out;omega);by_cases c2:n<20
          case neg=>
           have d2:decide (x<20)=false:=decide_eq_false (by have:=HE.out;omega);have d2p:¬(x<20):=by have:=HE.out;omega
           have HOF:Za (Kd.N (Kd.slice 3 (Kd.int .i64)) 24 wr wX.heap.size (fun k_=>k_<w.heap.size∨wX.heap.size≤k_) u8 (cutR (Zac aa af).f5)):=⟨by have e_:cutR (Zac aa af).f5=(((Zac aa af).f5).take n).map fun r=>r.take 14:=(by have h1_:=HN.out;unfold cutR;rw[show n=20 by omega]);rw[e_];exact HO8.out⟩;clear c1 c2;go_wp2
           go_meet
           case rel=>exact⟨_,rfl,⟨nM HOF.out⟩,⟨bM HBL.out⟩⟩
          have d2:decide (x<20)=true:=decide_eq_true (by have:=HE.out;omega);obtain⟨HK1,HN1,LMI,HEW,JI,JJ⟩:Za (n+1+kI=21)∧Za (n+1≤((Zac aa af).f5).length∧n+1≤20)∧Za (((((Zac aa af).f5).take n).map fun r=>r.take 14).length<5864062014805)∧Za (wrap64 (x+1)=((n+1:Nat):Int))∧Za ((0:Int)≤x)∧Za (x<(((Zac aa af).f5).length:Int)):=⟨⟨by have:=HK.out;omega⟩,⟨by omega,by omega⟩,⟨by rw[List.length_map,List.length_take];omega⟩,⟨by rw[HE.out];unfold wrap64;omega⟩,⟨by have:=HE.out;omega⟩,⟨by have:=HE.out;omega⟩⟩;have RE:Za (((((Zac aa af).f5).take n).map fun r=>r.take 14)++ [(Zca ((Zac aa af).f5) x).take 14]=(((Zac aa af).f5).take (n+1)).map fun r=>r.take 14):=⟨by rw[List.take_succ_eq_append_getElem c1,List.map_append,HE.out];simp[Zca,List.getD_eq_getElem?_getD,List.getElem?_eq_getElem c1]⟩;clear c1 c2;obtain⟨adI,AI,cI,eI,hxI,hlI,hiI⟩:=Ze6 XL.out x JI.out JJ.out;cases eI;have HBwr:=Za.mk (Zae HBW.out HBL.out);replace hxI:=Za.mk hxI;obtain⟨jI,hjI⟩:∃j_:Int,(mn ((Zca ((Zac aa af).f5) x).length:Int) 14)=j_:=⟨_,rfl⟩;have hjI_:(if 14<((Zca ((Zac aa af).f5) x).length:Int)then 14 else((Zca ((Zac aa af).f5) x).length:Int))=jI:=hjI;have hj0:0≤jI:=by rw[←hjI_];split<;>omega
          have hj1:jI≤((Zca ((Zac aa af).f5) x).length:Int):=by rw[←hjI_];split<;>omega
          have RJ:Za ((Zca ((Zac aa af).f5) x).take jI.toNat=(Zca ((Zac aa af).f5) x).take 14):=⟨by rw[←hjI_];split<;>(first|rfl|(rw[List.take_of_length_le (by omega),List.take_of_length_le (by omega)]))⟩;have eLI:=Za.mk (show((Zca ((Zac aa af).f5) x).take jI.toNat).length=jI.toNat by rw[List.length_take];omega);obtain⟨i0I,hi0I,_,hszI,_⟩:=info_parts info3;obtain⟨hcutI,hAI,hCI⟩:=Zd4 (P:=Tryz.prog) (Value.int .i64) 0 24 3 .i64 Tryz.underlying24 hi0I hszI AI cI (Zca ((Zac aa af).f5) x) jI hj0 hj1 hlI;have HIT:=Za.mk (Kd.Zep (h1:=fun _=>rfl) (hAI _ (Kd.Zej hiI)));have HCI:=Za.mk hCI;clear hAI hCI hi0I hszI hiI;have j0b:decide (0≤jI)=true:=decide_eq_true hj0;have j1b:decide (jI≤((Zca ((Zac aa af).f5) x).length:Int))=true:=decide_eq_true hj1;replace hj0:=eq_true hj0;replace hj1:=eq_true hj1;have x0:decide (0≤x)=true:=decide_eq_true JI.out;have p0:=eq_true JI.out;have q0:=eq_true JJ.out;have FKI:∀W:World,Below w.heap.size w W→Kd.FK (Kd.slice 3 (Kd.int .i64)) W (fun k_=>(k_<w.heap.size∨wX.heap.size≤k_)∧some k_≠(u8:Value).ownBlock) ((Zca ((Zac aa af).f5) x).take jI.toNat) [.slice AI ((Zca ((Zac aa af).f5) x).take jI.toNat).length cI]:=fun W hW=>Kd.Zgc HCI.out (Kd.Zha (Kd.Zfv (Kd.C_F (Kd.heap_int .i64) HIT.out) hW) (fun k_ hk_=>⟨.inl hk_,fun e_=>by have h1_:=Kd.Zhc HO8.out k_ e_.symm;have h2_:=Zaj HBW.out;omega⟩))
          have FKA:=Za.mk FKI;clear FKI;try go_wp2_with (fail)
          clear hczI_0 hfzI_0 hczI_1 hfzI_1 hczI_2 hfzI_2 hczI_3 hfzI_3 hczI_4 hfzI_4 hczI_5 hfzI_5 hczI_6 hfzI_6;have HO8d:=Za.mk (Kd.N_drew HO8.out);replace BXr:=Za.mk (Zad BXr.out);replace HBL:=Za.mk (Zb6 HBL.out);replace HBwr:=Za.mk (Zb6 HBwr.out);refine Zef (n:=17) (S:=fun w'=>w'.cell? ⟨bD,5,none⟩=some (.slice (some adI) ((Zac aa af).f5).length j4)∧w'.cell? (adI.add (x:Int).toNat)=some (.slice AI (Zca ((Zac aa af).f5) x).length cI)) (ds:= [15]) #[false,false,false,false,false,false,false,false,false,false,false,false,false,false,false,false,false] (by kernel_rfl) rfl rfl ⟨bc BXr.out 5,(HBwr.out.cell (World.block_lt_of_cell? w _ hxI.out)).trans hxI.out⟩ (fun hHeld=> ?_);refine Zc6 Zag.tab17 Zag.bits17 (fun HT_ HW_=> ?_)
          generalize wr.drew=wd at HO8d BXr HBL HBwr hHeld ⊢
          refine pu HT_ 0 95 ?_;refine pu HT_ 1 96 ?_;refine tk HT_ HW_ hHeld 2 97 ?_;refine pu HT_ 3 98 ?_;refine pu HT_ 4 99 ?_;refine tk HT_ HW_ hHeld 5 100 ?_;refine pu HT_ 6 101 ?_;refine tk HT_ HW_ hHeld 7 102 ?_;refine pu HT_ 8 103 ?_;refine pu HT_ 9 104 ?_;refine tk HT_ HW_ hHeld 10 105 ?_;refine pu HT_ 11 106 ?_;refine pu HT_ 12 107 ?_;refine pu HT_ 13 108 ?_;refine on1 HT_ 14 109 (fun K hK=> ?_);refine Zhj (w1:=?_) (v:=?_) (by rfl) rfl ?_ ?_;rotate_left 2
          ·go_simp
           constructor
           ·rfl
           rfl
          refine hK.out _ _ ⟨(Zah (Zaa BXr.out _) 5).trans rfl,((Zae HBwr.out (Zb (Below.refl _ _) _)).cell (World.block_lt_of_cell? w _ hxI.out)).trans hxI.out⟩ (fun hHeld=> ?_);clear hK K;refine nmp 109 ?_;refine last_ (i:=15) (N:=some 110) #[true,true,true,true,true,true,true,true,true,true,true,true,true,true,true,true,false] rfl rfl (Ze8 HT_.out (by kernel_rfl)) (by decide) (fun K hK=> ?_);refine Kd.N_append_step (Kd.slice 3 (Kd.int .i64)) (w0:=wX) wX.heap.size (by rfl) (.tmp 95) (.tmp 109) 38 24 (.slice none 0 0) 24 rfl Tryz.underlying38 info24 rfl (by decide) (by omega) u8 ((((Zac aa af).f5).take n).map fun r=>r.take 14) ((Zca ((Zac aa af).f5) x).take jI.toNat) [.slice AI (jI:Int).toNat cI] (fun k_=>k_<w.heap.size∨wX.heap.size≤k_) (fun k_=>(k_<w.heap.size∨wX.heap.size≤k_)∧some k_≠(u8:Value).ownBlock) rfl rfl ?aP (fun _ hk=>hk) (fun k_ hk=> .inr (Nat.le_trans (Zaj HBL.out) hk)) HO8d.out HBL.out (Zaj HBL.out) (by have:=LMI.out;omega) ?_
          (case aP=>have hq_:=FKA.out _ HBwr.out;rw[eLI.out]at hq_;exact hq_)
          intro vN wN ho hb hg hat;have HON:=Za.mk ho;have HBN:=Za.mk hb;clear ho hb hg hat;refine hK.out _ _ ?_;clear hK K;refine nmp 110 ?_;refine pu HT_ 16 8 ?_;refine Zfb (Zdw HT_.out (by kernel_rfl)) ?_;try go_wp2
          go_roundg kI
          case measure=>omega
          case rel=>exact⟨n+1,_,rfl,HEW,HK1,HN1,⟨by rw[←RE.out,←RJ.out];(with_reducible repeat(first|apply Kd.N_alloc|apply Kd.N_drewN|apply Kd.N_drew));exact HON.out⟩,⟨bM HBN.out⟩⟩
       case rest=>
        obtain⟨v168,rfl,HN,HBL⟩:=hcut;obtain⟨w76,rfl⟩:∃w_:World,w_=wc:=⟨_,rfl⟩;have hX:=HX.out;clear HX BX HBW;subst hX;have hb:=HBL.out;have pF:Za (Kd.V (Kd.slice 3 (Kd.int .i64)) 24 w76 w.heap.size (fun k_=>some k_≠(fo:Value).ownBlock∧some k_≠(jq:Value).ownBlock∧k_≠kT∧k_≠fC∧k_≠fq∧k_≠bD) v168 t167):=⟨Kd.Zdz (Kd.N_V HN.out) (fun k_ hk_=>hk_.elim (fun hk_=>⟨fun e_=>Nat.not_le.2 hk_ (Kd.S_base bA.out k_ e_.symm),fun e_=>Nat.not_le.2 hk_ (Kd.Zb4 dw.out k_ e_.symm),fun e_=>Nat.not_le.2 hk_ (by rw[e_];exact GW131.out),fun e_=>Nat.not_le.2 hk_ (by rw[e_];exact GW132.out),fun e_=>Nat.not_le.2 hk_ (by rw[e_];exact GW133.out),fun e_=>Nat.not_le.2 hk_ (by rw[e_];exact GW164.out)⟩) (fun hk_=>⟨(Kd.fresh' (Kd.S_lt (sM (Kd.Zcu (Kd.Zb2 (p:=⟨bD,2,none⟩) (Kd.Zb2 (p:=⟨bD,1,none⟩) (Kd.Zb2 (p:=⟨bD,6,none⟩) (Kd.Zb2 (p:=⟨bD,5,none⟩) (Kd.Zb2 (p:=⟨bD,4,none⟩) (Kd.Zb2 (p:=⟨bD,3,none⟩) (Kd.Zb2 (p:=⟨bD,2,none⟩) (Kd.Zb2 (p:=⟨bD,1,none⟩) (Kd.Zb2 (p:=⟨bD,0,none⟩) (Kd.Zcy bA.out dN.out (by decide)) (fun _ hk=>hk.2) (.int .i64 ((Zac aa af).f0))) (fun _ hk=>hk.2) (.slice dQ ((Zac aa af).f1).length dR)) (fun _ hk=>hk.2) (.slice eD ((Zac aa af).f2).length eG)) (fun _ hk=>hk.2) (.int .i64 ((Zac aa af).f3))) (fun _ hk=>hk.2) (.int .i64 ((Zac aa af).f4))) (fun _ hk=>hk.2) (.slice jL ((Zac aa af).f5).length j4)) (fun _ hk=>hk.2) (.int .i64 ((Zac aa af).f6))) (fun _ hk=>hk.2) (.slice dQ (((Zac aa af).f1).take ((iK):Int).toNat).length dR)) (fun _ hk=>hk.2) (.slice eD (((Zac aa af).f2).take ((jA):Int).toNat).length eG)) (fun _ h_=>h_.1)))) k_ hk_),(Kd.fresh' (Kd.R_lt (rM (Kd.Zaw (Kd.Za2 (p:=⟨bD,2,none⟩) (Kd.Za2 (p:=⟨bD,1,none⟩) (Kd.Za2 (p:=⟨bD,6,none⟩) (Kd.Za2 (p:=⟨bD,5,none⟩) (Kd.Za2 (p:=⟨bD,4,none⟩) (Kd.Za2 (p:=⟨bD,3,none⟩) (Kd.Za2 (p:=⟨bD,2,none⟩) (Kd.Za2 (p:=⟨bD,1,none⟩) (Kd.Za2 (p:=⟨bD,0,none⟩) (Kd.Zaw dw.out (fun k_ hk=>(⟨hk,hk.2⟩:_∧k_≠bD))) (fun _ hk=>hk.2) (.int .i64 ((Zac aa af).f0))) (fun _ hk=>hk.2) (.slice dQ ((Zac aa af).f1).length dR)) (fun _ hk=>hk.2) (.slice eD ((Zac aa af).f2).length eG)) (fun _ hk=>hk.2) (.int .i64 ((Zac aa af).f3))) (fun _ hk=>hk.2) (.int .i64 ((Zac aa af).f4))) (fun _ hk=>hk.2) (.slice jL ((Zac aa af).f5).length j4)) (fun _ hk=>hk.2) (.int .i64 ((Zac aa af).f6))) (fun _ hk=>hk.2) (.slice dQ (((Zac aa af).f1).take ((iK):Int).toNat).length dR)) (fun _ hk=>hk.2) (.slice eD (((Zac aa af).f2).take ((jA):Int).toNat).length eG)) (fun _ h_=>h_.1)))) k_ hk_),(Kd.freshB (g:=kT) (o:= .cells #[.slice bF ae.length bv,.slice (some Ql) aa.length aG,.int .i64 aj,.slice bi ak.length bn,.slice bf ai.length bg] 28 (0,0)) (by(with_reducible repeat(first|refine Zab ?_ _|refine Zad ?_|refine Zaa ?_ _));refine Zav ?_ gp.out _;(with_reducible repeat(first|refine Zab ?_ _|refine Zad ?_|refine Zaa ?_ _));refine Zav ?_ gp.out _;(with_reducible repeat(first|refine Zab ?_ _|refine Zad ?_|refine Zaa ?_ _));refine Zav ?_ gp.out _;(with_reducible repeat(first|refine Zab ?_ _|refine Zad ?_|refine Zaa ?_ _));refine Zav ?_ gp.out _;(with_reducible repeat(first|refine Zab ?_ _|refine Zad ?_|refine Zaa ?_ _));refine Zav ?_ gp.out _;(with_reducible repeat(first|refine Zab ?_ _|refine Zad ?_|refine Zaa ?_ _));refine Zav ?_ gp.out _;(with_reducible repeat(first|refine Zab ?_ _|refine Zad ?_|refine Zaa ?_ _));refine Zav ?_ gp.out _;(with_reducible repeat(first|refine Zab ?_ _|refine Zad ?_|refine Zaa ?_ _));refine Zav ?_ gp.out _;(with_reducible repeat(first|refine Zab ?_ _|refine Zad ?_|refine Zaa ?_ _));refine Zav ?_ gp.out _;(with_reducible repeat(first|refine Zab ?_ _|refine Zad ?_|refine Zaa ?_ _));exact cz.out) k_ hk_),(Kd.freshB (g:=fC) (o:= .cells #[.slice none 0 0,.slice none 0 0,.int .i64 0,.slice none 0 0,.slice none 0 0] 28 (0,0)) (by(with_reducible repeat(first|refine Zab ?_ _|refine Zad ?_|refine Zaa ?_ _));refine Zav ?_ gq.out _;(with_reducible repeat(first|refine Zab ?_ _|refine Zad ?_|refine Zaa ?_ _));refine Zav ?_ gq.out _;(with_reducible repeat(first|refine Zab ?_ _|refine Zad ?_|refine Zaa ?_ _));refine Zav ?_ gq.out _;(with_reducible repeat(first|refine Zab ?_ _|refine Zad ?_|refine Zaa ?_ _));refine Zav ?_ gq.out _;(with_reducible repeat(first|refine Zab ?_ _|refine Zad ?_|refine Zaa ?_ _));refine Zav ?_ gq.out _;(with_reducible repeat(first|refine Zab ?_ _|refine Zad ?_|refine Zaa ?_ _));refine Zav ?_ gq.out _;(with_reducible repeat(first|refine Zab ?_ _|refine Zad ?_|refine Zaa ?_ _));refine Zav ?_ gq.out _;(with_reducible repeat(first|refine Zab ?_ _|refine Zad ?_|refine Zaa ?_ _));refine Zav ?_ gq.out _;(with_reducible repeat(first|refine Zab ?_ _|refine Zad ?_|refine Zaa ?_ _));refine Zav ?_ gq.out _;(with_reducible repeat(first|refine Zab ?_ _|refine Zad ?_|refine Zaa ?_ _));exact di.out) k_ hk_),(Kd.freshB (g:=fq) (o:= .cells #[fo,jq,.int .i64 aj,.slice bi ak.length bn,.slice bf ai.length bg] 28 (0,0)) (by(with_reducible repeat(first|refine Zab ?_ _|refine Zad ?_|refine Zaa ?_ _));refine Zav ?_ fQ.out _;(with_reducible repeat(first|refine Zab ?_ _|refine Zad ?_|refine Zaa ?_ _));refine Zav ?_ fQ.out _;(with_reducible repeat(first|refine Zab ?_ _|refine Zad ?_|refine Zaa ?_ _));refine Zav ?_ fQ.out _;(with_reducible repeat(first|refine Zab ?_ _|refine Zad ?_|refine Zaa ?_ _));refine Zav ?_ fQ.out _;(with_reducible repeat(first|refine Zab ?_ _|refine Zad ?_|refine Zaa ?_ _));refine Zav ?_ fQ.out _;(with_reducible repeat(first|refine Zab ?_ _|refine Zad ?_|refine Zaa ?_ _));refine Zav ?_ fQ.out _;(with_reducible repeat(first|refine Zab ?_ _|refine Zad ?_|refine Zaa ?_ _));refine Zav ?_ fQ.out _;(with_reducible repeat(first|refine Zab ?_ _|refine Zad ?_|refine Zaa ?_ _));refine Zav ?_ fQ.out _;(with_reducible repeat(first|refine Zab ?_ _|refine Zad ?_|refine Zaa ?_ _));refine Zav ?_ fQ.out _;(with_reducible repeat(first|refine Zab ?_ _|refine Zad ?_|refine Zaa ?_ _));exact aY.out) k_ hk_),(Kd.freshB (g:=bD) (o:= .cells #[.int .i64 ((Zac aa af).f0),.slice dQ (((Zac aa af).f1).take ((iK):Int).toNat).length dR,.slice eD (((Zac aa af).f2).take ((jA):Int).toNat).length eG,.int .i64 ((Zac aa af).f3),.int .i64 ((Zac aa af).f4),.slice jL ((Zac aa af).f5).length j4,.int .i64 ((Zac aa af).f6)] 40 (0,0)) (by(with_reducible repeat(first|refine Zab ?_ _|refine Zad ?_|refine Zaa ?_ _));refine Zas (cs:=#[.int .i64 ((Zac aa af).f0),.slice dQ (((Zac aa af).f1).take ((iK):Int).toNat).length dR,.slice eD ((Zac aa af).f2).length eG,.int .i64 ((Zac aa af).f3),.int .i64 ((Zac aa af).f4),.slice jL ((Zac aa af).f5).length j4,.int .i64 ((Zac aa af).f6)]) ?_ 2 _ rfl;(with_reducible repeat(first|refine Zab ?_ _|refine Zad ?_|refine Zaa ?_ _));refine Zas (cs:=#[.int .i64 ((Zac aa af).f0),.slice dQ ((Zac aa af).f1).length dR,.slice eD ((Zac aa af).f2).length eG,.int .i64 ((Zac aa af).f3),.int .i64 ((Zac aa af).f4),.slice jL ((Zac aa af).f5).length j4,.int .i64 ((Zac aa af).f6)]) ?_ 1 _ rfl;(with_reducible repeat(first|refine Zab ?_ _|refine Zad ?_|refine Zaa ?_ _));refine Zas (cs:=#[.int .i64 ((Zac aa af).f0),.slice dQ ((Zac aa af).f1).length dR,.slice eD ((Zac aa af).f2).length eG,.int .i64 ((Zac aa af).f3),.int .i64 ((Zac aa af).f4),.slice jL ((Zac aa af).f5).length j4,.int .i64 0]) ?_ 6 _ rfl;(with_reducible repeat(first|refine Zab ?_ _|refine Zad ?_|refine Zaa ?_ _));refine Zas (cs:=#[.int .i64 ((Zac aa af).f0),.slice dQ ((Zac aa af).f1).length dR,.slice eD ((Zac aa af).f2).length eG,.int .i64 ((Zac aa af).f3),.int .i64 ((Zac aa af).f4),.slice none 0 0,.int .i64 0]) ?_ 5 _ rfl;(with_reducible repeat(first|refine Zab ?_ _|refine Zad ?_|refine Zaa ?_ _));refine Zas (cs:=#[.int .i64 ((Zac aa af).f0),.slice dQ ((Zac aa af).f1).length dR,.slice eD ((Zac aa af).f2).length eG,.int .i64 ((Zac aa af).f3),.int .i64 0,.slice none 0 0,.int .i64 0]) ?_ 4 _ rfl;(with_reducible repeat(first|refine Zab ?_ _|refine Zad ?_|refine Zaa ?_ _));refine Zas (cs:=#[.int .i64 ((Zac aa af).f0),.slice dQ ((Zac aa af).f1).length dR,.slice eD ((Zac aa af).f2).length eG,.int .i64 0,.int .i64 0,.slice none 0 0,.int .i64 0]) ?_ 3 _ rfl;(with_reducible repeat(first|refine Zab ?_ _|refine Zad ?_|refine Zaa ?_ _));refine Zas (cs:=#[.int .i64 ((Zac aa af).f0),.slice dQ ((Zac aa af).f1).length dR,.slice none 0 0,.int .i64 0,.int .i64 0,.slice none 0 0,.int .i64 0]) ?_ 2 _ rfl;(with_reducible repeat(first|refine Zab ?_ _|refine Zad ?_|refine Zaa ?_ _));refine Zas (cs:=#[.int .i64 ((Zac aa af).f0),.slice none 0 0,.slice none 0 0,.int .i64 0,.int .i64 0,.slice none 0 0,.int .i64 0]) ?_ 1 _ rfl;(with_reducible repeat(first|refine Zab ?_ _|refine Zad ?_|refine Zaa ?_ _));refine Zas (cs:=#[.int .i64 0,.slice none 0 0,.slice none 0 0,.int .i64 0,.int .i64 0,.slice none 0 0,.int .i64 0]) ?_ 0 _ rfl;(with_reducible repeat(first|refine Zab ?_ _|refine Zad ?_|refine Zaa ?_ _));exact dN.out) k_ hk_)⟩))⟩;replace bA:=Za.mk (Kd.Zc9 (sM (Kd.Zcu (Kd.Zb2 (p:=⟨bD,2,none⟩) (Kd.Zb2 (p:=⟨bD,1,none⟩) (Kd.Zb2 (p:=⟨bD,6,none⟩) (Kd.Zb2 (p:=⟨bD,5,none⟩) (Kd.Zb2 (p:=⟨bD,4,none⟩) (Kd.Zb2 (p:=⟨bD,3,none⟩) (Kd.Zb2 (p:=⟨bD,2,none⟩) (Kd.Zb2 (p:=⟨bD,1,none⟩) (Kd.Zb2 (p:=⟨bD,0,none⟩) (Kd.Zcy bA.out dN.out (by decide)) (fun _ hk=>hk.2) (.int .i64 ((Zac aa af).f0))) (fun _ hk=>hk.2) (.slice dQ ((Zac aa af).f1).length dR)) (fun _ hk=>hk.2) (.slice eD ((Zac aa af).f2).length eG)) (fun _ hk=>hk.2) (.int .i64 ((Zac aa af).f3))) (fun _ hk=>hk.2) (.int .i64 ((Zac aa af).f4))) (fun _ hk=>hk.2) (.slice jL ((Zac aa af).f5).length j4)) (fun _ hk=>hk.2) (.int .i64 ((Zac aa af).f6))) (fun _ hk=>hk.2) (.slice dQ (((Zac aa af).f1).take ((iK):Int).toNat).length dR)) (fun _ hk=>hk.2) (.slice eD (((Zac aa af).f2).take ((jA):Int).toNat).length eG)) (fun _ h_=>h_.1))) hb);replace dw:=Za.mk (Kd.Zbt (rM (Kd.Zaw (Kd.Za2 (p:=⟨bD,2,none⟩) (Kd.Za2 (p:=⟨bD,1,none⟩) (Kd.Za2 (p:=⟨bD,6,none⟩) (Kd.Za2 (p:=⟨bD,5,none⟩) (Kd.Za2 (p:=⟨bD,4,none⟩) (Kd.Za2 (p:=⟨bD,3,none⟩) (Kd.Za2 (p:=⟨bD,2,none⟩) (Kd.Za2 (p:=⟨bD,1,none⟩) (Kd.Za2 (p:=⟨bD,0,none⟩) (Kd.Zaw dw.out (fun k_ hk=>(⟨hk,hk.2⟩:_∧k_≠bD))) (fun _ hk=>hk.2) (.int .i64 ((Zac aa af).f0))) (fun _ hk=>hk.2) (.slice dQ ((Zac aa af).f1).length dR)) (fun _ hk=>hk.2) (.slice eD ((Zac aa af).f2).length eG)) (fun _ hk=>hk.2) (.int .i64 ((Zac aa af).f3))) (fun _ hk=>hk.2) (.int .i64 ((Zac aa af).f4))) (fun _ hk=>hk.2) (.slice jL ((Zac aa af).f5).length j4)) (fun _ hk=>hk.2) (.int .i64 ((Zac aa af).f6))) (fun _ hk=>hk.2) (.slice dQ (((Zac aa af).f1).take ((iK):Int).toNat).length dR)) (fun _ hk=>hk.2) (.slice eD (((Zac aa af).f2).take ((jA):Int).toNat).length eG)) (fun _ h_=>h_.1))) hb);replace cz:=Za.mk (Zbz (g:=kT) (o:= .cells #[.slice bF ae.length bv,.slice (some Ql) aa.length aG,.int .i64 aj,.slice bi ak.length bn,.slice bf ai.length bg] 28 (0,0)) (by(with_reducible repeat(first|refine Zab ?_ _|refine Zad ?_|refine Zaa ?_ _));refine Zav ?_ gp.out _;(with_reducible repeat(first|refine Zab ?_ _|refine Zad ?_|refine Zaa ?_ _));refine Zav ?_ gp.out _;(with_reducible repeat(first|refine Zab ?_ _|refine Zad ?_|refine Zaa ?_ _));refine Zav ?_ gp.out _;(with_reducible repeat(first|refine Zab ?_ _|refine Zad ?_|refine Zaa ?_ _));refine Zav ?_ gp.out _;(with_reducible repeat(first|refine Zab ?_ _|refine Zad ?_|refine Zaa ?_ _));refine Zav ?_ gp.out _;(with_reducible repeat(first|refine Zab ?_ _|refine Zad ?_|refine Zaa ?_ _));refine Zav ?_ gp.out _;(with_reducible repeat(first|refine Zab ?_ _|refine Zad ?_|refine Zaa ?_ _));refine Zav ?_ gp.out _;(with_reducible repeat(first|refine Zab ?_ _|refine Zad ?_|refine Zaa ?_ _));refine Zav ?_ gp.out _;(with_reducible repeat(first|refine Zab ?_ _|refine Zad ?_|refine Zaa ?_ _));refine Zav ?_ gp.out _;(with_reducible repeat(first|refine Zab ?_ _|refine Zad ?_|refine Zaa ?_ _));exact cz.out) hb);replace di:=Za.mk (Zbz (g:=fC) (o:= .cells #[.slice none 0 0,.slice none 0 0,.int .i64 0,.slice none 0 0,.slice none 0 0] 28 (0,0)) (by(with_reducible repeat(first|refine Zab ?_ _|refine Zad ?_|refine Zaa ?_ _));refine Zav ?_ gq.out _;(with_reducible repeat(first|refine Zab ?_ _|refine Zad ?_|refine Zaa ?_ _));refine Zav ?_ gq.out _;(with_reducible repeat(first|refine Zab ?_ _|refine Zad ?_|refine Zaa ?_ _));refine Zav ?_ gq.out _;(with_reducible repeat(first|refine Zab ?_ _|refine Zad ?_|refine Zaa ?_ _));refine Zav ?_ gq.out _;(with_reducible repeat(first|refine Zab ?_ _|refine Zad ?_|refine Zaa ?_ _));refine Zav ?_ gq.out _;(with_reducible repeat(first|refine Zab ?_ _|refine Zad ?_|refine Zaa ?_ _));refine Zav ?_ gq.out _;(with_reducible repeat(first|refine Zab ?_ _|refine Zad ?_|refine Zaa ?_ _));refine Zav ?_ gq.out _;(with_reducible repeat(first|refine Zab ?_ _|refine Zad ?_|refine Zaa ?_ _));refine Zav ?_ gq.out _;(with_reducible repeat(first|refine Zab ?_ _|refine Zad ?_|refine Zaa ?_ _));refine Zav ?_ gq.out _;(with_reducible repeat(first|refine Zab ?_ _|refine Zad ?_|refine Zaa ?_ _));exact di.out) hb);replace aY:=Za.mk (Zbz (g:=fq) (o:= .cells #[fo,jq,.int .i64 aj,.slice bi ak.length bn,.slice bf ai.length bg] 28 (0,0)) (by(with_reducible repeat(first|refine Zab ?_ _|refine Zad ?_|refine Zaa ?_ _));refine Zav ?_ fQ.out _;(with_reducible repeat(first|refine Zab ?_ _|refine Zad ?_|refine Zaa ?_ _));refine Zav ?_ fQ.out _;(with_reducible repeat(first|refine Zab ?_ _|refine Zad ?_|refine Zaa ?_ _));refine Zav ?_ fQ.out _;(with_reducible repeat(first|refine Zab ?_ _|refine Zad ?_|refine Zaa ?_ _));refine Zav ?_ fQ.out _;(with_reducible repeat(first|refine Zab ?_ _|refine Zad ?_|refine Zaa ?_ _));refine Zav ?_ fQ.out _;(with_reducible repeat(first|refine Zab ?_ _|refine Zad ?_|refine Zaa ?_ _));refine Zav ?_ fQ.out _;(with_reducible repeat(first|refine Zab ?_ _|refine Zad ?_|refine Zaa ?_ _));refine Zav ?_ fQ.out _;(with_reducible repeat(first|refine Zab ?_ _|refine Zad ?_|refine Zaa ?_ _));refine Zav ?_ fQ.out _;(with_reducible repeat(first|refine Zab ?_ _|refine Zad ?_|refine Zaa ?_ _));refine Zav ?_ fQ.out _;(with_reducible repeat(first|refine Zab ?_ _|refine Zad ?_|refine Zaa ?_ _));exact aY.out) hb);replace dN:=Za.mk (Zbz (g:=bD) (o:= .cells #[.int .i64 ((Zac aa af).f0),.slice dQ (((Zac aa af).f1).take ((iK):Int).toNat).length dR,.slice eD (((Zac aa af).f2).take ((jA):Int).toNat).length eG,.int .i64 ((Zac aa af).f3),.int .i64 ((Zac aa af).f4),.slice jL ((Zac aa af).f5).length j4,.int .i64 ((Zac aa af).f6)] 40 (0,0)) (by(with_reducible repeat(first|refine Zab ?_ _|refine Zad ?_|refine Zaa ?_ _));refine Zas (cs:=#[.int .i64 ((Zac aa af).f0),.slice dQ (((Zac aa af).f1).take ((iK):Int).toNat).length dR,.slice eD ((Zac aa af).f2).length eG,.int .i64 ((Zac aa af).f3),.int .i64 ((Zac aa af).f4),.slice jL ((Zac aa af).f5).length j4,.int .i64 ((Zac aa af).f6)]) ?_ 2 _ rfl;(with_reducible repeat(first|refine Zab ?_ _|refine Zad ?_|refine Zaa ?_ _));refine Zas (cs:=#[.int .i64 ((Zac aa af).f0),.slice dQ ((Zac aa af).f1).length dR,.slice eD ((Zac aa af).f2).length eG,.int .i64 ((Zac aa af).f3),.int .i64 ((Zac aa af).f4),.slice jL ((Zac aa af).f5).length j4,.int .i64 ((Zac aa af).f6)]) ?_ 1 _ rfl;(with_reducible repeat(first|refine Zab ?_ _|refine Zad ?_|refine Zaa ?_ _));refine Zas (cs:=#[.int .i64 ((Zac aa af).f0),.slice dQ ((Zac aa af).f1).length dR,.slice eD ((Zac aa af).f2).length eG,.int .i64 ((Zac aa af).f3),.int .i64 ((Zac aa af).f4),.slice jL ((Zac aa af).f5).length j4,.int .i64 0]) ?_ 6 _ rfl;(with_reducible repeat(first|refine Zab ?_ _|refine Zad ?_|refine Zaa ?_ _));refine Zas (cs:=#[.int .i64 ((Zac aa af).f0),.slice dQ ((Zac aa af).f1).length dR,.slice eD ((Zac aa af).f2).length eG,.int .i64 ((Zac aa af).f3),.int .i64 ((Zac aa af).f4),.slice none 0 0,.int .i64 0]) ?_ 5 _ rfl;(with_reducible repeat(first|refine Zab ?_ _|refine Zad ?_|refine Zaa ?_ _));refine Zas (cs:=#[.int .i64 ((Zac aa af).f0),.slice dQ ((Zac aa af).f1).length dR,.slice eD ((Zac aa af).f2).length eG,.int .i64 ((Zac aa af).f3),.int .i64 0,.slice none 0 0,.int .i64 0]) ?_ 4 _ rfl;(with_reducible repeat(first|refine Zab ?_ _|refine Zad ?_|refine Zaa ?_ _));refine Zas (cs:=#[.int .i64 ((Zac aa af).f0),.slice dQ ((Zac aa af).f1).length dR,.slice eD ((Zac aa af).f2).length eG,.int .i64 0,.int .i64 0,.slice none 0 0,.int .i64 0]) ?_ 3 _ rfl;(with_reducible repeat(first|refine Zab ?_ _|refine Zad ?_|refine Zaa ?_ _));refine Zas (cs:=#[.int .i64 ((Zac aa af).f0),.slice dQ ((Zac aa af).f1).length dR,.slice none 0 0,.int .i64 0,.int .i64 0,.slice none 0 0,.int .i64 0]) ?_ 2 _ rfl;(with_reducible repeat(first|refine Zab ?_ _|refine Zad ?_|refine Zaa ?_ _));refine Zas (cs:=#[.int .i64 ((Zac aa af).f0),.slice none 0 0,.slice none 0 0,.int .i64 0,.int .i64 0,.slice none 0 0,.int .i64 0]) ?_ 1 _ rfl;(with_reducible repeat(first|refine Zab ?_ _|refine Zad ?_|refine Zaa ?_ _));refine Zas (cs:=#[.int .i64 0,.slice none 0 0,.slice none 0 0,.int .i64 0,.int .i64 0,.slice none 0 0,.int .i64 0]) ?_ 0 _ rfl;(with_reducible repeat(first|refine Zab ?_ _|refine Zad ?_|refine Zaa ?_ _));exact dN.out) hb);replace HB:=Za.mk (bS HB.out hb)
        (try clear hb)
        (try clear hb2)
        (try clear hk)
        (try clear hi)
        (try clear ho0)
        obtain⟨qA,qC,iya⟩:=Kd.V_slice pF.out;subst iya;obtain⟨rNa,rOa,rPa,rQa,rRa,rSa,rTa,o8a,o9a,oAa,oBa,oCa,oDa,oEa⟩:=cz7 dN.out;try go_wp2_with (fail)
        have n0_:Za (Kd.S k37 37 (w76.setCell ⟨bD,5,none⟩ (.slice qA t167.length qC)) w.heap.size (fun _=>True) fo bR):=⟨sM (Kd.Zcu (Kd.Zb2 (p:=⟨bD,5,none⟩) (Kd.Zcy bA.out dN.out (by decide)) (fun _ hk=>hk.2) (.slice qA t167.length qC)) (fun _ hk=>trivial))⟩;have n1_:Za (Kd.R k40 40 (w76.setCell ⟨bD,5,none⟩ (.slice qA t167.length qC)) w.heap.size (fun k_=>k_≠bD) jq dG):=⟨rM (Kd.Zaw (Kd.Za2 (p:=⟨bD,5,none⟩) (Kd.Zaw dw.out (fun k_ hk=>(⟨hk,hk.2⟩:_∧k_≠bD))) (fun _ hk=>hk.2) (.slice qA t167.length qC)) (fun _ hk=>hk.1.2))⟩;have n2_:Za (Kd.V (Kd.slice 3 (Kd.int .i64)) 24 (w76.setCell ⟨bD,5,none⟩ (.slice qA t167.length qC)) w.heap.size (fun k_=>some k_≠(fo:Value).ownBlock∧some k_≠(jq:Value).ownBlock∧k_≠kT∧k_≠fC∧k_≠fq∧k_≠bD) (.slice qA t167.length qC) t167):=⟨vM (Kd.Zdz (Kd.V_far (p:=⟨bD,5,none⟩) (Kd.Zdz pF.out (fun k_ hk=>(⟨hk,hk.2.2.2.2.2⟩:_∧k_≠bD))) (fun _ hk=>hk.2) (.slice qA t167.length qC)) (fun _ hk=>⟨hk.1.1,⟨hk.1.2.1,⟨hk.1.2.2.1,⟨hk.1.2.2.2.1,⟨hk.1.2.2.2.2.1,hk.1.2.2.2.2.2⟩⟩⟩⟩⟩))⟩;have n3_:Za ((w76.setCell ⟨bD,5,none⟩ (.slice qA t167.length qC)).heap[kT]? =some (.cells #[.slice bF ae.length bv,.slice (some Ql) aa.length aG,.int .i64 aj,.slice bi ak.length bn,.slice bf ai.length bg] 28 (0,0))):=⟨by(with_reducible repeat(first|refine Zab ?_ _|refine Zad ?_|refine Zaa ?_ _));refine Zav ?_ gp.out _;(with_reducible repeat(first|refine Zab ?_ _|refine Zad ?_|refine Zaa ?_ _));exact cz.out⟩;have n4_:Za ((w76.setCell ⟨bD,5,none⟩ (.slice qA t167.length qC)).heap[fC]? =some (.cells #[.slice none 0 0,.slice none 0 0,.int .i64 0,.slice none 0 0,.slice none 0 0] 28 (0,0))):=⟨by(with_reducible repeat(first|refine Zab ?_ _|refine Zad ?_|refine Zaa ?_ _));refine Zav ?_ gq.out _;(with_reducible repeat(first|refine Zab ?_ _|refine Zad ?_|refine Zaa ?_ _));exact di.out⟩;have n5_:Za ((w76.setCell ⟨bD,5,none⟩ (.slice qA t167.length qC)).heap[fq]? =some (.cells #[fo,jq,.int .i64 aj,.slice bi ak.length bn,.slice bf ai.length bg] 28 (0,0))):=⟨by(with_reducible repeat(first|refine Zab ?_ _|refine Zad ?_|refine Zaa ?_ _));refine Zav ?_ fQ.out _;(with_reducible repeat(first|refine Zab ?_ _|refine Zad ?_|refine Zaa ?_ _));exact aY.out⟩;have n6_:Za ((w76.setCell ⟨bD,5,none⟩ (.slice qA t167.length qC)).heap[bD]? =some (.cells #[.int .i64 ((Zac aa af).f0),.slice dQ (((Zac aa af).f1).take ((iK):Int).toNat).length dR,.slice eD (((Zac aa af).f2).take ((jA):Int).toNat).length eG,.int .i64 ((Zac aa af).f3),.int .i64 ((Zac aa af).f4),.slice qA t167.length qC,.int .i64 ((Zac aa af).f6)] 40 (0,0))):=⟨by(with_reducible repeat(first|refine Zab ?_ _|refine Zad ?_|refine Zaa ?_ _));refine Zas (cs:=#[.int .i64 ((Zac aa af).f0),.slice dQ (((Zac aa af).f1).take ((iK):Int).toNat).length dR,.slice eD (((Zac aa af).f2).take ((jA):Int).toNat).length eG,.int .i64 ((Zac aa af).f3),.int .i64 ((Zac aa af).f4),.slice jL ((Zac aa af).f5).length j4,.int .i64 ((Zac aa af).f6)]) ?_ 5 _ rfl;(with_reducible repeat(first|refine Zab ?_ _|refine Zad ?_|refine Zaa ?_ _));exact dN.out⟩;have n7_:Za (Below w.heap.size w (w76.setCell ⟨bD,5,none⟩ (.slice qA t167.length qC))):=⟨bM HB.out⟩
        (try clear bA)
        (try clear dw)
        (try clear pF)
        (try clear cz)
        (try clear di)
        (try clear aY)
        (try clear dN)
        (try clear HB)
        generalize (w76.setCell ⟨bD,5,none⟩ (.slice qA t167.length qC))=w79 at n0_ n1_ n2_ n3_ n4_ n5_ n6_ n7_ ⊢
        have bA:=n0_;have dw:=n1_;have pF:=n2_;have cz:=n3_;have di:=n4_;have aY:=n5_;have dN:=n6_;have HB:=n7_;clear n0_ n1_ n2_ n3_ n4_ n5_ n6_ n7_;replace bA:=Za.mk (Kd.Zfl bA.out);replace dw:=Za.mk (Kd.Zd6 dw.out);replace pF:=Za.mk (Kd.V_drew pF.out);replace cz:=Za.mk (Zad cz.out);replace di:=Za.mk (Zad di.out);replace aY:=Za.mk (Zad aY.out);replace dN:=Za.mk (Zad dN.out);replace HB:=Za.mk (Zb6 HB.out);refine Zef (n:=8) (S:=fun w'=>w'.cell? ⟨fq,0,none⟩=some (fo)∧w'.cell? ⟨fq,1,none⟩=some (jq)∧w'.cell? ⟨fq,2,none⟩=some (.int .i64 aj)∧w'.cell? ⟨fq,3,none⟩=some (.slice bi ak.length bn)∧w'.cell? ⟨fq,4,none⟩=some (.slice bf ai.length bg)∧w'.cell? ⟨bD,0,none⟩=some (.int .i64 ((Zac aa af).f0))∧w'.cell? ⟨bD,1,none⟩=some (.slice dQ (((Zac aa af).f1).take ((iK):Int).toNat).length dR)∧w'.cell? ⟨bD,2,none⟩=some (.slice eD (((Zac aa af).f2).take ((jA):Int).toNat).length eG)∧w'.cell? ⟨bD,3,none⟩=some (.int .i64 ((Zac aa af).f3))∧w'.cell? ⟨bD,4,none⟩=some (.int .i64 ((Zac aa af).f4))∧w'.cell? ⟨bD,5,none⟩=some (.slice qA t167.length qC)∧w'.cell? ⟨bD,6,none⟩=some (.int .i64 ((Zac aa af).f6))) (ds:= [7]) #[false,false,false,false,false,false,false,false] (by kernel_rfl) rfl rfl ⟨bc aY.out 0,bc aY.out 1,bc aY.out 2,bc aY.out 3,bc aY.out 4,bc dN.out 0,bc dN.out 1,bc dN.out 2,bc dN.out 3,bc dN.out 4,bc dN.out 5,bc dN.out 6⟩ (fun hHeld=> ?_);refine Zc6 Zag.tab19 Zag.bits19 (fun HT_ HW_=> ?_)
        generalize w79.drew=w80 at bA dw pF cz di aY dN HB hHeld ⊢
        refine pu HT_ 0 113 ?_;refine tk HT_ HW_ hHeld 1 114 ?_;refine tk HT_ HW_ hHeld 2 115 ?_;refine on1 HT_ 3 116 (fun K hK=> ?_);refine Zgk Tryz.func10 (by kernel_rfl) rfl #[.agg #[.int .i64 ((Zac aa af).f0),.slice dQ (((Zac aa af).f1).take ((iK):Int).toNat).length dR,.slice eD (((Zac aa af).f2).take ((jA):Int).toNat).length eG,.int .i64 ((Zac aa af).f3),.int .i64 ((Zac aa af).f4),.slice qA t167.length qC,.int .i64 ((Zac aa af).f6)]] (by rfl) rfl rfl (by(try simp only[List.map_toArray,List.map_cons,List.map_nil]);first|done|(rw[show(((Zac aa af).f1).take ((iK):Int).toNat).length=(iK).toNat from(by rw[List.length_take];have h_:((iK):Int)≤(((Zac aa af).f1).length:Int):=odt;omega),show(((Zac aa af).f2).take ((jA):Int).toNat).length=(jA).toNat from(by rw[List.length_take];have h_:((jA):Int)≤(((Zac aa af).f2).length:Int):=odt;omega)]<;>rfl)|(rw[show(((Zac aa af).f1).take ((iK):Int).toNat).length=(iK).toNat from(by rw[List.length_take];have h_:((iK):Int)≤(((Zac aa af).f1).length:Int):=odt;omega)]<;>rfl)|(rw[show(((Zac aa af).f2).take ((jA):Int).toNat).length=(jA).toNat from(by rw[List.length_take];have h_:((jA):Int)≤(((Zac aa af).f2).length:Int):=odt;omega)]<;>rfl)|(simp only[hji57,hji60];rfl)|rfl|(simp only[List.length_drop,List.length_take];rfl)) ?_
        with_reducible refine(Zb3.calls kj45 ((Zac aa af).f0) _ _ (((Zac aa af).f1).take ((iK):Int).toNat) _ _ (((Zac aa af).f2).take ((jA):Int).toNat) ((Zac aa af).f3) ((Zac aa af).f4) _ _ t167 ((Zac aa af).f6) Kj t171 Gy Kk Kl Gz t182 _ ?side1 ?side2 ?side3 ?side4 ?side5 ?side6 A64.out).mono ?_
        (case side1=>repeat(first|exact(Kd.Zaf cha.out HB.out)|(with_reducible refine Kd.C_alloc ?_ _)|(with_reducible refine Kd.Zcm ?_ _)|(with_reducible refine Kd.C_drew ?_)))
        (case side2=>exact bOa.out)
        (case side3=>repeat(first|exact(Kd.Zaf cia.out HB.out)|(with_reducible refine Kd.C_alloc ?_ _)|(with_reducible refine Kd.Zcm ?_ _)|(with_reducible refine Kd.C_drew ?_)))
        (case side4=>exact bPa.out)
        (case side5=>repeat(first|exact(Kd.Zel pF.out).2.2|(with_reducible refine Kd.C_alloc ?_ _)|(with_reducible refine Kd.Zcm ?_ _)|(with_reducible refine Kd.C_drew ?_)))
        (case side6=>exact(Kd.Zel pF.out).2.1)
        rintro e w81 ⟨tPa,v175,tQa,rfl,ho0,ho1,ho2,hb⟩;refine⟨_,rfl,?_⟩;replace bA:=Za.mk (Kd.Zc9 (sM bA.out) hb);replace dw:=Za.mk (Kd.Zaw (Kd.Zed (Kd.Zed (Kd.Zed (Kd.R_old (rM dw.out) hb) (Kd.Zb4 ho0)) (Kd.Zb4 ho1)) (Kd.S_base ho2)) (fun _ h_=>h_.1));replace pF:=Za.mk (Kd.Zdz (Kd.V_told (Kd.V_told (Kd.V_told (Kd.V_old (vM pF.out) hb) (Kd.Zb4 ho0)) (Kd.Zb4 ho1)) (Kd.S_base ho2)) (fun _ h_=>h_.1));have PK:=Za.mk (Kd.Zbp ho0 (Zaj (bM HB.out)));have PL:=Za.mk (Kd.Zbp ho1 (Zaj (bM HB.out)));have PM:=Za.mk (Kd.Zfg ho2 (Zaj (bM HB.out)));replace cz:=Za.mk (kB cz.out hb);replace di:=Za.mk (kB di.out hb);replace aY:=Za.mk (kB aY.out hb);replace dN:=Za.mk (kB dN.out hb);replace HB:=Za.mk (bS HB.out hb)
        (try clear hb)
        (try clear hb2)
        (try clear hk)
        (try clear hi)
        (try clear ho0)
        (try clear ho1)
        (try clear ho2)
        obtain⟨YS,aoa,a0a⟩:=Kd.Za9 PK.out
        (first|subst a0a|(injection a0a with f1_ f2_ f3_;have f4_:=f1_.symm;have f5_:=f3_.symm;clear f1_ f2_ f3_;subst f4_;subst f5_))
        obtain⟨YT,apa,a1a⟩:=Kd.Za9 PL.out
        (first|subst a1a|(injection a1a with f1_ f2_ f3_;have f4_:=f1_.symm;have f5_:=f3_.symm;clear f1_ f2_ f3_;subst f4_;subst f5_))
        obtain⟨YU,aqa,a2a⟩:=Kd.Zd7 PM.out
        (first|subst a2a|(injection a2a with f1_ f2_ f3_;have f4_:=f1_.symm;have f5_:=f3_.symm;clear f1_ f2_ f3_;subst f4_;subst f5_))
        refine hK.out _ _ ⟨bc aY.out 0,bc aY.out 1,bc aY.out 2,bc aY.out 3,bc aY.out 4,bc dN.out 0,bc dN.out 1,bc dN.out 2,bc dN.out 3,bc dN.out 4,bc dN.out 5,bc dN.out 6⟩ (fun hHeld=> ?_);clear hK K;refine nmp 116 ?_;refine on1 HT_ 4 117 (fun K hK=> ?_);refine Zhj (w1:=?_) (v:=?_) (by rfl) rfl ?_ ?_;rotate_left 2
        ·go_simp
         constructor
         ·rfl
         rfl
        refine hK.out _ _ ⟨(Zah (Zaa aY.out _) 0).trans rfl,(Zah (Zaa aY.out _) 1).trans rfl,(Zah (Zaa aY.out _) 2).trans rfl,(Zah (Zaa aY.out _) 3).trans rfl,(Zah (Zaa aY.out _) 4).trans rfl,(Zah (Zaa dN.out _) 0).trans rfl,(Zah (Zaa dN.out _) 1).trans rfl,(Zah (Zaa dN.out _) 2).trans rfl,(Zah (Zaa dN.out _) 3).trans rfl,(Zah (Zaa dN.out _) 4).trans rfl,(Zah (Zaa dN.out _) 5).trans rfl,(Zah (Zaa dN.out _) 6).trans rfl⟩ (fun hHeld=> ?_);clear hK K;refine nmp 117 ?_;refine on1 HT_ 5 118 (fun K hK=> ?_);refine Kd.Zeg k40 (w0:=w) w.heap.size (by rfl) (.tmp 114) (.tmp 117) 23 40 (.agg #[(.int .i64 0),(.slice none 0 0),(.slice none 0 0),(.int .i64 0),(.int .i64 0),(.slice none 0 0),(.int .i64 0)]) 104 rfl Tryz.underlying23 info40 rfl (by decide) (by omega) jq dG (⟨Kj,t171,Gy,Kk,Kl,Gz,t182⟩:S40) [.int .i64 Kj,.slice YS t171.length aoa,.slice YT Gy.length apa,.int .i64 Kk,.int .i64 Kl,.slice YU Gz.length aqa,.int .i64 t182] (fun k_=>k_≠bD) (fun k_=>((fun k_=>k_≠bD)) k_∧some k_≠(jq:Value).ownBlock) rfl rfl ?aP (fun _ hk=>hk) ?aF ?aO ?aB ?aS ?aL ?_
        (case aP=>exact k40_mkM _ _ _ (⟨Kj,t171,Gy,Kk,Kl,Gz,t182⟩:S40) (Kd.Zaw (Kd.Zbh (Kd.Zcp (PK.out) (Kd.Zdm dw.out) (by decide)) dN.out (by decide)) (fun k_ hk=>⟨hk.2,hk.1.2⟩)) (Kd.Zaw (Kd.Zbh (Kd.Zcp (PL.out) (Kd.Zdm dw.out) (by decide)) dN.out (by decide)) (fun k_ hk=>⟨hk.2,hk.1.2⟩)) (Kd.Zaw (Kd.Zbh (Kd.Zcp ((Kd.S_R PM.out)) (Kd.Zdm dw.out) (by decide)) dN.out (by decide)) (fun k_ hk=>⟨hk.2,hk.1.2⟩)))
        (case aB=>exact(bM HB.out))
        (case aF=>exact(fun k_ hk=>Kd.freshB (kM dN.out) k_ hk))
        (case aO=>exact(rM (Kd.Zaw dw.out (fun _ hk=>hk.1.1.1))))
        (case aS=>exact(Zaj (bM HB.out)))
        (case aL=>have:=cpa.out;omega)
        intro tRa w82 ho hb hg hat;rw[←c4a.out]at ho;replace bA:=Za.mk (Kd.Zfw (sM bA.out) (Kd.Zdm (rM dw.out)) (by decide) hg);replace cz:=Za.mk (kG cz.out hg (Kd.R_ne dw.out cz.out (by decide)));replace di:=Za.mk (kG di.out hg (Kd.R_ne dw.out di.out (by decide)));replace aY:=Za.mk (kG aY.out hg (Kd.R_ne dw.out aY.out (by decide)));replace dN:=Za.mk (kG dN.out hg (Kd.R_away dw.out (fun _ hk=>hk.1.1.1)));replace pF:=Za.mk (Kd.V_afterv (ok:=(fun k_=>some k_≠(fo:Value).ownBlock∧some k_≠(.slice YS t171.length aoa:Value).ownBlock∧some k_≠(.slice YT Gy.length apa:Value).ownBlock∧some k_≠(.slice YU Gz.length aqa:Value).ownBlock∧k_≠kT∧k_≠fC∧k_≠fq∧k_≠bD)) (vM (Kd.Zdz pF.out (fun _ hk=>⟨⟨hk.1.1.1.1,⟨hk.1.1.2,⟨hk.1.2,⟨hk.2,⟨hk.1.1.1.2.2.1,⟨hk.1.1.1.2.2.2.1,⟨hk.1.1.1.2.2.2.2.1,hk.1.1.1.2.2.2.2.2⟩⟩⟩⟩⟩⟩⟩,hk.1.1.1.2.1⟩))) hg hat);replace HB:=Za.mk (hb);have Vp:=Za.mk (ho);clear dw PK PL PM ho hb hg hat;obtain⟨TB,TM,a3a⟩:=Kd.Za9 Vp.out
        (first|subst a3a|(injection a3a with f1_ f2_ f3_;have f4_:=f1_.symm;have f5_:=f3_.symm;clear f1_ f2_ f3_;subst f4_;subst f5_))
        refine hK.out _ _ ⟨bc aY.out 0,bc aY.out 1,bc aY.out 2,bc aY.out 3,bc aY.out 4,bc dN.out 0,bc dN.out 1,bc dN.out 2,bc dN.out 3,bc dN.out 4,bc dN.out 5,bc dN.out 6⟩ (fun hHeld=> ?_);clear hK K;refine nmp 118 ?_;refine pu HT_ 6 119 ?_;refine last_ (i:=7) (N:=none) #[true,true,true,true,true,true,true,true] rfl rfl (Ze8 HT_.out (by kernel_rfl)) (by decide) (fun K hK=> ?_);have hs87:w82.cell? ⟨fq,1,none⟩=some (jq):=(Zah aY.out 1).trans rfl;have hfs87:=Zam aY.out 1;have hns87_0:=gI.out;have hns87_1:=jM.out;have hns87_3:=KI.out;have hms87_0:=lW.out;have hms87_1:=xz.out;have hms87_3:=fQ.out;refine skip_ (w1:=?_) (by rfl) rfl ?_ ?_;rotate_left
        ·go_simp
         rfl
        refine hK.out _ _ ?_;clear hK K;refine Zfb (Zdw HT_.out (by kernel_rfl)) ?_;try go_wp2
        go_roundg kj45
        case measure=>have:=HJ1.out;have:=HK2.out;have:=HJ45.out;omega
        case rel=>exact⟨(wrap64 (af+1)),(NC),(.slice TB NC.length TM),eS,H',⟨by have:=HJ1.out;have:=HK2.out;have:=HJ45.out;omega⟩,⟨sM (Kd.Zcu (Kd.Zb2 (p:=⟨fq,1,none⟩) (Kd.Zcy bA.out aY.out (by decide)) (fun _ hk=>hk.2) (.slice TB NC.length TM)) (fun _ hk=>trivial))⟩,⟨rM (Kd.Zaw (Kd.Za2 (p:=⟨fq,1,none⟩) (Kd.Zbh Vp.out aY.out (by decide)) (fun _ hk=>hk.2) (.slice TB NC.length TM)) (fun _ hk=>trivial))⟩,⟨by(with_reducible repeat(first|refine Zab ?_ _|refine Zad ?_|refine Zaa ?_ _));refine Zav ?_ gI.out _;(with_reducible repeat(first|refine Zab ?_ _|refine Zad ?_|refine Zaa ?_ _));exact cz.out⟩,⟨by(with_reducible repeat(first|refine Zab ?_ _|refine Zad ?_|refine Zaa ?_ _));refine Zav ?_ jM.out _;(with_reducible repeat(first|refine Zab ?_ _|refine Zad ?_|refine Zaa ?_ _));exact di.out⟩,⟨by(with_reducible repeat(first|refine Zab ?_ _|refine Zad ?_|refine Zaa ?_ _));refine Zas (cs:=#[fo,jq,.int .i64 aj,.slice bi ak.length bn,.slice bf ai.length bg]) ?_ 1 _ rfl;(with_reducible repeat(first|refine Zab ?_ _|refine Zad ?_|refine Zaa ?_ _));exact aY.out⟩,⟨bM HB.out⟩⟩
end Go.Proofs.YtkgjaklnbgdmiaaGreat.P
