/- Proved: what each function of the program that the statements of this seat reach comes to, for whatever memory and arguments it is called with (on condition that its plain text tells a result). -/
import Derived.Test.YtkgjaklnbgdmiaaGreatProg
import Derived.Below
import Derived.Deep.Draws
import Derived.Deep.AppendLies
import Derived.Maps.AppendAt
import Derived.OwnWalk
import Derived.Laws.BytesArg
import Derived.Laws.MakeOwn
import Derived.Laws.OwnMore
import Derived.Deep.OwnRows
import Derived.Tactics
import Derived.Lib.ConvBytes
import Derived.Laws.Slices
import Derived.WalkKit
import Derived.KernelRfl
import Derived.RowKit3
import Derived.Deep.LoopGhost
import Derived.Deep.QuietTactic
import Derived.BigQuiet
import Derived.WideLaws
import Derived.Deep.DeepCutAuto
import Derived.Deep.CutBlock
import Derived.Deep.RegionHeld3
import Derived.Laws.Rows
import Derived.Lib.AppendStr
import Derived.ArgAppend
import Derived.Laws.IdiomCopy
import Derived.OrdersHeld
import Derived.Laws.BitsLemmas
import Derived.RowKit
import Derived.Test.YtkgjaklnbgdmiaaGreatU1
import Derived.Lib.SliceRun
import Derived.Maps.OwnSet
import Derived.StringKeys
import Derived.Laws.RangeString
import Derived.Laws.RangeAny
import Derived.Laws.Strings
import Derived.Laws.Strings2
import Derived.Laws.Strings3
import Derived.LoopTactic
import Derived.RangeFuncNested
import Derived.RangeFuncBox
import Derived.RangeFuncBound
import Derived.RangeFuncCalls
import Derived.RangeFuncLeaves
import Derived.Shelf.Abstract
import Derived.Shelf.AbstractIn
import Derived.OwnWalkIn
import Derived.TacticsInMore
import Derived.LoopNIn
import Derived.LoopIn
import Derived.Shelf.SlLaysM
import Derived.Shelf.SlLaysN
import Derived.Shelf.SortM.Plain
import Derived.Shelf.SortM.SortNone
import Derived.Sort.OwnSortedInts
import Derived.Shelf.GgClosure.Gives
import Derived.Lib.SlBy
set_option linter.unusedSimpArgs false
set_option linter.unusedVariables false
set_option maxHeartbeats 8000000
namespace Go.Proofs.YtkgjaklnbgdmiaaGreat.P
open Go.RowKit Go.Proofs.YtkgjaklnbgdmiaaGreatW.PrintWords Go.Proofs.YtkgjaklnbgdmiaaGreatW.PrintLast Go.Proofs.YtkgjaklnbgdmiaaGreatW.PrintMore
attribute [local go_sem] Zci Zck Zc3 Zc4 Zcb Zcc Zcj Zcl
def errW : Option Int → Value
 | none => .nilIface
 |some c=> .iface 0 (.int .i64 c)
theorem Zdi:errW none= .nilIface:=rfl
theorem Zdj (c:Int):errW (some c)= .iface 0 (.int .i64 c):=rfl
theorem info3:(Tryz.prog.info? 3).map (fun i=>(i.zero,i.size,i.bytes))=some (some (.int .i64 0),1,8):=by kernel_rfl
theorem info24:(Tryz.prog.info? 24).map (fun i=>(i.zero,i.size,i.bytes))=some (some (.slice none 0 0),1,24):=by kernel_rfl
theorem info35:(Tryz.prog.info? 35).map (fun i=>(i.zero,i.size,i.bytes))=some (some (.slice none 0 0),1,24):=by kernel_rfl
theorem info37:(Tryz.prog.info? 37).map (fun i=>(i.zero,i.size,i.bytes))=some (some (.agg #[(.string ⟨#[]⟩),(.slice none 0 0)]),2,40):=by kernel_rfl
theorem info40:(Tryz.prog.info? 40).map (fun i=>(i.zero,i.size,i.bytes))=some (some (.agg #[(.int .i64 0),(.slice none 0 0),(.slice none 0 0),(.int .i64 0),(.int .i64 0),(.slice none 0 0),(.int .i64 0)]),7,104):=by kernel_rfl
theorem Zgl:(Tryz.prog.info? 59).map (fun i=>(i.zero,i.size,i.bytes))=some (some (.agg #[(.int .i64 0),(.int .i64 0)]),2,16):=by kernel_rfl
def Zca (xs:List (List Int)) (i:Int):(List Int):=xs.getD i.toNat ([]:List Int)
theorem Ze6 {w:World} {A:Option Addr} {n:Nat} {xs:List (List Int)} (h:Kd.C (Kd.slice 3 (Kd.int .i64)) w A n xs) (i:Int) (h0:0≤i) (h1:i<n):∃ad A0 c0,A=some ad∧w.cell? (ad.add i.toNat)=some (.slice A0 (Zca xs i).length c0)∧(Zca xs i).length≤c0∧(Kd.int .i64).C w A0 (Zca xs i).length (Zca xs i):=by
 obtain⟨ad,c,e,_,hK,hc0⟩:=Kd.C_get h ([]:List Int) i h0 h1;have hc:∀j u,c[j]? =some u→w.cell? (ad.add (i.toNat*1+j))=some u:=hc0;obtain⟨A0,c0,rfl,l0,g0⟩:=hK;exact⟨ad,A0,c0,e,by have hq:=hc 0 _ rfl;rwa [Nat.mul_one,Nat.add_zero]at hq,l0,g0⟩
structure S59 where
 f0:Int
 f1:Int
def z59:S59:=⟨(0:Int),(0:Int)⟩
def k59:Kd S59:=Kd.iso (Kd.pair (Kd.int .i64) (Kd.int .i64)) (fun x:S59=>(x.f0,x.f1))
theorem k59_heap:Kd.Heap k59:=Kd.heap_iso _ (Kd.heap_pair (Kd.heap_int .i64) (Kd.heap_int .i64))
theorem k59_open {w:World} {x:S59} {cs:List Value} (h:k59.K w x cs):cs= [.int .i64 x.f0,.int .i64 x.f1]:=by
 obtain⟨_,_,rfl,rfl,rfl⟩:=h;exact rfl
theorem Zgo (w:World) (base:Nat) (ok:Nat→Prop) (x:S59):k59.M w base ok x [.int .i64 x.f0,.int .i64 x.f1]:=⟨[.int .i64 x.f0],[.int .i64 x.f1],rfl,rfl,rfl⟩
def Zba (xs:List S59) (i:Int):S59:=xs.getD i.toNat z59
theorem Zd0 {w:World} {A:Option Addr} {n:Nat} {xs:List S59} (h:Kd.C k59 w A n xs) (i:Int) (h0:0≤i) (h1:i<n):∃ad,A=some ad∧w.cell? (ad.add (i.toNat*2))=some (.int .i64 (Zba xs i).f0)∧w.cell? ⟨(ad.add (i.toNat*2)).block,(ad.add (i.toNat*2)).off+1,none⟩=some (.int .i64 (Zba xs i).f1):=by
 obtain⟨ad,c,e,_,hK,hc0⟩:=Kd.C_get h z59 i h0 h1;have hc:∀j u,c[j]? =some u→w.cell? (ad.add (i.toNat*2+j))=some u:=hc0;obtain rfl:=k59_open hK;exact⟨ad,e,hc 0 _ rfl,by rw[←Zd3 _ _ 1 (by omega)];exact hc 1 _ rfl⟩
def Ze (xs:List (List S59)) (i:Int):(List S59):=xs.getD i.toNat ([]:List S59)
theorem at_L4 {w:World} {A:Option Addr} {n:Nat} {xs:List (List S59)} (h:Kd.C (Kd.slice 59 k59) w A n xs) (i:Int) (h0:0≤i) (h1:i<n):∃ad A0 c0,A=some ad∧w.cell? (ad.add i.toNat)=some (.slice A0 (Ze xs i).length c0)∧(Ze xs i).length≤c0∧k59.C w A0 (Ze xs i).length (Ze xs i):=by
 obtain⟨ad,c,e,_,hK,hc0⟩:=Kd.C_get h ([]:List S59) i h0 h1;have hc:∀j u,c[j]? =some u→w.cell? (ad.add (i.toNat*1+j))=some u:=hc0;obtain⟨A0,c0,rfl,l0,g0⟩:=hK;exact⟨ad,A0,c0,e,by have hq:=hc 0 _ rfl;rwa [Nat.mul_one,Nat.add_zero]at hq,l0,g0⟩
structure S37 where
 f0:ByteArray
 f1:(List S59)
def z37:S37:=⟨(⟨#[]⟩:ByteArray),([]:List S59)⟩
def k37:Kd S37:=Kd.iso (Kd.pair Kd.string (Kd.slice 59 k59)) (fun x:S37=>(x.f0,x.f1))
theorem k37_heap:Kd.Heap k37:=Kd.heap_iso _ (Kd.heap_pair Kd.heap_string (Kd.heap_slice 59 k59_heap))
theorem k37_open {w:World} {x:S37} {cs:List Value} (h:k37.K w x cs):∃A1 c1,cs= [.string x.f0,.slice A1 x.f1.length c1]∧x.f1.length≤c1∧k59.C w A1 x.f1.length x.f1:=by
 obtain⟨_,_,rfl,rfl,⟨A1,c1,rfl,l1,g1⟩⟩:=h;exact⟨A1,c1,rfl,l1,g1⟩
theorem k37_mk (w:World) (x:S37) {A1:Option Addr} {c1:Nat} (l1:x.f1.length≤c1) (g1:k59.C w A1 x.f1.length x.f1):k37.K w x [.string x.f0,.slice A1 x.f1.length c1]:=⟨[.string x.f0],[.slice A1 x.f1.length c1],rfl,rfl,⟨A1,c1,rfl,l1,g1⟩⟩
theorem k37_mkM (w:World) (base:Nat) (ok:Nat→Prop) (x:S37) {v1:Value} (g1:k59.R 59 w base ok v1 x.f1):k37.M w base ok x [.string x.f0,v1]:=⟨[.string x.f0],[v1],rfl,rfl,⟨v1,rfl,g1⟩⟩
theorem k37_openF {W:World} {ok:Nat→Prop} {x:S37} {cs:List Value} (h:Kd.FK k37 W ok x cs):∃A1 c1,cs= [.string x.f0,.slice A1 x.f1.length c1]∧x.f1.length≤c1∧Kd.F k59 W ok A1 x.f1.length x.f1:=by
 obtain⟨A1,c1,rfl,l1,_⟩:=k37_open (Kd.Zh h);exact⟨A1,c1,rfl,l1,(fun W' hW=>by obtain⟨A1_,c1_,he,l1_,g1_⟩:=k37_open (h W' hW);injection (Option.some.inj (show some (Value.slice A1 x.f1.length c1)=some (Value.slice A1_ x.f1.length c1_)from congrArg (fun l=>l[1]?) he))with ha_ _ _;rw[ha_];exact g1_)⟩
theorem k37_mkF (W:World) (ok:Nat→Prop) (x:S37) {A1:Option Addr} {c1:Nat} (l1:x.f1.length≤c1) (g1:Kd.F k59 W ok A1 x.f1.length x.f1):Kd.FK k37 W ok x [.string x.f0,.slice A1 x.f1.length c1]:=fun W2 hW=>k37_mk W2 x l1 (g1 W2 hW)
def Zaq (xs:List S37) (i:Int):S37:=xs.getD i.toNat z37
theorem Zdc {w:World} {A:Option Addr} {n:Nat} {xs:List S37} (h:Kd.C k37 w A n xs) (i:Int) (h0:0≤i) (h1:i<n):∃ad A1 c1,A=some ad∧w.cell? (ad.add (i.toNat*2))=some (.string (Zaq xs i).f0)∧w.cell? ⟨(ad.add (i.toNat*2)).block,(ad.add (i.toNat*2)).off+1,none⟩=some (.slice A1 (Zaq xs i).f1.length c1)∧(Zaq xs i).f1.length≤c1∧k59.C w A1 (Zaq xs i).f1.length (Zaq xs i).f1:=by
 obtain⟨ad,c,e,_,hK,hc0⟩:=Kd.C_get h z37 i h0 h1;have hc:∀j u,c[j]? =some u→w.cell? (ad.add (i.toNat*2+j))=some u:=hc0;obtain⟨A1,c1,rfl,l1,g1⟩:=k37_open hK;exact⟨ad,A1,c1,e,hc 0 _ rfl,by rw[←Zd3 _ _ 1 (by omega)];exact hc 1 _ rfl,l1,g1⟩
structure S40 where
 f0:Int
 f1:(List Int)
 f2:(List Int)
 f3:Int
 f4:Int
 f5:(List (List Int))
 f6:Int
def z40:S40:=⟨(0:Int),([]:List Int),([]:List Int),(0:Int),(0:Int),([]:List (List Int)),(0:Int)⟩
def k40:Kd S40:=Kd.iso (Kd.pair (Kd.int .i64) (Kd.pair (Kd.slice 3 (Kd.int .i64)) (Kd.pair (Kd.slice 3 (Kd.int .i64)) (Kd.pair (Kd.int .i64) (Kd.pair (Kd.int .i64) (Kd.pair (Kd.slice 24 (Kd.slice 3 (Kd.int .i64))) (Kd.int .i64))))))) (fun x:S40=>(x.f0,x.f1,x.f2,x.f3,x.f4,x.f5,x.f6))
theorem k40_open {w:World} {x:S40} {cs:List Value} (h:k40.K w x cs):∃A1 c1 A2 c2 A5 c5,cs= [.int .i64 x.f0,.slice A1 x.f1.length c1,.slice A2 x.f2.length c2,.int .i64 x.f3,.int .i64 x.f4,.slice A5 x.f5.length c5,.int .i64 x.f6]∧x.f1.length≤c1∧(Kd.int .i64).C w A1 x.f1.length x.f1∧x.f2.length≤c2∧(Kd.int .i64).C w A2 x.f2.length x.f2∧x.f5.length≤c5∧(Kd.slice 3 (Kd.int .i64)).C w A5 x.f5.length x.f5:=by
 obtain⟨_,_,rfl,rfl,⟨_,_,rfl,⟨A1,c1,rfl,l1,g1⟩,⟨_,_,rfl,⟨A2,c2,rfl,l2,g2⟩,⟨_,_,rfl,rfl,⟨_,_,rfl,rfl,⟨_,_,rfl,⟨A5,c5,rfl,l5,g5⟩,rfl⟩⟩⟩⟩⟩⟩:=h;exact⟨A1,c1,A2,c2,A5,c5,rfl,l1,g1,l2,g2,l5,g5⟩
theorem k40_mk (w:World) (x:S40) {A1:Option Addr} {c1:Nat} (l1:x.f1.length≤c1) (g1:(Kd.int .i64).C w A1 x.f1.length x.f1) {A2:Option Addr} {c2:Nat} (l2:x.f2.length≤c2) (g2:(Kd.int .i64).C w A2 x.f2.length x.f2) {A5:Option Addr} {c5:Nat} (l5:x.f5.length≤c5) (g5:(Kd.slice 3 (Kd.int .i64)).C w A5 x.f5.length x.f5):k40.K w x [.int .i64 x.f0,.slice A1 x.f1.length c1,.slice A2 x.f2.length c2,.int .i64 x.f3,.int .i64 x.f4,.slice A5 x.f5.length c5,.int .i64 x.f6]:=⟨[.int .i64 x.f0],[.slice A1 x.f1.length c1,.slice A2 x.f2.length c2,.int .i64 x.f3,.int .i64 x.f4,.slice A5 x.f5.length c5,.int .i64 x.f6],rfl,rfl,⟨[.slice A1 x.f1.length c1],[.slice A2 x.f2.length c2,.int .i64 x.f3,.int .i64 x.f4,.slice A5 x.f5.length c5,.int .i64 x.f6],rfl,⟨A1,c1,rfl,l1,g1⟩,⟨[.slice A2 x.f2.length c2],[.int .i64 x.f3,.int .i64 x.f4,.slice A5 x.f5.length c5,.int .i64 x.f6],rfl,⟨A2,c2,rfl,l2,g2⟩,⟨[.int .i64 x.f3],[.int .i64 x.f4,.slice A5 x.f5.length c5,.int .i64 x.f6],rfl,rfl,⟨[.int .i64 x.f4],[.slice A5 x.f5.length c5,.int .i64 x.f6],rfl,rfl,⟨[.slice A5 x.f5.length c5],[.int .i64 x.f6],rfl,⟨A5,c5,rfl,l5,g5⟩,rfl⟩⟩⟩⟩⟩⟩
theorem k40_mkM (w:World) (base:Nat) (ok:Nat→Prop) (x:S40) {v1:Value} (g1:(Kd.int .i64).R 3 w base ok v1 x.f1) {v2:Value} (g2:(Kd.int .i64).R 3 w base ok v2 x.f2) {v5:Value} (g5:(Kd.slice 3 (Kd.int .i64)).R 24 w base ok v5 x.f5):k40.M w base ok x [.int .i64 x.f0,v1,v2,.int .i64 x.f3,.int .i64 x.f4,v5,.int .i64 x.f6]:=⟨[.int .i64 x.f0],[v1,v2,.int .i64 x.f3,.int .i64 x.f4,v5,.int .i64 x.f6],rfl,rfl,⟨[v1],[v2,.int .i64 x.f3,.int .i64 x.f4,v5,.int .i64 x.f6],rfl,⟨v1,rfl,g1⟩,⟨[v2],[.int .i64 x.f3,.int .i64 x.f4,v5,.int .i64 x.f6],rfl,⟨v2,rfl,g2⟩,⟨[.int .i64 x.f3],[.int .i64 x.f4,v5,.int .i64 x.f6],rfl,rfl,⟨[.int .i64 x.f4],[v5,.int .i64 x.f6],rfl,rfl,⟨[v5],[.int .i64 x.f6],rfl,⟨v5,rfl,g5⟩,rfl⟩⟩⟩⟩⟩⟩
theorem k40_mkF (W:World) (ok:Nat→Prop) (x:S40) {A1:Option Addr} {c1:Nat} (l1:x.f1.length≤c1) (g1:Kd.F (Kd.int .i64) W ok A1 x.f1.length x.f1) {A2:Option Addr} {c2:Nat} (l2:x.f2.length≤c2) (g2:Kd.F (Kd.int .i64) W ok A2 x.f2.length x.f2) {A5:Option Addr} {c5:Nat} (l5:x.f5.length≤c5) (g5:Kd.F (Kd.slice 3 (Kd.int .i64)) W ok A5 x.f5.length x.f5):Kd.FK k40 W ok x [.int .i64 x.f0,.slice A1 x.f1.length c1,.slice A2 x.f2.length c2,.int .i64 x.f3,.int .i64 x.f4,.slice A5 x.f5.length c5,.int .i64 x.f6]:=fun W2 hW=>k40_mk W2 x l1 (g1 W2 hW) l2 (g2 W2 hW) l5 (g5 W2 hW)
def Zac (xs:List S40) (i:Int):S40:=xs.getD i.toNat z40
theorem Zeq {w:World} {A:Option Addr} {n:Nat} {xs:List S40} (h:Kd.C k40 w A n xs) (i:Int) (h0:0≤i) (h1:i<n):∃ad A1 c1 A2 c2 A5 c5,A=some ad∧w.cell? (ad.add (i.toNat*7))=some (.int .i64 (Zac xs i).f0)∧w.cell? ⟨(ad.add (i.toNat*7)).block,(ad.add (i.toNat*7)).off+1,none⟩=some (.slice A1 (Zac xs i).f1.length c1)∧w.cell? ⟨(ad.add (i.toNat*7)).block,(ad.add (i.toNat*7)).off+2,none⟩=some (.slice A2 (Zac xs i).f2.length c2)∧w.cell? ⟨(ad.add (i.toNat*7)).block,(ad.add (i.toNat*7)).off+3,none⟩=some (.int .i64 (Zac xs i).f3)∧w.cell? ⟨(ad.add (i.toNat*7)).block,(ad.add (i.toNat*7)).off+4,none⟩=some (.int .i64 (Zac xs i).f4)∧w.cell? ⟨(ad.add (i.toNat*7)).block,(ad.add (i.toNat*7)).off+5,none⟩=some (.slice A5 (Zac xs i).f5.length c5)∧w.cell? ⟨(ad.add (i.toNat*7)).block,(ad.add (i.toNat*7)).off+6,none⟩=some (.int .i64 (Zac xs i).f6)∧(Zac xs i).f1.length≤c1∧(Kd.int .i64).C w A1 (Zac xs i).f1.length (Zac xs i).f1∧(Zac xs i).f2.length≤c2∧(Kd.int .i64).C w A2 (Zac xs i).f2.length (Zac xs i).f2∧(Zac xs i).f5.length≤c5∧(Kd.slice 3 (Kd.int .i64)).C w A5 (Zac xs i).f5.length (Zac xs i).f5:=by
 obtain⟨ad,c,e,_,hK,hc0⟩:=Kd.C_get h z40 i h0 h1;have hc:∀j u,c[j]? =some u→w.cell? (ad.add (i.toNat*7+j))=some u:=hc0;obtain⟨A1,c1,A2,c2,A5,c5,rfl,l1,g1,l2,g2,l5,g5⟩:=k40_open hK;exact⟨ad,A1,c1,A2,c2,A5,c5,e,hc 0 _ rfl,by rw[←Zd3 _ _ 1 (by omega)];exact hc 1 _ rfl,by rw[←Zd3 _ _ 2 (by omega)];exact hc 2 _ rfl,by rw[←Zd3 _ _ 3 (by omega)];exact hc 3 _ rfl,by rw[←Zd3 _ _ 4 (by omega)];exact hc 4 _ rfl,by rw[←Zd3 _ _ 5 (by omega)];exact hc 5 _ rfl,by rw[←Zd3 _ _ 6 (by omega)];exact hc 6 _ rfl,l1,g1,l2,g2,l5,g5⟩
end Go.Proofs.YtkgjaklnbgdmiaaGreat.P
/- Short words for walks: the steps that come again and again are told by what a lemma does for itself (its last arguments are shown by fixed tactics). -/
namespace Go.Proofs.YtkgjaklnbgdmiaaGreat.P
open Go.RowKit Go.Proofs.YtkgjaklnbgdmiaaGreatW.PrintWords Go.Proofs.YtkgjaklnbgdmiaaGreatW.PrintLast Go.Proofs.YtkgjaklnbgdmiaaGreatW.PrintMore
section
variable {w0 w1 W W':World} {g:Nat} {o:Obj} {m:Nat}
theorem bM (h:Below m w0 w1) (k:Below m w0 w1→Below m w0 W:=by intro k_;repeat(first|(with_reducible first|exact k_|apply Zb|apply Zb7|apply Zb6|(refine Zax ?_ (Za.out (by assumption))))|exact k_)):Below m w0 W:=k h
theorem bS (h:Below w0.heap.size w0 w1) (hb:Below W.heap.size W W') (k:Below w0.heap.size w0 w1→Below w0.heap.size w0 W:=by intro k_;repeat(first|(with_reducible first|exact k_|apply Zb|apply Zb7|apply Zb6|(refine Zax ?_ (Za.out (by assumption))))|exact k_)):Below w0.heap.size w0 W':=Zae (k h) hb
theorem gE (hg:g=W.heap.size) (h:Below w0.heap.size w0 w1) (k:Below w0.heap.size w0 w1→Below w0.heap.size w0 W:=by intro k_;repeat(first|(with_reducible first|exact k_|apply Zb|apply Zb7|apply Zb6|(refine Zax ?_ (Za.out (by assumption))))|exact k_)):w0.heap.size≤g:=by
  rw[hg];exact Zaj (k h)
theorem kM (h:w1.heap[g]? =some o) (k:w1.heap[g]? =some o→W.heap[g]? =some o:=by intro k_;(with_reducible repeat(first|exact k_|refine Zab ?_ _|refine Zad ?_|refine Zaa ?_ _))):W.heap[g]? =some o:=k h
theorem kB (h:w1.heap[g]? =some o) (hb:Below W.heap.size W W') (k:w1.heap[g]? =some o→W.heap[g]? =some o:=by intro k_;(with_reducible repeat(first|exact k_|refine Zab ?_ _|refine Zad ?_|refine Zaa ?_ _))):W'.heap[g]? =some o:=Zbz (k h) hb
theorem kG {row:Option Nat} (h:w1.heap[g]? =some o) (hg:W.grownBy W' row) (hne:some g≠row) (k:w1.heap[g]? =some o→W.heap[g]? =some o:=by intro k_;(with_reducible repeat(first|exact k_|refine Zab ?_ _|refine Zad ?_|refine Zaa ?_ _))):W'.heap[g]? =some o:=blk_grown (k h) hg hne
theorem hB {a:Addr} {v:Value} (hb:Below W.heap.size W W') (h:W.cell? a=some v):W'.cell? a=some v:=(hb.cell (World.block_lt_of_cell? W _ h)).trans h
end
section
variable {α:Type} {d:Kd α} {e base n:Nat} {ok:Nat→Prop} {w w1 W:World} {v:Value} {xs:List α} {A:Option Addr}
theorem rM (h:d.R e w1 base ok v xs) (k:d.R e w1 base ok v xs→d.R e W base ok v xs:=by intro k_;(with_reducible repeat(first|exact k_|apply Kd.R_alloc|apply Kd.R_drewN|apply Kd.Zd6))):d.R e W base ok v xs:=k h
theorem sM (h:Kd.S d e w1 base ok v xs) (k:Kd.S d e w1 base ok v xs→Kd.S d e W base ok v xs:=by intro k_;(with_reducible repeat(first|exact k_|apply Kd.S_alloc|apply Kd.S_drewN|apply Kd.Zfl))):Kd.S d e W base ok v xs:=k h
theorem nM (h:Kd.N d e w1 base ok v xs) (k:Kd.N d e w1 base ok v xs→Kd.N d e W base ok v xs:=by intro k_;(with_reducible repeat(first|exact k_|apply Kd.N_alloc|apply Kd.N_drewN|apply Kd.N_drew))):Kd.N d e W base ok v xs:=k h
theorem vM (h:Kd.V d e w1 base ok v xs) (k:Kd.V d e w1 base ok v xs→Kd.V d e W base ok v xs:=by intro k_;(with_reducible repeat(first|exact k_|apply Kd.V_alloc|apply Kd.V_drewN|apply Kd.V_drew))):Kd.V d e W base ok v xs:=k h
theorem cM (h:Kd.C d w1 A n xs) (k:Kd.C d w1 A n xs→Kd.C d W A n xs:=by intro k_;repeat(first|exact k_|(with_reducible refine Kd.C_alloc ?_ _)|(with_reducible refine Kd.Zcm ?_ _)|(with_reducible refine Kd.C_drew ?_))):Kd.C d W A n xs:=k h
end
section
variable {w1 W w':World} {g:Nat} {p:Addr} {V:Value} {t:TypeId} {cs:Array Value}
theorem fB (hw:w'=W.setCell p V) (h:w1.heap[g]? =some (.cells cs t (0,0))) (hne:g≠p.block) (k:w1.heap[g]? =some (.cells cs t (0,0))→W.heap[g]? =some (.cells cs t (0,0)):=by intro k_;(with_reducible repeat(first|exact k_|refine Zab ?_ _|refine Zad ?_|refine Zaa ?_ _))):w'.heap[g]? =some (.cells cs t (0,0)):=by
  rw[hw];exact Zav (k h) hne V
end
theorem teq {p:Prop} [Decidable p] (h:decide p=true:=by first|(with_reducible assumption)|assumption):p=True:=eq_true (of_decide_eq_true h)
theorem ifP {α:Type} {c:Prop} [Decidable c] {x:Option α} {r:α} (h:(if c then x else none)=some r):c∧x=some r:=by
  by_cases k:c
  · rw[if_pos k]at h;exact⟨k,h⟩
  rw[if_neg k]at h;exact absurd h (by simp)
theorem ifT {α:Type} {c:Prop} [Decidable c] {x:Option α} {r:α} (h:(if c then x else none)=some r):decide c=true∧x=some r:=⟨decide_eq_true (ifP h).1,(ifP h).2⟩
theorem ifF {α:Type} {a b c:α} [Decidable (false=true)] (h:(if false=true then a else b)=c):b=c:=by rwa [if_neg Bool.false_ne_true]at h
theorem sj {α:Type} {a b:α} (h:some a=some b):a=b:=Option.some.inj h
theorem bnd {α β:Type} {x:Option α} {f:α→Option β} {r:β} (h:x.bind f=some r):∃a,Za (x=some a)∧f a=some r:=by
  obtain⟨a,h1,h2⟩:=Option.bind_eq_some_iff.mp h;exact⟨a,⟨h1⟩,h2⟩
theorem odt {p:Prop} [Decidable p] (h:decide p=true:=by first|(with_reducible assumption)|assumption):p:=of_decide_eq_true h
theorem eR {p:Prop} (h:p:=by first|rfl|(simp[Zdi,Zdj]<;>rfl)|(simp[*,Zdi,Zdj]<;>rfl)):p:=h
theorem eS {p:Prop} (h:p:=by first|rfl|(simp;done)|(simp[*];done)):p:=h
theorem bc {w:World} {g:Nat} {t:TypeId} {cs:Array Value} (h:w.heap[g]? =some (.cells cs t (0,0))) (i:Nat) {v:Value} (e:cs[i]? =some v:=by rfl):w.cell? ⟨g,i,none⟩=some v:=(Zah h i).trans e
section
variable {w:World} {g:Nat} {t:TypeId} {x0 x1 x2 x3 x4 x5 x6:Value}
theorem cz2 (h:w.heap[g]? =some (.cells #[x0,x1] t (0,0))):w.cell? ⟨g,0,none⟩=some x0∧w.cell? ⟨g,1,none⟩=some x1∧w.frozen? ⟨g,0,none⟩=false∧w.frozen? ⟨g,1,none⟩=false:=⟨bc h 0,bc h 1,Zam h 0,Zam h 1⟩
theorem cz3 (h:w.heap[g]? =some (.cells #[x0,x1,x2] t (0,0))):w.cell? ⟨g,0,none⟩=some x0∧w.cell? ⟨g,1,none⟩=some x1∧w.cell? ⟨g,2,none⟩=some x2∧w.frozen? ⟨g,0,none⟩=false∧w.frozen? ⟨g,1,none⟩=false∧w.frozen? ⟨g,2,none⟩=false:=⟨bc h 0,bc h 1,bc h 2,Zam h 0,Zam h 1,Zam h 2⟩
theorem cz5 (h:w.heap[g]? =some (.cells #[x0,x1,x2,x3,x4] t (0,0))):w.cell? ⟨g,0,none⟩=some x0∧w.cell? ⟨g,1,none⟩=some x1∧w.cell? ⟨g,2,none⟩=some x2∧w.cell? ⟨g,3,none⟩=some x3∧w.cell? ⟨g,4,none⟩=some x4∧w.frozen? ⟨g,0,none⟩=false∧w.frozen? ⟨g,1,none⟩=false∧w.frozen? ⟨g,2,none⟩=false∧w.frozen? ⟨g,3,none⟩=false∧w.frozen? ⟨g,4,none⟩=false:=⟨bc h 0,bc h 1,bc h 2,bc h 3,bc h 4,Zam h 0,Zam h 1,Zam h 2,Zam h 3,Zam h 4⟩
theorem cz7 (h:w.heap[g]? =some (.cells #[x0,x1,x2,x3,x4,x5,x6] t (0,0))):w.cell? ⟨g,0,none⟩=some x0∧w.cell? ⟨g,1,none⟩=some x1∧w.cell? ⟨g,2,none⟩=some x2∧w.cell? ⟨g,3,none⟩=some x3∧w.cell? ⟨g,4,none⟩=some x4∧w.cell? ⟨g,5,none⟩=some x5∧w.cell? ⟨g,6,none⟩=some x6∧w.frozen? ⟨g,0,none⟩=false∧w.frozen? ⟨g,1,none⟩=false∧w.frozen? ⟨g,2,none⟩=false∧w.frozen? ⟨g,3,none⟩=false∧w.frozen? ⟨g,4,none⟩=false∧w.frozen? ⟨g,5,none⟩=false∧w.frozen? ⟨g,6,none⟩=false:=⟨bc h 0,bc h 1,bc h 2,bc h 3,bc h 4,bc h 5,bc h 6,Zam h 0,Zam h 1,Zam h 2,Zam h 3,Zam h 4,Zam h 5,Zam h 6⟩
end
section
variable {P:Program} {ops:Array Oper} {Q:Exit→Act→World→Prop} {md:Region.Mode} {S:World→Prop} {ds:List Nat} {T:Bool × List (List Nat × List Nat)} {B:List Nat} {l l':Array Bool} {oi:Oper} {v:Value} {fuel:Nat} {a a':Act} {w:World}
theorem nmp (N:Nat) {v:Value} (h:wpAnyLast P md ops Q S ds fuel l a' w) (ha:a.put (some N) v=a':=by simp only[Act.put,List.setIfInBounds_toArray,List.set_cons_zero,List.set_cons_succ,Zdk,Zdn];rfl):wpAnyLast P md ops Q S ds fuel l (a.put (some N) v) w:=Zdx ha h
theorem pu (HT : Za (rtab md ops = T)) (i N : Nat) (h : wpAnyLast P md ops Q S ds fuel l' a' w) (hi : ops[i]? = some oi := by rfl) (hN : oi.dst = some N := by rfl)
    (hl:l.setIfInBounds i true=l':=by simp only[List.setIfInBounds_toArray,List.set_cons_zero,List.set_cons_succ];rfl) (hc:anyT T l.toList l'.toList i=true:=by kernel_rfl) (hw:Region.wanted oi (yielded ops a.tmps)=true:=by rfl)
    (hr:∀w',(execOp a.eval oi).run P w'= .ok (.value v) w':=by intro w';go_simp;with_reducible rfl)
    (hQ:∀c a w,Q (.panic c) (a.put oi.dst v) w→Q (.panic c) a w:=by exact fun _ _ _ h=>h)
    (ha:a.put (some N) v=a':=by simp only[Act.put,List.setIfInBounds_toArray,List.set_cons_zero,List.set_cons_succ,Zdk,Zdn];rfl):wpAnyLast P md ops Q S ds (fuel+1) l a w:=
  pure_ l' hi hN (any_of HT.out hc) hQ (Or.inl ⟨hw,hr⟩) ha h
theorem un (HT : Za (rtab md ops = T)) (i N : Nat) (h : wpAnyLast P md ops Q S ds fuel l' a' w) (hi : ops[i]? = some oi := by rfl) (hN : oi.dst = some N := by rfl)
    (hl:l.setIfInBounds i true=l':=by simp only[List.setIfInBounds_toArray,List.set_cons_zero,List.set_cons_succ];rfl) (hc:anyT T l.toList l'.toList i=true:=by kernel_rfl) (hw:Region.wanted oi (yielded ops a.tmps)=false:=by rfl)
    (hQ:∀c a w,Q (.panic c) (a.put oi.dst undef) w→Q (.panic c) a w:=by exact fun _ _ _ h=>h)
    (ha:a.put (some N) undef=a':=by simp only[Act.put,List.setIfInBounds_toArray,List.set_cons_zero,List.set_cons_succ,Zdk,Zdn];rfl):wpAnyLast P md ops Q S ds (fuel+1) l a w:=
  pure_ l' hi hN (any_of HT.out hc) hQ (Or.inr ⟨hw,rfl⟩) ha h
theorem tk (HT : Za (rtab md ops = T)) (HW : Za (waitsOk T.2 B = true)) (hS : S w) (i N : Nat) (h : wpAnyLast P md ops Q S ds fuel l' a' w) (hi : ops[i]? = some oi := by rfl) (hN : oi.dst = some N := by rfl)
    (hl:l.setIfInBounds i true=l':=by simp only[List.setIfInBounds_toArray,List.set_cons_zero,List.set_cons_succ];rfl) (hc:takeW T B ds l.toList l'.toList i=true:=by kernel_rfl) (hw:Region.wanted oi (yielded ops a.tmps)=true:=by rfl)
    (hr:∀w',S w'→(execOp a.eval oi).run P w'= .ok (.value v) w':=by intro w' s_;repeat(obtain⟨_,s_⟩:=s_);go_simp;with_reducible rfl)
    (hQ:∀c a w,Q (.panic c) (a.put oi.dst v) w→Q (.panic c) a w:=by exact fun _ _ _ h=>h)
    (ha:a.put (some N) v=a':=by simp only[Act.put,List.setIfInBounds_toArray,List.set_cons_zero,List.set_cons_succ,Zdk,Zdn];rfl):wpAnyLast P md ops Q S ds (fuel+1) l a w:=
  take_ l' hi hN (take_ofW HT.out HW.out hc) hQ (Or.inl ⟨hw,hr⟩) hS ha h
theorem on1 (HT : Za (rtab md ops = T)) (i N : Nat)
    (h:∀K:Act→World→Prop,Shut (∀a' w',S w'→(S w'→wpAnyLast P md ops Q S ds fuel l' a' w')→K a' w')→if Region.wanted oi (yielded ops a.tmps)=true then Oper.wp P oi a w K Q else K (a.put (some N) undef) w)
    (hi:ops[i]? =some oi:=by rfl) (hN:oi.dst=some N:=by rfl)
    (hl:l.setIfInBounds i true=l':=by simp only[List.setIfInBounds_toArray,List.set_cons_zero,List.set_cons_succ];rfl) (hc:(readyT T.2 l.toList== [i] && l.toList.set i true==l'.toList)=true:=by kernel_rfl) (hd:i ∉ ds:=by decide):wpAnyLast P md ops Q S ds (fuel+1) l a w:=
  one_ l' hi hN (Ze8 HT.out hc) hd h
theorem gs {N : Option Tmp} {K : Act → World → Prop} {f : FuncId} {fn : Func} {as_ : Array Operand} {ts : Array TypeId} (hf : P.funcs[f]? = some fn) (args : Array Value) (h : Calls P f args w fun e w' => ∃ v, e = .returned v ∧ K (a.put N v) w')
    (hname : (fn.name == "runtime.NumGoroutine") = false := by kernel_rfl) (hb : fn.body.isSome = true := by rfl)
    (hw:Region.wanted oi (yielded ops a.tmps)=true:=by rfl) (hN:oi.dst=N:=by rfl) (hop:oi.op= .call { callee:= .value (.func f),args:=as_,argTypes:=ts } :=by rfl)
    (hargs:as_.map a.eval=args:=by(try simp only[List.map_toArray,List.map_cons,List.map_nil]);first|done|rfl|(simp only[List.length_drop,List.length_take];rfl)):if Region.wanted oi (yielded ops a.tmps)=true then Oper.wp P oi a w K Q else K (a.put N undef) w:=
  Zgk hf hname hb args hw hN hop hargs h
theorem gl {rest : List Oper} (N : Nat) {f : FuncId} {fn : Func} {as_ : Array Operand} {ts : Array TypeId} (hf : P.funcs[f]? = some fn) (args : Array Value) (h : Calls P f args w fun e w' => ∃ v, e = .returned v ∧ wpList P ops Q rest (a.put (some N) v) w')
    (hd : oi.dst = some N := by rfl) (hg : oi.guard = none := by rfl) (hname : (fn.name == "runtime.NumGoroutine") = false := by kernel_rfl) (hb : fn.body.isSome = true := by rfl) (hop : oi.op = .call { callee := .value (.func f), args := as_, argTypes := ts } := by rfl)
    (hargs:as_.map a.eval=args:=by(try simp only[List.map_toArray,List.map_cons,List.map_nil]);first|done|rfl|(simp only[List.length_drop,List.length_take];rfl)):wpList P ops Q (oi::rest) a w:=
  Ze4 (some N) hd hg hf hname hb args hop hargs h
theorem nm (h:wpAnyLast P md ops Q S ds fuel l a' w) (ha:a=a':=by first|(simp only[putAll,Act.put,List.setIfInBounds_toArray,List.set_cons_zero,List.set_cons_succ];done)|(simp only[putAll,Act.put,List.setIfInBounds_toArray,List.set_cons_zero,List.set_cons_succ];rfl)):wpAnyLast P md ops Q S ds fuel l a w:=Zdx ha h
theorem se {o : Oper} {rest : List Oper} {W : World} (t p : Nat) (w1 : World) (h : ∀ w', w' = w1 → wpList P ops Q rest a w') {v : Operand} (ho : o.op = .store t (.tmp p) v := by rfl) (hgd : o.guard = none := by rfl) (hN : o.dst = none := by rfl)
    (hrun:(execOp a.eval o).run P W= .ok .skip w1:=by first|(go_simp;done)|(go_simp;rfl)):wpList P ops Q (o::rest) a W:=store_event hgd ho hN hrun h
theorem bx {o : Oper} {rest : List Oper} {W : World} (N : Nat) (cs : Array Value) (t : TypeId)
    (h:∀g,g=W.heap.size→∀w1,w1.heap[g]? =some (.cells cs t (0,0))→Below W.heap.size W w1→wpList P ops Q rest (a.put o.dst (.pointer (some ⟨g,0,none⟩))) w1)
    (hgd:o.guard=none:=by rfl) (hd:o.dst=some N:=by rfl) (hrun:(execOp a.eval o).run P W= .ok (.value (.pointer (some ⟨W.heap.size,0,none⟩))) (W.alloc (.cells cs t (0,0))):=by first|(go_simp;done)|(go_simp;rfl)):wpList P ops Q (o::rest) a W:=Zb8 hgd hd hrun h
end
end Go.Proofs.YtkgjaklnbgdmiaaGreat.P
/- Facts of a world, at a world that an alloc or a draw has moved: told by the class 'Mv', so that the texts stay short. -/
namespace Go.Proofs.YtkgjaklnbgdmiaaGreat.P
open Go.RowKit Go.Proofs.YtkgjaklnbgdmiaaGreatW.PrintWords Go.Proofs.YtkgjaklnbgdmiaaGreatW.PrintLast Go.Proofs.YtkgjaklnbgdmiaaGreatW.PrintMore
class Mv (w w' : World) : Prop where
  out:Below w.heap.size w w'
instance (w:World):Mv w w:=⟨Below.refl _ _⟩
instance (w w':World) [h:Mv w w']:Mv w w'.drew:=⟨Zae h.out (Zd1 (Below.refl _ _))⟩
instance (w w':World) (n:Nat) [h:Mv w w']:Mv w (w'.drewN n):=⟨Zae h.out (Zb7 (Below.refl _ _) n)⟩
instance (w w':World) (o:Obj) [h:Mv w w']:Mv w (w'.alloc o):=⟨Zae h.out (Zb (Below.refl _ _) o)⟩
section
variable {α:Type} {d:Kd α} {e base:Nat} {ok:Nat→Prop} {w w' W:World} {v:Value} {xs:List α}
theorem mvR [m:Mv w w'] (h:d.R e w base ok v xs):d.R e w' base ok v xs:=Kd.Zbt h m.out
theorem mvB [m:Mv w w'] (h:Below W.heap.size W w):Below W.heap.size W w':=Zae h m.out
theorem mvK {g:Nat} {o:Obj} [m:Mv w w'] (h:w.heap[g]? =some o):w'.heap[g]? =some o:=Zbz h m.out
end
end Go.Proofs.YtkgjaklnbgdmiaaGreat.P
namespace Go.Proofs.YtkgjaklnbgdmiaaGreat.P
open Go.RowKit Go.Proofs.YtkgjaklnbgdmiaaGreatW.PrintWords Go.Proofs.YtkgjaklnbgdmiaaGreatW.PrintLast Go.Proofs.YtkgjaklnbgdmiaaGreatW.PrintMore
attribute [local go_sem] Zci Zck Zc3 Zc4 Zcb Zcc Zcj Zcl
def Zau.l0 : Nat → List Int → List Int → Int → Option (Bool)
 | 0, _, _, _ => none
 |k+1,x0,x1,x5=>if x5<(x0.length:Int)then(if 0≤x5 then(if x5<(x1.length:Int)then(if(rd x0 x5)=(rd x1 x5)then(Zau.l0 k x0 x1 (wrap64 (x5+1)))else(some false))else(none))else(none))else(some true)
def Zau.f (k:Nat) (l0:List Int) (l1:List Int):Option (Bool):=if(l0.length:Int)=(l1.length:Int)then(Zau.l0 k l0 l1 0)else(some false)
set_option maxRecDepth 100000 in
theorem Zau.calls (k : Nat) (A0 : Option Addr) (c0 : Nat) (l0 : List Int) (A1 : Option Addr) (c1 : Nat) (l1 : List Int) (r : Bool) (w : World) (hr0 : Kd.C (Kd.int .i64) w A0 l0.length l0) (hc0 : l0.length ≤ c0) (hr1 : Kd.C (Kd.int .i64) w A1 l1.length l1) (hc1 : l1.length ≤ c1) (h : Zau.f k l0 l1 = some r) :
  Calls Tryz.prog 21 #[.slice A0 l0.length c0,.slice A1 l1.length c1] w fun e w'=>e= .returned (.bool r)∧Za1 w w':=by
 have HR0:=Za.mk hr0;have HC0:=Za.mk hc0;clear hr0 hc0;have HR1:=Za.mk hr1;have HC1:=Za.mk hc1;clear hr1 hc1;have H:(if(l0.length:Int)=(l1.length:Int)then(Zau.l0 k l0 l1 0)else(some false))=some r:=h;clear h;by_cases c3:(l0.length:Int)=(l1.length:Int)
 case neg=>
  rw[if_neg c3]at H;have gL:((l0.length:Int)==(l1.length:Int))=false:=beq_eq_false_iff_ne.mpr c3;have lV:((l0.length:Int) !=(l1.length:Int))=true:=bne_iff_ne.mpr c3;have qB:(l0.length==l1.length)=false:=by first|simpa using c3|(simp at c3 ⊢;omega)
  obtain rfl:=sj H;go_enter Tryz.func21,Tryz.ntmps21;go_wp2
  repeat(go_quiet (fail);try go_wp2)
  go_ret;exact⟨eS,by repeat(first|exact Za1.refl _|apply Za1.step)⟩
 rw[if_pos c3]at H;have gL:((l0.length:Int)==(l1.length:Int))=true:=beq_iff_eq.mpr c3;have lV:((l0.length:Int) !=(l1.length:Int))=false:=bne_eq_false_iff_eq.mpr c3;have qB:(l0.length==l1.length)=true:=by first|simpa using c3|(simp at c3 ⊢;omega)
 clear c3;have H':=Za.mk H;clear H;go_enter Tryz.func21,Tryz.ntmps21;go_wp2
 repeat(go_quiet (fail);try go_wp2)
 go_loopg [5] k (fun kq v5 w'=>∃(aH:Int),v5= .int .i64 aH∧Za (Zau.l0 kq l0 l1 aH=some r)∧Za (kq≤k)∧Za1 w w')
 case atStart=>exact⟨(0),eS,H',⟨Nat.le_refl _⟩,by repeat(first|exact Za1.refl _|apply Za1.step)⟩
 case round=>
  clear H';try clear c1
  try clear c2
  try clear p2
  try clear c3
  try clear gL
  try clear lV
  try clear qB
  obtain⟨aH,rfl,HA,HK1,⟨m1,rfl⟩⟩:=hrel
  cases gk with
  | zero => exact absurd HA.out (by simp [Zau.l0])
  |succ k1=>
   have H:=HA.out;clear HA;simp only[Zau.l0]at H;by_cases c4:aH<(l0.length:Int)
   case neg=>
    rw[if_neg c4]at H;have dV:decide (aH<(l0.length:Int))=false:=decide_eq_false c4;clear c4;obtain rfl:=sj H;go_wp2
    repeat(go_quiet (fail);try go_wp2)
    go_ret;exact⟨eS,by repeat(first|exact Za1.refl _|apply Za1.step)⟩
   rw[if_pos c4]at H;have dV:decide (aH<(l0.length:Int))=true:=decide_eq_true c4;clear c4;obtain⟨dS,H⟩:=ifT H;obtain⟨jh,H⟩:=ifT H;by_cases c7:(rd l0 aH)=(rd l1 aH)
   case neg=>
    rw[if_neg c7]at H;have mV:((rd l0 aH)==(rd l1 aH))=false:=beq_eq_false_iff_ne.mpr c7;have FH:((rd l0 aH) !=(rd l1 aH))=true:=bne_iff_ne.mpr c7;obtain rfl:=sj H;have Ga:0≤(aH:Int):=odt;have Gu:aH<(l0.length:Int):=odt;obtain⟨cUa,rfl,Yj⟩:=Kd.Zb0 HR0.out aH Ga Gu;replace Ga:=eq_true Ga;replace Gu:=eq_true Gu;have Gb:0≤(aH:Int):=odt;have Gv:aH<(l1.length:Int):=odt;obtain⟨cVa,rfl,Yk⟩:=Kd.Zb0 HR1.out aH Gb Gv;replace Gb:=eq_true Gb;replace Gv:=eq_true Gv;go_wp2
    repeat(go_quiet (fail);try go_wp2)
    go_ret;exact⟨eS,by repeat(first|exact Za1.refl _|apply Za1.step)⟩
   rw[if_pos c7]at H;have mV:((rd l0 aH)==(rd l1 aH))=true:=beq_iff_eq.mpr c7;have FH:((rd l0 aH) !=(rd l1 aH))=false:=bne_eq_false_iff_eq.mpr c7;clear c7;have H':=Za.mk H;clear H;have Ga:0≤(aH:Int):=odt;have Gu:aH<(l0.length:Int):=odt;obtain⟨cUa,rfl,Yj⟩:=Kd.Zb0 HR0.out aH Ga Gu;replace Ga:=eq_true Ga;replace Gu:=eq_true Gu;have Gb:0≤(aH:Int):=odt;have Gv:aH<(l1.length:Int):=odt;obtain⟨cVa,rfl,Yk⟩:=Kd.Zb0 HR1.out aH Gb Gv;replace Gb:=eq_true Gb;replace Gv:=eq_true Gv;go_wp2
   repeat(go_quiet (fail);try go_wp2)
   go_roundg k1
   case measure=>have:=HK1.out;omega
   case rel=>exact⟨(wrap64 (aH+1)),eS,H',⟨by have:=HK1.out;omega⟩,by repeat(first|exact Za1.refl _|apply Za1.step)⟩
end Go.Proofs.YtkgjaklnbgdmiaaGreat.P
/- slices.Clone of whole numbers. -/
namespace Go.Proofs.YtkgjaklnbgdmiaaGreat.P
open Go.RowKit Go.Proofs.YtkgjaklnbgdmiaaGreatW.PrintWords Go.Proofs.YtkgjaklnbgdmiaaGreatW.PrintLast Go.Proofs.YtkgjaklnbgdmiaaGreatW.PrintMore
def cloneI.f (l0:List Int):Option (List Int):=if l0.length<17592186044416 then some l0 else none
set_option maxRecDepth 100000 in
theorem cloneI.calls (A0 : Option Addr) (c0 : Nat) (l0 : List Int) (r : List Int) (w : World) (hr0 : Kd.C (Kd.int .i64) w A0 l0.length l0) (hc0 : l0.length ≤ c0) (h : cloneI.f l0 = some r) :
    Calls Tryz.prog 42 #[.slice A0 l0.length c0] w fun e w'=>∃v0_:Value,e= .returned (v0_)∧Kd.R (Kd.int .i64) 3 w' w.heap.size (fun _=>True) v0_ r∧Below w.heap.size w w':=by
  have hu:=Tryz.underlying3;have q22:∀(w:World) (a:Option Addr) (n c n' c':Nat),(binOp .eql 24 (.slice a n c) (.slice none n' c')).run Tryz.prog w= .ok (.bool a.isNone) w:=fun w a n c n' c'=>Lib.run_eql_slice_nil w _ _ a n c n' c' Tryz.underlying24
  unfold cloneI.f at h
  split at h
  case isFalse=>cases h
  case isTrue hl=>
    obtain rfl:=Option.some.inj h;have HL:=Za.mk hl;clear h hl;have HR:=Za.mk hr0;have hlen:l0.length≤9223372036854775807:=hr0.2.1
    cases A0 with
    |none=>
      have h0:l0= []:=by
        rcases Nat.eq_zero_or_pos l0.length with h|h
        · exact List.length_eq_zero_iff.1 h
        obtain⟨ad,e,_⟩:=hr0.2.2 h;cases e
      subst h0;clear hr0;go_enter Tryz.func42,Tryz.ntmps42;go_wp2;go_ret;exact⟨_,rfl,Kd.Zfk _ _ _ _ _,Below.refl _ _⟩
    |some ad=>
      clear hr0;have HB:=Za.mk (Below.refl w.heap.size w);go_enter Tryz.func42,Tryz.ntmps42
      go_wp2_with (first|((with_reducible refine Zap (N:=5) rfl ?_);refine Kd.Zdf (Kd.int .i64) _ 3 ?hg (N:=5) ?hd (xs:=([]:List Int)) (inner:= []) (ok:=fun _=>True) (okp:=fun _=>True) ?hr ?hp (fun _ hk=>hk) trivial (Below.refl w.heap.size w) (Nat.le_refl _) (by simp) ?_;(case hd=>rfl);(case hg=>rfl);(case hr=>first|(go_simp;done)|(go_simp;rfl));(case hp=>exact(Reps.none _ _));intro v1 w1 ho hb hg_ hnew_;have HO:=Za.mk ho;have HB:=Za.mk hb;clear ho hb hg_ hnew_)|((with_reducible refine Zbk (b:= .append) (xs:=#[.tmp 5,.tmp 6]) rfl ?_);at_builtin;go_loud (refine Kd.Zcx (Kd.int .i64) (Rr:=(Kd.int .i64).K w1) (w0:=w) w.heap.size rfl (.tmp 5) (.tmp 6) 24 3 (.int .i64 0) 8 rfl Tryz.underlying24 info3 rfl (by decide) (by omega) v1 ([]:List Int) l0 _ _ _ (fun _=>True) (fun _=>False) rfl rfl ?aO ?aR ?aK (fun _ h=>h.elim) ?aF ?aB ?aS ?aL ?_;(case aR=>exact Kd.Zaf HR.out HB.out);(case aK=>intro x cs h;have e_:=h;subst e_;rfl);(case aB=>exact HB.out);(case aF=>exact(fun _ _=>trivial));(case aO=>exact HO.out);(case aS=>exact HB.out.size);(case aL=>have:=HL.out;simp;omega);intro v2 w2 ho2 hb2 hg hat;have HO2:=Za.mk ho2;have HB2:=Za.mk hb2;clear ho2 hb2 hg hat)))
      go_ret;exact⟨_,rfl,by simpa using HO2.out,HB2.out⟩
end Go.Proofs.YtkgjaklnbgdmiaaGreat.P
/- slices.Clone of ranges. -/
namespace Go.Proofs.YtkgjaklnbgdmiaaGreat.P
open Go.RowKit Go.Proofs.YtkgjaklnbgdmiaaGreatW.PrintWords Go.Proofs.YtkgjaklnbgdmiaaGreatW.PrintLast Go.Proofs.YtkgjaklnbgdmiaaGreatW.PrintMore
def cloneR.f (l0:List S59):Option (List S59):=if l0.length<8796093022208 then some l0 else none
set_option maxRecDepth 100000 in
theorem cloneR.calls (A0 : Option Addr) (c0 : Nat) (l0 : List S59) (r : List S59) (w : World) (hr0 : Kd.C k59 w A0 l0.length l0) (hc0 : l0.length ≤ c0) (h : cloneR.f l0 = some r) :
    Calls Tryz.prog 31 #[.slice A0 l0.length c0] w fun e w'=>∃v0_:Value,e= .returned (v0_)∧Kd.R k59 59 w' w.heap.size (fun _=>True) v0_ r∧Below w.heap.size w w':=by
  have hu:=Tryz.underlying59;have q22:∀(w:World) (a:Option Addr) (n c n' c':Nat),(binOp .eql 35 (.slice a n c) (.slice none n' c')).run Tryz.prog w= .ok (.bool a.isNone) w:=fun w a n c n' c'=>Lib.run_eql_slice_nil w _ _ a n c n' c' Tryz.underlying35
  unfold cloneR.f at h
  split at h
  case isFalse=>cases h
  case isTrue hl=>
    obtain rfl:=Option.some.inj h;have HL:=Za.mk hl;clear h hl;have HR:=Za.mk hr0;have hlen:l0.length≤9223372036854775807:=hr0.2.1
    cases A0 with
    |none=>
      have h0:l0= []:=by
        rcases Nat.eq_zero_or_pos l0.length with h|h
        · exact List.length_eq_zero_iff.1 h
        obtain⟨ad,e,_⟩:=hr0.2.2 h;cases e
      subst h0;clear hr0;go_enter Tryz.func31,Tryz.ntmps31;go_wp2;go_ret;exact⟨_,rfl,Kd.Zfk _ _ _ _ _,Below.refl _ _⟩
    |some ad=>
      clear hr0;have HB:=Za.mk (Below.refl w.heap.size w);go_enter Tryz.func31,Tryz.ntmps31
      go_wp2_with (first|((with_reducible refine Zap (N:=5) rfl ?_);refine Kd.Zdf k59 _ 59 ?hg (N:=5) ?hd (xs:=([]:List S59)) (inner:= []) (ok:=fun _=>True) (okp:=fun _=>True) ?hr ?hp (fun _ hk=>hk) trivial (Below.refl w.heap.size w) (Nat.le_refl _) (by simp) ?_;(case hd=>rfl);(case hg=>rfl);(case hr=>first|(go_simp;done)|(go_simp;rfl));(case hp=>exact(Reps.none _ _));intro v1 w1 ho hb hg_ hnew_;have HO:=Za.mk ho;have HB:=Za.mk hb;clear ho hb hg_ hnew_)|((with_reducible refine Zbk (b:= .append) (xs:=#[.tmp 5,.tmp 6]) rfl ?_);at_builtin;go_loud (refine Kd.Zcx k59 (Rr:=k59.K w1) (w0:=w) w.heap.size rfl (.tmp 5) (.tmp 6) 35 59 (.agg #[(.int .i64 0),(.int .i64 0)]) 16 rfl Tryz.underlying35 Zgl rfl (by decide) (by omega) v1 ([]:List S59) l0 _ _ _ (fun _=>True) (fun _=>False) rfl rfl ?aO ?aR ?aK (fun _ h=>h.elim) ?aF ?aB ?aS ?aL ?_;(case aR=>exact Kd.Zaf HR.out HB.out);(case aK=>intro x cs h;have e_:=k59_open h;subst e_;exact Zgo _ _ _ x);(case aB=>exact HB.out);(case aF=>exact(fun _ _=>trivial));(case aO=>exact HO.out);(case aS=>exact HB.out.size);(case aL=>have:=HL.out;simp;omega);intro v2 w2 ho2 hb2 hg hat;have HO2:=Za.mk ho2;have HB2:=Za.mk hb2;clear ho2 hb2 hg hat)))
      go_ret;exact⟨_,rfl,by simpa using HO2.out,HB2.out⟩
end Go.Proofs.YtkgjaklnbgdmiaaGreat.P
namespace Go.Proofs.YtkgjaklnbgdmiaaGreat.P
open Go.RowKit Go.Proofs.YtkgjaklnbgdmiaaGreatW.PrintWords Go.Proofs.YtkgjaklnbgdmiaaGreatW.PrintLast Go.Proofs.YtkgjaklnbgdmiaaGreatW.PrintMore
attribute [local go_sem] Zci Zck Zc3 Zc4 Zcb Zcc Zcj Zcl
mutual
def Za7.l0 : Nat → List (S37) → Int → Int → List (S37) → List (S40) → Int → List Int → List Int → List (S37) → Int → List Int → List Int → Option ((List (S37)) × (List (S40)) × Int × List Int × List Int)
 | 0, _, _, _, _, _, _, _, _, _, _, _, _ => none
 |k+1,x25,x26,x27,Y3,Ky,Y4,Y5,Y6,qo,rV,rW,rX=>if x27<x26 then(if 0≤x27 then(if x27<(x25.length:Int)then((cloneR.f ((Zaq x25 x27).f1)).bind fun Ca=>(if qo.length<3518437208883 then(Za7.l0 k x25 x26 (wrap64 (x27+1)) Y3 Ky Y4 Y5 Y6 (qo++ [(⟨(Zaq x25 x27).f0,Ca⟩:S37)]) rV rW rX)else(none)))else(none))else(none))else(Za7.l1 k Ky (Ky.length:Int) 0 qo ([]:List (S40)) rV rW rX)
def Za7.l1 : Nat → List (S40) → Int → Int → List (S37) → List (S40) → Int → List Int → List Int → Option ((List (S37)) × (List (S40)) × Int × List Int × List Int)
 | 0, _, _, _, _, _, _, _, _ => none
 |k+1,x44,x45,x46,qo,wG,rV,rW,rX=>if x46<x45 then(if 0≤x46 then(if x46<(x44.length:Int)then((cloneI.f ((Zac x44 x46).f1)).bind fun gP=>((cloneI.f ((Zac x44 x46).f2)).bind fun gQ=>(Za7.l2 k ([]:List (List Int)) x44 x45 x46 ((Zac x44 x46).f5) (((Zac x44 x46).f5).length:Int) 0 qo wG rV rW rX ((Zac x44 x46).f0) gP gQ ((Zac x44 x46).f3) ((Zac x44 x46).f4) ((Zac x44 x46).f5) ((Zac x44 x46).f6))))else(none))else(none))else(some (qo,wG,rV,rW,rX))
def Za7.l2 : Nat → List (List Int) → List (S40) → Int → Int → List (List Int) → Int → Int → List (S37) → List (S40) → Int → List Int → List Int → Int → List Int → List Int → Int → Int → List (List Int) → Int → Option ((List (S37)) × (List (S40)) × Int × List Int × List Int)
 | 0, _, _, _, _, _, _, _, _, _, _, _, _, _, _, _, _, _, _, _ => none
 |k+1,x8,x44,x45,x46,x59,x60,x61,qo,wG,rV,rW,rX,Py,Pz,P6,P7,P8,Y9,P9=>if x61<x60 then(if 0≤x61 then(if x61<(x59.length:Int)then((cloneI.f (Zca x59 x61)).bind fun Cb=>(if x8.length<5864062014805 then(Za7.l2 k (x8++ [Cb]) x44 x45 x46 x59 x60 (wrap64 (x61+1)) qo wG rV rW rX Py Pz P6 P7 P8 Y9 P9)else(none)))else(none))else(none))else(if wG.length<1353245080339 then(Za7.l1 k x44 x45 (wrap64 (x46+1)) qo (wG++ [(⟨Py,Pz,P6,P7,P8,x8,P9⟩:S40)]) rV rW rX)else(none))
end
def Za7.f (k:Nat) (ae:List (S37)) (aa:List (S40)) (aj:Int) (ak:List Int) (ai:List Int):Option ((List (S37)) × (List (S40)) × Int × List Int × List Int):=(cloneI.f ak).bind fun dC=>((cloneI.f ai).bind fun dD=>(Za7.l0 k ae (ae.length:Int) 0 ae aa aj ak ai ([]:List (S37)) aj dC dD))
def Za7.T1:Bool × List (List Nat × List Nat):=(true,[([],[]),([0],[0]),([1],[1]),([],[]),([3],[3]),([4],[4]),([5],[5]),([],[]),([7],[7]),([8],[8]),([9,6],[9]),([2,6,10],[2,6,10]),([11],[11]),([],[]),([13,12,10,0,1,2,3,4,5,6,7,8,9,10,11,12,13],[12,13])])
def Za7.B1:List Nat:= [0,1,3,0,8,24,56,0,128,384,1016,2047,4095,0,16383]
theorem Za7.tab1:rtab .any (opsOf Tryz.f27 1)=Za7.T1:=by kernel_rfl
theorem Za7.bits1:waitsOk Za7.T1.2 Za7.B1=true:=by kernel_rfl
def Za7.T5:Bool × List (List Nat × List Nat):=(true,[([],[]),([0],[0]),([],[]),([2],[2]),([],[]),([4],[4]),([5],[5]),([3,6],[3,6]),([7],[7]),([1,8,6],[1,8]),([0,1,2,3,4,5,6,7,8,9],[]),([10,9,9,0,1,2,3,4,5,6,7,8,9],[9,10])])
def Za7.B5:List Nat:= [0,1,0,4,0,16,48,124,252,511,1023,2047]
theorem Za7.tab5:rtab .any (opsOf Tryz.f27 5)=Za7.T5:=by kernel_rfl
theorem Za7.bits5:waitsOk Za7.T5.2 Za7.B5=true:=by kernel_rfl
def Za7.T10:Bool × List (List Nat × List Nat):=(true,[([],[]),([0],[0]),([1],[1]),([],[]),([3],[3]),([4,2],[4]),([0,1,2,3,4],[]),([6,2,5,0,1,2,3,4],[2,6]),([0,1,2,3,4,5,6,7],[]),([8,5,7,0,1,2,3,4,5,6,7],[5,8])])
def Za7.B10:List Nat:= [0,1,3,0,8,31,31,127,255,511]
theorem Za7.tab10:rtab .any (opsOf Tryz.f27 10)=Za7.T10:=by kernel_rfl
theorem Za7.bits10:waitsOk Za7.T10.2 Za7.B10=true:=by kernel_rfl
set_option maxRecDepth 100000 in
theorem Za7.calls (k : Nat) (bF : Option Addr) (bv : Nat) (ae : List (S37)) (aI : Option Addr) (aG : Nat) (aa : List (S40)) (aj : Int) (bi : Option Addr) (bn : Nat) (ak : List Int) (bf : Option Addr) (bg : Nat) (ai : List Int) (r1 : List (S37)) (r2 : List (S40)) (r3 : Int) (r4 : List Int) (r5 : List Int) (w : World) (lC : Kd.C k37 w bF ae.length ae) (l8 : ae.length ≤ bv) (eO : Kd.C k40 w aI aa.length aa) (eH : aa.length ≤ aG) (kF : Kd.C (Kd.int .i64) w bi ak.length ak) (ky : ak.length ≤ bn) (kH : Kd.C (Kd.int .i64) w bf ai.length ai) (kz : ai.length ≤ bg) (h : Za7.f k ae aa aj ak ai = some (r1, r2, r3, r4, r5)) :
  Calls Tryz.prog 27 #[.agg #[.slice bF ae.length bv,.slice aI aa.length aG,.int .i64 aj,.slice bi ak.length bn,.slice bf ai.length bg]] w fun e w'=>∃v0_ v1_ v3_ v4_:Value,e= .returned (.agg #[v0_,v1_,.int .i64 r3,v3_,v4_])∧Kd.S k37 37 w' w.heap.size (fun _=>True) v0_ r1∧Kd.R k40 40 w' w.heap.size (fun k_=>some k_≠(v3_:Value).ownBlock∧some k_≠(v4_:Value).ownBlock) v1_ r2∧Kd.R (Kd.int .i64) 3 w' w.heap.size (fun k_=>some k_≠(v4_:Value).ownBlock) v3_ r4∧Kd.R (Kd.int .i64) 3 w' w.heap.size (fun k_=>some k_≠(v3_:Value).ownBlock) v4_ r5∧Below w.heap.size w w':=by
 have hu28:=Tryz.underlying28;have hu26:=Tryz.underlying26;have hu37:=Tryz.underlying37;have hu40:=Tryz.underlying40;have gV:=Za.mk lC;have uA:=Za.mk l8;clear lC l8;have fE:=Za.mk eO;have gU:=Za.mk eH;clear eO eH;have kr:=Za.mk kF;have lI:=Za.mk ky;clear kF ky;have lh:=Za.mk kH;have lJ:=Za.mk kz;clear kH kz;have HB:=Za.mk (Below.refl w.heap.size w);have H:((cloneI.f ak).bind fun dC=>((cloneI.f ai).bind fun dD=>(Za7.l0 k ae (ae.length:Int) 0 ae aa aj ak ai ([]:List (S37)) aj dC dD)))=some (r1,r2,r3,r4,r5):=h;clear h;obtain⟨dC,A2,H⟩:=bnd H;replace H:((cloneI.f ai).bind fun dD=>(Za7.l0 k ae (ae.length:Int) 0 ae aa aj ak ai ([]:List (S37)) aj dC dD))=some (r1,r2,r3,r4,r5):=H;obtain⟨dD,A3,H⟩:=bnd H;replace H:(Za7.l0 k ae (ae.length:Int) 0 ae aa aj ak ai ([]:List (S37)) aj dC dD)=some (r1,r2,r3,r4,r5):=H;have H':=Za.mk H;clear H;go_enter Tryz.func27,Tryz.ntmps27;try go_wp2_with (first|((with_reducible refine Zap (N:=1) rfl ?_);refine bx 1 #[.slice bF ae.length bv,.slice aI aa.length aG,.int .i64 aj,.slice bi ak.length bn,.slice bf ai.length bg] 28 ?_;intro fO hg w4 hbox hb;have aV:=Za.mk (hbox);have kRa:=Za.mk ((gE hg HB.out:w.heap.size≤fO));replace HB:=Za.mk (bS HB.out hb);clear hb hbox hg)|((with_reducible refine Zap (N:=2) rfl ?_);refine bx 2 #[.slice none 0 0,.slice none 0 0,.int .i64 0,.slice none 0 0,.slice none 0 0] 28 ?_;intro fu hg w5 hbox hb;have bT:=Za.mk (hbox);have kSa:=Za.mk ((gE hg HB.out:w.heap.size≤fu));replace HB:=Za.mk (bS HB.out hb);have D8:=Za.mk ((by rw[hg];exact Nat.ne_of_lt (Zbj (kM aV.out)):fO≠fu));have DC:=Za.mk ((by rw[hg];exact Nat.ne_of_gt (Zbj (kM aV.out)):fu≠fO));replace aV:=Za.mk (kB aV.out hb);clear hb hbox hg))
 replace aV:=Za.mk (Zad aV.out);replace bT:=Za.mk (Zad bT.out);replace HB:=Za.mk (Zb6 HB.out);refine Zef (n:=15) (S:=fun w'=>w'.cell? ⟨fO,0,none⟩=some (.slice bF ae.length bv)∧w'.cell? ⟨fO,1,none⟩=some (.slice aI aa.length aG)∧w'.cell? ⟨fO,2,none⟩=some (.int .i64 aj)∧w'.cell? ⟨fO,3,none⟩=some (.slice bi ak.length bn)∧w'.cell? ⟨fO,4,none⟩=some (.slice bf ai.length bg)) (ds:= []) #[false,false,false,false,false,false,false,false,false,false,false,false,false,false,false] (by kernel_rfl) rfl rfl ⟨bc aV.out 0,bc aV.out 1,bc aV.out 2,bc aV.out 3,bc aV.out 4⟩ (fun hHeld=> ?_);refine Zc6 Za7.tab1 Za7.bits1 (fun HT_ HW_=> ?_)
 generalize w5.drew=w6 at aV bT HB hHeld ⊢
 refine pu HT_ 0 11 ?_;refine pu HT_ 1 12 ?_;refine pu HT_ 3 14 ?_;refine pu HT_ 4 15 ?_;refine pu HT_ 7 18 ?_;refine pu HT_ 8 19 ?_;refine tk HT_ HW_ hHeld 2 13 ?_;refine tk HT_ HW_ hHeld 5 16 ?_;refine tk HT_ HW_ hHeld 9 20 ?_;refine Zfj (σ:=Value × Value × Nat) 1 #[true,true,true,true,true,true,true,true,true,true,true,true,true,true,false] (fun s_=> [(17,s_.1),(21,s_.2.1),(3,.pointer (some ⟨s_.2.2,0,none⟩)),(22,.agg #[.int .i64 aj,s_.1,s_.2.1]),(23,.agg #[.slice none 0 0,.slice none 0 0,.int .i64 aj,s_.1,s_.2.1])]) (fun s_ w'=>(w'.cell? ⟨fO,0,none⟩=some (.slice bF ae.length bv)∧w'.cell? ⟨fO,1,none⟩=some (.slice aI aa.length aG)∧w'.cell? ⟨fO,2,none⟩=some (.int .i64 aj)∧w'.cell? ⟨fO,3,none⟩=some (.slice bi ak.length bn)∧w'.cell? ⟨fO,4,none⟩=some (.slice bf ai.length bg))∧(Kd.R (Kd.int .i64) 3 w' w.heap.size (fun k_=>some k_≠(s_.2.1:Value).ownBlock) s_.1 dC)∧(Kd.R (Kd.int .i64) 3 w' w.heap.size (fun k_=>some k_≠(s_.1:Value).ownBlock) s_.2.1 dD)∧(w'.heap[fO]? =some (.cells #[.slice bF ae.length bv,.slice aI aa.length aG,.int .i64 aj,.slice bi ak.length bn,.slice bf ai.length bg] 28 (0,0)))∧(w'.heap[fu]? =some (.cells #[.slice none 0 0,.slice none 0 0,.int .i64 0,.slice none 0 0,.slice none 0 0] 28 (0,0)))∧(w'.heap[s_.2.2]? =some (.cells #[.slice none 0 0,.slice none 0 0,.int .i64 0,.slice none 0 0,.slice none 0 0] 28 (0,0)))∧(w.heap.size≤s_.2.2)∧(w.heap.size≤s_.2.2)∧(fO≠s_.2.2)∧(s_.2.2≠fO)∧(fu≠s_.2.2)∧(s_.2.2≠fu)∧(Below w.heap.size w w')) ?_ ?_;rotate_left
 ·intro hCont
  refine two_ (i:=6) (j:=13) (Ni:=some 17) (Nj:=some 3) #[true,true,true,true,true,true,true,true,true,true,false,false,false,false,false] #[true,true,true,true,true,true,false,true,true,true,false,false,false,true,false] rfl rfl rfl rfl (Zfs HT_.out (by kernel_rfl)) (by decide) (by decide) (fun K hK=> ?_) (fun K hK=> ?_)
  ·skip
   refine gs Tryz.func42 #[.slice bi ak.length bn] ?_
   with_reducible refine(cloneI.calls _ _ ak dC _ (cM (Kd.Zaf kr.out HB.out)) lI.out A2.out).mono ?_
   rintro e w7 ⟨QY,rfl,ho0,hb⟩;refine⟨_,rfl,?_⟩;have ko:=Za.mk (Kd.Zbp ho0 (Zaj (bM HB.out)));replace aV:=Za.mk (kB aV.out hb);replace bT:=Za.mk (kB bT.out hb);replace HB:=Za.mk (bS HB.out hb)
   (try clear hb)
   (try clear hb2)
   (try clear hk)
   (try clear hi)
   (try clear ho0)
   refine hK.out _ _ ⟨bc aV.out 0,bc aV.out 1,bc aV.out 2,bc aV.out 3,bc aV.out 4⟩ (fun hHeld=> ?_);clear hK K;refine nmp 17 ?_;refine two_ (i:=10) (j:=13) (Ni:=some 21) (Nj:=some 3) #[true,true,true,true,true,true,true,true,true,true,true,false,false,false,false] #[true,true,true,true,true,true,true,true,true,true,false,false,false,true,false] rfl rfl rfl rfl (Zfs HT_.out (by kernel_rfl)) (by decide) (by decide) (fun K hK=> ?_) (fun K hK=> ?_)
   ·skip
    refine gs Tryz.func42 #[.slice bf ai.length bg] ?_
    with_reducible refine(cloneI.calls _ _ ai dD _ (cM (Kd.Zaf lh.out HB.out)) lJ.out A3.out).mono ?_
    rintro e w8 ⟨NA,rfl,ho0,hb⟩;refine⟨_,rfl,?_⟩;have pI:=Za.mk (Kd.Zbp (Kd.Zcs ho0 (Kd.R_lt (rM ko.out))) (Zaj (bM HB.out)));replace ko:=Za.mk (Kd.Zce (rM ko.out) (Kd.Zb4 ho0) hb);replace aV:=Za.mk (kB aV.out hb);replace bT:=Za.mk (kB bT.out hb);replace HB:=Za.mk (bS HB.out hb)
    (try clear hb)
    (try clear hb2)
    (try clear hk)
    (try clear hi)
    (try clear ho0)
    obtain⟨Ao9,co9,eo9⟩:=Kd.Za9 pI.out
    (first|subst eo9|(injection eo9 with f1_ f2_ f3_;have f4_:=f1_.symm;have f5_:=f3_.symm;clear f1_ f2_ f3_;subst f4_;subst f5_))
    obtain⟨Mx,M7,DW⟩:=Kd.Za9 ko.out
    (first|subst DW|(injection DW with f1_ f2_ f3_;have f4_:=f1_.symm;have f5_:=f3_.symm;clear f1_ f2_ f3_;subst f4_;subst f5_))
    refine hK.out _ _ ⟨bc aV.out 0,bc aV.out 1,bc aV.out 2,bc aV.out 3,bc aV.out 4⟩ (fun hHeld=> ?_);clear hK K;refine nmp 21 ?_;refine pu HT_ 11 22 ?_;refine pu HT_ 12 23 ?_;refine on1 HT_ 13 3 (fun K hK=> ?_);refine Zec ?hg (N:=3) ?hd (cs:=#[.slice none 0 0,.slice none 0 0,.int .i64 0,.slice none 0 0,.slice none 0 0]) (t:=28) ?hr ?_;(case hd=>rfl);(case hg=>rfl);(case hr=>first|(go_simp;done)|(go_simp;rfl));intro bJ hg w11 hbox hb;replace ko:=Za.mk (Kd.Zbt (rM ko.out) hb);replace pI:=Za.mk (Kd.Zbt (rM pI.out) hb);have bu:=Za.mk (hbox);have GW489:=Za.mk ((gE hg HB.out:w.heap.size≤bJ));have Eo:=Za.mk ((gE hg HB.out:w.heap.size≤bJ));replace HB:=Za.mk (bS HB.out hb);have bQ:=Za.mk ((by rw[hg];exact Nat.ne_of_lt (Zbj (kM aV.out)):fO≠bJ));have iy:=Za.mk ((by rw[hg];exact Nat.ne_of_gt (Zbj (kM aV.out)):bJ≠fO));replace aV:=Za.mk (kB aV.out hb);have fT:=Za.mk ((by rw[hg];exact Nat.ne_of_lt (Zbj (kM bT.out)):fu≠bJ));have jm:=Za.mk ((by rw[hg];exact Nat.ne_of_gt (Zbj (kM bT.out)):bJ≠fu));replace bT:=Za.mk (kB bT.out hb);clear hb hbox hg;refine hK.out _ _ ⟨bc aV.out 0,bc aV.out 1,bc aV.out 2,bc aV.out 3,bc aV.out 4⟩ (fun hHeld=> ?_);clear hK K;refine nmp 3 ?_;exact Zdx (by simp only[putAll,Act.put,List.setIfInBounds_toArray,List.set_cons_zero,List.set_cons_succ]) (hCont (.slice Mx dC.length M7,.slice Ao9 dD.length co9,bJ) _ ⟨hHeld,(rM (Kd.Zaw ko.out (fun _ hk=>hk.2))),(rM (Kd.Zaw pI.out (fun _ hk=>hk.2))),(kM aV.out),(kM bT.out),(kM bu.out),GW489.out,Eo.out,bQ.out,iy.out,fT.out,jm.out,(bM HB.out)⟩)
   skip
   refine Zec ?hg (N:=3) ?hd (cs:=#[.slice none 0 0,.slice none 0 0,.int .i64 0,.slice none 0 0,.slice none 0 0]) (t:=28) ?hr ?_;(case hd=>rfl);(case hg=>rfl);(case hr=>first|(go_simp;done)|(go_simp;rfl));intro bJ hg w8 hbox hb;replace ko:=Za.mk (Kd.Zbt (rM ko.out) hb);have bu:=Za.mk (hbox);have GW489:=Za.mk ((gE hg HB.out:w.heap.size≤bJ));have Eo:=Za.mk ((gE hg HB.out:w.heap.size≤bJ));replace HB:=Za.mk (bS HB.out hb);have bQ:=Za.mk ((by rw[hg];exact Nat.ne_of_lt (Zbj (kM aV.out)):fO≠bJ));have iy:=Za.mk ((by rw[hg];exact Nat.ne_of_gt (Zbj (kM aV.out)):bJ≠fO));replace aV:=Za.mk (kB aV.out hb);have fT:=Za.mk ((by rw[hg];exact Nat.ne_of_lt (Zbj (kM bT.out)):fu≠bJ));have jm:=Za.mk ((by rw[hg];exact Nat.ne_of_gt (Zbj (kM bT.out)):bJ≠fu));replace bT:=Za.mk (kB bT.out hb);clear hb hbox hg;refine hK.out _ _ ⟨bc aV.out 0,bc aV.out 1,bc aV.out 2,bc aV.out 3,bc aV.out 4⟩ (fun hHeld=> ?_);clear hK K;refine nmp 3 ?_;refine on1 HT_ 10 21 (fun K hK=> ?_);refine gs Tryz.func42 #[.slice bf ai.length bg] ?_
   with_reducible refine(cloneI.calls _ _ ai dD _ (cM (Kd.Zaf lh.out HB.out)) lJ.out A3.out).mono ?_
   rintro e w9 ⟨NA,rfl,ho0,hb⟩;refine⟨_,rfl,?_⟩;have pI:=Za.mk (Kd.Zbp (Kd.Zcs ho0 (Kd.R_lt (rM ko.out))) (Zaj (bM HB.out)));replace ko:=Za.mk (Kd.Zce (rM ko.out) (Kd.Zb4 ho0) hb);replace aV:=Za.mk (kB aV.out hb);replace bT:=Za.mk (kB bT.out hb);replace bu:=Za.mk (kB bu.out hb);replace HB:=Za.mk (bS HB.out hb)
   (try clear hb)
   (try clear hb2)
   (try clear hk)
   (try clear hi)
   (try clear ho0)
   obtain⟨Mx,M7,DW⟩:=Kd.Za9 pI.out
   (first|subst DW|(injection DW with f1_ f2_ f3_;have f4_:=f1_.symm;have f5_:=f3_.symm;clear f1_ f2_ f3_;subst f4_;subst f5_))
   obtain⟨M0,M8,FI⟩:=Kd.Za9 ko.out
   (first|subst FI|(injection FI with f1_ f2_ f3_;have f4_:=f1_.symm;have f5_:=f3_.symm;clear f1_ f2_ f3_;subst f4_;subst f5_))
   refine hK.out _ _ ⟨bc aV.out 0,bc aV.out 1,bc aV.out 2,bc aV.out 3,bc aV.out 4⟩ (fun hHeld=> ?_);clear hK K;refine nmp 21 ?_;refine pu HT_ 11 22 ?_;refine pu HT_ 12 23 ?_;exact Zdx (by simp only[putAll,Act.put,List.setIfInBounds_toArray,List.set_cons_zero,List.set_cons_succ]) (hCont (.slice M0 dC.length M8,.slice Mx dD.length M7,bJ) _ ⟨hHeld,(rM (Kd.Zaw ko.out (fun _ hk=>hk.2))),(rM (Kd.Zaw pI.out (fun _ hk=>hk.2))),(kM aV.out),(kM bT.out),(kM bu.out),GW489.out,Eo.out,bQ.out,iy.out,fT.out,jm.out,(bM HB.out)⟩)
  skip
  refine Zec ?hg (N:=3) ?hd (cs:=#[.slice none 0 0,.slice none 0 0,.int .i64 0,.slice none 0 0,.slice none 0 0]) (t:=28) ?hr ?_;(case hd=>rfl);(case hg=>rfl);(case hr=>first|(go_simp;done)|(go_simp;rfl));intro bJ hg w7 hbox hb;have bu:=Za.mk (hbox);have GW489:=Za.mk ((gE hg HB.out:w.heap.size≤bJ));have Eo:=Za.mk ((gE hg HB.out:w.heap.size≤bJ));replace HB:=Za.mk (bS HB.out hb);have bQ:=Za.mk ((by rw[hg];exact Nat.ne_of_lt (Zbj (kM aV.out)):fO≠bJ));have iy:=Za.mk ((by rw[hg];exact Nat.ne_of_gt (Zbj (kM aV.out)):bJ≠fO));replace aV:=Za.mk (kB aV.out hb);have fT:=Za.mk ((by rw[hg];exact Nat.ne_of_lt (Zbj (kM bT.out)):fu≠bJ));have jm:=Za.mk ((by rw[hg];exact Nat.ne_of_gt (Zbj (kM bT.out)):bJ≠fu));replace bT:=Za.mk (kB bT.out hb);clear hb hbox hg;refine hK.out _ _ ⟨bc aV.out 0,bc aV.out 1,bc aV.out 2,bc aV.out 3,bc aV.out 4⟩ (fun hHeld=> ?_);clear hK K;refine nmp 3 ?_;refine on1 HT_ 6 17 (fun K hK=> ?_);refine gs Tryz.func42 #[.slice bi ak.length bn] ?_
  with_reducible refine(cloneI.calls _ _ ak dC _ (cM (Kd.Zaf kr.out HB.out)) lI.out A2.out).mono ?_
  rintro e w8 ⟨QY,rfl,ho0,hb⟩;refine⟨_,rfl,?_⟩;have ko:=Za.mk (Kd.Zbp ho0 (Zaj (bM HB.out)));replace aV:=Za.mk (kB aV.out hb);replace bT:=Za.mk (kB bT.out hb);replace bu:=Za.mk (kB bu.out hb);replace HB:=Za.mk (bS HB.out hb)
  (try clear hb)
  (try clear hb2)
  (try clear hk)
  (try clear hi)
  (try clear ho0)
  refine hK.out _ _ ⟨bc aV.out 0,bc aV.out 1,bc aV.out 2,bc aV.out 3,bc aV.out 4⟩ (fun hHeld=> ?_);clear hK K;refine nmp 17 ?_;refine on1 HT_ 10 21 (fun K hK=> ?_);refine gs Tryz.func42 #[.slice bf ai.length bg] ?_
  with_reducible refine(cloneI.calls _ _ ai dD _ (cM (Kd.Zaf lh.out HB.out)) lJ.out A3.out).mono ?_
  rintro e w9 ⟨NA,rfl,ho0,hb⟩;refine⟨_,rfl,?_⟩;have pI:=Za.mk (Kd.Zbp (Kd.Zcs ho0 (Kd.R_lt (rM ko.out))) (Zaj (bM HB.out)));replace ko:=Za.mk (Kd.Zce (rM ko.out) (Kd.Zb4 ho0) hb);replace aV:=Za.mk (kB aV.out hb);replace bT:=Za.mk (kB bT.out hb);replace bu:=Za.mk (kB bu.out hb);replace HB:=Za.mk (bS HB.out hb)
  (try clear hb)
  (try clear hb2)
  (try clear hk)
  (try clear hi)
  (try clear ho0)
  obtain⟨Mx,M7,DW⟩:=Kd.Za9 pI.out
  (first|subst DW|(injection DW with f1_ f2_ f3_;have f4_:=f1_.symm;have f5_:=f3_.symm;clear f1_ f2_ f3_;subst f4_;subst f5_))
  obtain⟨M0,M8,FI⟩:=Kd.Za9 ko.out
  (first|subst FI|(injection FI with f1_ f2_ f3_;have f4_:=f1_.symm;have f5_:=f3_.symm;clear f1_ f2_ f3_;subst f4_;subst f5_))
  refine hK.out _ _ ⟨bc aV.out 0,bc aV.out 1,bc aV.out 2,bc aV.out 3,bc aV.out 4⟩ (fun hHeld=> ?_);clear hK K;refine nmp 21 ?_;refine pu HT_ 11 22 ?_;refine pu HT_ 12 23 ?_;exact Zdx (by simp only[putAll,Act.put,List.setIfInBounds_toArray,List.set_cons_zero,List.set_cons_succ]) (hCont (.slice M0 dC.length M8,.slice Mx dD.length M7,bJ) _ ⟨hHeld,(rM (Kd.Zaw ko.out (fun _ hk=>hk.2))),(rM (Kd.Zaw pI.out (fun _ hk=>hk.2))),(kM aV.out),(kM bT.out),(kM bu.out),GW489.out,Eo.out,bQ.out,iy.out,fT.out,jm.out,(bM HB.out)⟩)
 rintro⟨QY,NA,bJ⟩ w12 ⟨hS_,h0_,h1_,h2_,h3_,h4_,h5_,h6_,h7_,h8_,h9_,h10_,h11_⟩;have ko:Za (Kd.R (Kd.int .i64) 3 w12 w.heap.size (fun k_=>some k_≠(NA:Value).ownBlock) QY dC):=⟨h0_⟩;have pI:Za (Kd.R (Kd.int .i64) 3 w12 w.heap.size (fun k_=>some k_≠(QY:Value).ownBlock) NA dD):=⟨h1_⟩;replace aV:Za (w12.heap[fO]? =some (.cells #[.slice bF ae.length bv,.slice aI aa.length aG,.int .i64 aj,.slice bi ak.length bn,.slice bf ai.length bg] 28 (0,0))):=⟨h2_⟩;replace bT:Za (w12.heap[fu]? =some (.cells #[.slice none 0 0,.slice none 0 0,.int .i64 0,.slice none 0 0,.slice none 0 0] 28 (0,0))):=⟨h3_⟩;have bu:Za (w12.heap[bJ]? =some (.cells #[.slice none 0 0,.slice none 0 0,.int .i64 0,.slice none 0 0,.slice none 0 0] 28 (0,0))):=⟨h4_⟩;have GW489:Za (w.heap.size≤bJ):=⟨h5_⟩;have Eo:Za (w.heap.size≤bJ):=⟨h6_⟩;have bQ:Za (fO≠bJ):=⟨h7_⟩;have iy:Za (bJ≠fO):=⟨h8_⟩;have fT:Za (fu≠bJ):=⟨h9_⟩;have jm:Za (bJ≠fu):=⟨h10_⟩;replace HB:Za (Below w.heap.size w w12):=⟨h11_⟩;clear h0_ h1_ h2_ h3_ h4_ h5_ h6_ h7_ h8_ h9_ h10_ h11_;have hHeld:w12.cell? ⟨fO,0,none⟩=some (.slice bF ae.length bv)∧w12.cell? ⟨fO,1,none⟩=some (.slice aI aa.length aG)∧w12.cell? ⟨fO,2,none⟩=some (.int .i64 aj)∧w12.cell? ⟨fO,3,none⟩=some (.slice bi ak.length bn)∧w12.cell? ⟨fO,4,none⟩=some (.slice bf ai.length bg):=hS_;obtain⟨dA,dz,DX⟩:=Kd.Za9 pI.out
 (first|subst DX|(injection DX with f1_ f2_ f3_;have f4_:=f1_.symm;have f5_:=f3_.symm;clear f1_ f2_ f3_;subst f4_;subst f5_))
 obtain⟨eu,eB,wQ⟩:=Kd.Za9 ko.out
 (first|subst wQ|(injection wQ with f1_ f2_ f3_;have f4_:=f1_.symm;have f5_:=f3_.symm;clear f1_ f2_ f3_;subst f4_;subst f5_))
 refine Zdx (a':=?_) ?_ ?_;rotate_left
 ·simp only [putAll, Act.put, List.setIfInBounds_toArray, List.set_cons_zero, List.set_cons_succ]
  rfl
 refine one_ (i:=14) (N:=none) #[true,true,true,true,true,true,true,true,true,true,true,true,true,true,true] rfl rfl (Ze8 HT_.out (by kernel_rfl)) (by decide) (fun K hK=> ?_);have hs15:w12.cell? ⟨bJ,0,none⟩=some (.slice none 0 0):=(Zah bu.out 0).trans rfl;have hfs15:=Zam bu.out 0;have hns15_0:=bQ.out;have hns15_1:=fT.out;have hms15_0:=iy.out;have hms15_1:=jm.out;have hs16:w12.cell? ⟨bJ,1,none⟩=some (.slice none 0 0):=(Zah bu.out 1).trans rfl;have hfs16:=Zam bu.out 1;have hns16_0:=bQ.out;have hns16_1:=fT.out;have hms16_0:=iy.out;have hms16_1:=jm.out;have hs17:w12.cell? ⟨bJ,2,none⟩=some (.int .i64 0):=(Zah bu.out 2).trans rfl;have hfs17:=Zam bu.out 2;have hns17_0:=bQ.out;have hns17_1:=fT.out;have hms17_0:=iy.out;have hms17_1:=jm.out;have hs18:w12.cell? ⟨bJ,3,none⟩=some (.slice none 0 0):=(Zah bu.out 3).trans rfl;have hfs18:=Zam bu.out 3;have hns18_0:=bQ.out;have hns18_1:=fT.out;have hms18_0:=iy.out;have hms18_1:=jm.out;have hs19:w12.cell? ⟨bJ,4,none⟩=some (.slice none 0 0):=(Zah bu.out 4).trans rfl;have hfs19:=Zam bu.out 4;have hns19_0:=bQ.out;have hns19_1:=fT.out;have hms19_0:=iy.out;have hms19_1:=jm.out;refine skip_ (w1:=?_) (by rfl) rfl ?_ ?_;rotate_left
 ·go_simp
  rfl
 refine hK.out _ _ ⟨((cell_far (p:=⟨bJ,_,none⟩) bQ.out _).trans (((cell_far (p:=⟨bJ,_,none⟩) bQ.out _).trans (((cell_far (p:=⟨bJ,_,none⟩) bQ.out _).trans (((cell_far (p:=⟨bJ,_,none⟩) bQ.out _).trans (((cell_far (p:=⟨bJ,_,none⟩) bQ.out _).trans (hHeld.1)))))))))),((cell_far (p:=⟨bJ,_,none⟩) bQ.out _).trans (((cell_far (p:=⟨bJ,_,none⟩) bQ.out _).trans (((cell_far (p:=⟨bJ,_,none⟩) bQ.out _).trans (((cell_far (p:=⟨bJ,_,none⟩) bQ.out _).trans (((cell_far (p:=⟨bJ,_,none⟩) bQ.out _).trans (hHeld.2.1)))))))))),((cell_far (p:=⟨bJ,_,none⟩) bQ.out _).trans (((cell_far (p:=⟨bJ,_,none⟩) bQ.out _).trans (((cell_far (p:=⟨bJ,_,none⟩) bQ.out _).trans (((cell_far (p:=⟨bJ,_,none⟩) bQ.out _).trans (((cell_far (p:=⟨bJ,_,none⟩) bQ.out _).trans (hHeld.2.2.1)))))))))),((cell_far (p:=⟨bJ,_,none⟩) bQ.out _).trans (((cell_far (p:=⟨bJ,_,none⟩) bQ.out _).trans (((cell_far (p:=⟨bJ,_,none⟩) bQ.out _).trans (((cell_far (p:=⟨bJ,_,none⟩) bQ.out _).trans (((cell_far (p:=⟨bJ,_,none⟩) bQ.out _).trans (hHeld.2.2.2.1)))))))))),((cell_far (p:=⟨bJ,_,none⟩) bQ.out _).trans (((cell_far (p:=⟨bJ,_,none⟩) bQ.out _).trans (((cell_far (p:=⟨bJ,_,none⟩) bQ.out _).trans (((cell_far (p:=⟨bJ,_,none⟩) bQ.out _).trans (((cell_far (p:=⟨bJ,_,none⟩) bQ.out _).trans (hHeld.2.2.2.2))))))))))⟩ (fun hHeld=> ?_);clear hK K;refine Zfb (Zdw HT_.out (by kernel_rfl)) ?_;have lEa:=D8.out;have moa:=DC.out;have Wp:=bQ.out;have Ws:=iy.out;obtain⟨yz,yA,yB,yC,yD,xW,xX,xY,yc,yf⟩:=cz5 aV.out;try go_wp2
 go_loopg [27] k (fun kq v27 w'=>∃(ek:Int) (dM:List (S37)) (jc:Value),v27= .int .i64 ek∧Za (Za7.l0 kq ae (ae.length:Int) ek ae aa aj ak ai dM aj dC dD=some (r1,r2,r3,r4,r5))∧Za (kq≤k)∧Za (Kd.S k37 37 w' w.heap.size (fun _=>True) jc dM)∧Za (Kd.R (Kd.int .i64) 3 w' w.heap.size (fun k_=>some k_≠((.slice dA dD.length dz):Value).ownBlock) (.slice eu dC.length eB) dC)∧Za (Kd.R (Kd.int .i64) 3 w' w.heap.size (fun k_=>some k_≠((.slice eu dC.length eB):Value).ownBlock) (.slice dA dD.length dz) dD)∧Za (w'.heap[fO]? =some (.cells #[(.slice bF ae.length bv),(.slice aI aa.length aG),.int .i64 aj,(.slice bi ak.length bn),(.slice bf ai.length bg)] 28 (0,0)))∧Za (w'.heap[fu]? =some (.cells #[(.slice none 0 0),(.slice none 0 0),.int .i64 0,(.slice none 0 0),(.slice none 0 0)] 28 (0,0)))∧Za (w'.heap[bJ]? =some (.cells #[jc,(.slice none 0 0),.int .i64 aj,(.slice eu dC.length eB),(.slice dA dD.length dz)] 28 (0,0)))∧Za (Below w.heap.size w w'))
 case atStart=>exact⟨(0),(([]:List (S37))),(.slice none 0 0),eS,H',⟨Nat.le_refl _⟩,⟨by first|exact Kd.Zge _ _ _ _ _|exact Kd.N_nil _ _ _ _ _|exact Kd.Zey _ _ _ _ _|exact Kd.Q_nil _ _ _ _ _|exact Kd.Zfk _ _ _ _ _⟩,⟨rM (Kd.Zaw (Kd.Za2 (p:=⟨bJ,4,none⟩) (Kd.Za2 (p:=⟨bJ,3,none⟩) (Kd.Za2 (p:=⟨bJ,2,none⟩) (Kd.Za2 (p:=⟨bJ,1,none⟩) (Kd.Za2 (p:=⟨bJ,0,none⟩) (Kd.Zbh ko.out bu.out (by decide)) (fun _ hk=>hk.2) (.slice none 0 0)) (fun _ hk=>hk.2) (.slice none 0 0)) (fun _ hk=>hk.2) (.int .i64 aj)) (fun _ hk=>hk.2) (.slice eu dC.length eB)) (fun _ hk=>hk.2) (.slice dA dD.length dz)) (fun _ hk=>hk.1))⟩,⟨rM (Kd.Zaw (Kd.Za2 (p:=⟨bJ,4,none⟩) (Kd.Za2 (p:=⟨bJ,3,none⟩) (Kd.Za2 (p:=⟨bJ,2,none⟩) (Kd.Za2 (p:=⟨bJ,1,none⟩) (Kd.Za2 (p:=⟨bJ,0,none⟩) (Kd.Zbh pI.out bu.out (by decide)) (fun _ hk=>hk.2) (.slice none 0 0)) (fun _ hk=>hk.2) (.slice none 0 0)) (fun _ hk=>hk.2) (.int .i64 aj)) (fun _ hk=>hk.2) (.slice eu dC.length eB)) (fun _ hk=>hk.2) (.slice dA dD.length dz)) (fun _ hk=>hk.1))⟩,⟨by(with_reducible repeat(first|refine Zab ?_ _|refine Zad ?_|refine Zaa ?_ _));refine Zav ?_ bQ.out _;(with_reducible repeat(first|refine Zab ?_ _|refine Zad ?_|refine Zaa ?_ _));refine Zav ?_ bQ.out _;(with_reducible repeat(first|refine Zab ?_ _|refine Zad ?_|refine Zaa ?_ _));refine Zav ?_ bQ.out _;(with_reducible repeat(first|refine Zab ?_ _|refine Zad ?_|refine Zaa ?_ _));refine Zav ?_ bQ.out _;(with_reducible repeat(first|refine Zab ?_ _|refine Zad ?_|refine Zaa ?_ _));refine Zav ?_ bQ.out _;(with_reducible repeat(first|refine Zab ?_ _|refine Zad ?_|refine Zaa ?_ _));exact aV.out⟩,⟨by(with_reducible repeat(first|refine Zab ?_ _|refine Zad ?_|refine Zaa ?_ _));refine Zav ?_ fT.out _;(with_reducible repeat(first|refine Zab ?_ _|refine Zad ?_|refine Zaa ?_ _));refine Zav ?_ fT.out _;(with_reducible repeat(first|refine Zab ?_ _|refine Zad ?_|refine Zaa ?_ _));refine Zav ?_ fT.out _;(with_reducible repeat(first|refine Zab ?_ _|refine Zad ?_|refine Zaa ?_ _));refine Zav ?_ fT.out _;(with_reducible repeat(first|refine Zab ?_ _|refine Zad ?_|refine Zaa ?_ _));refine Zav ?_ fT.out _;(with_reducible repeat(first|refine Zab ?_ _|refine Zad ?_|refine Zaa ?_ _));exact bT.out⟩,⟨by(with_reducible repeat(first|refine Zab ?_ _|refine Zad ?_|refine Zaa ?_ _));refine Zas (cs:=#[.slice none 0 0,.slice none 0 0,.int .i64 aj,.slice eu dC.length eB,.slice none 0 0]) ?_ 4 _ rfl;(with_reducible repeat(first|refine Zab ?_ _|refine Zad ?_|refine Zaa ?_ _));refine Zas (cs:=#[.slice none 0 0,.slice none 0 0,.int .i64 aj,.slice none 0 0,.slice none 0 0]) ?_ 3 _ rfl;(with_reducible repeat(first|refine Zab ?_ _|refine Zad ?_|refine Zaa ?_ _));refine Zas (cs:=#[.slice none 0 0,.slice none 0 0,.int .i64 0,.slice none 0 0,.slice none 0 0]) ?_ 2 _ rfl;(with_reducible repeat(first|refine Zab ?_ _|refine Zad ?_|refine Zaa ?_ _));refine Zas (cs:=#[.slice none 0 0,.slice none 0 0,.int .i64 0,.slice none 0 0,.slice none 0 0]) ?_ 1 _ rfl;(with_reducible repeat(first|refine Zab ?_ _|refine Zad ?_|refine Zaa ?_ _));refine Zas (cs:=#[.slice none 0 0,.slice none 0 0,.int .i64 0,.slice none 0 0,.slice none 0 0]) ?_ 0 _ rfl;(with_reducible repeat(first|refine Zab ?_ _|refine Zad ?_|refine Zaa ?_ _));exact bu.out⟩,⟨bM HB.out⟩⟩
 case round=>
  clear H';try clear c2
  try clear p2
  try clear c4
  try clear c20
  try clear c21
  try clear yz yA yB yC yD xW xX xY yc yf
  obtain⟨ek,dM,jc,rfl,HA,HK1,bP,bU,bW,aV,bT,bu,HB⟩:=hrel
  cases gk with
  | zero => exact absurd HA.out (by simp [Za7.l0])
  |succ k1=>
   have H:=HA.out;clear HA;simp only[Za7.l0]at H;by_cases c23:ek<(ae.length:Int)
   case pos=>
    rw[if_pos c23]at H;have uB:decide (ek<(ae.length:Int))=true:=decide_eq_true c23;clear c23;obtain⟨H8,H⟩:=ifT H;obtain⟨Ey,H⟩:=ifT H;obtain⟨Ca,A26,H⟩:=bnd H;replace H:(if dM.length<3518437208883 then(Za7.l0 k1 ae (ae.length:Int) (wrap64 (ek+1)) ae aa aj ak ai (dM++ [(⟨(Zaq ae ek).f0,Ca⟩:S37)]) aj dC dD)else(none))=some (r1,r2,r3,r4,r5):=H;obtain⟨c27,H⟩:=ifP H;have Qd:=Za.mk c27;clear c27;obtain⟨K5,Jh⟩:∃y_:List (S37),y_=(dM++ [(⟨(Zaq ae ek).f0,Ca⟩:S37)]):=⟨_,rfl⟩;replace H:(Za7.l0 k1 ae (ae.length:Int) (wrap64 (ek+1)) ae aa aj ak ai K5 aj dC dD)=some (r1,r2,r3,r4,r5):=by first|(rw[Jh];with_reducible exact H)|(have H2_:=(Option.bind_some _ _).symm.trans H;rw[Jh];with_reducible exact H2_)|(have H2_:=(Option.bind_some _ _).symm.trans H;with_reducible exact H2_)|with_reducible exact H|(rw[Jh];exact H)|exact H
    have cFa:=Za.mk Jh;clear Jh;have H':=Za.mk H;clear H;have aQa:(0≤(ek:Int))=True:=teq;have bba:(ek<(ae.length:Int))=True:=teq;obtain⟨dfa,lY,mf,rfl,EJ,EK,OE,Ov⟩:=Zdc gV.out ek odt odt;replace EJ:=hB HB.out EJ;replace EK:=hB HB.out EK;have XU:=Za.mk Ov;have XD:=Za.mk OE;clear Ov OE;try go_wp2_with (first|((with_reducible refine Zap (N:=5) rfl ?_);refine bx 5 #[.string (⟨#[]⟩:ByteArray),.slice none 0 0] 37 ?_;intro fJ hg w28 hbox hb;replace bP:=Za.mk (Kd.Zc9 (Kd.S_elderB (sM bP.out) fJ (Nat.le_of_eq hg.symm)) hb);replace bU:=Za.mk (Kd.Zbt (rM bU.out) hb);replace bW:=Za.mk (Kd.Zbt (rM bW.out) hb);have jT:=Za.mk (hbox);have kTa:=Za.mk ((gE hg HB.out:w.heap.size≤fJ));replace HB:=Za.mk (bS HB.out hb);have D9:=Za.mk ((by rw[hg];exact Nat.ne_of_lt (Zbj (kM aV.out)):fO≠fJ));have Tk:=Za.mk ((by rw[hg];exact Nat.ne_of_gt (Zbj (kM aV.out)):fJ≠fO));replace aV:=Za.mk (kB aV.out hb);have DF:=Za.mk ((by rw[hg];exact Nat.ne_of_lt (Zbj (kM bT.out)):fu≠fJ));have Tm:=Za.mk ((by rw[hg];exact Nat.ne_of_gt (Zbj (kM bT.out)):fJ≠fu));replace bT:=Za.mk (kB bT.out hb);have xD:=Za.mk ((by rw[hg];exact Nat.ne_of_lt (Zbj (kM bu.out)):bJ≠fJ));have KJ:=Za.mk ((by rw[hg];exact Nat.ne_of_gt (Zbj (kM bu.out)):fJ≠bJ));replace bu:=Za.mk (kB bu.out hb);clear hb hbox hg;have Wq:=Tk.out;have Wt:=D9.out;have lKa:=Tm.out;have mua:=DF.out;have dEa:=KJ.out;have dSa:=xD.out;obtain⟨Mm,Mo,LH,LJ⟩:=cz2 jT.out))
    have n0_:Za (Kd.S k37 37 ((w28.setCell ⟨fJ,0,none⟩ (.string ((Zaq ae ek).f0))).setCell ⟨fJ,1,none⟩ (.slice lY ((Zaq ae ek).f1).length mf)) w.heap.size (fun k_=>k_≠fJ) jc dM):=⟨sM (Kd.Zcu (Kd.Zb2 (p:=⟨fJ,1,none⟩) (Kd.Zb2 (p:=⟨fJ,0,none⟩) (Kd.Zcu bP.out (fun k_ hk=>(⟨hk,hk.2⟩:_∧k_≠fJ))) (fun _ hk=>hk.2) (.string ((Zaq ae ek).f0))) (fun _ hk=>hk.2) (.slice lY ((Zaq ae ek).f1).length mf)) (fun _ hk=>hk.1.2))⟩;have n1_:Za (Kd.R (Kd.int .i64) 3 ((w28.setCell ⟨fJ,0,none⟩ (.string ((Zaq ae ek).f0))).setCell ⟨fJ,1,none⟩ (.slice lY ((Zaq ae ek).f1).length mf)) w.heap.size (fun k_=>some k_≠(.slice dA dD.length dz:Value).ownBlock) (.slice eu dC.length eB) dC):=⟨rM (Kd.Zaw (Kd.Za2 (p:=⟨fJ,1,none⟩) (Kd.Za2 (p:=⟨fJ,0,none⟩) (Kd.Zbh bU.out jT.out (by decide)) (fun _ hk=>hk.2) (.string ((Zaq ae ek).f0))) (fun _ hk=>hk.2) (.slice lY ((Zaq ae ek).f1).length mf)) (fun _ hk=>hk.1))⟩;have n2_:Za (Kd.R (Kd.int .i64) 3 ((w28.setCell ⟨fJ,0,none⟩ (.string ((Zaq ae ek).f0))).setCell ⟨fJ,1,none⟩ (.slice lY ((Zaq ae ek).f1).length mf)) w.heap.size (fun k_=>some k_≠(.slice eu dC.length eB:Value).ownBlock) (.slice dA dD.length dz) dD):=⟨rM (Kd.Zaw (Kd.Za2 (p:=⟨fJ,1,none⟩) (Kd.Za2 (p:=⟨fJ,0,none⟩) (Kd.Zbh bW.out jT.out (by decide)) (fun _ hk=>hk.2) (.string ((Zaq ae ek).f0))) (fun _ hk=>hk.2) (.slice lY ((Zaq ae ek).f1).length mf)) (fun _ hk=>hk.1))⟩;have n3_:Za (((w28.setCell ⟨fJ,0,none⟩ (.string ((Zaq ae ek).f0))).setCell ⟨fJ,1,none⟩ (.slice lY ((Zaq ae ek).f1).length mf)).heap[fO]? =some (.cells #[.slice (some dfa) ae.length bv,.slice aI aa.length aG,.int .i64 aj,.slice bi ak.length bn,.slice bf ai.length bg] 28 (0,0))):=⟨by(with_reducible repeat(first|refine Zab ?_ _|refine Zad ?_|refine Zaa ?_ _));refine Zav ?_ D9.out _;(with_reducible repeat(first|refine Zab ?_ _|refine Zad ?_|refine Zaa ?_ _));refine Zav ?_ D9.out _;(with_reducible repeat(first|refine Zab ?_ _|refine Zad ?_|refine Zaa ?_ _));exact aV.out⟩;have n4_:Za (((w28.setCell ⟨fJ,0,none⟩ (.string ((Zaq ae ek).f0))).setCell ⟨fJ,1,none⟩ (.slice lY ((Zaq ae ek).f1).length mf)).heap[fu]? =some (.cells #[.slice none 0 0,.slice none 0 0,.int .i64 0,.slice none 0 0,.slice none 0 0] 28 (0,0))):=⟨by(with_reducible repeat(first|refine Zab ?_ _|refine Zad ?_|refine Zaa ?_ _));refine Zav ?_ DF.out _;(with_reducible repeat(first|refine Zab ?_ _|refine Zad ?_|refine Zaa ?_ _));refine Zav ?_ DF.out _;(with_reducible repeat(first|refine Zab ?_ _|refine Zad ?_|refine Zaa ?_ _));exact bT.out⟩;have n5_:Za (((w28.setCell ⟨fJ,0,none⟩ (.string ((Zaq ae ek).f0))).setCell ⟨fJ,1,none⟩ (.slice lY ((Zaq ae ek).f1).length mf)).heap[bJ]? =some (.cells #[jc,.slice none 0 0,.int .i64 aj,.slice eu dC.length eB,.slice dA dD.length dz] 28 (0,0))):=⟨by(with_reducible repeat(first|refine Zab ?_ _|refine Zad ?_|refine Zaa ?_ _));refine Zav ?_ xD.out _;(with_reducible repeat(first|refine Zab ?_ _|refine Zad ?_|refine Zaa ?_ _));refine Zav ?_ xD.out _;(with_reducible repeat(first|refine Zab ?_ _|refine Zad ?_|refine Zaa ?_ _));exact bu.out⟩;have n6_:Za (((w28.setCell ⟨fJ,0,none⟩ (.string ((Zaq ae ek).f0))).setCell ⟨fJ,1,none⟩ (.slice lY ((Zaq ae ek).f1).length mf)).heap[fJ]? =some (.cells #[.string ((Zaq ae ek).f0),.slice lY ((Zaq ae ek).f1).length mf] 37 (0,0))):=⟨by(with_reducible repeat(first|refine Zab ?_ _|refine Zad ?_|refine Zaa ?_ _));refine Zas (cs:=#[.string ((Zaq ae ek).f0),.slice none 0 0]) ?_ 1 _ rfl;(with_reducible repeat(first|refine Zab ?_ _|refine Zad ?_|refine Zaa ?_ _));refine Zas (cs:=#[.string (⟨#[]⟩:ByteArray),.slice none 0 0]) ?_ 0 _ rfl;(with_reducible repeat(first|refine Zab ?_ _|refine Zad ?_|refine Zaa ?_ _));exact jT.out⟩;have n7_:Za (Below w.heap.size w ((w28.setCell ⟨fJ,0,none⟩ (.string ((Zaq ae ek).f0))).setCell ⟨fJ,1,none⟩ (.slice lY ((Zaq ae ek).f1).length mf))):=⟨bM HB.out⟩
    (try clear bP)
    (try clear bU)
    (try clear bW)
    (try clear aV)
    (try clear bT)
    (try clear bu)
    (try clear jT)
    (try clear HB)
    generalize ((w28.setCell ⟨fJ,0,none⟩ (.string ((Zaq ae ek).f0))).setCell ⟨fJ,1,none⟩ (.slice lY ((Zaq ae ek).f1).length mf))=w33 at n0_ n1_ n2_ n3_ n4_ n5_ n6_ n7_ ⊢
    have bP:=n0_;have bU:=n1_;have bW:=n2_;have aV:=n3_;have bT:=n4_;have bu:=n5_;have jT:=n6_;have HB:=n7_;clear n0_ n1_ n2_ n3_ n4_ n5_ n6_ n7_;replace bP:=Za.mk (Kd.Zfl bP.out);replace bU:=Za.mk (Kd.Zd6 bU.out);replace bW:=Za.mk (Kd.Zd6 bW.out);replace aV:=Za.mk (Zad aV.out);replace bT:=Za.mk (Zad bT.out);replace bu:=Za.mk (Zad bu.out);replace jT:=Za.mk (Zad jT.out);replace HB:=Za.mk (Zb6 HB.out);refine Zef (n:=12) (S:=fun w'=>w'.cell? ⟨bJ,0,none⟩=some (jc)∧w'.cell? ⟨bJ,1,none⟩=some (.slice none 0 0)∧w'.cell? ⟨bJ,2,none⟩=some (.int .i64 aj)∧w'.cell? ⟨bJ,3,none⟩=some (.slice eu dC.length eB)∧w'.cell? ⟨bJ,4,none⟩=some (.slice dA dD.length dz)∧w'.cell? ⟨fJ,0,none⟩=some (.string ((Zaq ae ek).f0))∧w'.cell? ⟨fJ,1,none⟩=some (.slice lY ((Zaq ae ek).f1).length mf)) (ds:= [11]) #[false,false,false,false,false,false,false,false,false,false,false,false] (by kernel_rfl) rfl rfl ⟨bc bu.out 0,bc bu.out 1,bc bu.out 2,bc bu.out 3,bc bu.out 4,bc jT.out 0,bc jT.out 1⟩ (fun hHeld=> ?_);refine Zc6 Za7.tab5 Za7.bits5 (fun HT_ HW_=> ?_)
    generalize w33.drew=w34 at bP bU bW aV bT bu jT HB hHeld ⊢
    refine pu HT_ 0 31 ?_;refine pu HT_ 2 33 ?_;refine pu HT_ 4 35 ?_;refine tk HT_ HW_ hHeld 1 32 ?_;refine tk HT_ HW_ hHeld 3 34 ?_;refine tk HT_ HW_ hHeld 5 36 ?_;refine on1 HT_ 6 37 (fun K hK=> ?_);refine gs Tryz.func31 #[.slice lY ((Zaq ae ek).f1).length mf] ?_
    with_reducible refine(cloneR.calls _ _ ((Zaq ae ek).f1) Ca _ (cM (Kd.Zaf XU.out HB.out)) XD.out A26.out).mono ?_
    rintro e w35 ⟨una,rfl,ho0,hb⟩;refine⟨_,rfl,?_⟩;replace bP:=Za.mk (Kd.Zek (sM bP.out) (Kd.Zb4 ho0) hb);replace bU:=Za.mk (Kd.Zbt (rM bU.out) hb);replace bW:=Za.mk (Kd.Zbt (rM bW.out) hb);have KT:=Za.mk (Kd.Zbp ho0 (Zaj (bM HB.out)));replace aV:=Za.mk (kB aV.out hb);replace bT:=Za.mk (kB bT.out hb);replace bu:=Za.mk (kB bu.out hb);replace jT:=Za.mk (kB jT.out hb);replace HB:=Za.mk (bS HB.out hb)
    (try clear hb)
    (try clear hb2)
    (try clear hk)
    (try clear hi)
    (try clear ho0)
    obtain⟨M3,M9,ML⟩:=Kd.Za9 KT.out
    (first|subst ML|(injection ML with f1_ f2_ f3_;have f4_:=f1_.symm;have f5_:=f3_.symm;clear f1_ f2_ f3_;subst f4_;subst f5_))
    refine hK.out _ _ ⟨bc bu.out 0,bc bu.out 1,bc bu.out 2,bc bu.out 3,bc bu.out 4,bc jT.out 0,bc jT.out 1⟩ (fun hHeld=> ?_);clear hK K;refine nmp 37 ?_;refine pu HT_ 7 38 ?_;refine on1 HT_ 8 39 (fun K hK=> ?_);refine Zhj (w1:=?_) (v:=?_) (by rfl) rfl ?_ ?_;rotate_left 2
    ·go_simp
     constructor
     ·rfl
     rfl
    refine hK.out _ _ ⟨(Zah (Zaa bu.out _) 0).trans rfl,(Zah (Zaa bu.out _) 1).trans rfl,(Zah (Zaa bu.out _) 2).trans rfl,(Zah (Zaa bu.out _) 3).trans rfl,(Zah (Zaa bu.out _) 4).trans rfl,(Zah (Zaa jT.out _) 0).trans rfl,(Zah (Zaa jT.out _) 1).trans rfl⟩ (fun hHeld=> ?_);clear hK K;refine nmp 39 ?_;refine on1 HT_ 9 40 (fun K hK=> ?_);refine Kd.Zev k37 (w0:=w) w.heap.size (by rfl) (.tmp 32) (.tmp 39) 22 37 (.agg #[(.string ⟨#[]⟩),(.slice none 0 0)]) 40 rfl Tryz.underlying22 info37 rfl (by decide) (by omega) jc dM (⟨(Zaq ae ek).f0,Ca⟩:S37) [.string ((Zaq ae ek).f0),.slice M3 Ca.length M9] (fun k_=>k_≠fJ) (fun k_=>some k_=(.slice M3 Ca.length M9:Value).ownBlock) rfl rfl ?aP (fun k_ hk_=>((Kd.Zaw (ok':=fun k_=>((fun k_=>k_≠fJ)) k_∧some k_≠(jc:Value).ownBlock) (Kd.Zbh (Kd.Zcp (KT.out) (Kd.Zda bP.out) (by decide)) jT.out (by decide)) (fun k_ hk=>⟨hk.2,hk.1.2⟩))).1 k_ hk_.symm) ?aF ?aO ?aB ?aS ?aL ?_
    (case aP=>exact k37_mkM _ _ _ (⟨(Zaq ae ek).f0,Ca⟩:S37) (Kd.Zaw (Kd.Zdr rfl (Kd.Zaw (ok':=fun k_=>((fun k_=>k_≠fJ)) k_∧some k_≠(jc:Value).ownBlock) (Kd.Zbh (Kd.Zcp (KT.out) (Kd.Zda bP.out) (by decide)) jT.out (by decide)) (fun k_ hk=>⟨hk.2,hk.1.2⟩))) (fun _ h_=>h_)))
    (case aB=>exact(bM HB.out))
    (case aF=>exact(fun k_ hk=>Kd.freshB (kM jT.out) k_ hk))
    (case aO=>exact(sM (Kd.Zcu bP.out (fun k_ hk=>⟨hk.1,fun e_=>hk.2 e_⟩))))
    (case aS=>exact(Zaj (bM HB.out)))
    (case aL=>have:=Qd.out;omega)
    intro uoa w37 ho hb hg hat;rw[←cFa.out]at ho;replace bU:=Za.mk (Kd.Zdy (rM bU.out) (Kd.Zda (sM bP.out)) (by decide) hg);replace bW:=Za.mk (Kd.Zdy (rM bW.out) (Kd.Zda (sM bP.out)) (by decide) hg);replace aV:=Za.mk (kG aV.out hg (Kd.S_ne bP.out aV.out (by decide)));replace bT:=Za.mk (kG bT.out hg (Kd.S_ne bP.out bT.out (by decide)));replace bu:=Za.mk (kG bu.out hg (Kd.S_ne bP.out bu.out (by decide)));replace jT:=Za.mk (kG jT.out hg (Kd.S_away bP.out (fun _ hk=>hk.1)));replace HB:=Za.mk (hb);have Vu:=Za.mk (ho);clear bP KT ho hb hg hat;obtain⟨Bn,BI,FL⟩:=Kd.Zd7 Vu.out
    (first|subst FL|(injection FL with f1_ f2_ f3_;have f4_:=f1_.symm;have f5_:=f3_.symm;clear f1_ f2_ f3_;subst f4_;subst f5_))
    refine hK.out _ _ ⟨bc bu.out 0,bc bu.out 1,bc bu.out 2,bc bu.out 3,bc bu.out 4,bc jT.out 0,bc jT.out 1⟩ (fun hHeld=> ?_);clear hK K;refine nmp 40 ?_;refine pu HT_ 10 41 ?_;refine last_ (i:=11) (N:=none) #[true,true,true,true,true,true,true,true,true,true,true,true] rfl rfl (Ze8 HT_.out (by kernel_rfl)) (by decide) (fun K hK=> ?_);have hs39:w37.cell? ⟨bJ,0,none⟩=some (jc):=(Zah bu.out 0).trans rfl;have hfs39:=Zam bu.out 0;have hns39_0:=bQ.out;have hns39_1:=fT.out;have hns39_3:=KJ.out;have hms39_0:=iy.out;have hms39_1:=jm.out;have hms39_3:=xD.out;refine skip_ (w1:=?_) (by rfl) rfl ?_ ?_;rotate_left
    ·go_simp
     rfl
    refine hK.out _ _ ?_;clear hK K;refine Zfb (Zdw HT_.out (by kernel_rfl)) ?_;try go_wp2
    go_roundg k1
    case measure=>have:=HK1.out;omega
    case rel=>exact⟨(wrap64 (ek+1)),(K5),(.slice Bn K5.length BI),eS,H',⟨by have:=HK1.out;omega⟩,⟨sM (Kd.Zcu (Kd.Zb2 (p:=⟨bJ,0,none⟩) (Kd.Zcy Vu.out bu.out (by decide)) (fun _ hk=>hk.2) (.slice Bn K5.length BI)) (fun _ hk=>trivial))⟩,⟨rM (Kd.Zaw (Kd.Za2 (p:=⟨bJ,0,none⟩) (Kd.Zbh bU.out bu.out (by decide)) (fun _ hk=>hk.2) (.slice Bn K5.length BI)) (fun _ hk=>hk.1))⟩,⟨rM (Kd.Zaw (Kd.Za2 (p:=⟨bJ,0,none⟩) (Kd.Zbh bW.out bu.out (by decide)) (fun _ hk=>hk.2) (.slice Bn K5.length BI)) (fun _ hk=>hk.1))⟩,⟨by(with_reducible repeat(first|refine Zab ?_ _|refine Zad ?_|refine Zaa ?_ _));refine Zav ?_ bQ.out _;(with_reducible repeat(first|refine Zab ?_ _|refine Zad ?_|refine Zaa ?_ _));exact aV.out⟩,⟨by(with_reducible repeat(first|refine Zab ?_ _|refine Zad ?_|refine Zaa ?_ _));refine Zav ?_ fT.out _;(with_reducible repeat(first|refine Zab ?_ _|refine Zad ?_|refine Zaa ?_ _));exact bT.out⟩,⟨by(with_reducible repeat(first|refine Zab ?_ _|refine Zad ?_|refine Zaa ?_ _));refine Zas (cs:=#[jc,.slice none 0 0,.int .i64 aj,.slice eu dC.length eB,.slice dA dD.length dz]) ?_ 0 _ rfl;(with_reducible repeat(first|refine Zab ?_ _|refine Zad ?_|refine Zaa ?_ _));exact bu.out⟩,⟨bM HB.out⟩⟩
   rw[if_neg c23]at H;have uB:decide (ek<(ae.length:Int))=false:=decide_eq_false c23;clear c23;have H':=Za.mk H;clear H;have QP:=D8.out;have QQ:=DC.out;have dHa:=bQ.out;have dVa:=iy.out;obtain⟨Db,Dc,De,Df,Dh,Cr,Cs,Ct,Cu,Cv⟩:=cz5 aV.out;go_wp2
   go_loopg [46] k1 (fun kq v46 w'=>∃(au:Int) (fU:List (S40)) (ny:Value),v46= .int .i64 au∧Za (Za7.l1 kq aa (aa.length:Int) au dM fU aj dC dD=some (r1,r2,r3,r4,r5))∧Za (kq≤k1)∧Za (Kd.S k37 37 w' w.heap.size (fun _=>True) jc dM)∧Za (Kd.R k40 40 w' w.heap.size (fun k_=>some k_≠((.slice eu dC.length eB):Value).ownBlock∧some k_≠((.slice dA dD.length dz):Value).ownBlock) ny fU)∧Za (Kd.R (Kd.int .i64) 3 w' w.heap.size (fun k_=>some k_≠((.slice dA dD.length dz):Value).ownBlock) (.slice eu dC.length eB) dC)∧Za (Kd.R (Kd.int .i64) 3 w' w.heap.size (fun k_=>some k_≠((.slice eu dC.length eB):Value).ownBlock) (.slice dA dD.length dz) dD)∧Za (w'.heap[fO]? =some (.cells #[(.slice bF ae.length bv),(.slice aI aa.length aG),.int .i64 aj,(.slice bi ak.length bn),(.slice bf ai.length bg)] 28 (0,0)))∧Za (w'.heap[fu]? =some (.cells #[(.slice none 0 0),(.slice none 0 0),.int .i64 0,(.slice none 0 0),(.slice none 0 0)] 28 (0,0)))∧Za (w'.heap[bJ]? =some (.cells #[jc,ny,.int .i64 aj,(.slice eu dC.length eB),(.slice dA dD.length dz)] 28 (0,0)))∧Za (Below w.heap.size w w'))
   case atStart=>exact⟨(0),(([]:List (S40))),(.slice none 0 0),eS,H',⟨Nat.le_refl _⟩,⟨sM bP.out⟩,⟨by first|exact Kd.Zfk _ _ _ _ _|exact Kd.N_nil _ _ _ _ _|exact Kd.Zey _ _ _ _ _|exact Kd.Q_nil _ _ _ _ _|exact Kd.Zge _ _ _ _ _⟩,⟨rM bU.out⟩,⟨rM bW.out⟩,⟨by(with_reducible repeat(first|refine Zab ?_ _|refine Zad ?_|refine Zaa ?_ _));exact aV.out⟩,⟨by(with_reducible repeat(first|refine Zab ?_ _|refine Zad ?_|refine Zaa ?_ _));exact bT.out⟩,⟨by(with_reducible repeat(first|refine Zab ?_ _|refine Zad ?_|refine Zaa ?_ _));exact bu.out⟩,⟨bM HB.out⟩⟩
   case round=>
    clear H';try clear c2
    try clear p2
    try clear c3
    try clear c4
    try clear p4
    try clear q4
    try clear hx4
    try clear p6
    try clear c20
    try clear c21
    try clear c23
    try clear uB
    try clear c24
    try clear H8
    try clear c25
    try clear Ey
    try clear c27
    try clear c29
    try clear c30
    try clear c31
    try clear c40
    try clear c41
    try clear c42
    try clear yz yA yB yC yD xW xX xY yc yf
    try clear Mm Mo LH LJ
    try clear Db Dc De Df Dh Cr Cs Ct Cu Cv
    try clear EJ
    try clear EK
    try clear p2
    try clear aQa
    try clear bba
    obtain⟨au,fU,ny,rfl,HA,HK2,bP,dE,bU,bW,aV,bT,bu,HB⟩:=hrel
    cases gk with
    | zero => exact absurd HA.out (by simp [Za7.l1])
    |succ k2=>
     have H:=HA.out;clear HA;simp only[Za7.l1]at H;by_cases c43:au<(aa.length:Int)
     case neg=>
      rw[if_neg c43]at H;have QI:decide (au<(aa.length:Int))=false:=decide_eq_false c43;clear c43;simp only[Option.some.injEq,Prod.mk.injEq]at H;obtain⟨rfl,rfl,rfl,rfl,rfl⟩:=H;have mca:=iy.out;have mFa:=bQ.out;have mda:=jm.out;have mGa:=fT.out;obtain⟨hCa,hDa,hFa,hGa,hHa,fGa,fHa,fIa,fJa,fKa⟩:=cz5 bu.out;obtain⟨Bp,BL,i0a⟩:=Kd.Zd7 bP.out;subst i0a;have mea:=DC.out;have mHa:=D8.out;obtain⟨s3a,s4a,s5a,s6a,s7a,pna,poa,ppa,pqa,pra⟩:=cz5 bT.out;obtain⟨Dz,DV,i1a⟩:=Kd.Za9 dE.out;subst i1a;go_wp2;refine bodyPost_ret (results_cell_row rfl _ _ fu 28 #[.slice Bp dM.length BL,.slice Dz fU.length DV,.int .i64 aj,.slice eu dC.length eB,.slice dA dD.length dz] (0,0) _ rfl (by(with_reducible repeat(first|refine Zab ?_ _|refine Zad ?_|refine Zaa ?_ _));refine Zas (cs:=#[.slice Bp dM.length BL,.slice Dz fU.length DV,.int .i64 aj,.slice eu dC.length eB,.slice none 0 0]) ?_ 4 _ rfl;(with_reducible repeat(first|refine Zab ?_ _|refine Zad ?_|refine Zaa ?_ _));refine Zas (cs:=#[.slice Bp dM.length BL,.slice Dz fU.length DV,.int .i64 aj,.slice none 0 0,.slice none 0 0]) ?_ 3 _ rfl;(with_reducible repeat(first|refine Zab ?_ _|refine Zad ?_|refine Zaa ?_ _));refine Zas (cs:=#[.slice Bp dM.length BL,.slice Dz fU.length DV,.int .i64 0,.slice none 0 0,.slice none 0 0]) ?_ 2 _ rfl;(with_reducible repeat(first|refine Zab ?_ _|refine Zad ?_|refine Zaa ?_ _));refine Zas (cs:=#[.slice Bp dM.length BL,.slice none 0 0,.int .i64 0,.slice none 0 0,.slice none 0 0]) ?_ 1 _ rfl;(with_reducible repeat(first|refine Zab ?_ _|refine Zad ?_|refine Zaa ?_ _));refine Zas (cs:=#[.slice none 0 0,.slice none 0 0,.int .i64 0,.slice none 0 0,.slice none 0 0]) ?_ 0 _ rfl;(with_reducible repeat(first|refine Zab ?_ _|refine Zad ?_|refine Zaa ?_ _));exact bT.out) Tryz.underlying28 rfl (by kernel_rfl)) rfl ?_;exact⟨_,_,_,_,eR,sM (Kd.Zcu (Kd.Zb2 (p:=⟨fu,4,none⟩) (Kd.Zb2 (p:=⟨fu,3,none⟩) (Kd.Zb2 (p:=⟨fu,2,none⟩) (Kd.Zb2 (p:=⟨fu,1,none⟩) (Kd.Zb2 (p:=⟨fu,0,none⟩) (Kd.Zcy bP.out bT.out (by decide)) (fun _ hk=>hk.2) (.slice Bp dM.length BL)) (fun _ hk=>hk.2) (.slice Dz fU.length DV)) (fun _ hk=>hk.2) (.int .i64 aj)) (fun _ hk=>hk.2) (.slice eu dC.length eB)) (fun _ hk=>hk.2) (.slice dA dD.length dz)) (fun _ hk=>trivial)),rM (Kd.Zaw (Kd.Za2 (p:=⟨fu,4,none⟩) (Kd.Za2 (p:=⟨fu,3,none⟩) (Kd.Za2 (p:=⟨fu,2,none⟩) (Kd.Za2 (p:=⟨fu,1,none⟩) (Kd.Za2 (p:=⟨fu,0,none⟩) (Kd.Zbh dE.out bT.out (by decide)) (fun _ hk=>hk.2) (.slice Bp dM.length BL)) (fun _ hk=>hk.2) (.slice Dz fU.length DV)) (fun _ hk=>hk.2) (.int .i64 aj)) (fun _ hk=>hk.2) (.slice eu dC.length eB)) (fun _ hk=>hk.2) (.slice dA dD.length dz)) (fun _ hk=>⟨hk.1.1,hk.1.2⟩)),rM (Kd.Zaw (Kd.Za2 (p:=⟨fu,4,none⟩) (Kd.Za2 (p:=⟨fu,3,none⟩) (Kd.Za2 (p:=⟨fu,2,none⟩) (Kd.Za2 (p:=⟨fu,1,none⟩) (Kd.Za2 (p:=⟨fu,0,none⟩) (Kd.Zbh bU.out bT.out (by decide)) (fun _ hk=>hk.2) (.slice Bp dM.length BL)) (fun _ hk=>hk.2) (.slice Dz fU.length DV)) (fun _ hk=>hk.2) (.int .i64 aj)) (fun _ hk=>hk.2) (.slice eu dC.length eB)) (fun _ hk=>hk.2) (.slice dA dD.length dz)) (fun _ hk=>hk.1)),rM (Kd.Zaw (Kd.Za2 (p:=⟨fu,4,none⟩) (Kd.Za2 (p:=⟨fu,3,none⟩) (Kd.Za2 (p:=⟨fu,2,none⟩) (Kd.Za2 (p:=⟨fu,1,none⟩) (Kd.Za2 (p:=⟨fu,0,none⟩) (Kd.Zbh bW.out bT.out (by decide)) (fun _ hk=>hk.2) (.slice Bp dM.length BL)) (fun _ hk=>hk.2) (.slice Dz fU.length DV)) (fun _ hk=>hk.2) (.int .i64 aj)) (fun _ hk=>hk.2) (.slice eu dC.length eB)) (fun _ hk=>hk.2) (.slice dA dD.length dz)) (fun _ hk=>hk.1)),bM HB.out⟩
     rw[if_pos c43]at H;have QI:decide (au<(aa.length:Int))=true:=decide_eq_true c43;clear c43;obtain⟨dsa,H⟩:=ifT H;obtain⟨QJ,H⟩:=ifT H;obtain⟨gP,A46,H⟩:=bnd H;replace H:((cloneI.f ((Zac aa au).f2)).bind fun gQ=>(Za7.l2 k2 ([]:List (List Int)) aa (aa.length:Int) au ((Zac aa au).f5) (((Zac aa au).f5).length:Int) 0 dM fU aj dC dD ((Zac aa au).f0) gP gQ ((Zac aa au).f3) ((Zac aa au).f4) ((Zac aa au).f5) ((Zac aa au).f6)))=some (r1,r2,r3,r4,r5):=H;obtain⟨gQ,A47,H⟩:=bnd H;replace H:(Za7.l2 k2 ([]:List (List Int)) aa (aa.length:Int) au ((Zac aa au).f5) (((Zac aa au).f5).length:Int) 0 dM fU aj dC dD ((Zac aa au).f0) gP gQ ((Zac aa au).f3) ((Zac aa au).f4) ((Zac aa au).f5) ((Zac aa au).f6))=some (r1,r2,r3,r4,r5):=H;have H':=Za.mk H;clear H;have iPa:(0≤(au:Int))=True:=teq;have jfa:(au<(aa.length:Int))=True:=teq;obtain⟨VM,iC,iH,iD,iI,jw,j6,rfl,JY,Ka,Kb,Ke,Kg,Kh,Ki,OG,Ow,OH,Ox,OI,Oy⟩:=Zeq fE.out au odt odt;replace JY:=hB HB.out JY;replace Ka:=hB HB.out Ka;replace Kb:=hB HB.out Kb;replace Ke:=hB HB.out Ke;replace Kg:=hB HB.out Kg;replace Kh:=hB HB.out Kh;replace Ki:=hB HB.out Ki;have XV:=Za.mk Ow;have XE:=Za.mk OG;clear Ow OG;have XW:=Za.mk Ox;have XF:=Za.mk OH;clear Ox OH;have XX:=Za.mk Oy;have j6a:=Za.mk OI;clear Oy OI;try go_wp2_with (first|((with_reducible refine Zap (N:=7) rfl ?_);refine bx 7 #[.int .i64 0,.slice none 0 0,.slice none 0 0,.int .i64 0,.int .i64 0,.slice none 0 0,.int .i64 0] 40 ?_;intro aJ hg w48 hbox hb;replace bP:=Za.mk (Kd.Zc9 (sM bP.out) hb);replace dE:=Za.mk (Kd.Zbt (Kd.Zf7 (rM dE.out) aJ (Nat.le_of_eq hg.symm)) hb);replace bU:=Za.mk (Kd.Zbt (rM bU.out) hb);replace bW:=Za.mk (Kd.Zbt (rM bW.out) hb);have dn:=Za.mk (hbox);have kUa:=Za.mk ((gE hg HB.out:w.heap.size≤aJ));replace HB:=Za.mk (bS HB.out hb);have jk:=Za.mk ((by rw[hg];exact Nat.ne_of_lt (Zbj (kM aV.out)):fO≠aJ));have xE:=Za.mk ((by rw[hg];exact Nat.ne_of_gt (Zbj (kM aV.out)):aJ≠fO));replace aV:=Za.mk (kB aV.out hb);have jl:=Za.mk ((by rw[hg];exact Nat.ne_of_lt (Zbj (kM bT.out)):fu≠aJ));have xG:=Za.mk ((by rw[hg];exact Nat.ne_of_gt (Zbj (kM bT.out)):aJ≠fu));replace bT:=Za.mk (kB bT.out hb);have jo:=Za.mk ((by rw[hg];exact Nat.ne_of_lt (Zbj (kM bu.out)):bJ≠aJ));have xH:=Za.mk ((by rw[hg];exact Nat.ne_of_gt (Zbj (kM bu.out)):aJ≠bJ));replace bu:=Za.mk (kB bu.out hb);clear hb hbox hg;have dKa:=xE.out;have dYa:=jk.out;have dLa:=xG.out;have eaa:=jl.out;have dMa:=xH.out;have eba:=jo.out;obtain⟨gOa,gPa,gQa,gRa,gSa,gTa,gUa,fga,fha,fia,fja,fka,fla,fna⟩:=cz7 dn.out))
     have n0_:Za (Kd.S k37 37 (((((((w48.setCell ⟨aJ,0,none⟩ (.int .i64 ((Zac aa au).f0))).setCell ⟨aJ,1,none⟩ (.slice iC ((Zac aa au).f1).length iH)).setCell ⟨aJ,2,none⟩ (.slice iD ((Zac aa au).f2).length iI)).setCell ⟨aJ,3,none⟩ (.int .i64 ((Zac aa au).f3))).setCell ⟨aJ,4,none⟩ (.int .i64 ((Zac aa au).f4))).setCell ⟨aJ,5,none⟩ (.slice jw ((Zac aa au).f5).length j6)).setCell ⟨aJ,6,none⟩ (.int .i64 ((Zac aa au).f6))) w.heap.size (fun _=>True) jc dM):=⟨sM (Kd.Zcu (Kd.Zb2 (p:=⟨aJ,6,none⟩) (Kd.Zb2 (p:=⟨aJ,5,none⟩) (Kd.Zb2 (p:=⟨aJ,4,none⟩) (Kd.Zb2 (p:=⟨aJ,3,none⟩) (Kd.Zb2 (p:=⟨aJ,2,none⟩) (Kd.Zb2 (p:=⟨aJ,1,none⟩) (Kd.Zb2 (p:=⟨aJ,0,none⟩) (Kd.Zcy bP.out dn.out (by decide)) (fun _ hk=>hk.2) (.int .i64 ((Zac aa au).f0))) (fun _ hk=>hk.2) (.slice iC ((Zac aa au).f1).length iH)) (fun _ hk=>hk.2) (.slice iD ((Zac aa au).f2).length iI)) (fun _ hk=>hk.2) (.int .i64 ((Zac aa au).f3))) (fun _ hk=>hk.2) (.int .i64 ((Zac aa au).f4))) (fun _ hk=>hk.2) (.slice jw ((Zac aa au).f5).length j6)) (fun _ hk=>hk.2) (.int .i64 ((Zac aa au).f6))) (fun _ hk=>trivial))⟩;have n1_:Za (Kd.R k40 40 (((((((w48.setCell ⟨aJ,0,none⟩ (.int .i64 ((Zac aa au).f0))).setCell ⟨aJ,1,none⟩ (.slice iC ((Zac aa au).f1).length iH)).setCell ⟨aJ,2,none⟩ (.slice iD ((Zac aa au).f2).length iI)).setCell ⟨aJ,3,none⟩ (.int .i64 ((Zac aa au).f3))).setCell ⟨aJ,4,none⟩ (.int .i64 ((Zac aa au).f4))).setCell ⟨aJ,5,none⟩ (.slice jw ((Zac aa au).f5).length j6)).setCell ⟨aJ,6,none⟩ (.int .i64 ((Zac aa au).f6))) w.heap.size (fun k_=>some k_≠(.slice eu dC.length eB:Value).ownBlock∧some k_≠(.slice dA dD.length dz:Value).ownBlock∧k_≠aJ) ny fU):=⟨rM (Kd.Zaw (Kd.Za2 (p:=⟨aJ,6,none⟩) (Kd.Za2 (p:=⟨aJ,5,none⟩) (Kd.Za2 (p:=⟨aJ,4,none⟩) (Kd.Za2 (p:=⟨aJ,3,none⟩) (Kd.Za2 (p:=⟨aJ,2,none⟩) (Kd.Za2 (p:=⟨aJ,1,none⟩) (Kd.Za2 (p:=⟨aJ,0,none⟩) (Kd.Zaw dE.out (fun k_ hk=>(⟨hk,hk.2⟩:_∧k_≠aJ))) (fun _ hk=>hk.2) (.int .i64 ((Zac aa au).f0))) (fun _ hk=>hk.2) (.slice iC ((Zac aa au).f1).length iH)) (fun _ hk=>hk.2) (.slice iD ((Zac aa au).f2).length iI)) (fun _ hk=>hk.2) (.int .i64 ((Zac aa au).f3))) (fun _ hk=>hk.2) (.int .i64 ((Zac aa au).f4))) (fun _ hk=>hk.2) (.slice jw ((Zac aa au).f5).length j6)) (fun _ hk=>hk.2) (.int .i64 ((Zac aa au).f6))) (fun _ hk=>⟨hk.1.1.1,⟨hk.1.1.2,hk.1.2⟩⟩))⟩;have n2_:Za (Kd.R (Kd.int .i64) 3 (((((((w48.setCell ⟨aJ,0,none⟩ (.int .i64 ((Zac aa au).f0))).setCell ⟨aJ,1,none⟩ (.slice iC ((Zac aa au).f1).length iH)).setCell ⟨aJ,2,none⟩ (.slice iD ((Zac aa au).f2).length iI)).setCell ⟨aJ,3,none⟩ (.int .i64 ((Zac aa au).f3))).setCell ⟨aJ,4,none⟩ (.int .i64 ((Zac aa au).f4))).setCell ⟨aJ,5,none⟩ (.slice jw ((Zac aa au).f5).length j6)).setCell ⟨aJ,6,none⟩ (.int .i64 ((Zac aa au).f6))) w.heap.size (fun k_=>some k_≠(.slice dA dD.length dz:Value).ownBlock) (.slice eu dC.length eB) dC):=⟨rM (Kd.Zaw (Kd.Za2 (p:=⟨aJ,6,none⟩) (Kd.Za2 (p:=⟨aJ,5,none⟩) (Kd.Za2 (p:=⟨aJ,4,none⟩) (Kd.Za2 (p:=⟨aJ,3,none⟩) (Kd.Za2 (p:=⟨aJ,2,none⟩) (Kd.Za2 (p:=⟨aJ,1,none⟩) (Kd.Za2 (p:=⟨aJ,0,none⟩) (Kd.Zbh bU.out dn.out (by decide)) (fun _ hk=>hk.2) (.int .i64 ((Zac aa au).f0))) (fun _ hk=>hk.2) (.slice iC ((Zac aa au).f1).length iH)) (fun _ hk=>hk.2) (.slice iD ((Zac aa au).f2).length iI)) (fun _ hk=>hk.2) (.int .i64 ((Zac aa au).f3))) (fun _ hk=>hk.2) (.int .i64 ((Zac aa au).f4))) (fun _ hk=>hk.2) (.slice jw ((Zac aa au).f5).length j6)) (fun _ hk=>hk.2) (.int .i64 ((Zac aa au).f6))) (fun _ hk=>hk.1))⟩;have n3_:Za (Kd.R (Kd.int .i64) 3 (((((((w48.setCell ⟨aJ,0,none⟩ (.int .i64 ((Zac aa au).f0))).setCell ⟨aJ,1,none⟩ (.slice iC ((Zac aa au).f1).length iH)).setCell ⟨aJ,2,none⟩ (.slice iD ((Zac aa au).f2).length iI)).setCell ⟨aJ,3,none⟩ (.int .i64 ((Zac aa au).f3))).setCell ⟨aJ,4,none⟩ (.int .i64 ((Zac aa au).f4))).setCell ⟨aJ,5,none⟩ (.slice jw ((Zac aa au).f5).length j6)).setCell ⟨aJ,6,none⟩ (.int .i64 ((Zac aa au).f6))) w.heap.size (fun k_=>some k_≠(.slice eu dC.length eB:Value).ownBlock) (.slice dA dD.length dz) dD):=⟨rM (Kd.Zaw (Kd.Za2 (p:=⟨aJ,6,none⟩) (Kd.Za2 (p:=⟨aJ,5,none⟩) (Kd.Za2 (p:=⟨aJ,4,none⟩) (Kd.Za2 (p:=⟨aJ,3,none⟩) (Kd.Za2 (p:=⟨aJ,2,none⟩) (Kd.Za2 (p:=⟨aJ,1,none⟩) (Kd.Za2 (p:=⟨aJ,0,none⟩) (Kd.Zbh bW.out dn.out (by decide)) (fun _ hk=>hk.2) (.int .i64 ((Zac aa au).f0))) (fun _ hk=>hk.2) (.slice iC ((Zac aa au).f1).length iH)) (fun _ hk=>hk.2) (.slice iD ((Zac aa au).f2).length iI)) (fun _ hk=>hk.2) (.int .i64 ((Zac aa au).f3))) (fun _ hk=>hk.2) (.int .i64 ((Zac aa au).f4))) (fun _ hk=>hk.2) (.slice jw ((Zac aa au).f5).length j6)) (fun _ hk=>hk.2) (.int .i64 ((Zac aa au).f6))) (fun _ hk=>hk.1))⟩;have n4_:Za ((((((((w48.setCell ⟨aJ,0,none⟩ (.int .i64 ((Zac aa au).f0))).setCell ⟨aJ,1,none⟩ (.slice iC ((Zac aa au).f1).length iH)).setCell ⟨aJ,2,none⟩ (.slice iD ((Zac aa au).f2).length iI)).setCell ⟨aJ,3,none⟩ (.int .i64 ((Zac aa au).f3))).setCell ⟨aJ,4,none⟩ (.int .i64 ((Zac aa au).f4))).setCell ⟨aJ,5,none⟩ (.slice jw ((Zac aa au).f5).length j6)).setCell ⟨aJ,6,none⟩ (.int .i64 ((Zac aa au).f6))).heap[fO]? =some (.cells #[.slice bF ae.length bv,.slice (some VM) aa.length aG,.int .i64 aj,.slice bi ak.length bn,.slice bf ai.length bg] 28 (0,0))):=⟨by(with_reducible repeat(first|refine Zab ?_ _|refine Zad ?_|refine Zaa ?_ _));refine Zav ?_ jk.out _;(with_reducible repeat(first|refine Zab ?_ _|refine Zad ?_|refine Zaa ?_ _));refine Zav ?_ jk.out _;(with_reducible repeat(first|refine Zab ?_ _|refine Zad ?_|refine Zaa ?_ _));refine Zav ?_ jk.out _;(with_reducible repeat(first|refine Zab ?_ _|refine Zad ?_|refine Zaa ?_ _));refine Zav ?_ jk.out _;(with_reducible repeat(first|refine Zab ?_ _|refine Zad ?_|refine Zaa ?_ _));refine Zav ?_ jk.out _;(with_reducible repeat(first|refine Zab ?_ _|refine Zad ?_|refine Zaa ?_ _));refine Zav ?_ jk.out _;(with_reducible repeat(first|refine Zab ?_ _|refine Zad ?_|refine Zaa ?_ _));refine Zav ?_ jk.out _;(with_reducible repeat(first|refine Zab ?_ _|refine Zad ?_|refine Zaa ?_ _));exact aV.out⟩;have n5_:Za ((((((((w48.setCell ⟨aJ,0,none⟩ (.int .i64 ((Zac aa au).f0))).setCell ⟨aJ,1,none⟩ (.slice iC ((Zac aa au).f1).length iH)).setCell ⟨aJ,2,none⟩ (.slice iD ((Zac aa au).f2).length iI)).setCell ⟨aJ,3,none⟩ (.int .i64 ((Zac aa au).f3))).setCell ⟨aJ,4,none⟩ (.int .i64 ((Zac aa au).f4))).setCell ⟨aJ,5,none⟩ (.slice jw ((Zac aa au).f5).length j6)).setCell ⟨aJ,6,none⟩ (.int .i64 ((Zac aa au).f6))).heap[fu]? =some (.cells #[.slice none 0 0,.slice none 0 0,.int .i64 0,.slice none 0 0,.slice none 0 0] 28 (0,0))):=⟨by(with_reducible repeat(first|refine Zab ?_ _|refine Zad ?_|refine Zaa ?_ _));refine Zav ?_ jl.out _;(with_reducible repeat(first|refine Zab ?_ _|refine Zad ?_|refine Zaa ?_ _));refine Zav ?_ jl.out _;(with_reducible repeat(first|refine Zab ?_ _|refine Zad ?_|refine Zaa ?_ _));refine Zav ?_ jl.out _;(with_reducible repeat(first|refine Zab ?_ _|refine Zad ?_|refine Zaa ?_ _));refine Zav ?_ jl.out _;(with_reducible repeat(first|refine Zab ?_ _|refine Zad ?_|refine Zaa ?_ _));refine Zav ?_ jl.out _;(with_reducible repeat(first|refine Zab ?_ _|refine Zad ?_|refine Zaa ?_ _));refine Zav ?_ jl.out _;(with_reducible repeat(first|refine Zab ?_ _|refine Zad ?_|refine Zaa ?_ _));refine Zav ?_ jl.out _;(with_reducible repeat(first|refine Zab ?_ _|refine Zad ?_|refine Zaa ?_ _));exact bT.out⟩;have n6_:Za ((((((((w48.setCell ⟨aJ,0,none⟩ (.int .i64 ((Zac aa au).f0))).setCell ⟨aJ,1,none⟩ (.slice iC ((Zac aa au).f1).length iH)).setCell ⟨aJ,2,none⟩ (.slice iD ((Zac aa au).f2).length iI)).setCell ⟨aJ,3,none⟩ (.int .i64 ((Zac aa au).f3))).setCell ⟨aJ,4,none⟩ (.int .i64 ((Zac aa au).f4))).setCell ⟨aJ,5,none⟩ (.slice jw ((Zac aa au).f5).length j6)).setCell ⟨aJ,6,none⟩ (.int .i64 ((Zac aa au).f6))).heap[bJ]? =some (.cells #[jc,ny,.int .i64 aj,.slice eu dC.length eB,.slice dA dD.length dz] 28 (0,0))):=⟨by(with_reducible repeat(first|refine Zab ?_ _|refine Zad ?_|refine Zaa ?_ _));refine Zav ?_ jo.out _;(with_reducible repeat(first|refine Zab ?_ _|refine Zad ?_|refine Zaa ?_ _));refine Zav ?_ jo.out _;(with_reducible repeat(first|refine Zab ?_ _|refine Zad ?_|refine Zaa ?_ _));refine Zav ?_ jo.out _;(with_reducible repeat(first|refine Zab ?_ _|refine Zad ?_|refine Zaa ?_ _));refine Zav ?_ jo.out _;(with_reducible repeat(first|refine Zab ?_ _|refine Zad ?_|refine Zaa ?_ _));refine Zav ?_ jo.out _;(with_reducible repeat(first|refine Zab ?_ _|refine Zad ?_|refine Zaa ?_ _));refine Zav ?_ jo.out _;(with_reducible repeat(first|refine Zab ?_ _|refine Zad ?_|refine Zaa ?_ _));refine Zav ?_ jo.out _;(with_reducible repeat(first|refine Zab ?_ _|refine Zad ?_|refine Zaa ?_ _));exact bu.out⟩;have n7_:Za ((((((((w48.setCell ⟨aJ,0,none⟩ (.int .i64 ((Zac aa au).f0))).setCell ⟨aJ,1,none⟩ (.slice iC ((Zac aa au).f1).length iH)).setCell ⟨aJ,2,none⟩ (.slice iD ((Zac aa au).f2).length iI)).setCell ⟨aJ,3,none⟩ (.int .i64 ((Zac aa au).f3))).setCell ⟨aJ,4,none⟩ (.int .i64 ((Zac aa au).f4))).setCell ⟨aJ,5,none⟩ (.slice jw ((Zac aa au).f5).length j6)).setCell ⟨aJ,6,none⟩ (.int .i64 ((Zac aa au).f6))).heap[aJ]? =some (.cells #[.int .i64 ((Zac aa au).f0),.slice iC ((Zac aa au).f1).length iH,.slice iD ((Zac aa au).f2).length iI,.int .i64 ((Zac aa au).f3),.int .i64 ((Zac aa au).f4),.slice jw ((Zac aa au).f5).length j6,.int .i64 ((Zac aa au).f6)] 40 (0,0))):=⟨by(with_reducible repeat(first|refine Zab ?_ _|refine Zad ?_|refine Zaa ?_ _));refine Zas (cs:=#[.int .i64 ((Zac aa au).f0),.slice iC ((Zac aa au).f1).length iH,.slice iD ((Zac aa au).f2).length iI,.int .i64 ((Zac aa au).f3),.int .i64 ((Zac aa au).f4),.slice jw ((Zac aa au).f5).length j6,.int .i64 0]) ?_ 6 _ rfl;(with_reducible repeat(first|refine Zab ?_ _|refine Zad ?_|refine Zaa ?_ _));refine Zas (cs:=#[.int .i64 ((Zac aa au).f0),.slice iC ((Zac aa au).f1).length iH,.slice iD ((Zac aa au).f2).length iI,.int .i64 ((Zac aa au).f3),.int .i64 ((Zac aa au).f4),.slice none 0 0,.int .i64 0]) ?_ 5 _ rfl;(with_reducible repeat(first|refine Zab ?_ _|refine Zad ?_|refine Zaa ?_ _));refine Zas (cs:=#[.int .i64 ((Zac aa au).f0),.slice iC ((Zac aa au).f1).length iH,.slice iD ((Zac aa au).f2).length iI,.int .i64 ((Zac aa au).f3),.int .i64 0,.slice none 0 0,.int .i64 0]) ?_ 4 _ rfl;(with_reducible repeat(first|refine Zab ?_ _|refine Zad ?_|refine Zaa ?_ _));refine Zas (cs:=#[.int .i64 ((Zac aa au).f0),.slice iC ((Zac aa au).f1).length iH,.slice iD ((Zac aa au).f2).length iI,.int .i64 0,.int .i64 0,.slice none 0 0,.int .i64 0]) ?_ 3 _ rfl;(with_reducible repeat(first|refine Zab ?_ _|refine Zad ?_|refine Zaa ?_ _));refine Zas (cs:=#[.int .i64 ((Zac aa au).f0),.slice iC ((Zac aa au).f1).length iH,.slice none 0 0,.int .i64 0,.int .i64 0,.slice none 0 0,.int .i64 0]) ?_ 2 _ rfl;(with_reducible repeat(first|refine Zab ?_ _|refine Zad ?_|refine Zaa ?_ _));refine Zas (cs:=#[.int .i64 ((Zac aa au).f0),.slice none 0 0,.slice none 0 0,.int .i64 0,.int .i64 0,.slice none 0 0,.int .i64 0]) ?_ 1 _ rfl;(with_reducible repeat(first|refine Zab ?_ _|refine Zad ?_|refine Zaa ?_ _));refine Zas (cs:=#[.int .i64 0,.slice none 0 0,.slice none 0 0,.int .i64 0,.int .i64 0,.slice none 0 0,.int .i64 0]) ?_ 0 _ rfl;(with_reducible repeat(first|refine Zab ?_ _|refine Zad ?_|refine Zaa ?_ _));exact dn.out⟩;have n8_:Za (Below w.heap.size w (((((((w48.setCell ⟨aJ,0,none⟩ (.int .i64 ((Zac aa au).f0))).setCell ⟨aJ,1,none⟩ (.slice iC ((Zac aa au).f1).length iH)).setCell ⟨aJ,2,none⟩ (.slice iD ((Zac aa au).f2).length iI)).setCell ⟨aJ,3,none⟩ (.int .i64 ((Zac aa au).f3))).setCell ⟨aJ,4,none⟩ (.int .i64 ((Zac aa au).f4))).setCell ⟨aJ,5,none⟩ (.slice jw ((Zac aa au).f5).length j6)).setCell ⟨aJ,6,none⟩ (.int .i64 ((Zac aa au).f6)))):=⟨bM HB.out⟩
     (try clear bP)
     (try clear dE)
     (try clear bU)
     (try clear bW)
     (try clear aV)
     (try clear bT)
     (try clear bu)
     (try clear dn)
     (try clear HB)
     generalize (((((((w48.setCell ⟨aJ,0,none⟩ (.int .i64 ((Zac aa au).f0))).setCell ⟨aJ,1,none⟩ (.slice iC ((Zac aa au).f1).length iH)).setCell ⟨aJ,2,none⟩ (.slice iD ((Zac aa au).f2).length iI)).setCell ⟨aJ,3,none⟩ (.int .i64 ((Zac aa au).f3))).setCell ⟨aJ,4,none⟩ (.int .i64 ((Zac aa au).f4))).setCell ⟨aJ,5,none⟩ (.slice jw ((Zac aa au).f5).length j6)).setCell ⟨aJ,6,none⟩ (.int .i64 ((Zac aa au).f6)))=w53 at n0_ n1_ n2_ n3_ n4_ n5_ n6_ n7_ n8_ ⊢
     have bP:=n0_;have dE:=n1_;have bU:=n2_;have bW:=n3_;have aV:=n4_;have bT:=n5_;have bu:=n6_;have dn:=n7_;have HB:=n8_;clear n0_ n1_ n2_ n3_ n4_ n5_ n6_ n7_ n8_;replace bP:=Za.mk (Kd.Zfl bP.out);replace dE:=Za.mk (Kd.Zd6 dE.out);replace bU:=Za.mk (Kd.Zd6 bU.out);replace bW:=Za.mk (Kd.Zd6 bW.out);replace aV:=Za.mk (Zad aV.out);replace bT:=Za.mk (Zad bT.out);replace bu:=Za.mk (Zad bu.out);replace dn:=Za.mk (Zad dn.out);replace HB:=Za.mk (Zb6 HB.out);refine Zef (n:=10) (S:=fun w'=>w'.cell? ⟨aJ,0,none⟩=some (.int .i64 ((Zac aa au).f0))∧w'.cell? ⟨aJ,1,none⟩=some (.slice iC ((Zac aa au).f1).length iH)∧w'.cell? ⟨aJ,2,none⟩=some (.slice iD ((Zac aa au).f2).length iI)∧w'.cell? ⟨aJ,3,none⟩=some (.int .i64 ((Zac aa au).f3))∧w'.cell? ⟨aJ,4,none⟩=some (.int .i64 ((Zac aa au).f4))∧w'.cell? ⟨aJ,5,none⟩=some (.slice jw ((Zac aa au).f5).length j6)∧w'.cell? ⟨aJ,6,none⟩=some (.int .i64 ((Zac aa au).f6))) (ds:= [7,9]) #[false,false,false,false,false,false,false,false,false,false] (by kernel_rfl) rfl rfl ⟨bc dn.out 0,bc dn.out 1,bc dn.out 2,bc dn.out 3,bc dn.out 4,bc dn.out 5,bc dn.out 6⟩ (fun hHeld=> ?_);refine Zc6 Za7.tab10 Za7.bits10 (fun HT_ HW_=> ?_)
     generalize w53.drew=w54 at bP dE bU bW aV bT bu dn HB hHeld ⊢
     refine pu HT_ 0 50 ?_;refine pu HT_ 3 53 ?_;refine tk HT_ HW_ hHeld 1 51 ?_;refine tk HT_ HW_ hHeld 4 54 ?_;refine on1 HT_ 2 52 (fun K hK=> ?_);refine gs Tryz.func42 #[.slice iC ((Zac aa au).f1).length iH] ?_
     with_reducible refine(cloneI.calls _ _ ((Zac aa au).f1) gP _ (cM (Kd.Zaf XV.out HB.out)) XE.out A46.out).mono ?_
     rintro e w55 ⟨uqa,rfl,ho0,hb⟩;refine⟨_,rfl,?_⟩;replace bP:=Za.mk (Kd.Zc9 (sM bP.out) hb);replace dE:=Za.mk (Kd.Zce (rM dE.out) (Kd.Zb4 ho0) hb);have Hl:=Za.mk (Kd.Zbp (Kd.Zcs (Kd.Zcs ho0 (Kd.R_lt (rM bU.out))) (Kd.R_lt (rM bW.out))) (Zaj (bM HB.out)));replace bU:=Za.mk (Kd.Zce (rM bU.out) (Kd.Zb4 ho0) hb);replace bW:=Za.mk (Kd.Zce (rM bW.out) (Kd.Zb4 ho0) hb);replace aV:=Za.mk (kB aV.out hb);replace bT:=Za.mk (kB bT.out hb);replace bu:=Za.mk (kB bu.out hb);replace dn:=Za.mk (kB dn.out hb);replace HB:=Za.mk (bS HB.out hb)
     (try clear hb)
     (try clear hb2)
     (try clear hk)
     (try clear hi)
     (try clear ho0)
     refine hK.out _ _ ⟨bc dn.out 0,bc dn.out 1,bc dn.out 2,bc dn.out 3,bc dn.out 4,bc dn.out 5,bc dn.out 6⟩ (fun hHeld=> ?_);clear hK K;refine nmp 52 ?_;refine pu HT_ 6 56 ?_;refine on1 HT_ 5 55 (fun K hK=> ?_);refine gs Tryz.func42 #[.slice iD ((Zac aa au).f2).length iI] ?_
     with_reducible refine(cloneI.calls _ _ ((Zac aa au).f2) gQ _ (cM (Kd.Zaf XW.out HB.out)) XF.out A47.out).mono ?_
     rintro e w56 ⟨ura,rfl,ho0,hb⟩;refine⟨_,rfl,?_⟩;replace bP:=Za.mk (Kd.Zc9 (sM bP.out) hb);replace dE:=Za.mk (Kd.Zce (rM dE.out) (Kd.Zb4 ho0) hb);have Vv:=Za.mk (Kd.Zbp (Kd.Zcs (Kd.Zcs (Kd.Zcs ho0 (Kd.R_lt (rM bU.out))) (Kd.R_lt (rM bW.out))) (Kd.R_lt (rM Hl.out))) (Zaj (bM HB.out)));replace bU:=Za.mk (Kd.Zce (rM bU.out) (Kd.Zb4 ho0) hb);replace bW:=Za.mk (Kd.Zce (rM bW.out) (Kd.Zb4 ho0) hb);replace Hl:=Za.mk (Kd.Zce (rM Hl.out) (Kd.Zb4 ho0) hb);replace aV:=Za.mk (kB aV.out hb);replace bT:=Za.mk (kB bT.out hb);replace bu:=Za.mk (kB bu.out hb);replace dn:=Za.mk (kB dn.out hb);replace HB:=Za.mk (bS HB.out hb)
     (try clear hb)
     (try clear hb2)
     (try clear hk)
     (try clear hi)
     (try clear ho0)
     obtain⟨kU,kV,aya⟩:=Kd.Za9 Hl.out
     (first|subst aya|(injection aya with f1_ f2_ f3_;have f4_:=f1_.symm;have f5_:=f3_.symm;clear f1_ f2_ f3_;subst f4_;subst f5_))
     obtain⟨lq,l6,aza⟩:=Kd.Za9 Vv.out
     (first|subst aza|(injection aza with f1_ f2_ f3_;have f4_:=f1_.symm;have f5_:=f3_.symm;clear f1_ f2_ f3_;subst f4_;subst f5_))
     refine hK.out _ _ ⟨bc dn.out 0,bc dn.out 1,bc dn.out 2,bc dn.out 3,bc dn.out 4,bc dn.out 5,bc dn.out 6⟩ (fun hHeld=> ?_);clear hK K;refine nmp 55 ?_;refine last_ (i:=7) (N:=none) #[true,true,true,true,true,true,true,true,false,false] rfl rfl (Ze8 HT_.out (by kernel_rfl)) (by decide) (fun K hK=> ?_);have hs58:w56.cell? ⟨aJ,1,none⟩=some (.slice iC ((Zac aa au).f1).length iH):=(Zah dn.out 1).trans rfl;have hfs58:=Zam dn.out 1;have hns58_0:=jk.out;have hns58_1:=jl.out;have hns58_2:=jo.out;have hms58_0:=xE.out;have hms58_1:=xG.out;have hms58_2:=xH.out;refine skip_ (w1:=?_) (by rfl) rfl ?_ ?_;rotate_left
     ·go_simp
      rfl
     refine hK.out _ _ ?_;clear hK K;refine pu HT_ 8 57 ?_;refine last_ (i:=9) (N:=none) #[true,true,true,true,true,true,true,true,true,true] rfl rfl (Ze8 HT_.out (by kernel_rfl)) (by decide) (fun K hK=> ?_);have hs60:w56.cell? ⟨aJ,2,none⟩=some (.slice iD ((Zac aa au).f2).length iI):=(Zah dn.out 2).trans rfl;have hfs60:=Zam dn.out 2;have hns60_0:=jk.out;have hns60_1:=jl.out;have hns60_2:=jo.out;have hms60_0:=xE.out;have hms60_1:=xG.out;have hms60_2:=xH.out;refine skip_ (w1:=?_) (by rfl) rfl ?_ ?_;rotate_left
     ·go_simp
      rfl
     refine hK.out _ _ ?_;clear hK K;refine Zfb (Zdw HT_.out (by kernel_rfl)) ?_;obtain⟨Xu,Xv,Xw,Xx,Xy,hma,hpa,WS,WT,WU,WV,WW,fya,fza⟩:=cz7 dn.out;try go_wp2
     go_loopg [8,61] k2 (fun kq v8 v61 w'=>∃(mg:List (List Int)) (oQ:Int),v61= .int .i64 oQ∧Za (Za7.l2 kq mg aa (aa.length:Int) au ((Zac aa au).f5) (((Zac aa au).f5).length:Int) oQ dM fU aj dC dD ((Zac aa au).f0) gP gQ ((Zac aa au).f3) ((Zac aa au).f4) ((Zac aa au).f5) ((Zac aa au).f6)=some (r1,r2,r3,r4,r5))∧Za (kq≤k2)∧Za (Kd.S (Kd.slice 3 (Kd.int .i64)) 24 w' w.heap.size (fun k_=>some k_≠((.slice eu dC.length eB):Value).ownBlock∧some k_≠((.slice dA dD.length dz):Value).ownBlock∧some k_≠((.slice kU gP.length kV):Value).ownBlock∧some k_≠((.slice lq gQ.length l6):Value).ownBlock) v8 mg)∧Za (Kd.S k37 37 w' w.heap.size (fun _=>True) jc dM)∧Za (Kd.R k40 40 w' w.heap.size (fun k_=>some k_≠(v8:Value).ownBlock∧some k_≠((.slice eu dC.length eB):Value).ownBlock∧some k_≠((.slice dA dD.length dz):Value).ownBlock∧some k_≠((.slice kU gP.length kV):Value).ownBlock∧some k_≠((.slice lq gQ.length l6):Value).ownBlock∧k_≠aJ) ny fU)∧Za (Kd.R (Kd.int .i64) 3 w' w.heap.size (fun k_=>some k_≠((.slice dA dD.length dz):Value).ownBlock∧some k_≠((.slice kU gP.length kV):Value).ownBlock∧some k_≠((.slice lq gQ.length l6):Value).ownBlock) (.slice eu dC.length eB) dC)∧Za (Kd.R (Kd.int .i64) 3 w' w.heap.size (fun k_=>some k_≠((.slice eu dC.length eB):Value).ownBlock∧some k_≠((.slice kU gP.length kV):Value).ownBlock∧some k_≠((.slice lq gQ.length l6):Value).ownBlock) (.slice dA dD.length dz) dD)∧Za (Kd.R (Kd.int .i64) 3 w' w.heap.size (fun k_=>some k_≠((.slice eu dC.length eB):Value).ownBlock∧some k_≠((.slice dA dD.length dz):Value).ownBlock∧some k_≠((.slice lq gQ.length l6):Value).ownBlock) (.slice kU gP.length kV) gP)∧Za (Kd.R (Kd.int .i64) 3 w' w.heap.size (fun k_=>some k_≠((.slice eu dC.length eB):Value).ownBlock∧some k_≠((.slice dA dD.length dz):Value).ownBlock∧some k_≠((.slice kU gP.length kV):Value).ownBlock) (.slice lq gQ.length l6) gQ)∧Za (w'.heap[fO]? =some (.cells #[(.slice bF ae.length bv),(.slice (some VM) aa.length aG),.int .i64 aj,(.slice bi ak.length bn),(.slice bf ai.length bg)] 28 (0,0)))∧Za (w'.heap[fu]? =some (.cells #[(.slice none 0 0),(.slice none 0 0),.int .i64 0,(.slice none 0 0),(.slice none 0 0)] 28 (0,0)))∧Za (w'.heap[bJ]? =some (.cells #[jc,ny,.int .i64 aj,(.slice eu dC.length eB),(.slice dA dD.length dz)] 28 (0,0)))∧Za (w'.heap[aJ]? =some (.cells #[.int .i64 ((Zac aa au).f0),(.slice kU gP.length kV),(.slice lq gQ.length l6),.int .i64 ((Zac aa au).f3),.int .i64 ((Zac aa au).f4),(.slice jw ((Zac aa au).f5).length j6),.int .i64 ((Zac aa au).f6)] 40 (0,0)))∧Za (Below w.heap.size w w'))
     case atStart=>exact⟨(([]:List (List Int))),(0),eS,H',⟨Nat.le_refl _⟩,⟨by first|exact Kd.Zge _ _ _ _ _|exact Kd.N_nil _ _ _ _ _|exact Kd.Zey _ _ _ _ _|exact Kd.Q_nil _ _ _ _ _|exact Kd.Zfk _ _ _ _ _⟩,⟨sM (Kd.Zcu (Kd.Zb2 (p:=⟨aJ,2,none⟩) (Kd.Zb2 (p:=⟨aJ,1,none⟩) (Kd.Zcy bP.out dn.out (by decide)) (fun _ hk=>hk.2) (.slice kU gP.length kV)) (fun _ hk=>hk.2) (.slice lq gQ.length l6)) (fun _ hk=>trivial))⟩,⟨rM (Kd.Zaw (Kd.Za2 (p:=⟨aJ,2,none⟩) (Kd.Za2 (p:=⟨aJ,1,none⟩) (Kd.Zaw dE.out (fun k_ hk=>(⟨hk,hk.1.1.2.2⟩:_∧k_≠aJ))) (fun _ hk=>hk.2) (.slice kU gP.length kV)) (fun _ hk=>hk.2) (.slice lq gQ.length l6)) (fun _ hk=>⟨(by simp[Value.ownBlock]),⟨hk.1.1.1.1,⟨hk.1.1.1.2.1,⟨hk.1.1.2,⟨hk.1.2,hk.1.1.1.2.2⟩⟩⟩⟩⟩))⟩,⟨rM (Kd.Zaw (Kd.Za2 (p:=⟨aJ,2,none⟩) (Kd.Za2 (p:=⟨aJ,1,none⟩) (Kd.Zbh bU.out dn.out (by decide)) (fun _ hk=>hk.2) (.slice kU gP.length kV)) (fun _ hk=>hk.2) (.slice lq gQ.length l6)) (fun _ hk=>⟨hk.1.1.1,⟨hk.1.1.2,hk.1.2⟩⟩))⟩,⟨rM (Kd.Zaw (Kd.Za2 (p:=⟨aJ,2,none⟩) (Kd.Za2 (p:=⟨aJ,1,none⟩) (Kd.Zbh bW.out dn.out (by decide)) (fun _ hk=>hk.2) (.slice kU gP.length kV)) (fun _ hk=>hk.2) (.slice lq gQ.length l6)) (fun _ hk=>⟨hk.1.1.1,⟨hk.1.1.2,hk.1.2⟩⟩))⟩,⟨rM (Kd.Zaw (Kd.Za2 (p:=⟨aJ,2,none⟩) (Kd.Za2 (p:=⟨aJ,1,none⟩) (Kd.Zbh Hl.out dn.out (by decide)) (fun _ hk=>hk.2) (.slice kU gP.length kV)) (fun _ hk=>hk.2) (.slice lq gQ.length l6)) (fun _ hk=>⟨hk.1.1.1.2,⟨hk.1.1.2,hk.1.2⟩⟩))⟩,⟨rM (Kd.Zaw (Kd.Za2 (p:=⟨aJ,2,none⟩) (Kd.Za2 (p:=⟨aJ,1,none⟩) (Kd.Zbh Vv.out dn.out (by decide)) (fun _ hk=>hk.2) (.slice kU gP.length kV)) (fun _ hk=>hk.2) (.slice lq gQ.length l6)) (fun _ hk=>⟨hk.1.1.1.2,⟨hk.1.1.2,hk.1.2⟩⟩))⟩,⟨by(with_reducible repeat(first|refine Zab ?_ _|refine Zad ?_|refine Zaa ?_ _));refine Zav ?_ jk.out _;(with_reducible repeat(first|refine Zab ?_ _|refine Zad ?_|refine Zaa ?_ _));refine Zav ?_ jk.out _;(with_reducible repeat(first|refine Zab ?_ _|refine Zad ?_|refine Zaa ?_ _));exact aV.out⟩,⟨by(with_reducible repeat(first|refine Zab ?_ _|refine Zad ?_|refine Zaa ?_ _));refine Zav ?_ jl.out _;(with_reducible repeat(first|refine Zab ?_ _|refine Zad ?_|refine Zaa ?_ _));refine Zav ?_ jl.out _;(with_reducible repeat(first|refine Zab ?_ _|refine Zad ?_|refine Zaa ?_ _));exact bT.out⟩,⟨by(with_reducible repeat(first|refine Zab ?_ _|refine Zad ?_|refine Zaa ?_ _));refine Zav ?_ jo.out _;(with_reducible repeat(first|refine Zab ?_ _|refine Zad ?_|refine Zaa ?_ _));refine Zav ?_ jo.out _;(with_reducible repeat(first|refine Zab ?_ _|refine Zad ?_|refine Zaa ?_ _));exact bu.out⟩,⟨by(with_reducible repeat(first|refine Zab ?_ _|refine Zad ?_|refine Zaa ?_ _));refine Zas (cs:=#[.int .i64 ((Zac aa au).f0),.slice kU gP.length kV,.slice iD ((Zac aa au).f2).length iI,.int .i64 ((Zac aa au).f3),.int .i64 ((Zac aa au).f4),.slice jw ((Zac aa au).f5).length j6,.int .i64 ((Zac aa au).f6)]) ?_ 2 _ rfl;(with_reducible repeat(first|refine Zab ?_ _|refine Zad ?_|refine Zaa ?_ _));refine Zas (cs:=#[.int .i64 ((Zac aa au).f0),.slice iC ((Zac aa au).f1).length iH,.slice iD ((Zac aa au).f2).length iI,.int .i64 ((Zac aa au).f3),.int .i64 ((Zac aa au).f4),.slice jw ((Zac aa au).f5).length j6,.int .i64 ((Zac aa au).f6)]) ?_ 1 _ rfl;(with_reducible repeat(first|refine Zab ?_ _|refine Zad ?_|refine Zaa ?_ _));exact dn.out⟩,⟨bM HB.out⟩⟩
     case round=>
      clear H';try clear c2
      try clear p2
      try clear c3
      try clear c4
      try clear p4
      try clear q4
      try clear hx4
      try clear c5
      try clear p6
      try clear c20
      try clear c21
      try clear c23
      try clear uB
      try clear c24
      try clear H8
      try clear c25
      try clear Ey
      try clear c27
      try clear c29
      try clear c30
      try clear c31
      try clear c40
      try clear c41
      try clear c42
      try clear c43
      try clear QI
      try clear c44
      try clear dsa
      try clear c45
      try clear QJ
      try clear c49
      try clear p49
      try clear q49
      try clear t6a
      try clear c50
      try clear c51
      try clear yz yA yB yC yD xW xX xY yc yf
      try clear Mm Mo LH LJ
      try clear Db Dc De Df Dh Cr Cs Ct Cu Cv
      try clear gOa gPa gQa gRa gSa gTa gUa fga fha fia fja fka fla fna
      try clear Xu Xv Xw Xx Xy hma hpa WS WT WU WV WW fya fza
      try clear EJ
      try clear EK
      try clear JY
      try clear Ka
      try clear Kb
      try clear Ke
      try clear Kg
      try clear Kh
      try clear Ki
      try clear p2
      try clear p4
      try clear aQa
      try clear iPa
      try clear p6
      try clear q4
      try clear bba
      try clear jfa
      obtain⟨mg,oQ,rfl,HA,HK3,mR,bP,dE,bU,bW,lu,lv,aV,bT,bu,dn,HB⟩:=hrel
      cases gk with
      | zero => exact absurd HA.out (by simp [Za7.l2])
      |succ k3=>
       have H:=HA.out;clear HA;simp only[Za7.l2]at H;by_cases c62:oQ<(((Zac aa au).f5).length:Int)
       case neg=>
        rw[if_neg c62]at H;have QL:decide (oQ<(((Zac aa au).f5).length:Int))=false:=decide_eq_false c62;clear c62;obtain⟨c70,H⟩:=ifP H;have cra:=Za.mk c70;clear c70;obtain⟨GH,Jj⟩:∃y_:List (S40),y_=(fU++ [(⟨((Zac aa au).f0),gP,gQ,((Zac aa au).f3),((Zac aa au).f4),mg,((Zac aa au).f6)⟩:S40)]):=⟨_,rfl⟩;replace H:(Za7.l1 k3 aa (aa.length:Int) (wrap64 (au+1)) dM GH aj dC dD)=some (r1,r2,r3,r4,r5):=by first|(rw[Jj];with_reducible exact H)|(have H2_:=(Option.bind_some _ _).symm.trans H;rw[Jj];with_reducible exact H2_)|(have H2_:=(Option.bind_some _ _).symm.trans H;with_reducible exact H2_)|with_reducible exact H|(rw[Jj];exact H)|exact H
        have cHa:=Za.mk Jj;clear Jj;have H':=Za.mk H;clear H;obtain⟨uR,uS,ixa⟩:=Kd.Zd7 mR.out;subst ixa;have dOa:=xE.out;have eda:=jk.out;have lXa:=xG.out;have mBa:=jl.out;have lYa:=xH.out;have mCa:=jo.out;obtain⟨h4a,h5a,h6a,h7a,h8a,h9a,hAa,f9a,fAa,fBa,fCa,fDa,fEa,fFa⟩:=cz7 dn.out
        go_wp2_with (first|((with_reducible refine gate_store (t:=38) (p:=72) rfl ?_);refine se 38 72 (wr.setCell ⟨aJ,5,none⟩ (.slice uR mg.length uS)) ?_;intro w76 hw;replace mR:Za (Kd.S (Kd.slice 3 (Kd.int .i64)) 24 w76 w.heap.size (fun k_=>some k_≠(.slice eu dC.length eB:Value).ownBlock∧some k_≠(.slice dA dD.length dz:Value).ownBlock∧some k_≠(.slice kU gP.length kV:Value).ownBlock∧some k_≠(.slice lq gQ.length l6:Value).ownBlock) (.slice uR mg.length uS) mg):=⟨(by rw[hw];exact(sM (Kd.Zcu (Kd.Zb2 (p:=⟨aJ,5,none⟩) (Kd.Zcy mR.out dn.out (by decide)) (fun _ hk=>hk.2) (.slice uR mg.length uS)) (fun _ hk=>⟨hk.1.1,⟨hk.1.2.1,⟨hk.1.2.2.1,hk.1.2.2.2⟩⟩⟩))))⟩;replace bP:Za (Kd.S k37 37 w76 w.heap.size (fun _=>True) jc dM):=⟨(by rw[hw];exact(sM (Kd.Zcu (Kd.Zb2 (p:=⟨aJ,5,none⟩) (Kd.Zcy bP.out dn.out (by decide)) (fun _ hk=>hk.2) (.slice uR mg.length uS)) (fun _ hk=>trivial))))⟩;replace dE:Za (Kd.R k40 40 w76 w.heap.size (fun k_=>some k_≠(.slice uR mg.length uS:Value).ownBlock∧some k_≠(.slice eu dC.length eB:Value).ownBlock∧some k_≠(.slice dA dD.length dz:Value).ownBlock∧some k_≠(.slice kU gP.length kV:Value).ownBlock∧some k_≠(.slice lq gQ.length l6:Value).ownBlock∧k_≠aJ) ny fU):=⟨(by rw[hw];exact(rM (Kd.Zaw (Kd.Za2 (p:=⟨aJ,5,none⟩) (Kd.Zaw dE.out (fun k_ hk=>(⟨hk,hk.2.2.2.2.2⟩:_∧k_≠aJ))) (fun _ hk=>hk.2) (.slice uR mg.length uS)) (fun _ hk=>⟨hk.1.1,⟨hk.1.2.1,⟨hk.1.2.2.1,⟨hk.1.2.2.2.1,⟨hk.1.2.2.2.2.1,hk.1.2.2.2.2.2⟩⟩⟩⟩⟩))))⟩;replace bU:Za (Kd.R (Kd.int .i64) 3 w76 w.heap.size (fun k_=>some k_≠(.slice dA dD.length dz:Value).ownBlock∧some k_≠(.slice kU gP.length kV:Value).ownBlock∧some k_≠(.slice lq gQ.length l6:Value).ownBlock) (.slice eu dC.length eB) dC):=⟨(by rw[hw];exact(rM (Kd.Zaw (Kd.Za2 (p:=⟨aJ,5,none⟩) (Kd.Zbh bU.out dn.out (by decide)) (fun _ hk=>hk.2) (.slice uR mg.length uS)) (fun _ hk=>⟨hk.1.1,⟨hk.1.2.1,hk.1.2.2⟩⟩))))⟩;replace bW:Za (Kd.R (Kd.int .i64) 3 w76 w.heap.size (fun k_=>some k_≠(.slice eu dC.length eB:Value).ownBlock∧some k_≠(.slice kU gP.length kV:Value).ownBlock∧some k_≠(.slice lq gQ.length l6:Value).ownBlock) (.slice dA dD.length dz) dD):=⟨(by rw[hw];exact(rM (Kd.Zaw (Kd.Za2 (p:=⟨aJ,5,none⟩) (Kd.Zbh bW.out dn.out (by decide)) (fun _ hk=>hk.2) (.slice uR mg.length uS)) (fun _ hk=>⟨hk.1.1,⟨hk.1.2.1,hk.1.2.2⟩⟩))))⟩;replace lu:Za (Kd.R (Kd.int .i64) 3 w76 w.heap.size (fun k_=>some k_≠(.slice eu dC.length eB:Value).ownBlock∧some k_≠(.slice dA dD.length dz:Value).ownBlock∧some k_≠(.slice lq gQ.length l6:Value).ownBlock) (.slice kU gP.length kV) gP):=⟨(by rw[hw];exact(rM (Kd.Zaw (Kd.Za2 (p:=⟨aJ,5,none⟩) (Kd.Zbh lu.out dn.out (by decide)) (fun _ hk=>hk.2) (.slice uR mg.length uS)) (fun _ hk=>⟨hk.1.1,⟨hk.1.2.1,hk.1.2.2⟩⟩))))⟩;replace lv:Za (Kd.R (Kd.int .i64) 3 w76 w.heap.size (fun k_=>some k_≠(.slice eu dC.length eB:Value).ownBlock∧some k_≠(.slice dA dD.length dz:Value).ownBlock∧some k_≠(.slice kU gP.length kV:Value).ownBlock) (.slice lq gQ.length l6) gQ):=⟨(by rw[hw];exact(rM (Kd.Zaw (Kd.Za2 (p:=⟨aJ,5,none⟩) (Kd.Zbh lv.out dn.out (by decide)) (fun _ hk=>hk.2) (.slice uR mg.length uS)) (fun _ hk=>⟨hk.1.1,⟨hk.1.2.1,hk.1.2.2⟩⟩))))⟩;replace aV:=Za.mk (fB hw aV.out jk.out);replace bT:=Za.mk (fB hw bT.out jl.out);replace bu:=Za.mk (fB hw bu.out jo.out);replace dn:Za (w76.heap[aJ]? =some (.cells #[.int .i64 ((Zac aa au).f0),.slice kU gP.length kV,.slice lq gQ.length l6,.int .i64 ((Zac aa au).f3),.int .i64 ((Zac aa au).f4),.slice uR mg.length uS,.int .i64 ((Zac aa au).f6)] 40 (0,0))):=⟨(by rw[hw];exact(by(with_reducible repeat(first|refine Zab ?_ _|refine Zad ?_|refine Zaa ?_ _));refine Zas (cs:=#[.int .i64 ((Zac aa au).f0),.slice kU gP.length kV,.slice lq gQ.length l6,.int .i64 ((Zac aa au).f3),.int .i64 ((Zac aa au).f4),.slice jw ((Zac aa au).f5).length j6,.int .i64 ((Zac aa au).f6)]) ?_ 5 _ rfl;(with_reducible repeat(first|refine Zab ?_ _|refine Zad ?_|refine Zaa ?_ _));exact dn.out))⟩;replace HB:Za (Below w.heap.size w w76):=⟨(by rw[hw];exact(bM HB.out))⟩;clear hw;have maa:=iy.out;have mDa:=bQ.out;have mba:=jm.out;have mEa:=fT.out;obtain⟨rUa,rVa,rWa,rXa,rYa,oFa,oGa,oHa,oIa,oJa⟩:=cz5 bu.out;obtain⟨saa,sba,sca,sda,sea,sfa,sga,oKa,oLa,oMa,oNa,oOa,oPa,oQa⟩:=cz7 dn.out)|((with_reducible refine Zbk (b:= .append) (xs:=#[.tmp 74,.tmp 76]) rfl ?_);at_builtin;refine Kd.Zct k40 (w0:=w) w.heap.size rfl (.tmp 74) (.tmp 76) 23 40 (.agg #[(.int .i64 0),(.slice none 0 0),(.slice none 0 0),(.int .i64 0),(.int .i64 0),(.slice none 0 0),(.int .i64 0)]) 104 rfl Tryz.underlying23 info40 rfl (by decide) (by omega) ny fU (⟨((Zac aa au).f0),gP,gQ,((Zac aa au).f3),((Zac aa au).f4),mg,((Zac aa au).f6)⟩:S40) [.int .i64 ((Zac aa au).f0),.slice kU gP.length kV,.slice lq gQ.length l6,.int .i64 ((Zac aa au).f3),.int .i64 ((Zac aa au).f4),.slice uR mg.length uS,.int .i64 ((Zac aa au).f6)] (fun k_=>some k_≠(.slice eu dC.length eB:Value).ownBlock∧some k_≠(.slice dA dD.length dz:Value).ownBlock∧k_≠aJ) (fun k_=>((fun k_=>some k_≠(.slice eu dC.length eB:Value).ownBlock∧some k_≠(.slice dA dD.length dz:Value).ownBlock∧k_≠aJ)) k_∧some k_≠(ny:Value).ownBlock) rfl rfl ?aP (fun _ hk=>hk) ?aF ?aO ?aB ?aS ?aL ?_;(case aP=>exact k40_mkM _ _ _ (⟨((Zac aa au).f0),gP,gQ,((Zac aa au).f3),((Zac aa au).f4),mg,((Zac aa au).f6)⟩:S40) (Kd.Zaw (Kd.Zbh (Kd.Zcp (lu.out) (Kd.Zdm dE.out) (by decide)) dn.out (by decide)) (fun k_ hk=>⟨⟨hk.1.1.1,⟨hk.1.1.2.1,hk.2⟩⟩,hk.1.2⟩)) (Kd.Zaw (Kd.Zbh (Kd.Zcp (lv.out) (Kd.Zdm dE.out) (by decide)) dn.out (by decide)) (fun k_ hk=>⟨⟨hk.1.1.1,⟨hk.1.1.2.1,hk.2⟩⟩,hk.1.2⟩)) (Kd.Zaw (Kd.Zbh (Kd.Zcp ((Kd.S_R mR.out)) (Kd.Zdm dE.out) (by decide)) dn.out (by decide)) (fun k_ hk=>⟨⟨hk.1.1.1,⟨hk.1.1.2.1,hk.2⟩⟩,hk.1.2⟩)));(case aB=>exact(bM HB.out));(case aF=>exact(fun k_ hk=>⟨Kd.fresh' (Kd.R_lt (rM bU.out)) k_ hk,Kd.fresh' (Kd.R_lt (rM bW.out)) k_ hk,Kd.freshB (kM dn.out) k_ hk⟩));(case aO=>exact(rM (Kd.Zaw dE.out (fun _ hk=>⟨hk.2.1,⟨hk.2.2.1,hk.2.2.2.2.2⟩⟩))));(case aS=>exact(Zaj (bM HB.out)));(case aL=>have:=cra.out;omega);intro uua w81 ho hb hg hat;rw[←cHa.out]at ho;replace bP:=Za.mk (Kd.Zfw (sM bP.out) (Kd.Zdm (rM dE.out)) (by decide) hg);replace bU:=Za.mk (Kd.Zdy (rM bU.out) (Kd.Zdm (rM dE.out)) (by decide) hg);replace bW:=Za.mk (Kd.Zdy (rM bW.out) (Kd.Zdm (rM dE.out)) (by decide) hg);replace aV:=Za.mk (kG aV.out hg (Kd.R_ne dE.out aV.out (by decide)));replace bT:=Za.mk (kG bT.out hg (Kd.R_ne dE.out bT.out (by decide)));replace bu:=Za.mk (kG bu.out hg (Kd.R_ne dE.out bu.out (by decide)));replace HB:=Za.mk (hb);have Vw:=Za.mk (ho);clear dn dE lu lv mR;clear ho hb hg hat;obtain⟨M5,MC,iza⟩:=Kd.Za9 Vw.out;subst iza;obtain⟨sha,sia,sja,ska,sla,oRa,oSa,oTa,oUa,oVa⟩:=cz5 bu.out))
        go_roundg k3
        case measure=>have:=HK1.out;have:=HK2.out;have:=HK3.out;omega
        case rel=>exact⟨(wrap64 (au+1)),(GH),(.slice M5 GH.length MC),eS,H',⟨by have:=HK1.out;have:=HK2.out;have:=HK3.out;omega⟩,⟨sM (Kd.Zcu (Kd.Zb2 (p:=⟨bJ,1,none⟩) (Kd.Zcy bP.out bu.out (by decide)) (fun _ hk=>hk.2) (.slice M5 GH.length MC)) (fun _ hk=>trivial))⟩,⟨rM (Kd.Zaw (Kd.Za2 (p:=⟨bJ,1,none⟩) (Kd.Zbh Vw.out bu.out (by decide)) (fun _ hk=>hk.2) (.slice M5 GH.length MC)) (fun _ hk=>⟨hk.1.1,hk.1.2.1⟩))⟩,⟨rM (Kd.Zaw (Kd.Za2 (p:=⟨bJ,1,none⟩) (Kd.Zbh bU.out bu.out (by decide)) (fun _ hk=>hk.2) (.slice M5 GH.length MC)) (fun _ hk=>hk.1.1))⟩,⟨rM (Kd.Zaw (Kd.Za2 (p:=⟨bJ,1,none⟩) (Kd.Zbh bW.out bu.out (by decide)) (fun _ hk=>hk.2) (.slice M5 GH.length MC)) (fun _ hk=>hk.1.1))⟩,⟨by(with_reducible repeat(first|refine Zab ?_ _|refine Zad ?_|refine Zaa ?_ _));refine Zav ?_ bQ.out _;(with_reducible repeat(first|refine Zab ?_ _|refine Zad ?_|refine Zaa ?_ _));exact aV.out⟩,⟨by(with_reducible repeat(first|refine Zab ?_ _|refine Zad ?_|refine Zaa ?_ _));refine Zav ?_ fT.out _;(with_reducible repeat(first|refine Zab ?_ _|refine Zad ?_|refine Zaa ?_ _));exact bT.out⟩,⟨by(with_reducible repeat(first|refine Zab ?_ _|refine Zad ?_|refine Zaa ?_ _));refine Zas (cs:=#[jc,ny,.int .i64 aj,.slice eu dC.length eB,.slice dA dD.length dz]) ?_ 1 _ rfl;(with_reducible repeat(first|refine Zab ?_ _|refine Zad ?_|refine Zaa ?_ _));exact bu.out⟩,⟨bM HB.out⟩⟩
       rw[if_pos c62]at H;have QL:decide (oQ<(((Zac aa au).f5).length:Int))=true:=decide_eq_true c62;clear c62;obtain⟨dza,H⟩:=ifT H;obtain⟨lya,H⟩:=ifT H;obtain⟨Cb,A65,H⟩:=bnd H;replace H:(if mg.length<5864062014805 then(Za7.l2 k3 (mg++ [Cb]) aa (aa.length:Int) au ((Zac aa au).f5) (((Zac aa au).f5).length:Int) (wrap64 (oQ+1)) dM fU aj dC dD ((Zac aa au).f0) gP gQ ((Zac aa au).f3) ((Zac aa au).f4) ((Zac aa au).f5) ((Zac aa au).f6))else(none))=some (r1,r2,r3,r4,r5):=H;obtain⟨c66,H⟩:=ifP H;have cqa:=Za.mk c66;clear c66;obtain⟨bHa,Ji⟩:∃y_:List (List Int),y_=(mg++ [Cb]):=⟨_,rfl⟩;replace H:(Za7.l2 k3 bHa aa (aa.length:Int) au ((Zac aa au).f5) (((Zac aa au).f5).length:Int) (wrap64 (oQ+1)) dM fU aj dC dD ((Zac aa au).f0) gP gQ ((Zac aa au).f3) ((Zac aa au).f4) ((Zac aa au).f5) ((Zac aa au).f6))=some (r1,r2,r3,r4,r5):=by first|(rw[Ji];with_reducible exact H)|(have H2_:=(Option.bind_some _ _).symm.trans H;rw[Ji];with_reducible exact H2_)|(have H2_:=(Option.bind_some _ _).symm.trans H;with_reducible exact H2_)|with_reducible exact H|(rw[Ji];exact H)|exact H
       have cGa:=Za.mk Ji;clear Ji;have H':=Za.mk H;clear H;have tBa:(0≤(oQ:Int))=True:=teq;have tGa:(oQ<(((Zac aa au).f5).length:Int))=True:=teq;obtain⟨lia,YP,ala,rfl,Pm,OJ,Oz⟩:=Ze6 XX.out oQ odt odt;replace Pm:=hB HB.out Pm;have XY:=Za.mk Oz;have XG:=Za.mk OJ;clear Oz OJ
       go_wp2_with (first|((with_reducible refine Zat (f:=42) rfl ?_);refine gl 67 Tryz.func42 #[.slice YP (Zca ((Zac aa au).f5) oQ).length ala] ?_;(with_reducible refine(cloneI.calls _ _ (Zca ((Zac aa au).f5) oQ) Cb _ (cM (Kd.Zaf XY.out HB.out)) XG.out A65.out).mono ?_);rintro e w67 ⟨usa,rfl,ho0,hb⟩;refine⟨_,rfl,?_⟩;replace mR:=Za.mk (Kd.Zek (sM mR.out) (Kd.Zb4 ho0) hb);replace bP:=Za.mk (Kd.Zc9 (sM bP.out) hb);replace dE:=Za.mk (Kd.Zce (rM dE.out) (Kd.Zb4 ho0) hb);have KU:=Za.mk (Kd.Zbp (Kd.Zcs (Kd.Zcs (Kd.Zcs (Kd.Zcs ho0 (Kd.R_lt (rM bU.out))) (Kd.R_lt (rM bW.out))) (Kd.R_lt (rM lu.out))) (Kd.R_lt (rM lv.out))) (Zaj (bM HB.out)));replace bU:=Za.mk (Kd.Zce (rM bU.out) (Kd.Zb4 ho0) hb);replace bW:=Za.mk (Kd.Zce (rM bW.out) (Kd.Zb4 ho0) hb);replace lu:=Za.mk (Kd.Zce (rM lu.out) (Kd.Zb4 ho0) hb);replace lv:=Za.mk (Kd.Zce (rM lv.out) (Kd.Zb4 ho0) hb);replace aV:=Za.mk (kB aV.out hb);replace bT:=Za.mk (kB bT.out hb);replace bu:=Za.mk (kB bu.out hb);replace dn:=Za.mk (kB dn.out hb);replace HB:=Za.mk (bS HB.out hb);(try clear hb);(try clear hb2);(try clear hk);(try clear hi);(try clear ho0);obtain⟨TA,TL,iwa⟩:=Kd.Za9 KU.out;subst iwa)|((with_reducible refine Zbk (b:= .append) (xs:=#[.tmp 65,.tmp 68]) rfl ?_);at_builtin;refine Kd.Zf8 (Kd.slice 3 (Kd.int .i64)) (w0:=w) w.heap.size rfl (.tmp 65) (.tmp 68) 38 24 (.slice none 0 0) 24 rfl Tryz.underlying38 info24 rfl (by decide) (by omega) u8 mg Cb [.slice TA Cb.length TL] (fun k_=>some k_≠(.slice eu dC.length eB:Value).ownBlock∧some k_≠(.slice dA dD.length dz:Value).ownBlock∧some k_≠(.slice kU gP.length kV:Value).ownBlock∧some k_≠(.slice lq gQ.length l6:Value).ownBlock) (fun k_=>some k_=(.slice TA Cb.length TL:Value).ownBlock) rfl rfl ?aP (fun k_ hk_=>((Kd.Zaw (ok':=fun k_=>((fun k_=>some k_≠(.slice eu dC.length eB:Value).ownBlock∧some k_≠(.slice dA dD.length dz:Value).ownBlock∧some k_≠(.slice kU gP.length kV:Value).ownBlock∧some k_≠(.slice lq gQ.length l6:Value).ownBlock)) k_∧some k_≠(u8:Value).ownBlock) (Kd.Zcp (KU.out) (Kd.Zda mR.out) (by decide)) (fun k_ hk=>⟨⟨hk.1.1.1.1.2,⟨hk.1.1.1.2,⟨hk.1.1.2,hk.1.2⟩⟩⟩,hk.2⟩))).1 k_ hk_.symm) ?aF ?aO ?aB ?aS ?aL ?_;(case aP=>exact Kd.M_row (Kd.Zaw (Kd.Zdr rfl (Kd.Zaw (ok':=fun k_=>((fun k_=>some k_≠(.slice eu dC.length eB:Value).ownBlock∧some k_≠(.slice dA dD.length dz:Value).ownBlock∧some k_≠(.slice kU gP.length kV:Value).ownBlock∧some k_≠(.slice lq gQ.length l6:Value).ownBlock)) k_∧some k_≠(u8:Value).ownBlock) (Kd.Zcp (KU.out) (Kd.Zda mR.out) (by decide)) (fun k_ hk=>⟨⟨hk.1.1.1.1.2,⟨hk.1.1.1.2,⟨hk.1.1.2,hk.1.2⟩⟩⟩,hk.2⟩))) (fun _ h_=>h_)));(case aB=>exact(bM HB.out));(case aF=>exact(fun k_ hk=>⟨Kd.fresh' (Kd.R_lt (rM bU.out)) k_ hk,Kd.fresh' (Kd.R_lt (rM bW.out)) k_ hk,Kd.fresh' (Kd.R_lt (rM lu.out)) k_ hk,Kd.fresh' (Kd.R_lt (rM lv.out)) k_ hk⟩));(case aO=>exact(sM (Kd.Zcu mR.out (fun k_ hk=>⟨⟨hk.1.1,⟨hk.1.2.1,⟨hk.1.2.2.1,hk.1.2.2.2⟩⟩⟩,fun e_=>hk.2 e_⟩))));(case aS=>exact(Zaj (bM HB.out)));(case aL=>have:=cqa.out;omega);intro uta w68 ho hb hg hat;rw[←cGa.out]at ho;replace bP:=Za.mk (Kd.Zfw (sM bP.out) (Kd.Zda (sM mR.out)) (by decide) hg);replace dE:=Za.mk (Kd.Zc8 (ok:=(fun k_=>some k_≠(.slice eu dC.length eB:Value).ownBlock∧some k_≠(.slice dA dD.length dz:Value).ownBlock∧some k_≠(.slice kU gP.length kV:Value).ownBlock∧some k_≠(.slice lq gQ.length l6:Value).ownBlock∧some k_≠(.slice TA Cb.length TL:Value).ownBlock∧k_≠aJ)) (rM (Kd.Zaw dE.out (fun _ hk=>⟨⟨hk.1.2.1,⟨hk.1.2.2.1,⟨hk.1.2.2.2.1,⟨hk.1.2.2.2.2.1,⟨hk.2,hk.1.2.2.2.2.2⟩⟩⟩⟩⟩,hk.1.1⟩))) hg hat);replace bU:=Za.mk (Kd.Zdy (rM bU.out) (Kd.Zda (sM mR.out)) (by decide) hg);replace bW:=Za.mk (Kd.Zdy (rM bW.out) (Kd.Zda (sM mR.out)) (by decide) hg);replace lu:=Za.mk (Kd.Zdy (rM lu.out) (Kd.Zda (sM mR.out)) (by decide) hg);replace lv:=Za.mk (Kd.Zdy (rM lv.out) (Kd.Zda (sM mR.out)) (by decide) hg);replace aV:=Za.mk (kG aV.out hg (Kd.S_ne mR.out aV.out (by decide)));replace bT:=Za.mk (kG bT.out hg (Kd.S_ne mR.out bT.out (by decide)));replace bu:=Za.mk (kG bu.out hg (Kd.S_ne mR.out bu.out (by decide)));replace dn:=Za.mk (kG dn.out hg (Kd.S_ne mR.out dn.out (by decide)));replace HB:=Za.mk (hb);have cga:=Za.mk (ho);clear mR KU;clear ho hb hg hat))
       go_roundg k3
       case measure=>have:=HK1.out;have:=HK2.out;have:=HK3.out;omega
       case rel=>exact⟨(bHa),(wrap64 (oQ+1)),eS,H',⟨by have:=HK1.out;have:=HK2.out;have:=HK3.out;omega⟩,⟨sM cga.out⟩,⟨sM bP.out⟩,⟨rM (Kd.Zaw dE.out (fun _ hk=>⟨hk.2,⟨hk.1.1,⟨hk.1.2.1,⟨hk.1.2.2.1,⟨hk.1.2.2.2.1,hk.1.2.2.2.2.2⟩⟩⟩⟩⟩))⟩,⟨rM (Kd.Zaw bU.out (fun _ hk=>⟨hk.1.1,⟨hk.1.2.1,hk.1.2.2⟩⟩))⟩,⟨rM (Kd.Zaw bW.out (fun _ hk=>⟨hk.1.1,⟨hk.1.2.1,hk.1.2.2⟩⟩))⟩,⟨rM (Kd.Zaw lu.out (fun _ hk=>⟨hk.1.1,⟨hk.1.2.1,hk.1.2.2⟩⟩))⟩,⟨rM (Kd.Zaw lv.out (fun _ hk=>⟨hk.1.1,⟨hk.1.2.1,hk.1.2.2⟩⟩))⟩,⟨by(with_reducible repeat(first|refine Zab ?_ _|refine Zad ?_|refine Zaa ?_ _));exact aV.out⟩,⟨by(with_reducible repeat(first|refine Zab ?_ _|refine Zad ?_|refine Zaa ?_ _));exact bT.out⟩,⟨by(with_reducible repeat(first|refine Zab ?_ _|refine Zad ?_|refine Zaa ?_ _));exact bu.out⟩,⟨by(with_reducible repeat(first|refine Zab ?_ _|refine Zad ?_|refine Zaa ?_ _));exact dn.out⟩,⟨bM HB.out⟩⟩
def Zcg.l0 : Nat → List (List (S59)) → List (S37) → Int → Int → Option ((List (List (S59))))
 | 0, _, _, _, _ => none
 |k+1,x3,x7,x8,x9=>if x9<x8 then(if 0≤x9 then(if x9<(x7.length:Int)then((cloneR.f ((Zaq x7 x9).f1)).bind fun t236=>(if x3.length<5864062014805 then(Zcg.l0 k (x3++ [t236]) x7 x8 (wrap64 (x9+1)))else(none)))else(none))else(none))else(some x3)
def Zcg.f (k:Nat) (ae:List (S37)) (aa:List (S40)) (aj:Int) (ak:List Int) (ai:List Int):Option ((List (List (S59)))):=Zcg.l0 k ([]:List (List (S59))) ae (ae.length:Int) 0
set_option maxRecDepth 100000 in
theorem Zcg.calls (k : Nat) (bF : Option Addr) (bv : Nat) (ae : List (S37)) (aI : Option Addr) (aG : Nat) (aa : List (S40)) (aj : Int) (bi : Option Addr) (bn : Nat) (ak : List Int) (bf : Option Addr) (bg : Nat) (ai : List Int) (r : List (List (S59))) (w : World) (lC : Kd.C k37 w bF ae.length ae) (l8 : ae.length ≤ bv) (eO : Kd.C k40 w aI aa.length aa) (eH : aa.length ≤ aG) (kF : Kd.C (Kd.int .i64) w bi ak.length ak) (ky : ak.length ≤ bn) (kH : Kd.C (Kd.int .i64) w bf ai.length ai) (kz : ai.length ≤ bg) (h : Zcg.f k ae aa aj ak ai = some r) :
  Calls Tryz.prog 13 #[.agg #[.slice bF ae.length bv,.slice aI aa.length aG,.int .i64 aj,.slice bi ak.length bn,.slice bf ai.length bg]] w fun e w'=>∃v0_:Value,e= .returned (v0_)∧Kd.S (Kd.slice 59 k59) 35 w' w.heap.size (fun _=>True) v0_ r∧Below w.heap.size w w':=by
 have hu28:=Tryz.underlying28;have hu37:=Tryz.underlying37;have gV:=Za.mk lC;have uA:=Za.mk l8;clear lC l8;have fE:=Za.mk eO;have gU:=Za.mk eH;clear eO eH;have kr:=Za.mk kF;have lI:=Za.mk ky;clear kF ky;have lh:=Za.mk kH;have lJ:=Za.mk kz;clear kH kz;have HB:=Za.mk (Below.refl w.heap.size w);have H:(Zcg.l0 k ([]:List (List (S59))) ae (ae.length:Int) 0)=some r:=h;clear h;have H':=Za.mk H;clear H;go_enter Tryz.func13,Tryz.ntmps13
 go_wp2_with (first|((with_reducible refine Zap (N:=1) rfl ?_);refine bx 1 #[.slice bF ae.length bv,.slice aI aa.length aG,.int .i64 aj,.slice bi ak.length bn,.slice bf ai.length bg] 28 ?_;intro HV hg w2 hbox hb;have pz:=Za.mk (hbox);have kEa:=Za.mk ((gE hg HB.out:w.heap.size≤HV));replace HB:=Za.mk (bS HB.out hb);clear hb hbox hg;obtain⟨jva,jwa,jxa,jya,jza,jqa,jra,jsa,jta,jua⟩:=cz5 pz.out))
 go_loopg [3,9] k (fun kq v3 v9 w'=>∃(ah:List (List (S59))) (r9:Int),v9= .int .i64 r9∧Za (Zcg.l0 kq ah ae (ae.length:Int) r9=some r)∧Za (kq≤k)∧Za (Kd.S (Kd.slice 59 k59) 35 w' w.heap.size (fun _=>True) v3 ah)∧Za (w'.heap[HV]? =some (.cells #[(.slice bF ae.length bv),(.slice aI aa.length aG),.int .i64 aj,(.slice bi ak.length bn),(.slice bf ai.length bg)] 28 (0,0)))∧Za (Below w.heap.size w w'))
 case atStart=>exact⟨(([]:List (List (S59)))),(0),eS,H',⟨Nat.le_refl _⟩,⟨by first|exact Kd.Zge _ _ _ _ _|exact Kd.N_nil _ _ _ _ _|exact Kd.Zey _ _ _ _ _|exact Kd.Q_nil _ _ _ _ _|exact Kd.Zfk _ _ _ _ _⟩,⟨by(with_reducible repeat(first|refine Zab ?_ _|refine Zad ?_|refine Zaa ?_ _));exact pz.out⟩,⟨bM HB.out⟩⟩
 case round=>
  clear H';try clear c1
  try clear p2
  try clear jva jwa jxa jya jza jqa jra jsa jta jua
  obtain⟨ah,r9,rfl,HA,HK1,bL,pz,HB⟩:=hrel
  cases gk with
  | zero => exact absurd HA.out (by simp [Zcg.l0])
  |succ k1=>
   have H:=HA.out;clear HA;simp only[Zcg.l0]at H;by_cases c4:r9<(ae.length:Int)
   case neg=>
    rw[if_neg c4]at H;have dV:decide (r9<(ae.length:Int))=false:=decide_eq_false c4;clear c4;obtain rfl:=sj H;go_wp2;go_ret;exact⟨_,eR,sM bL.out,bM HB.out⟩
   rw[if_pos c4]at H;have dV:decide (r9<(ae.length:Int))=true:=decide_eq_true c4;clear c4;obtain⟨dS,H⟩:=ifT H;obtain⟨jh,H⟩:=ifT H;obtain⟨t236,A7,H⟩:=bnd H;try dsimp only at H
   obtain⟨c8,H⟩:=ifP H;have hQa:=Za.mk c8;clear c8;obtain⟨b4a,I8⟩:∃y_:List (List (S59)),y_=(ah++ [t236]):=⟨_,rfl⟩;replace H:(Zcg.l0 k1 b4a ae (ae.length:Int) (wrap64 (r9+1)))=some r:=by first|(rw[I8];with_reducible exact H)|(have H2_:=(Option.bind_some _ _).symm.trans H;rw[I8];with_reducible exact H2_)|(have H2_:=(Option.bind_some _ _).symm.trans H;with_reducible exact H2_)|with_reducible exact H|(rw[I8];exact H)|exact H
   have c8a:=Za.mk I8;clear I8;have H':=Za.mk H;clear H;have tAa:(0≤(r9:Int))=True:=teq;have tFa:(r9<(ae.length:Int))=True:=teq;obtain⟨cKa,SV,Tv,rfl,OY,Pb,OB,Oq⟩:=Zdc gV.out r9 odt odt;replace OY:=hB HB.out OY;replace Pb:=hB HB.out Pb;have XN:=Za.mk Oq;have X7:=Za.mk OB;clear Oq OB
   go_wp2_with (first|((with_reducible refine Zap (N:=5) rfl ?_);refine bx 5 #[.string (⟨#[]⟩:ByteArray),.slice none 0 0] 37 ?_;intro Ia hg w9 hbox hb;replace bL:=Za.mk (Kd.Zc9 (sM bL.out) hb);have PE:=Za.mk (hbox);have kFa:=Za.mk ((gE hg HB.out:w.heap.size≤Ia));replace HB:=Za.mk (bS HB.out hb);have D7:=Za.mk ((by rw[hg];exact Nat.ne_of_lt (Zbj (kM pz.out)):HV≠Ia));have Tg:=Za.mk ((by rw[hg];exact Nat.ne_of_gt (Zbj (kM pz.out)):Ia≠HV));replace pz:=Za.mk (kB pz.out hb);clear hb hbox hg;have l7a:=Tg.out;have mha:=D7.out;obtain⟨LV,LW,Lp,Lr⟩:=cz2 PE.out)|((with_reducible refine Zat (f:=31) rfl ?_);refine gl 16 Tryz.func31 #[.slice SV ((Zaq ae r9).f1).length Tv] ?_;(with_reducible refine(cloneR.calls _ _ ((Zaq ae r9).f1) t236 _ (Kd.Zaf XN.out (bM HB.out)) X7.out A7.out).mono ?_);rintro e w12 ⟨tVa,rfl,ho0,hb⟩;refine⟨_,rfl,?_⟩;replace bL:=Za.mk (Kd.Zek (sM (Kd.Zcu (Kd.Zb2 (p:=⟨Ia,1,none⟩) (Kd.Zb2 (p:=⟨Ia,0,none⟩) (Kd.Zcy bL.out PE.out (by decide)) (fun _ hk=>hk.2) (.string ((Zaq ae r9).f0))) (fun _ hk=>hk.2) (.slice SV ((Zaq ae r9).f1).length Tv)) (fun _ h_=>h_.1))) (Kd.Zb4 ho0) hb);have KQ:=Za.mk (Kd.Zbp ho0 (Zaj (bM HB.out)));replace pz:=Za.mk (Zbz (g:=HV) (o:= .cells #[.slice (some cKa) ae.length bv,.slice aI aa.length aG,.int .i64 aj,.slice bi ak.length bn,.slice bf ai.length bg] 28 (0,0)) (by(with_reducible repeat(first|refine Zab ?_ _|refine Zad ?_|refine Zaa ?_ _));refine Zav ?_ D7.out _;(with_reducible repeat(first|refine Zab ?_ _|refine Zad ?_|refine Zaa ?_ _));refine Zav ?_ D7.out _;(with_reducible repeat(first|refine Zab ?_ _|refine Zad ?_|refine Zaa ?_ _));exact pz.out) hb);replace HB:=Za.mk (bS HB.out hb);clear PE;(try clear hb);(try clear hb2);(try clear hk);(try clear hi);(try clear ho0);obtain⟨eu,eB,wQ⟩:=Kd.Za9 KQ.out;subst wQ)|((with_reducible refine Zbk (b:= .append) (xs:=#[.tmp 13,.tmp 17]) rfl ?_);at_builtin;refine Kd.Zf8 (Kd.slice 59 k59) (w0:=w) w.heap.size rfl (.tmp 13) (.tmp 17) 45 35 (.slice none 0 0) 24 rfl Tryz.underlying45 info35 rfl (by decide) (by omega) u3 ah t236 [.slice eu t236.length eB] (fun _=>True) (fun k_=>some k_=(.slice eu t236.length eB:Value).ownBlock) rfl rfl ?aP (fun k_ hk_=>((Kd.Zaw (ok':=fun k_=>((fun _=>True)) k_∧some k_≠(u3:Value).ownBlock) (Kd.Zcp (KQ.out) (Kd.Zda bL.out) (by decide)) (fun k_ hk=>⟨trivial,hk.2⟩))).1 k_ hk_.symm) ?aF ?aO ?aB ?aS ?aL ?_;(case aP=>exact Kd.M_row (Kd.Zaw (Kd.Zdr rfl (Kd.Zaw (ok':=fun k_=>((fun _=>True)) k_∧some k_≠(u3:Value).ownBlock) (Kd.Zcp (KQ.out) (Kd.Zda bL.out) (by decide)) (fun k_ hk=>⟨trivial,hk.2⟩))) (fun _ h_=>h_)));(case aB=>exact(bM HB.out));(case aF=>exact(fun _ _=>trivial));(case aO=>exact(sM (Kd.Zcu bL.out (fun k_ hk=>⟨trivial,fun e_=>hk.2 e_⟩))));(case aS=>exact(Zaj (bM HB.out)));(case aL=>have:=hQa.out;omega);intro tWa w13 ho hb hg hat;rw[←c8a.out]at ho;replace pz:=Za.mk (kG pz.out hg (Kd.S_ne bL.out pz.out (by decide)));replace HB:=Za.mk (hb);have bTa:=Za.mk (ho);clear bL KQ;clear ho hb hg hat))
   go_roundg k1
   case measure=>have:=HK1.out;omega
   case rel=>exact⟨(b4a),(wrap64 (r9+1)),eS,H',⟨by have:=HK1.out;omega⟩,⟨sM bTa.out⟩,⟨by(with_reducible repeat(first|refine Zab ?_ _|refine Zad ?_|refine Zaa ?_ _));exact pz.out⟩,⟨bM HB.out⟩⟩
def Zbx.f (bB:Int) (aa:List Int) (aT:List Int) (bz:Int) (bG:Int) (aW:List (List Int)) (bH:Int):Option ((List (S37)) × (List (S40)) × Int × List Int × List Int):=some ((([(⟨(⟨#[120]⟩:ByteArray),(([(⟨0,3⟩:S59)]:List (S59)))⟩:S37)]:List (S37))),(([(⟨bB,aa,aT,bz,bG,aW,bH⟩:S40)]:List (S40))),0,([]:List Int),([]:List Int))
set_option maxRecDepth 100000 in
theorem Zbx.calls (bB : Int) (P0_1_ : Nat → Prop) (aI : Option Addr) (aG : Nat) (aa : List Int) (P0_2_ : Nat → Prop) (dJ : Option Addr) (dK : Nat) (aT : List Int) (bz : Int) (bG : Int) (P0_5_ : Nat → Prop) (dI : Option Addr) (dH : Nat) (aW : List (List Int)) (bH : Int) (r1 : List (S37)) (r2 : List (S40)) (r3 : Int) (r4 : List Int) (r5 : List Int) (w : World) (hs0_1 : Kd.V (Kd.int .i64) 3 w w.heap.size (fun k_ => P0_1_ k_) (.slice aI aa.length aG) aa) (hs0_2 : Kd.V (Kd.int .i64) 3 w w.heap.size (fun k_ => P0_2_ k_) (.slice dJ aT.length dK) aT) (hs0_5 : Kd.V (Kd.slice 3 (Kd.int .i64)) 24 w w.heap.size (fun k_ => P0_5_ k_) (.slice dI aW.length dH) aW) (h : Zbx.f bB aa aT bz bG aW bH = some (r1, r2, r3, r4, r5)) :
  Calls Tryz.prog 24 #[.agg #[.int .i64 bB,.slice aI aa.length aG,.slice dJ aT.length dK,.int .i64 bz,.int .i64 bG,.slice dI aW.length dH,.int .i64 bH]] w fun e w'=>∃v0_ v1_ v3_ v4_:Value,e= .returned (.agg #[v0_,v1_,.int .i64 r3,v3_,v4_])∧Kd.N k37 37 w' w.heap.size (fun k_=>((P0_1_ k_∨P0_2_ k_∨P0_5_ k_)∨w.heap.size≤k_)∧some k_≠(v1_:Value).ownBlock∧some k_≠(v3_:Value).ownBlock∧some k_≠(v4_:Value).ownBlock) v0_ r1∧Kd.N k40 40 w' w.heap.size (fun k_=>((P0_1_ k_∨P0_2_ k_∨P0_5_ k_)∨w.heap.size≤k_)∧some k_≠(v0_:Value).ownBlock∧some k_≠(v3_:Value).ownBlock∧some k_≠(v4_:Value).ownBlock) v1_ r2∧Kd.R (Kd.int .i64) 3 w' w.heap.size (fun k_=>(w.heap.size≤k_)∧some k_≠(v4_:Value).ownBlock) v3_ r4∧Kd.R (Kd.int .i64) 3 w' w.heap.size (fun k_=>(w.heap.size≤k_)∧some k_≠(v3_:Value).ownBlock) v4_ r5∧Below w.heap.size w w':=by
 have hu40:=Tryz.underlying40;have hu28:=Tryz.underlying28;have hu59:=Tryz.underlying59;have hu37:=Tryz.underlying37;have sD:=Za.mk (show Kd.V (Kd.int .i64) 3 w w.heap.size (fun k_=>((P0_1_ k_∨P0_2_ k_∨P0_5_ k_)∨w.heap.size≤k_)) (.slice aI aa.length aG) aa from Kd.Zdz hs0_1 (fun k_ hk=> .inl (.inl hk)));have sF:=Za.mk (show Kd.V (Kd.int .i64) 3 w w.heap.size (fun k_=>((P0_1_ k_∨P0_2_ k_∨P0_5_ k_)∨w.heap.size≤k_)) (.slice dJ aT.length dK) aT from Kd.Zdz hs0_2 (fun k_ hk=> .inl (.inr (.inl hk))));have sG:=Za.mk (show Kd.V (Kd.slice 3 (Kd.int .i64)) 24 w w.heap.size (fun k_=>((P0_1_ k_∨P0_2_ k_∨P0_5_ k_)∨w.heap.size≤k_)) (.slice dI aW.length dH) aW from Kd.Zdz hs0_5 (fun k_ hk=> .inl (.inr (.inr hk))));have HB:=Za.mk (Below.refl w.heap.size w);have H:(some ((([(⟨(⟨#[120]⟩:ByteArray),(([(⟨0,3⟩:S59)]:List (S59)))⟩:S37)]:List (S37))),(([(⟨bB,aa,aT,bz,bG,aW,bH⟩:S40)]:List (S40))),0,([]:List Int),([]:List Int)))=some (r1,r2,r3,r4,r5):=h;clear h;obtain⟨GD,Je⟩:∃y_:List (S59),y_=(([(⟨0,3⟩:S59)]:List (S59))):=⟨_,rfl⟩;replace H:(some ((([(⟨(⟨#[120]⟩:ByteArray),GD⟩:S37)]:List (S37))),(([(⟨bB,aa,aT,bz,bG,aW,bH⟩:S40)]:List (S40))),0,([]:List Int),([]:List Int)))=some (r1,r2,r3,r4,r5):=by first|(rw[Je];with_reducible exact H)|(have H2_:=(Option.bind_some _ _).symm.trans H;rw[Je];with_reducible exact H2_)|(have H2_:=(Option.bind_some _ _).symm.trans H;with_reducible exact H2_)|with_reducible exact H|(rw[Je];exact H)|exact H
 have VH:=Za.mk Je;clear Je;obtain⟨Cw,Jf⟩:∃y_:List (S37),y_=(([(⟨(⟨#[120]⟩:ByteArray),GD⟩:S37)]:List (S37))):=⟨_,rfl⟩;replace H:(some (Cw,(([(⟨bB,aa,aT,bz,bG,aW,bH⟩:S40)]:List (S40))),0,([]:List Int),([]:List Int)))=some (r1,r2,r3,r4,r5):=by first|(rw[Jf];with_reducible exact H)|(have H2_:=(Option.bind_some _ _).symm.trans H;rw[Jf];with_reducible exact H2_)|(have H2_:=(Option.bind_some _ _).symm.trans H;with_reducible exact H2_)|with_reducible exact H|(rw[Jf];exact H)|exact H
 have VI:=Za.mk Jf;clear Jf;obtain⟨GG,Jg⟩:∃y_:List (S40),y_=(([(⟨bB,aa,aT,bz,bG,aW,bH⟩:S40)]:List (S40))):=⟨_,rfl⟩;replace H:(some (Cw,GG,0,([]:List Int),([]:List Int)))=some (r1,r2,r3,r4,r5):=by first|(rw[Jg];with_reducible exact H)|(have H2_:=(Option.bind_some _ _).symm.trans H;rw[Jg];with_reducible exact H2_)|(have H2_:=(Option.bind_some _ _).symm.trans H;with_reducible exact H2_)|with_reducible exact H|(rw[Jg];exact H)|exact H
 have VJ:=Za.mk Jg;clear Jg;simp only[Option.some.injEq,Prod.mk.injEq]at H;obtain⟨rfl,rfl,rfl,rfl,rfl⟩:=H;go_enter Tryz.func24,Tryz.ntmps24
 go_wp2_with (first|((with_reducible refine Zap (N:=1) rfl ?_);refine bx 1 #[.int .i64 bB,.slice aI aa.length aG,.slice dJ aT.length dK,.int .i64 bz,.int .i64 bG,.slice dI aW.length dH,.int .i64 bH] 40 ?_;intro l7 hg w2 hbox hb;replace sD:=Za.mk (Kd.Zfh (Kd.Zex (vM sD.out) l7 (Nat.le_of_eq hg.symm)) hb);replace sF:=Za.mk (Kd.Zfh (Kd.Zex (vM sF.out) l7 (Nat.le_of_eq hg.symm)) hb);replace sG:=Za.mk (Kd.Zfh (Kd.Zex (vM sG.out) l7 (Nat.le_of_eq hg.symm)) hb);have oF:=Za.mk (hbox);have kPa:=Za.mk ((gE hg HB.out:w.heap.size≤l7));replace HB:=Za.mk (bS HB.out hb);clear hb hbox hg)|((with_reducible refine Zap (N:=2) rfl ?_);refine bx 2 #[.slice none 0 0,.slice none 0 0,.int .i64 0,.slice none 0 0,.slice none 0 0] 28 ?_;intro gK hg w3 hbox hb;replace sD:=Za.mk (Kd.Zfh (Kd.Zex (vM sD.out) gK (Nat.le_of_eq hg.symm)) hb);replace sF:=Za.mk (Kd.Zfh (Kd.Zex (vM sF.out) gK (Nat.le_of_eq hg.symm)) hb);replace sG:=Za.mk (Kd.Zfh (Kd.Zex (vM sG.out) gK (Nat.le_of_eq hg.symm)) hb);have qM:=Za.mk (hbox);have kQa:=Za.mk ((gE hg HB.out:w.heap.size≤gK));replace HB:=Za.mk (bS HB.out hb);have Ti:=Za.mk ((by rw[hg];exact Nat.ne_of_lt (Zbj (kM oF.out)):l7≠gK));have Tj:=Za.mk ((by rw[hg];exact Nat.ne_of_gt (Zbj (kM oF.out)):gK≠l7));replace oF:=Za.mk (kB oF.out hb);clear hb hbox hg)|((with_reducible refine Zap (N:=4) rfl ?_);refine Kd.Zdf k59 _ 59 ?hg (N:=4) ?hd (xs:=([(⟨0,3⟩:S59)]:List (S59))) (inner:= [.int .i64 0,.int .i64 3]) (ok:=fun _=>True) (okp:=fun _=>True) ?hr ?hp (fun _ hk=>hk) trivial (Below.refl _ _) (Nat.le_refl _) (by simp) ?_;(case hd=>rfl);(case hg=>rfl);(case hr=>first|(go_simp;done)|(go_simp;rfl));(case hp=>exact(Reps.c2 (show Kd.M k59 _ _ _ (⟨0,3⟩:S59) [.int .i64 0,.int .i64 3]from(Zgo _ _ _ (⟨0,3⟩:S59))) (Reps.none _ _)));intro ula w4 ho5 hb hg_ hnew_;clear hg_ hnew_;(first|rw[←VH.out]at ho5|(simp only[Int.reduceToNat]at ho5;rw[←VH.out]at ho5));replace sD:=Za.mk (Kd.Zew (vM sD.out) (Kd.Zb4 ho5) hb);replace sF:=Za.mk (Kd.Zew (vM sF.out) (Kd.Zb4 ho5) hb);replace sG:=Za.mk (Kd.Zew (vM sG.out) (Kd.Zb4 ho5) hb);have KS:=Za.mk (Kd.Zbp (Kd.R_newM (M:=fun k_=>(w.heap.size≤k_)) ho5 (Zaj (bM HB.out)) (fun k_ h_=>h_)) (Zaj (bM HB.out)));replace oF:=Za.mk (kB oF.out hb);replace qM:=Za.mk (kB qM.out hb);replace HB:=Za.mk (bS HB.out hb);clear hb ho5;obtain⟨Ao6,co6,eo6⟩:=Kd.Za9 KS.out;subst eo6)|((with_reducible refine Zap (N:=6) rfl ?_);refine Kd.N_lit k37 _ 37 ?hg (N':=6) ?hd (xs:=([(⟨(⟨#[120]⟩:ByteArray),GD⟩:S37)]:List (S37))) (inner:= [.string (⟨#[120]⟩:ByteArray),.slice Ao6 GD.length co6]) (ok:=(fun k_=>((P0_1_ k_∨P0_2_ k_∨P0_5_ k_)∨w.heap.size≤k_)∧k_≠l7∧k_≠gK)) (okp:=(fun k_=>((P0_1_ k_∨P0_2_ k_∨P0_5_ k_)∨w.heap.size≤k_)∧k_≠l7∧k_≠gK)) ?hr ?hp (fun _ hk=>hk) ((show ∀k_,w4.heap.size≤k_→(fun k_=>((P0_1_ k_∨P0_2_ k_∨P0_5_ k_)∨w.heap.size≤k_)∧k_≠l7∧k_≠gK) k_ from fun k_ hk=>⟨(.inr (Nat.le_trans (Zaj (bM HB.out)) hk)),Kd.freshB (kM oF.out) k_ hk,Kd.freshB (kM qM.out) k_ hk⟩) _ (Nat.le_refl _)) (Below.refl _ _) (Nat.le_refl _) (by simp) ?_;(case hd=>rfl);(case hg=>rfl);(case hr=>first|(go_simp;done)|(go_simp;rfl));(case hp=>exact(Reps.c2 (show Kd.FK k37 _ _ (⟨(⟨#[120]⟩:ByteArray),GD⟩:S37) [.string (⟨#[120]⟩:ByteArray),.slice Ao6 GD.length co6]from(k37_mkF _ _ (⟨(⟨#[120]⟩:ByteArray),GD⟩:S37) (Kd.Za3 (Kd.Zaw (ok':=(fun k_=>((P0_1_ k_∨P0_2_ k_∨P0_5_ k_)∨w.heap.size≤k_)∧k_≠l7∧k_≠gK)) (Kd.Zbh (Kd.Zbh (KS.out) oF.out (by decide)) qM.out (by decide)) (fun k_ hk=>⟨(.inr (hk.1.1.1)),⟨hk.1.2,hk.2⟩⟩))).2.1 (Kd.R_F (Kd.Zaw (ok':=(fun k_=>((P0_1_ k_∨P0_2_ k_∨P0_5_ k_)∨w.heap.size≤k_)∧k_≠l7∧k_≠gK)) (Kd.Zbh (Kd.Zbh (KS.out) oF.out (by decide)) qM.out (by decide)) (fun k_ hk=>⟨(.inr (hk.1.1.1)),⟨hk.1.2,hk.2⟩⟩))))) (Reps.none _ _)));intro Cc w7 ho8 hb hg_ hnew_;clear hg_ hnew_;(first|rw[←VI.out]at ho8|(simp only[Int.reduceToNat]at ho8;rw[←VI.out]at ho8));replace sD:=Za.mk (Kd.Zew (vM sD.out) (Kd.Zhc ho8) hb);replace sF:=Za.mk (Kd.Zew (vM sF.out) (Kd.Zhc ho8) hb);replace sG:=Za.mk (Kd.Zew (vM sG.out) (Kd.Zhc ho8) hb);have Hg:=Za.mk (Kd.Zff ho8 (Zaj (bM HB.out)));replace oF:=Za.mk (kB oF.out hb);replace qM:=Za.mk (kB qM.out hb);replace HB:=Za.mk (bS HB.out hb);clear KS;clear hb ho8;have a4a:=Ti.out;have a5a:=Tj.out;obtain⟨qy,qz,q8,qW,qX,CF,CJ,qp,qw,qx,qU,qV,Cf,Cg⟩:=cz7 oF.out)|((with_reducible refine Zap (N:=8) rfl ?_);refine Kd.N_lit k40 _ 40 ?hg (N':=8) ?hd (xs:=([(⟨bB,aa,aT,bz,bG,aW,bH⟩:S40)]:List (S40))) (inner:= [.int .i64 bB,.slice aI aa.length aG,.slice dJ aT.length dK,.int .i64 bz,.int .i64 bG,.slice dI aW.length dH,.int .i64 bH]) (ok:=(fun k_=>((P0_1_ k_∨P0_2_ k_∨P0_5_ k_)∨w.heap.size≤k_)∧some k_≠(Cc:Value).ownBlock∧k_≠l7∧k_≠gK)) (okp:=(fun k_=>((P0_1_ k_∨P0_2_ k_∨P0_5_ k_)∨w.heap.size≤k_)∧some k_≠(Cc:Value).ownBlock∧k_≠l7∧k_≠gK)) ?hr ?hp (fun _ hk=>hk) ((show ∀k_,w7.heap.size≤k_→(fun k_=>((P0_1_ k_∨P0_2_ k_∨P0_5_ k_)∨w.heap.size≤k_)∧some k_≠(Cc:Value).ownBlock∧k_≠l7∧k_≠gK) k_ from fun k_ hk=>⟨(.inr (Nat.le_trans (Zaj (bM HB.out)) hk)),Kd.fresh' (Kd.N_lt (nM Hg.out)) k_ hk,Kd.freshB (kM oF.out) k_ hk,Kd.freshB (kM qM.out) k_ hk⟩) _ (Nat.le_refl _)) (Below.refl _ _) (Nat.le_refl _) (by simp) ?_;(case hd=>rfl);(case hg=>rfl);(case hr=>first|(go_simp;done)|(go_simp;rfl));(case hp=>exact(Reps.c7 (show Kd.FK k40 _ _ (⟨bB,aa,aT,bz,bG,aW,bH⟩:S40) [.int .i64 bB,.slice aI aa.length aG,.slice dJ aT.length dK,.int .i64 bz,.int .i64 bG,.slice dI aW.length dH,.int .i64 bH]from(k40_mkF _ _ (⟨bB,aa,aT,bz,bG,aW,bH⟩:S40) (Kd.Zel (Kd.Zdz (ok':=(fun k_=>((P0_1_ k_∨P0_2_ k_∨P0_5_ k_)∨w.heap.size≤k_)∧some k_≠(Cc:Value).ownBlock∧k_≠l7∧k_≠gK)) (sD.out) (fun k_ hk=>⟨hk.1.1.1.1,⟨hk.2,⟨hk.1.1.1.2,hk.1.1.2⟩⟩⟩))).2.1 (Kd.V_F (Kd.Zdz (ok':=(fun k_=>((P0_1_ k_∨P0_2_ k_∨P0_5_ k_)∨w.heap.size≤k_)∧some k_≠(Cc:Value).ownBlock∧k_≠l7∧k_≠gK)) (sD.out) (fun k_ hk=>⟨hk.1.1.1.1,⟨hk.2,⟨hk.1.1.1.2,hk.1.1.2⟩⟩⟩))) (Kd.Zel (Kd.Zdz (ok':=(fun k_=>((P0_1_ k_∨P0_2_ k_∨P0_5_ k_)∨w.heap.size≤k_)∧some k_≠(Cc:Value).ownBlock∧k_≠l7∧k_≠gK)) (sF.out) (fun k_ hk=>⟨hk.1.1.1.1,⟨hk.2,⟨hk.1.1.1.2,hk.1.1.2⟩⟩⟩))).2.1 (Kd.V_F (Kd.Zdz (ok':=(fun k_=>((P0_1_ k_∨P0_2_ k_∨P0_5_ k_)∨w.heap.size≤k_)∧some k_≠(Cc:Value).ownBlock∧k_≠l7∧k_≠gK)) (sF.out) (fun k_ hk=>⟨hk.1.1.1.1,⟨hk.2,⟨hk.1.1.1.2,hk.1.1.2⟩⟩⟩))) (Kd.Zel (Kd.Zdz (ok':=(fun k_=>((P0_1_ k_∨P0_2_ k_∨P0_5_ k_)∨w.heap.size≤k_)∧some k_≠(Cc:Value).ownBlock∧k_≠l7∧k_≠gK)) (sG.out) (fun k_ hk=>⟨hk.1.1.1.1,⟨hk.2,⟨hk.1.1.1.2,hk.1.1.2⟩⟩⟩))).2.1 (Kd.V_F (Kd.Zdz (ok':=(fun k_=>((P0_1_ k_∨P0_2_ k_∨P0_5_ k_)∨w.heap.size≤k_)∧some k_≠(Cc:Value).ownBlock∧k_≠l7∧k_≠gK)) (sG.out) (fun k_ hk=>⟨hk.1.1.1.1,⟨hk.2,⟨hk.1.1.1.2,hk.1.1.2⟩⟩⟩))))) (Reps.none _ _)));intro uma w11 kW hb hg_ hnew_;clear hg_ hnew_;(first|rw[←VJ.out]at kW|(simp only[Int.reduceToNat]at kW;rw[←VJ.out]at kW));replace Hg:=Za.mk (Kd.N_elder' (nM Hg.out) (Kd.Zhc kW) hb);have Vt:=Za.mk (Kd.Zff kW (Zaj (bM HB.out)));replace qM:=Za.mk (kB qM.out hb);replace HB:=Za.mk (bS HB.out hb);clear sD sF sG oF;clear hb kW;obtain⟨dA,dz,DX⟩:=Kd.Zc7 Vt.out;subst DX;obtain⟨eu,eB,wQ⟩:=Kd.Zc7 Hg.out;subst wQ;obtain⟨yn,yo,yt,CW,CX,xP,xQ,xR,Ck,Cm⟩:=cz5 qM.out))
 refine bodyPost_ret (results_cell_row rfl _ _ gK 28 #[.slice eu Cw.length eB,.slice dA GG.length dz,.int .i64 0,.slice none 0 0,.slice none 0 0] (0,0) _ rfl (by(with_reducible repeat(first|refine Zab ?_ _|refine Zad ?_|refine Zaa ?_ _));refine Zas (cs:=#[.slice eu Cw.length eB,.slice dA GG.length dz,.int .i64 0,.slice none 0 0,.slice none 0 0]) ?_ 4 _ rfl;(with_reducible repeat(first|refine Zab ?_ _|refine Zad ?_|refine Zaa ?_ _));refine Zas (cs:=#[.slice eu Cw.length eB,.slice dA GG.length dz,.int .i64 0,.slice none 0 0,.slice none 0 0]) ?_ 3 _ rfl;(with_reducible repeat(first|refine Zab ?_ _|refine Zad ?_|refine Zaa ?_ _));refine Zas (cs:=#[.slice eu Cw.length eB,.slice dA GG.length dz,.int .i64 0,.slice none 0 0,.slice none 0 0]) ?_ 2 _ rfl;(with_reducible repeat(first|refine Zab ?_ _|refine Zad ?_|refine Zaa ?_ _));refine Zas (cs:=#[.slice eu Cw.length eB,.slice none 0 0,.int .i64 0,.slice none 0 0,.slice none 0 0]) ?_ 1 _ rfl;(with_reducible repeat(first|refine Zab ?_ _|refine Zad ?_|refine Zaa ?_ _));refine Zas (cs:=#[.slice none 0 0,.slice none 0 0,.int .i64 0,.slice none 0 0,.slice none 0 0]) ?_ 0 _ rfl;(with_reducible repeat(first|refine Zab ?_ _|refine Zad ?_|refine Zaa ?_ _));exact qM.out) Tryz.underlying28 rfl (by kernel_rfl)) rfl ?_;exact⟨_,_,_,_,eR,nM (Kd.Ze5 (Kd.Zg3 (p:=⟨gK,4,none⟩) (Kd.Zg3 (p:=⟨gK,3,none⟩) (Kd.Zg3 (p:=⟨gK,2,none⟩) (Kd.Zg3 (p:=⟨gK,1,none⟩) (Kd.Zg3 (p:=⟨gK,0,none⟩) (Kd.Ze5 Hg.out (fun k_ hk=>(⟨hk,hk.1.2.2⟩:_∧k_≠gK))) (fun _ hk=>hk.2) (.slice eu Cw.length eB)) (fun _ hk=>hk.2) (.slice dA GG.length dz)) (fun _ hk=>hk.2) (.int .i64 0)) (fun _ hk=>hk.2) (.slice none 0 0)) (fun _ hk=>hk.2) (.slice none 0 0)) (fun _ hk=>⟨hk.1.1.1,⟨hk.1.2,⟨(by simp[Value.ownBlock]),(by simp[Value.ownBlock])⟩⟩⟩)),nM (Kd.Ze5 (Kd.Zg3 (p:=⟨gK,4,none⟩) (Kd.Zg3 (p:=⟨gK,3,none⟩) (Kd.Zg3 (p:=⟨gK,2,none⟩) (Kd.Zg3 (p:=⟨gK,1,none⟩) (Kd.Zg3 (p:=⟨gK,0,none⟩) (Kd.Ze5 Vt.out (fun k_ hk=>(⟨hk,hk.2.2.2⟩:_∧k_≠gK))) (fun _ hk=>hk.2) (.slice eu Cw.length eB)) (fun _ hk=>hk.2) (.slice dA GG.length dz)) (fun _ hk=>hk.2) (.int .i64 0)) (fun _ hk=>hk.2) (.slice none 0 0)) (fun _ hk=>hk.2) (.slice none 0 0)) (fun _ hk=>⟨hk.1.1,⟨hk.1.2.1,⟨(by simp[Value.ownBlock]),(by simp[Value.ownBlock])⟩⟩⟩)),by first|exact Kd.Zfk _ _ _ _ _|exact Kd.N_nil _ _ _ _ _|exact Kd.Zey _ _ _ _ _|exact Kd.Q_nil _ _ _ _ _|exact Kd.Zge _ _ _ _ _,by first|exact Kd.Zfk _ _ _ _ _|exact Kd.N_nil _ _ _ _ _|exact Kd.Zey _ _ _ _ _|exact Kd.Q_nil _ _ _ _ _|exact Kd.Zge _ _ _ _ _,bM HB.out⟩
end Go.Proofs.YtkgjaklnbgdmiaaGreat.P
/- The map of the names that came: a set of texts. -/
namespace Go.Proofs.YtkgjaklnbgdmiaaGreat.P
open Go.RowKit Go.WideMaps Go.Maps Go.Proofs.YtkgjaklnbgdmiaaGreatW.PrintWords Go.Proofs.YtkgjaklnbgdmiaaGreatW.PrintLast Go.Proofs.YtkgjaklnbgdmiaaGreatW.PrintMore
theorem keyedS:Keyed Tryz.prog 9:=string_keyed Tryz.underlying9
def nameLit (s:ByteArray):Lit:= .string s.data.toList
theorem Zfz {s:ByteArray} (h:s.size≤maxLen):keyOf Tryz.prog 9 (.string s)=some (nameLit s):=keyOf_string_mk Tryz.underlying9 h
theorem nameLit_inj {a b:ByteArray} (e:nameLit a=nameLit b):a=b:=by
  unfold nameLit at e
  injection e with e
  cases a;cases b
  congr 1
  exact Array.toList_inj.1 e
def hasN (L:List ByteArray) (x:ByteArray):Bool:=L.any fun y=>y.toList==x.toList
theorem bytes_ext {a b:ByteArray} (e:a.toList=b.toList):a=b:=by
  rw[ByteArray.toList_eq,ByteArray.toList_eq]at e;cases a;cases b
  congr 1
  exact Array.toList_inj.1 e
theorem hasN_iff (L:List ByteArray) (x:ByteArray):hasN L x=true↔x ∈ L:=by
  unfold hasN;rw[List.any_eq_true]
  constructor
  · rintro ⟨y, hy, e⟩
    rwa [←bytes_ext (beq_iff_eq.1 e)]
  intro h;exact⟨x,h,beq_iff_eq.2 rfl⟩
theorem hasN_false (L:List ByteArray) (x:ByteArray) (h:¬x ∈ L):hasN L x=false:=by
  cases e:hasN L x with
  | false => rfl
  |true=>exact absurd ((hasN_iff L x).1 e) h
theorem Zgf {H : Type} (u z : DataW H) (k : Lit) : ∀ (acc : List Lit) (m : DataW H), k ∉ acc → (acc.foldl (fun m x => m.put x u) m).atKey k z = m.atKey k z
  | [], m, _ => rfl
  |x::r,m,h=>by
    rw[List.foldl_cons,Zgf u z k r (m.put x u) (fun e=>h (by simp[e])),atKey_put_other (fun e=>h (by simp[e]))]
theorem atKey_in {H : Type} (u z : DataW H) (k : Lit) (hk : WideAt.IsKeyLit k) : ∀ (acc : List Lit) (m : DataW H), IsMap m → k ∈ acc → (acc.foldl (fun m x => m.put x u) m).atKey k z = u
  | [], m, _, h => by cases h
  |x::r,m,hm,h=>by
    rw[List.foldl_cons]
    rcases Classical.em (k ∈ r)with hr|hr
    · exact atKey_in u z k hk r (m.put x u) (hm.put x u) hr
    rw[Zgf u z k r _ hr];obtain rfl:k=x:=(List.mem_cons.1 h).resolve_right hr;exact atKey_put_same hm hk u z
def SetN (w:World) (b:Nat) (L:List ByteArray):Prop:=w.ownsMap (H:=Unit) Tryz.prog 9 (plainElem Tryz.prog 4) b L.length (setOf (.lit (.bool true)) (L.map nameLit))
theorem SetN.below {w w':World} {b:Nat} {L:List ByteArray} (h:SetN w b L) (hb:Below w.heap.size w w'):SetN w' b L:=by
  have hlt:=World.ownsMap.lt h;obtain⟨es,clock,h1,F,hs,hD⟩:=h;exact⟨es,clock,(hb.block b hlt).trans h1,F,hs,hD⟩
theorem SetN.lt {w:World} {b:Nat} {L:List ByteArray} (h:SetN w b L):b<w.heap.size:=World.ownsMap.lt h
set_option maxRecDepth 100000 in
theorem SetN.look {w:World} {b:Nat} {L:List ByteArray} {x:ByteArray} (h:SetN w b L) (hx:x.size≤maxLen):(Instr.lookup 42 (.map (some b)) (.string x) false).run Tryz.prog w= .ok (.bool (hasN L x)) w:=by
  obtain⟨v,ps,hrun,hv⟩:=World.ownsMap.lookup h keyedS Tryz.underlying42 (z:= .bool false) (by kernel_rfl) (plainElem_bool Tryz.underlying4 false) (Zfz hx)
  have e:(nameLit x ∈ L.map nameLit)↔x ∈ L:=by
    rw[List.mem_map]
    constructor
    · rintro ⟨y, hy, e⟩
      rwa [←nameLit_inj e]
    intro hy;exact⟨x,hy,rfl⟩
  rw[hrun]
  have hb:v= .bool (hasN L x):=by
    have hc:∃c,v= .bool c∧((setOf (.lit (.bool true)) (L.map nameLit)).atKey (nameLit x) (.lit (.bool false)):DataW Unit)= .lit (.bool c):=by
      unfold plainElem at hv;rw[Tryz.underlying4]at hv;clear hrun e h
      generalize ((setOf (.lit (.bool true)) (L.map nameLit)).atKey (nameLit x) (.lit (.bool false)):DataW Unit)=dd at hv ⊢
      cases v<;>simp at hv
      exact⟨_,rfl,hv.1.symm⟩
    obtain⟨c,rfl,hc⟩:=hc
    rcases Classical.em (x ∈ L)with hm|hm
    · have := (atKey_in (.lit (.bool true)) (.lit (.bool false)) _ (keyedS.key (Zfz hx)) _ _ isMap_empty (e.2 hm)).symm.trans hc
      simp at this
      rw[(hasN_iff L x).2 hm,this]
    have:=(Zgf (.lit (.bool true)) (.lit (.bool false)) (nameLit x) (L.map nameLit) (.map []) (fun h=>hm (e.1 h))).symm.trans hc;have e2:((DataW.map []:DataW Unit).atKey (nameLit x) (.lit (.bool false)))= .lit (.bool false):=rfl;rw[e2]at this
    simp at this
    rw[hasN_false L x hm,this]
  rw[hb]
theorem SetN.made (w:World):SetN (w.alloc (.map #[] 0)) w.heap.size []:=World.ownsMap_made w _ _ _
theorem Zeo {w : World} {ops : Array Oper} {rest : List Oper} {o : Oper} {a : Act} {Q : Exit → Act → World → Prop} (hg : o.guard = none) (m x : Operand) (hop : o.op = Op.lookup 42 m x false) {b : Nat} {L : List ByteArray} {q : ByteArray}
    (hm:a.eval m= .map (some b)) (h:SetN w b L) (hx:a.eval x= .string q) (hq:q.size≤maxLen) (hK:wpList Tryz.prog ops Q rest (a.put o.dst (.bool (hasN L q))) w):wpList Tryz.prog ops Q (o::rest) a w:=by
  refine wpList_plain hg fun K' hK'=> ?_
  have hrun:=h.look hq;unfold Oper.wp
  simp[execOp,hop,hm,hx,hrun,Result.andThen]
  exact hK' _ _ hK
theorem wpList_putN {w : World} {ops : Array Oper} {rest : List Oper} {o : Oper} {a : Act} {Q : Exit → Act → World → Prop} (hg : o.guard = none) (m x v : Operand) (hop : o.op = Op.mapUpdate 42 m x v) {b : Nat} {L : List ByteArray} {q : ByteArray}
    (hm:a.eval m= .map (some b)) (h:SetN w b L) (hx:a.eval x= .string q) (hv:a.eval v= .bool true) (hq:q.size≤maxLen) (hn:L.length<maxLen) (hK:∀w',SetN w' b (L++ [q])→w.grownBy w' (some b)→wpList Tryz.prog ops Q rest (a.put o.dst undef) w'):wpList Tryz.prog ops Q (o::rest) a w:=by
  refine wpList_plain hg fun K' hK'=> ?_
  obtain⟨w',hrun,r1,r2⟩:=World.ownsMap.update h keyedS Tryz.underlying42 hn (Zfz hq) (plainElem_bool Tryz.underlying4 true)
  have r3:SetN w' b (L++ [q]):=by
    unfold SetN;rw[List.map_append,List.map_cons,List.map_nil,setOf_snoc,List.length_append];exact r1
  unfold Oper.wp
  simp[execOp,hop,hm,hx,hv,hrun,Result.andThen]
  exact hK' _ _ (hK w' r3 r2)
end Go.Proofs.YtkgjaklnbgdmiaaGreat.P
/- model.Name: may a text be a name? (a range over a string) -/
namespace Go.Proofs.YtkgjaklnbgdmiaaGreat.P
open Go.RowKit Go.Proofs.YtkgjaklnbgdmiaaGreatW.PrintWords Go.Proofs.YtkgjaklnbgdmiaaGreatW.PrintLast Go.Proofs.YtkgjaklnbgdmiaaGreatW.PrintMore
def okAt (i c:Nat):Bool:=(decide (97≤c) && decide (c≤122))||(!decide (i=0) && (decide (c=95)||(decide (48≤c) && decide (c≤57))))
def nameGo (s : ByteArray) : Nat → Nat → Bool
  | 0, _ => true
  |b+1,pos=>if h:pos<s.size then okAt pos (s[pos]'h).toNat && nameGo s b (pos+1)else true
def Zcw.f (a0:ByteArray):Option Bool:=some (!decide (a0.size=0) && (decide (a0.size≤16) && nameGo a0 a0.size 0))
theorem nameGo_end (s:ByteArray) (b pos:Nat) (h:¬pos<s.size):nameGo s b pos=true:=by
  cases b with
  | zero => rfl
  |succ b=>simp[nameGo,h]
theorem okAt_high (i c:Nat) (h:128≤c):okAt i c=false:=by
  have h1:decide (c≤122)=false:=decide_eq_false (by omega);have h2:decide (c=95)=false:=decide_eq_false (by omega);have h3:decide (c≤57)=false:=decide_eq_false (by omega)
  simp[okAt,h1,h2,h3]
set_option maxRecDepth 1000000 in
theorem Zcw.calls (a0 : ByteArray) (r : Bool) (w : World) (h : Zcw.f a0 = some r) :
    Calls Tryz.prog 11 #[.string a0] w fun e w'=>e= .returned (.bool r)∧Below w.heap.size w w':=by
  obtain rfl:=Option.some.inj h;clear h;by_cases h0:a0.size=0
  · have d0 : decide (a0.size = 0) = true := decide_eq_true h0
    have e0:a0=⟨#[]⟩:=by
      have:a0.data=#[]:=Array.eq_empty_of_size_eq_zero h0;cases a0;simpa using this
    subst e0;go_enter Tryz.func11,Tryz.ntmps11;go_wp2;go_ret;exact⟨by rfl,Below.refl _ _⟩
  have d0:decide (a0.size=0)=false:=decide_eq_false h0
  have eE:a0.toList.isEmpty=false:=by
    rw[ByteArray.toList_eq]
    cases hd:a0.data.toList with
    | nil => exact absurd (show a0.data.size = 0 by rw [← Array.length_toList, hd]; rfl) h0
    |cons a l=>rfl
  have DD:=Za.mk d0;clear d0 h0;by_cases h16:16<a0.size
  · have e1 : decide (16 < (a0.size : Int)) = true := decide_eq_true (by omega)
    have e2:decide (16<a0.size)=true:=decide_eq_true h16;have e3:Za (decide (a0.size≤16)=false):=⟨decide_eq_false (by omega)⟩;clear h16;go_enter Tryz.func11,Tryz.ntmps11;go_wp2;go_ret;exact⟨by rw[DD.out,e3.out];rfl,Below.refl _ _⟩
  have e1:decide (16<(a0.size:Int))=false:=decide_eq_false (by omega);have e2:decide (16<a0.size)=false:=decide_eq_false h16;have e3:Za (decide (a0.size≤16)=true):=⟨decide_eq_true (by omega)⟩;have hsz:a0.size≤16:=by omega
  clear h16;rw[DD.out,e3.out]
  show Calls _ _ _ _ fun e w'=>e= .returned (.bool (nameGo a0 a0.size 0))∧_
  obtain⟨wo,rfl⟩:∃wo:World,wo=w:=⟨_,rfl⟩;go_enter Tryz.func11,Tryz.ntmps11;go_wp2
  go_loopw [3,4,5] (fun s3 s4 s5 w'=>∃(pos b:Nat),w'=wo.iter a0 pos∧Za (nameGo a0 b pos=nameGo a0 a0.size 0)∧Za (a0.size≤pos+b)) (fun _ _ _ w'=>a0.size - w'.iterPos wo.heap.size)
  case atStart=>exact⟨0,a0.size,rfl,⟨rfl⟩,⟨by omega⟩⟩
  case round=>
    obtain⟨pos,b,rfl,hc,hb⟩:=hrel;by_cases hp:pos<a0.size;rotate_left
    · have hnx : ∀ ty, (Instr.next (.pointer (some ⟨wo.heap.size, 0, none⟩)) true ty).run Tryz.prog (wo.iter a0 pos) = _ := fun ty => run_next_end wo a0 pos ty hp
      go_wp2;go_ret;have:=hc.out;rw[nameGo_end a0 b pos hp]at this;rw[←this];exact⟨rfl,Zb (Below.refl _ _) _⟩
    skip
    by_cases ha:(a0[pos]'hp).toNat<128;rotate_left
    · have hnx := fun ty => run_next_any (P := Tryz.prog) wo a0 pos ty hp
      have hh:=(decode_high a0 pos hp (by omega)).1;have OKx:Za (okAt pos (a0[pos]'hp).toNat=false):=⟨okAt_high pos _ (by omega)⟩
      generalize (Utf8.decode a0 pos).1=c at hnx hh
      generalize pos+(Utf8.decode a0 pos).2=pos2 at hnx
      have OK:=OKx;clear OKx;have a1:decide ((97:Int)≤(c:Int))=true:=decide_eq_true (by omega);have a2:decide ((c:Int)≤122)=false:=decide_eq_false (by omega);have a4:((c:Int)==95)=false:=beq_eq_false_iff_ne.2 (by omega);have a4n:((c:Int) !=95)=true:=by simp only[bne,a4,Bool.not_false]
      have a4d:decide ((c:Int)=95)=false:=decide_eq_false (by omega);have a5:decide ((c:Int)<48)=false:=decide_eq_false (by omega);have a6:decide ((57:Int)<(c:Int))=true:=decide_eq_true (by omega);by_cases q3:pos=0
      · subst q3
        go_wp2;go_ret;refine⟨?_,Zb (Below.refl _ _) _⟩;rw[←hc.out]
        cases b with
        | zero => exact absurd hb.out (by omega)
        |succ b=>(first|rw[nameGo,dif_pos hp,HX.out,OK.out,Bool.false_and]|rw[nameGo,dif_pos hp,OK.out,Bool.false_and]);rfl
      skip
      have a3:((pos:Int)==0)=false:=beq_eq_false_iff_ne.2 (by omega);have a3n:((pos:Int) !=0)=true:=by simp only[bne,a3,Bool.not_false]
      have a3d:decide ((pos:Int)=0)=false:=decide_eq_false (by omega);go_wp2;go_ret;refine⟨?_,Zb (Below.refl _ _) _⟩;rw[←hc.out]
      cases b with
      | zero => exact absurd hb.out (by omega)
      |succ b=>(first|rw[nameGo,dif_pos hp,HX.out,OK.out,Bool.false_and]|rw[nameGo,dif_pos hp,OK.out,Bool.false_and]);rfl
    have hnx:=fun ty=>run_next_ascii (P:=Tryz.prog) wo a0 pos ty hp ha
    generalize hx:(a0[pos]'hp).toNat=c at hnx ha
    have HX:=Za.mk hx;clear hx;by_cases q1:97≤c;rotate_left
    · skip
      have a1:decide ((97:Int)≤(c:Int))=false:=decide_eq_false (by omega);by_cases q3:pos=0
      · skip
        have OK:Za (okAt pos c=false):=⟨by by_cases z1:97≤c<;>by_cases z2:c≤122<;>by_cases z3:pos=0<;>by_cases z4:c=95<;>by_cases z5:48≤c<;>by_cases z6:c≤57<;>first|(exfalso;omega)|simp[okAt,z1,z2,z3,z4,z5,z6]⟩;subst q3;go_wp2;go_ret;refine⟨?_,Zb (Below.refl _ _) _⟩;rw[←hc.out]
        cases b with
        | zero => exact absurd hb.out (by omega)
        |succ b=>(first|rw[nameGo,dif_pos hp,HX.out,OK.out,Bool.false_and]|rw[nameGo,dif_pos hp,OK.out,Bool.false_and]);rfl
      skip
      have a3:((pos:Int)==0)=false:=beq_eq_false_iff_ne.2 (by omega);have a3n:((pos:Int) !=0)=true:=by simp only[bne,a3,Bool.not_false]
      have a3d:decide ((pos:Int)=0)=false:=decide_eq_false (by omega);by_cases q4:c=95
      · skip
        have OK:Za (okAt pos c=true):=⟨by by_cases z1:97≤c<;>by_cases z2:c≤122<;>by_cases z3:pos=0<;>by_cases z4:c=95<;>by_cases z5:48≤c<;>by_cases z6:c≤57<;>first|(exfalso;omega)|simp[okAt,z1,z2,z3,z4,z5,z6]⟩;have a4:((c:Int)==95)=true:=beq_iff_eq.2 (by omega);have a4n:((c:Int) !=95)=false:=by simp only[bne,a4,Bool.not_true]
        have a4d:decide ((c:Int)=95)=true:=decide_eq_true (by omega);go_wp2
        go_roundw
        case rel=>
          cases b with
          | zero => exact absurd hb.out (by omega)
          |succ b=>
            refine⟨pos+1,b,rfl,⟨?_⟩,⟨by have:=hb.out;omega⟩⟩;rw[←hc.out,nameGo,dif_pos hp,HX.out,OK.out,Bool.true_and]
        case measure=>simp;omega
      skip
      have a4:((c:Int)==95)=false:=beq_eq_false_iff_ne.2 (by omega);have a4n:((c:Int) !=95)=true:=by simp only[bne,a4,Bool.not_false]
      have a4d:decide ((c:Int)=95)=false:=decide_eq_false (by omega);by_cases q5:c<48
      · skip
        have OK:Za (okAt pos c=false):=⟨by by_cases z1:97≤c<;>by_cases z2:c≤122<;>by_cases z3:pos=0<;>by_cases z4:c=95<;>by_cases z5:48≤c<;>by_cases z6:c≤57<;>first|(exfalso;omega)|simp[okAt,z1,z2,z3,z4,z5,z6]⟩;have a5:decide ((c:Int)<48)=true:=decide_eq_true (by omega);go_wp2;go_ret;refine⟨?_,Zb (Below.refl _ _) _⟩;rw[←hc.out]
        cases b with
        | zero => exact absurd hb.out (by omega)
        |succ b=>(first|rw[nameGo,dif_pos hp,HX.out,OK.out,Bool.false_and]|rw[nameGo,dif_pos hp,OK.out,Bool.false_and]);rfl
      skip
      have a5:decide ((c:Int)<48)=false:=decide_eq_false (by omega);by_cases q6:57<c
      · skip
        have OK:Za (okAt pos c=false):=⟨by by_cases z1:97≤c<;>by_cases z2:c≤122<;>by_cases z3:pos=0<;>by_cases z4:c=95<;>by_cases z5:48≤c<;>by_cases z6:c≤57<;>first|(exfalso;omega)|simp[okAt,z1,z2,z3,z4,z5,z6]⟩;have a6:decide ((57:Int)<(c:Int))=true:=decide_eq_true (by omega);go_wp2;go_ret;refine⟨?_,Zb (Below.refl _ _) _⟩;rw[←hc.out]
        cases b with
        | zero => exact absurd hb.out (by omega)
        |succ b=>(first|rw[nameGo,dif_pos hp,HX.out,OK.out,Bool.false_and]|rw[nameGo,dif_pos hp,OK.out,Bool.false_and]);rfl
      skip
      have OK:Za (okAt pos c=true):=⟨by by_cases z1:97≤c<;>by_cases z2:c≤122<;>by_cases z3:pos=0<;>by_cases z4:c=95<;>by_cases z5:48≤c<;>by_cases z6:c≤57<;>first|(exfalso;omega)|simp[okAt,z1,z2,z3,z4,z5,z6]⟩;have a6:decide ((57:Int)<(c:Int))=false:=decide_eq_false (by omega);go_wp2
      go_roundw
      case rel=>
        cases b with
        | zero => exact absurd hb.out (by omega)
        |succ b=>
          refine⟨pos+1,b,rfl,⟨?_⟩,⟨by have:=hb.out;omega⟩⟩;rw[←hc.out,nameGo,dif_pos hp,HX.out,OK.out,Bool.true_and]
      case measure=>simp;omega
    by_cases q2:c≤122
    · skip
      have OK:Za (okAt pos c=true):=⟨by by_cases z1:97≤c<;>by_cases z2:c≤122<;>by_cases z3:pos=0<;>by_cases z4:c=95<;>by_cases z5:48≤c<;>by_cases z6:c≤57<;>first|(exfalso;omega)|simp[okAt,z1,z2,z3,z4,z5,z6]⟩;have a1:decide ((97:Int)≤(c:Int))=true:=decide_eq_true (by omega);have a2:decide ((c:Int)≤122)=true:=decide_eq_true (by omega);clear q1 q2 ha;go_wp2
      go_roundw
      case rel=>
        cases b with
        | zero => exact absurd hb.out (by omega)
        |succ b=>
          refine⟨pos+1,b,rfl,⟨?_⟩,⟨by have:=hb.out;omega⟩⟩;rw[←hc.out,nameGo,dif_pos hp,HX.out,OK.out,Bool.true_and]
      case measure=>simp;omega
    skip
    have a1:decide ((97:Int)≤(c:Int))=true:=decide_eq_true (by omega);have a2:decide ((c:Int)≤122)=false:=decide_eq_false (by omega);by_cases q3:pos=0
    · skip
      have OK:Za (okAt pos c=false):=⟨by by_cases z1:97≤c<;>by_cases z2:c≤122<;>by_cases z3:pos=0<;>by_cases z4:c=95<;>by_cases z5:48≤c<;>by_cases z6:c≤57<;>first|(exfalso;omega)|simp[okAt,z1,z2,z3,z4,z5,z6]⟩;subst q3;go_wp2;go_ret;refine⟨?_,Zb (Below.refl _ _) _⟩;rw[←hc.out]
      cases b with
      | zero => exact absurd hb.out (by omega)
      |succ b=>(first|rw[nameGo,dif_pos hp,HX.out,OK.out,Bool.false_and]|rw[nameGo,dif_pos hp,OK.out,Bool.false_and]);rfl
    skip
    have a3:((pos:Int)==0)=false:=beq_eq_false_iff_ne.2 (by omega);have a3n:((pos:Int) !=0)=true:=by simp only[bne,a3,Bool.not_false]
    have a3d:decide ((pos:Int)=0)=false:=decide_eq_false (by omega);by_cases q4:c=95
    · skip
      have OK:Za (okAt pos c=true):=⟨by by_cases z1:97≤c<;>by_cases z2:c≤122<;>by_cases z3:pos=0<;>by_cases z4:c=95<;>by_cases z5:48≤c<;>by_cases z6:c≤57<;>first|(exfalso;omega)|simp[okAt,z1,z2,z3,z4,z5,z6]⟩;have a4:((c:Int)==95)=true:=beq_iff_eq.2 (by omega);have a4n:((c:Int) !=95)=false:=by simp only[bne,a4,Bool.not_true]
      have a4d:decide ((c:Int)=95)=true:=decide_eq_true (by omega);go_wp2
      go_roundw
      case rel=>
        cases b with
        | zero => exact absurd hb.out (by omega)
        |succ b=>
          refine⟨pos+1,b,rfl,⟨?_⟩,⟨by have:=hb.out;omega⟩⟩;rw[←hc.out,nameGo,dif_pos hp,HX.out,OK.out,Bool.true_and]
      case measure=>simp;omega
    skip
    have a4:((c:Int)==95)=false:=beq_eq_false_iff_ne.2 (by omega);have a4n:((c:Int) !=95)=true:=by simp only[bne,a4,Bool.not_false]
    have a4d:decide ((c:Int)=95)=false:=decide_eq_false (by omega);by_cases q5:c<48
    · skip
      have OK:Za (okAt pos c=false):=⟨by by_cases z1:97≤c<;>by_cases z2:c≤122<;>by_cases z3:pos=0<;>by_cases z4:c=95<;>by_cases z5:48≤c<;>by_cases z6:c≤57<;>first|(exfalso;omega)|simp[okAt,z1,z2,z3,z4,z5,z6]⟩;have a5:decide ((c:Int)<48)=true:=decide_eq_true (by omega);go_wp2;go_ret;refine⟨?_,Zb (Below.refl _ _) _⟩;rw[←hc.out]
      cases b with
      | zero => exact absurd hb.out (by omega)
      |succ b=>(first|rw[nameGo,dif_pos hp,HX.out,OK.out,Bool.false_and]|rw[nameGo,dif_pos hp,OK.out,Bool.false_and]);rfl
    skip
    have a5:decide ((c:Int)<48)=false:=decide_eq_false (by omega);by_cases q6:57<c
    · skip
      have OK:Za (okAt pos c=false):=⟨by by_cases z1:97≤c<;>by_cases z2:c≤122<;>by_cases z3:pos=0<;>by_cases z4:c=95<;>by_cases z5:48≤c<;>by_cases z6:c≤57<;>first|(exfalso;omega)|simp[okAt,z1,z2,z3,z4,z5,z6]⟩;have a6:decide ((57:Int)<(c:Int))=true:=decide_eq_true (by omega);go_wp2;go_ret;refine⟨?_,Zb (Below.refl _ _) _⟩;rw[←hc.out]
      cases b with
      | zero => exact absurd hb.out (by omega)
      |succ b=>(first|rw[nameGo,dif_pos hp,HX.out,OK.out,Bool.false_and]|rw[nameGo,dif_pos hp,OK.out,Bool.false_and]);rfl
    skip
    have OK:Za (okAt pos c=true):=⟨by by_cases z1:97≤c<;>by_cases z2:c≤122<;>by_cases z3:pos=0<;>by_cases z4:c=95<;>by_cases z5:48≤c<;>by_cases z6:c≤57<;>first|(exfalso;omega)|simp[okAt,z1,z2,z3,z4,z5,z6]⟩;have a6:decide ((57:Int)<(c:Int))=false:=decide_eq_false (by omega);go_wp2
    go_roundw
    case rel=>
      cases b with
      | zero => exact absurd hb.out (by omega)
      |succ b=>
        refine⟨pos+1,b,rfl,⟨?_⟩,⟨by have:=hb.out;omega⟩⟩;rw[←hc.out,nameGo,dif_pos hp,HX.out,OK.out,Bool.true_and]
    case measure=>simp;omega
end Go.Proofs.YtkgjaklnbgdmiaaGreat.P
/- The iterators that the program goes over: the values of a slice (slices.Values); what comes, round by round, for every loop body that keeps the rest of memory. -/
namespace Go.Proofs.YtkgjaklnbgdmiaaGreat.P
open Go.RowKit Go.Shelf Go.Proofs.YtkgjaklnbgdmiaaGreatW.PrintWords Go.Proofs.YtkgjaklnbgdmiaaGreatW.PrintLast Go.Proofs.YtkgjaklnbgdmiaaGreatW.PrintMore
attribute [local go_sem] Oper.semAt_some
def KeepsTy (t:Nat) (W W':World):Prop:=∀(k:Nat) (cs:Array Value) (fr:Nat × Nat),W.heap[k]? =some (Obj.cells cs t fr)→W'.heap[k]? =some (Obj.cells cs t fr)
theorem KeepsTy.refl (t:Nat) (W:World):KeepsTy t W W:=fun _ _ _ h=>h
theorem KeepsTy.trans {t:Nat} {A B C:World} (h:KeepsTy t A B) (k:KeepsTy t B C):KeepsTy t A C:=fun i cs fr hi=>k i cs fr (h i cs fr hi)
theorem KeepsTy.grown {t:Nat} {W W':World} {row:Option Nat} (hg:W.grownBy W' row) (hr:∀r,row=some r→∀cs fr,W.heap[r]? ≠some (Obj.cells cs t fr)):KeepsTy t W W':=fun k cs fr h=>
  (hg.block k (Array.getElem?_eq_some_iff.1 h).1 (fun e=>hr k e.symm cs fr h)).trans h
theorem KeepsTy.alloc (t:Nat) (W:World) (o:Obj):KeepsTy t W (W.alloc o):=KeepsTy.grown (World.grownBy_alloc W o none) (fun r e=>by cases e)
theorem KeepsTy.box {t t' B:Nat} {W:World} {v v':Value} (h:Boxed W B t' v) (hne:t'≠t):KeepsTy t W (W.setCell ⟨B,0,none⟩ v'):=
  KeepsTy.grown (grownBy_setCell' W B v') (fun r e cs fr hh => by
    cases e;have:=(show W.heap[B]? =_ from h).symm.trans hh
    simp at this
    exact hne this.2.1)
theorem KeepsTy.putObj {t l:Nat} {W:World} {o:Obj} (o':Obj) (h:W.heap[l]? =some o) (ho:o.isCells=false):KeepsTy t W (W.putObj l o'):=
  KeepsTy.grown (grownBy_putObj' W l o') (fun r e cs fr hh => by
    cases e;rw[h]at hh;cases hh
    cases ho)
theorem KeepsTy.row {t e base size n:Nat} {W W':World} {v:Value} {xs:List Value} (hr:W.ownsRow base e size v n xs) (hne:e≠t) (hg:W.grownBy W' v.ownBlock):KeepsTy t W W':=
  KeepsTy.grown hg (fun r er cs fr hh => by
    rcases hr.2 with ⟨rfl,_⟩|⟨g,cap,cur,rfl,_,hgb,_⟩
    · simp[Value.ownBlock]at er
    obtain rfl:g=r:=by simpa[Value.ownBlock] using er
    rw[hgb]at hh
    simp at hh
    exact hne hh.2.1)
def Kp (n₀:Nat) (W W':World):Prop:=Below n₀ W W'∧KeepsTy 59 W W'
theorem Kp.t {n₀:Nat} {A B C:World} (h:Kp n₀ A B) (k:Kp n₀ B C):Kp n₀ A C:=⟨h.1.trans k.1,h.2.trans k.2⟩
theorem Kp.b {n₀:Nat} {w:World} (hn:n₀≤w.heap.size) (W:World) (l:Nat) (o o':Obj) (hl:w.heap.size≤l) (h:W.heap[l]? =some o) (hc:o.isCells=false) (hw:o.isWalk=false):Kp n₀ W (W.putObj l o'):=
  ⟨belowK_b hn W l o o' hl h hc hw,KeepsTy.putObj o' h hc⟩
set_option maxRecDepth 100000 in
theorem values1_in (F : Fence) (n : Nat) (h1 : F.fn 102) (hro : F.round = none) (hn : 1 ≤ n) (l Bs : Nat) (w : World) (A : Option Addr) (c : Nat) (zs : List Int) (hr : Kd.C (Kd.int .i64) w A zs.length zs) (J Jx : List Int → World → Prop)
    (hY : ∀ pre x W, J pre W → pre.length < zs.length → YieldAt F (n - 1) Tryz.prog l #[.int .i64 x] W fun e W' =>
      (e = .returned (.bool true) ∧ J (pre ++ [x]) W' ∧ Kp w.heap.size W W') ∨ (e = .returned (.bool false) ∧ Jx (pre ++ [x]) W'))
    (W:World) (hW:Below w.heap.size w W) (hBs:W.cell? ⟨Bs,0,none⟩=some (.slice A zs.length c)) (h0:J [] W):
    CallsIn F n Tryz.prog 102 #[.func (.yield l) #[] #[], .pointer (some ⟨Bs, 0, none⟩)] W fun e W' => (∃ v, e = .returned v) ∧
      ((∃ys,ys=zs∧J ys W')∨(∃pre,pre<+:zs∧Jx pre W')):=by
  refine callsIn_of_wp Tryz.func102 rfl h1 ?_ hro;simp only[Tryz.ntmps102,List.size_toArray,List.length_cons,List.length_nil,Nat.reduceAdd,Nat.reduceSub,Array.replicate_succ,Array.replicate_zero,List.push_toArray,List.append_toArray,List.nil_append,List.cons_append];have hlen:zs.length≤9223372036854775807:=hr.2.1
  gi_wp2
  gi_loopw [7] (fun i7 wr => ∃ (k : Nat), k ≤ zs.length ∧ i7 = .int .i64 k ∧ J (zs.take k) wr ∧ Below w.heap.size w wr)
    (fun i _=>zs.length - (intOf i).toNat)
  case atStart=>exact⟨0,Nat.zero_le _,rfl,by simpa using h0,hW⟩
  case round=>
    obtain⟨k,hk,rfl,hJs,hb⟩:=hrel;by_cases hlt:k<zs.length;rotate_left
    · obtain rfl : k = zs.length := by omega
      gi_wp2
      go_end0
      exact⟨⟨_,rfl⟩,.inl ⟨zs,rfl,by simpa using hJs⟩⟩
    obtain⟨ad,rfl,hx0⟩:=Kd.Zb0 hr (k:Int) (by omega) (by omega);have hx0:=(hb.cell (World.block_lt_of_cell? w _ hx0)).trans hx0;simp only[Int.toNat_natCast]at hx0
    have htk:zs.take (k+1)=zs.take k++ [rd zs (k:Int)]:=by
      rw[List.take_succ_eq_append_getElem hlt]
      simp[rd,List.getD_eq_getElem?_getD,List.getElem?_eq_getElem hlt]
    have HT:=Za.mk htk;clear htk;have hy0:=hY (zs.take k) (rd zs (k:Int)) wr hJs (by rw[List.length_take];omega)
    generalize rd zs (k:Int)=x at*
    obtain⟨fn,tmps,assign,body,hy,hR⟩:=hy0
    gi_wp2
    refine hR.mono ?_;rintro e W3 (⟨rfl,hJ3,hk3⟩|⟨rfl,hJx3⟩)
    · have hb3 := hb.trans hk3.1
      clear hR hy hx0
      gi_wp2
      go_roundw
      case rel=>exact⟨k+1,by omega,by first|rfl|go_num,by rw[HT.out];exact hJ3,hb3⟩
      case measure=>simp[intOf];omega
    gi_wp2
    refine bodyPost_ret (results_none rfl _ _ _) rfl ?_;exact⟨⟨_,rfl⟩,.inr ⟨_,by rw[←HT.out];exact List.take_prefix _ _,hJx3⟩⟩
theorem values_in (F : Fence) (n : Nat) (h : F.fn 81) (hro : F.round = none) (A : Option Addr) (len cap : Nat) (w : World) :
    CallsIn F n Tryz.prog 81 #[.slice A len cap] w fun e w'=>e= .returned (.func (.func 102) #[] #[.pointer (some ⟨w.heap.size,0,none⟩)])∧w'=w.alloc (.cells #[.slice A len cap] 24):=by
  refine callsIn_of_wp Tryz.func81 rfl h ?_ hro;simp only[Tryz.ntmps81,List.size_toArray,List.length_cons,List.length_nil,Nat.reduceAdd,Nat.reduceSub,Array.replicate_succ,Array.replicate_zero,List.push_toArray,List.append_toArray,List.nil_append,List.cons_append]
  gi_wp2
  go_ret;exact⟨rfl,rfl⟩
theorem values_stops (F : Fence) (n : Nat) (h1 : F.fn 102) (hro : F.round = none) (hn : 1 ≤ n) (Bs : Nat) (w0 w : World) (A : Option Addr) (c : Nat) (zs : List Int) (hr : Kd.C (Kd.int .i64) w0 A zs.length zs) (hBs : Bs < w.heap.size) (hw : Below w0.heap.size w0 w)
    (hc:w.cell? ⟨Bs,0,none⟩=some (.slice A zs.length c)):
    SeqStopsK F n Tryz.prog 102 #[.pointer (some ⟨Bs,0,none⟩)] (fun x:Int=>#[Value.int .i64 x]) (Kp w0.heap.size) (fun ys=>ys=zs) (fun pre=>pre<+:zs) zs.length w:=fun l J Jx W hW _ _ hY h0=>
  values1_in F n h1 hro hn l Bs w0 A c zs hr J Jx hY W (hw.trans (hW.mono hw.size)) ((hW.cell (p:=⟨Bs,0,none⟩) hBs).trans hc) h0
theorem infoI:(Tryz.prog.info? 3).map (fun i=>(i.zero,i.size,i.bytes))=some (some (.int .i64 0),1,8):=by kernel_rfl
set_option maxRecDepth 100000 in
theorem appendSeq_in (F : Fence) (n : Nat) (h : F.fn 109) (hro : F.round = none) (hn : 2 ≤ n) (g : Nat) (lb : Array Value) (hFg : F.fn g) (eg : ∀ args w, (callFunc g args).run Tryz.prog w = .ok (.enter g args) w)
    (n0:Nat) (S Sp:List Int→Prop) (N:Nat) (hN:N*8≤140737488355328) (w0 w:World) (hw:Below w0.heap.size w0 w) (hn0:n0≤w.heap.size) (hseq:SeqStopsK F (n - 1) Tryz.prog g lb (fun x:Int=>#[Value.int .i64 x]) (Kp n0) S Sp N w0):
    CallsIn F n Tryz.prog 109 #[.slice none 0 0,.func (.func g) #[] lb] w fun e w'=>∃(v:Value) (xs:List Int),e= .returned v∧S xs∧w'.ownsRow w.heap.size 3 1 v xs.length (xs.map (Value.int .i64))∧Below w.heap.size w w':=by
  have h1:1≤n:=by omega
  obtain⟨i0,hi,hz0,hz1,hz2⟩:=info_parts infoI;refine callsIn_of_wp_marks Tryz.func109 rfl h ?_ hro;simp only[Tryz.ntmps109,List.size_toArray,List.length_cons,List.length_nil,Nat.reduceAdd,Nat.reduceSub,Array.replicate_succ,Array.replicate_zero,List.push_toArray,List.append_toArray,List.nil_append,List.cons_append]
  gi_wp2
  have bO:=Boxed.new w 24 (.slice none 0 0);have hB0:Below w.heap.size w (w.alloc (.cells #[.slice none 0 0] 24)):=(Below.refl _ w).alloc (Nat.le_refl _) _;have hseq':SeqStopsK F (n - 1) Tryz.prog g lb (fun x:Int=>#[Value.int .i64 x]) (Kp n0) S Sp N (w.alloc (.cells #[.slice none 0 0] 24)):=fun l J Jx W hW a b c d=>hseq l J Jx W (hw.trans ((hB0.mono hw.size).trans (hW.mono (by have:=hw.size;simp;omega)))) a b c d
  refine wpIn_rangeFunc_ownG hro h1 (gf := g) (lb := lb) rfl hFg eg hseq' Kp.t (Kp.b (by simp; omega)) (Below.refl _ _) (fun _ => rfl)
    (fun pre W=>(∃v,Boxed W w.heap.size 24 v∧W.ownsRow w.heap.size 3 1 v pre.length (pre.map (Value.int .i64))∧True)∧Below w.heap.size w W)
    (fun _ _ _=>False)
    (OwnFrom.and (Own.from (holdsRow_own w.heap.size w.heap.size 24 3 1 (fun pre:List Int=>pre.length) (fun pre=>pre.map (Value.int .i64)) (fun _ _=>True)) _) (ownFrom_below (Nat.le_refl _) (by simp)))
    (fun _ _ _ _ _ hs _ _=>hs)
    ⟨⟨_,bO,World.ownsRow_nil _ _ _ _,trivial⟩,hB0⟩
    (fun x=>{ tmps:=#[.slice none 0 0,.func (.func g) #[] lb,.pointer (some ⟨w.heap.size,0,none⟩),undef,.slice none 0 0,.int .i64 x,.func (.func g) #[] lb,.int .i64 x,undef,undef,undef,undef,undef],defers:= [] }) ?assign ?body ?done ?stop
  case assign=>
    intro l x W K hK
    gi_wp2
    exact hK
  case body=>
    rintro l pre x W ⟨⟨v,hv,hrow,_⟩,hB⟩ hlt;have hc:=hv.cell
    gi_wp2_with (gi_at_builtin;refine wpListIn_append_own _ rfl _ _ 24 rfl w.heap.size 3 i0 (.int .i64 0) 1 8 Tryz.underlying24 hi hz0 hz1 hz2 rfl (by decide) _ _ _ rfl (hrow.alloc _) ⟨W.heap.size,0,none⟩ 1 1 [.int .i64 x] rfl rfl (cell_one_new _ _ _) (by simp[Value.oneCell']) (by unfold maxLen;omega) (by omega) (by have:=hB.size;simp;omega) ?_;intro v' w1 hown' hgrow _;obtain⟨g',cap',rfl⟩:=ownsRow_succ hown';have hty:=(KeepsTy.alloc 59 W (.cells #[.int .i64 x] 3)).trans (KeepsTy.row (hrow.alloc _) (by decide) hgrow);obtain⟨hv1,hv2,hr2,hk2,hb2⟩:=hv.appended (by decide) hrow hB.size (Nat.le_refl _) hown' hgrow;have hty2:=hty.trans (KeepsTy.box hv1 (v':= .slice (some ⟨g',0,none⟩) (pre.length+1) cap') (by decide));have hc1:=hv1.cell;have hf1:=hv1.frozen)
    exact⟨hk2.from _,⟨hb2.mono hn0,hty2⟩,⟨_,hv2,by simpa using hr2,trivial⟩,hB.trans hb2⟩
  case done=>
    rintro D ys W hD hS ⟨⟨v,hv,hrow,_⟩,hB⟩ hK;have hc:=hv.cell
    gi_wp2
    refine⟨by simp,.inl ⟨_,_,rfl,run_takeDeferred hK,?_⟩⟩;exact⟨_,results_tmp rfl _ _ _,v,ys,rfl,hS,ownsRow_putObj hrow _ hK rfl,hB.trans (belowK_b (w:=w) (Nat.le_refl _) W D _ _ (by simp at hD;omega) hK rfl rfl)⟩
  case stop=>
    rintro D c pre W _ _ h _;exact h.elim
theorem collect_in (F : Fence) (n : Nat) (h : F.fn 101) (h2 : F.fn 109) (hro : F.round = none) (hn : 3 ≤ n) (g : Nat) (lb : Array Value) (hFg : F.fn g) (eg : ∀ args w, (callFunc g args).run Tryz.prog w = .ok (.enter g args) w)
    (n0:Nat) (S Sp:List Int→Prop) (N:Nat) (hN:N*8≤140737488355328) (w0 w:World) (hw:Below w0.heap.size w0 w) (hn0:n0≤w.heap.size) (hseq:SeqStopsK F (n - 1 - 1) Tryz.prog g lb (fun x:Int=>#[Value.int .i64 x]) (Kp n0) S Sp N w0):
    CallsIn F n Tryz.prog 101 #[.func (.func g) #[] lb] w fun e w'=>∃(v:Value) (xs:List Int),e= .returned v∧S xs∧w'.ownsRow w.heap.size 3 1 v xs.length (xs.map (Value.int .i64))∧Below w.heap.size w w':=by
  have h1:1≤n:=by omega
  refine callsIn_of_wp Tryz.func101 rfl h ?_ hro;simp only[Tryz.ntmps101,List.size_toArray,List.length_cons,List.length_nil,Nat.reduceAdd,Nat.reduceSub,Array.replicate_succ,Array.replicate_zero,List.push_toArray,List.append_toArray,List.nil_append,List.cons_append];have cA:=fun W (hw:Below w0.heap.size w0 W) hn0=>appendSeq_in F (n - 1) h2 hro (by omega) g lb hFg eg n0 S Sp N hN w0 W hw hn0 hseq
  gi_wp2_with (gi_at_call 109;refine(cA _ hw hn0).mono ?_;rintro e w' ⟨v,xs,rfl,hS,hrow,hb⟩)
  go_ret;exact⟨v,xs,rfl,hS,hrow,hb⟩
end Go.Proofs.YtkgjaklnbgdmiaaGreat.P
/- The library's sort and its like, laid at this program (the shelf's contracts). -/
namespace Go.Proofs.YtkgjaklnbgdmiaaGreat.P
open Go.Shelf Go.Proofs
def lsort_ren:Go.Shelf.Ren:=⟨fun|5=>43|7=>75|8=>76|10=>90|11=>91|12=>92|13=>93|14=>94|15=>95|16=>96|17=>97|18=>98|19=>99|20=>100|30=>103|31=>104|32=>105|33=>106|34=>107|35=>108|40=>110|n=>n,fun|0=>0|3=>3|4=>4|5=>5|9=>9|22=>24|23=>24|25=>3|32=>81|35=>96|36=>97|41=>76|44=>104|46=>91|53=>106|57=>110|63=>113|64=>114|n=>n,fun n=>n⟩
theorem lsort : SlLaysM.n5 Tryz.prog lsort_ren := {
  mixed:=by kernel_rfl,
  f5:=⟨Tryz.f43.name,by decide,Tryz.func43.trans (congrArg some (by kernel_rfl))⟩,
  f7:=⟨Tryz.f75.name,by decide,Tryz.func75.trans (congrArg some (by kernel_rfl))⟩,
  f8:=Tryz.func76.trans (congrArg some (by kernel_rfl)),
  f10:=⟨Tryz.f90.name,by decide,Tryz.func90.trans (congrArg some (by kernel_rfl))⟩,
  f11:=⟨Tryz.f91.name,by decide,Tryz.func91.trans (congrArg some (by kernel_rfl))⟩,
  f12:=⟨Tryz.f92.name,by decide,Tryz.func92.trans (congrArg some (by kernel_rfl))⟩,
  f13:=⟨Tryz.f93.name,by decide,Tryz.func93.trans (congrArg some (by kernel_rfl))⟩,
  f14:=⟨Tryz.f94.name,by decide,Tryz.func94.trans (congrArg some (by kernel_rfl))⟩,
  f15:=⟨Tryz.f95.name,by decide,Tryz.func95.trans (congrArg some (by kernel_rfl))⟩,
  f16:=⟨Tryz.f96.name,by decide,Tryz.func96.trans (congrArg some (by kernel_rfl))⟩,
  f17:=⟨Tryz.f97.name,by decide,Tryz.func97.trans (congrArg some (by kernel_rfl))⟩,
  f18:=⟨Tryz.f98.name,by decide,Tryz.func98.trans (congrArg some (by kernel_rfl))⟩,
  f19:=Tryz.func99.trans (congrArg some (by kernel_rfl)),
  f20:=Tryz.func100.trans (congrArg some (by kernel_rfl)),
  f30:=⟨Tryz.f103.name,by decide,Tryz.func103.trans (congrArg some (by kernel_rfl))⟩,
  f31:=Tryz.func104.trans (congrArg some (by kernel_rfl)),
  f32:=Tryz.func105.trans (congrArg some (by kernel_rfl)),
  f33:=⟨Tryz.f106.name,by decide,Tryz.func106.trans (congrArg some (by kernel_rfl))⟩,
  f34:=⟨Tryz.f107.name,by decide,Tryz.func107.trans (congrArg some (by kernel_rfl))⟩,
  f35:=⟨Tryz.f108.name,by decide,Tryz.func108.trans (congrArg some (by kernel_rfl))⟩,
  f40:=⟨Tryz.f110.name,by decide,Tryz.func110.trans (congrArg some (by kernel_rfl))⟩,
  t0:=Tryz.underlying0,
  a0:=Tryz.isAgg0,
  z0:=Tryz.sizeOf0,
  v0:=Tryz.zeroValue0,
  t3:=Tryz.underlying3,
  a3:=Tryz.isAgg3,
  z3:=Tryz.sizeOf3,
  v3:=Tryz.zeroValue3,
  t4:=Tryz.underlying4,
  a4:=Tryz.isAgg4,
  z4:=Tryz.sizeOf4,
  v4:=Tryz.zeroValue4,
  t5:=Tryz.underlying5,
  a5:=Tryz.isAgg5,
  z5:=Tryz.sizeOf5,
  v5:=Tryz.zeroValue5,
  t9:=Tryz.underlying9,
  a9:=Tryz.isAgg9,
  z9:=Tryz.sizeOf9,
  v9:=Tryz.zeroValue9,
  t22:=Tryz.underlying24,
  a22:=Tryz.isAgg24,
  z22:=Tryz.sizeOf24,
  v22:=Tryz.zeroValue24,
  t23:=Tryz.underlying24,
  a23:=Tryz.isAgg24,
  z23:=Tryz.sizeOf24,
  v23:=Tryz.zeroValue24,
  t25:=Tryz.underlying3,
  a25:=Tryz.isAgg3,
  z25:=Tryz.sizeOf3,
  v25:=Tryz.zeroValue3,
  t32:=Tryz.underlying81,
  a32:=Tryz.isAgg81,
  z32:=Tryz.sizeOf81,
  v32:=Tryz.zeroValue81,
  t35:=Tryz.underlying96,
  a35:=Tryz.isAgg96,
  z35:=Tryz.sizeOf96,
  v35:=Tryz.zeroValue96,
  t36:=Tryz.underlying97,
  a36:=Tryz.isAgg97,
  z36:=Tryz.sizeOf97,
  v36:=Tryz.zeroValue97,
  t41:=Tryz.underlying76,
  a41:=Tryz.isAgg76,
  z41:=Tryz.sizeOf76,
  v41:=Tryz.zeroValue76,
  t44:=Tryz.underlying104,
  a44:=Tryz.isAgg104,
  z44:=Tryz.sizeOf104,
  v44:=Tryz.zeroValue104,
  t46:=Tryz.underlying91,
  a46:=Tryz.isAgg91,
  z46:=Tryz.sizeOf91,
  v46:=Tryz.zeroValue91,
  t53:=Tryz.underlying106,
  a53:=Tryz.isAgg106,
  z53:=Tryz.sizeOf106,
  v53:=Tryz.zeroValue106,
  t57:=Tryz.underlying110,
  a57:=Tryz.isAgg110,
  z57:=Tryz.sizeOf110,
  v57:=Tryz.zeroValue110,
  t63:=Tryz.underlying113,
  a63:=Tryz.isAgg113,
  z63:=Tryz.sizeOf113,
  v63:=Tryz.zeroValue113,
  t64:=Tryz.underlying114,
  a64:=Tryz.isAgg114,
  z64:=Tryz.sizeOf114,
  v64 := Tryz.zeroValue114 }
def lcompact_ren:Go.Shelf.Ren:=⟨fun|43=>44|n=>n,fun|0=>0|3=>3|4=>4|22=>24|23=>3|n=>n,fun n=>n⟩
theorem lcompact : SlLaysN.n43 Tryz.prog lcompact_ren := {
  mixed:=by kernel_rfl,
  f43:=⟨Tryz.f44.name,by decide,Tryz.func44.trans (congrArg some (by kernel_rfl))⟩,
  t0:=Tryz.underlying0,
  a0:=Tryz.isAgg0,
  z0:=Tryz.sizeOf0,
  v0:=Tryz.zeroValue0,
  t3:=Tryz.underlying3,
  a3:=Tryz.isAgg3,
  z3:=Tryz.sizeOf3,
  v3:=Tryz.zeroValue3,
  t4:=Tryz.underlying4,
  a4:=Tryz.isAgg4,
  z4:=Tryz.sizeOf4,
  v4:=Tryz.zeroValue4,
  t22:=Tryz.underlying24,
  a22:=Tryz.isAgg24,
  z22:=Tryz.sizeOf24,
  v22:=Tryz.zeroValue24,
  t23:=Tryz.underlying3,
  a23:=Tryz.isAgg3,
  z23:=Tryz.sizeOf3,
  v23:=Tryz.zeroValue3,
  i23 := by kernel_rfl }
end Go.Proofs.YtkgjaklnbgdmiaaGreat.P
/- slices.ContainsFunc over ints, slices.Sorted over an iterator. -/
namespace Go.Proofs.YtkgjaklnbgdmiaaGreat.P
open Go.RowKit Go.Shelf Go.Proofs.YtkgjaklnbgdmiaaGreatW.PrintWords Go.Proofs.YtkgjaklnbgdmiaaGreatW.PrintLast Go.Proofs.YtkgjaklnbgdmiaaGreatW.PrintMore
def insI (x : Int) : List Int → List Int
  | [] => [x]
  |y::ys=>if x≤y then x::y::ys else y::insI x ys
def sortI : List Int → List Int
  | [] => []
  |x::xs=>insI x (sortI xs)
theorem Zgn (x : Int) : ∀ l, List.Perm (insI x l) (x :: l)
  | [] => List.Perm.refl _
  |y::ys=>by
    unfold insI
    split
    · exact List.Perm.refl _
    exact((Zgn x ys).cons y).trans (List.Perm.swap x y ys)
theorem Zfa : ∀ l, List.Perm (sortI l) l
  | [] => List.Perm.refl _
  |x::xs=>(Zgn x _).trans ((Zfa xs).cons x)
theorem insI_le (x : Int) : ∀ l, List.Pairwise (fun a b : Int => a ≤ b) l → List.Pairwise (fun a b : Int => a ≤ b) (insI x l)
  | [], _ => by simp [insI]
  |y::ys,h=>by
    unfold insI
    split
    · rename_i hxy
      refine List.pairwise_cons.2 ⟨fun z hz=> ?_,h⟩
      rcases List.mem_cons.1 hz with rfl|hz
      · exact hxy
      have:=(List.pairwise_cons.1 h).1 z hz
      omega
    rename_i hxy
    refine List.pairwise_cons.2 ⟨fun z hz=> ?_,insI_le x ys (List.pairwise_cons.1 h).2⟩
    rcases List.mem_cons.1 ((Zgn x ys).mem_iff.1 hz)with rfl|hz
    · omega
    exact(List.pairwise_cons.1 h).1 z hz
theorem sortI_le : ∀ l, List.Pairwise (fun a b : Int => a ≤ b) (sortI l)
  | [] => List.Pairwise.nil
  |x::xs=>insI_le x _ (sortI_le xs)
theorem Zgr (l:List Int):(l.mergeSort fun x y=>decide (x≤y))=sortI l:=by
  refine List.Perm.eq_of_pairwise (le:=fun a b:Int=>a≤b) (fun a b _ _ h1 h2=>by omega) ?_ (sortI_le l) ((List.mergeSort_perm l _).trans (Zfa l).symm);have:=List.pairwise_mergeSort (le:=fun x y:Int=>decide (x≤y)) (fun a b c h1 h2=>by simp at*;omega) (fun a b=>by simp;omega) l;exact this.imp (fun h=>by simpa using h)
theorem Zdu (l:List Int):(sortI l).length=l.length:=(Zfa l).length_eq
theorem indexFunc_int (p : Int → Bool) (g : Nat) (lb : Array Value) (eg : ∀ args w, (callFunc g args).run Tryz.prog w = .ok (.enter g args) w) (A : Option Addr) (c : Nat) (zs : List Int) (w : World) (hr : Kd.C (Kd.int .i64) w A zs.length zs)
    (hp:∀k,k<zs.length→∀q,Calls Tryz.prog g (#[.int .i64 (rd zs (k:Int))]++lb) (w.drewN q) fun e w'=>e= .returned (.bool (p (rd zs (k:Int))))∧∃q',w'=(w.drewN q).drewN q'):
    Calls Tryz.prog 52 #[.slice A zs.length c,.func (.func g) #[] lb] w fun e w'=>(∃i:Int,e= .returned (.int .i64 i)∧decide (0≤i)=zs.any p)∧∃q,w'=w.drewN q:=by
  have hlen:zs.length≤9223372036854775807:=hr.2.1;have hany:∀k,zs.any p=((zs.take k).any p||(zs.drop k).any p):=fun k=>by rw[←List.any_append,List.take_append_drop]
  have HY:=Za.mk hany;clear hany;go_enter Tryz.func52,Tryz.ntmps52;go_wp2
  go_loopg [5,8] zs.length (fun gg _ s8 wr=>∃kk q:Nat,kk≤zs.length∧zs.length - kk≤gg∧s8= .int .i64 kk∧wr=w.drewN q∧Za ((zs.take kk).any p=false))
  case atStart=>exact⟨0,0,Nat.zero_le _,by omega,rfl,rfl,⟨by simp⟩⟩
  case round=>
    obtain⟨kk,q,hkk,hg,rfl,rfl,A1⟩:=hrel;by_cases hlt:kk<zs.length;rotate_left
    · obtain rfl : kk = zs.length := by omega
      go_wp2;go_ret;refine⟨⟨_,rfl,?_⟩,q,rfl⟩;have:=A1.out;rw[List.take_length]at this;rw[this]
      rfl
    obtain⟨ad,rfl,hx0⟩:=Kd.Zb0 hr (kk:Int) (by omega) (by omega);simp only[Int.toNat_natCast]at hx0;have hcall:=hp kk hlt;clear hp
    have htk : Za (zs.take (kk + 1) = zs.take kk ++ [rd zs (kk : Int)]) := ⟨by
      rw[List.take_succ_eq_append_getElem hlt]
      simp [rd, List.getD_eq_getElem?_getD, List.getElem?_eq_getElem hlt]⟩
    generalize rd zs (kk:Int)=y at*
    cases hq:p y with
    |true=>
      rw[hq]at hcall;have B:=Za.mk hq;clear hq
      go_wp2_with (go_at_fn g;refine(hcall _).mono ?_;rintro e w' ⟨rfl,q',rfl⟩)
      go_ret;refine⟨⟨_,rfl,?_⟩,_,rfl⟩;rw[HY.out (kk+1),htk.out,List.any_append]
      simp[B.out]
    |false=>
      rw[hq]at hcall;have B:=Za.mk hq;clear hq
      go_wp2_with (go_at_fn g;refine(hcall _).mono ?_;rintro e w' ⟨rfl,q',rfl⟩)
      go_roundg (zs.length - (kk+1))
      case measure=>omega
      case rel=>exact⟨kk+1,_,by omega,by omega,by go_num,rfl,⟨by rw[htk.out,List.any_append,A1.out];simp[B.out]⟩⟩
theorem Zee (p : Int → Bool) (g : Nat) (lb : Array Value) (eg : ∀ args w, (callFunc g args).run Tryz.prog w = .ok (.enter g args) w) (A : Option Addr) (c : Nat) (zs : List Int) (w : World) (hr : Kd.C (Kd.int .i64) w A zs.length zs)
    (hp:∀k,k<zs.length→∀q,Calls Tryz.prog g (#[.int .i64 (rd zs (k:Int))]++lb) (w.drewN q) fun e w'=>e= .returned (.bool (p (rd zs (k:Int))))∧∃q',w'=(w.drewN q).drewN q'):
    Calls Tryz.prog 33 #[.slice A zs.length c,.func (.func g) #[] lb] w fun e w'=>e= .returned (.bool (zs.any p))∧∃q,w'=w.drewN q:=by
  have hI:=indexFunc_int p g lb eg A c zs w hr hp;go_enter Tryz.func33,Tryz.ntmps33
  go_wp2_with (go_at_call 52;refine hI.mono ?_;rintro e w' ⟨⟨i,rfl,hi⟩,q,rfl⟩)
  go_ret;exact⟨by rw[←hi];rfl,q,rfl⟩
theorem Zf0 (v : Value) (xs : List Int) (w0 w : World) (hx : xs.length < 4611686018427387904) (hS : w0.heap.size ≤ w.heap.size) (hrow : w.ownsRow w0.heap.size 3 1 v xs.length (xs.map (Value.int .i64))) (hB : Below w0.heap.size w0 w) :
    Calls Tryz.prog 43 #[v] w fun e w'=>e= .returned (.tuple #[])∧w'.ownsRow w0.heap.size 3 1 v xs.length ((sortI xs).map (Value.int .i64))∧Below w0.heap.size w0 w':=by
  rcases hrow.2 with ⟨rfl,h0⟩|⟨g,cap,cur,rfl,hg,hb,hn,hcap,hsz,htk⟩
  · have hx : xs = [] := List.length_eq_zero_iff.1 h0
    subst hx;refine(AnyM.slices_Sort_int_none lsort none 0 w).mono ?_;rintro e w' ⟨rfl,rfl⟩;exact⟨rfl,hrow,hB⟩
  have hlt:g<w.heap.size:=(Array.getElem?_eq_some_iff.1 hb).1;refine(AnyM.slices_Sort_int lsort g 0 cap xs w (holds_of_blockI hb (by simpa using htk)) hlt hx).mono ?_;rintro e w' ⟨rfl,n,os,rfl⟩;rw[Zgr];refine⟨rfl,ownsRow_sortedI (Zdu xs) hg hb hn hcap hsz,?_⟩;exact hB.grown (grownBy_sortedI _) hS (fun k e=>by cases e;exact hg)
theorem sorted_calls (g : Nat) (lb : Array Value) (eg : ∀ args w, (callFunc g args).run Tryz.prog w = .ok (.enter g args) w) (n0 : Nat) (S Sp : List Int → Prop) (N : Nat) (hN : N * 8 ≤ 140737488355328) (hSN : ∀ xs, S xs → xs.length ≤ N) (w0 w : World) (hw : Below w0.heap.size w0 w) (hn0 : n0 ≤ w.heap.size)
    (hseq:SeqStopsK Fence.wide 7 Tryz.prog g lb (fun x:Int=>#[Value.int .i64 x]) (Kp n0) S Sp N w0):
    Calls Tryz.prog 80 #[.func (.func g) #[] lb] w fun e w'=>∃(v:Value) (xs:List Int),e= .returned v∧S xs∧w'.ownsRow w.heap.size 3 1 v xs.length ((sortI xs).map (Value.int .i64))∧Below w.heap.size w w':=by
  have cB:=callsIn_wide.1 (collect_in Fence.wide 9 trivial trivial rfl (by omega) g lb trivial eg n0 S Sp N hN w0 w hw hn0 hseq);go_enter Tryz.func80,Tryz.ntmps80
  go_wp2_with (first|(go_at_call 101;refine cB.mono ?_;rintro e w' ⟨v,xs,rfl,hS,hrow,hb⟩)|(go_at_call 43;refine(Zf0 v xs w w' (by have:=hSN xs hS;omega) hb.size hrow hb).mono ?_;rintro e w'' ⟨rfl,hrow2,hb2⟩))
  go_ret;exact⟨v,xs,rfl,hS,hrow2,hb2⟩
end Go.Proofs.YtkgjaklnbgdmiaaGreat.P
/- slices.ContainsFunc over whole numbers and over lists of them; the function may lay blocks of its own. -/
namespace Go.Proofs.YtkgjaklnbgdmiaaGreat.P
open Go.RowKit Go.Shelf Go.Proofs.YtkgjaklnbgdmiaaGreatW.PrintWords Go.Proofs.YtkgjaklnbgdmiaaGreatW.PrintLast Go.Proofs.YtkgjaklnbgdmiaaGreatW.PrintMore
theorem Zg6 (p : Int → Bool) (g : Nat) (lb : Array Value) (eg : ∀ args w, (callFunc g args).run Tryz.prog w = .ok (.enter g args) w) (A : Option Addr) (c : Nat) (zs : List Int) (w : World) (hr : Kd.C (Kd.int .i64) w A zs.length zs)
    (hp:∀k,k<zs.length→∀W,Below w.heap.size w W→Calls Tryz.prog g (#[.int .i64 (rd zs (k:Int))]++lb) W fun e w'=>e= .returned (.bool (p (rd zs (k:Int))))∧Below W.heap.size W w'):
    Calls Tryz.prog 52 #[.slice A zs.length c,.func (.func g) #[] lb] w fun e w'=>(∃i:Int,e= .returned (.int .i64 i)∧decide (0≤i)=zs.any p)∧Below w.heap.size w w':=by
  have hlen:zs.length≤9223372036854775807:=hr.2.1;have hany:∀k,zs.any p=((zs.take k).any p||(zs.drop k).any p):=fun k=>by rw[←List.any_append,List.take_append_drop]
  have HY:=Za.mk hany;have HR:=Za.mk hr;have HP:=Za.mk hp;clear hany hr hp;obtain⟨wo,rfl⟩:∃wo:World,wo=w:=⟨_,rfl⟩;go_enter Tryz.func52,Tryz.ntmps52;go_wp2
  go_loopg [5,8] zs.length (fun gg _ s8 wr=>∃kk:Nat,kk≤zs.length∧zs.length - kk≤gg∧s8= .int .i64 kk∧Za (Below wo.heap.size wo wr)∧Za ((zs.take kk).any p=false))
  case atStart=>exact⟨0,Nat.zero_le _,by omega,rfl,⟨Below.refl _ _⟩,⟨by simp⟩⟩
  case round=>
    obtain⟨kk,hkk,hg,rfl,BW,A1⟩:=hrel;by_cases hlt:kk<zs.length;rotate_left
    · obtain rfl : kk = zs.length := by omega
      go_wp2;go_ret;refine⟨⟨_,rfl,?_⟩,BW.out⟩;have:=A1.out;rw[List.take_length]at this;rw[this]
      rfl
    obtain⟨ad,rfl,hx0⟩:=Kd.Zb0 (Kd.Zaf HR.out BW.out) (kk:Int) (by omega) (by omega);simp only[Int.toNat_natCast]at hx0;have hcall:=HP.out kk hlt wr BW.out
    have htk : Za (zs.take (kk + 1) = zs.take kk ++ [rd zs (kk : Int)]) := ⟨by
      rw[List.take_succ_eq_append_getElem hlt]
      simp [rd, List.getD_eq_getElem?_getD, List.getElem?_eq_getElem hlt]⟩
    generalize rd zs (kk:Int)=y at hx0 hcall htk
    cases hq:p y with
    |true=>
      rw[hq]at hcall;have B:=Za.mk hq;clear hq
      go_wp2_with (go_at_fn g;refine hcall.mono ?_;rintro e w' ⟨rfl,hb'⟩)
      go_ret;refine⟨⟨_,rfl,?_⟩,Zae BW.out hb'⟩;rw[HY.out (kk+1),htk.out,List.any_append]
      simp[B.out]
    |false=>
      rw[hq]at hcall;have B:=Za.mk hq;clear hq
      go_wp2_with (go_at_fn g;refine hcall.mono ?_;rintro e w' ⟨rfl,hb'⟩)
      go_roundg (zs.length - (kk+1))
      case measure=>omega
      case rel=>exact⟨kk+1,by omega,by omega,by go_num,⟨Zae BW.out hb'⟩,⟨by rw[htk.out,List.any_append,A1.out];simp[B.out]⟩⟩
theorem Zfy (p : Int → Bool) (g : Nat) (lb : Array Value) (eg : ∀ args w, (callFunc g args).run Tryz.prog w = .ok (.enter g args) w) (A : Option Addr) (c : Nat) (zs : List Int) (w : World) (hr : Kd.C (Kd.int .i64) w A zs.length zs)
    (hp:∀k,k<zs.length→∀W,Below w.heap.size w W→Calls Tryz.prog g (#[.int .i64 (rd zs (k:Int))]++lb) W fun e w'=>e= .returned (.bool (p (rd zs (k:Int))))∧Below W.heap.size W w'):
    Calls Tryz.prog 33 #[.slice A zs.length c,.func (.func g) #[] lb] w fun e w'=>e= .returned (.bool (zs.any p))∧Below w.heap.size w w':=by
  have hI:=Zg6 p g lb eg A c zs w hr hp;go_enter Tryz.func33,Tryz.ntmps33
  go_wp2_with (go_at_call 52;refine hI.mono ?_;rintro e w' ⟨⟨i,rfl,hi⟩,hb⟩)
  go_ret;exact⟨by rw[←hi];rfl,hb⟩
theorem indexFunc_L (p : List Int → Bool) (g : Nat) (lb : Array Value) (eg : ∀ args w, (callFunc g args).run Tryz.prog w = .ok (.enter g args) w) (A : Option Addr) (c : Nat) (zs : List (List Int)) (w : World) (hr : Kd.C (Kd.slice 3 (Kd.int .i64)) w A zs.length zs)
    (hp:∀(x:List Int) (A1:Option Addr) (c1:Nat),x ∈ zs→∀W,Below w.heap.size w W→Kd.C (Kd.int .i64) W A1 x.length x→x.length≤c1→Calls Tryz.prog g (#[.slice A1 x.length c1]++lb) W fun e w'=>e= .returned (.bool (p x))∧Below W.heap.size W w'):
    Calls Tryz.prog 83 #[.slice A zs.length c,.func (.func g) #[] lb] w fun e w'=>(∃i:Int,e= .returned (.int .i64 i)∧decide (0≤i)=zs.any p)∧Below w.heap.size w w':=by
  have hlen:zs.length≤9223372036854775807:=hr.2.1;have hany:∀k,zs.any p=((zs.take k).any p||(zs.drop k).any p):=fun k=>by rw[←List.any_append,List.take_append_drop]
  have HY:=Za.mk hany;have HR:=Za.mk hr;have HP:=Za.mk hp;clear hany hr hp;obtain⟨wo,rfl⟩:∃wo:World,wo=w:=⟨_,rfl⟩;go_enter Tryz.func83,Tryz.ntmps83;go_wp2
  go_loopg [5,8] zs.length (fun gg _ s8 wr=>∃kk:Nat,kk≤zs.length∧zs.length - kk≤gg∧s8= .int .i64 kk∧Za (Below wo.heap.size wo wr)∧Za ((zs.take kk).any p=false))
  case atStart=>exact⟨0,Nat.zero_le _,by omega,rfl,⟨Below.refl _ _⟩,⟨by simp⟩⟩
  case round=>
    obtain⟨kk,hkk,hg,rfl,BW,A1⟩:=hrel;by_cases hlt:kk<zs.length;rotate_left
    · obtain rfl : kk = zs.length := by omega
      go_wp2;go_ret;refine⟨⟨_,rfl,?_⟩,BW.out⟩;have:=A1.out;rw[List.take_length]at this;rw[this]
      rfl
    obtain⟨ad,A2,c2,rfl,hx0,hl0,hi0⟩:=Ze6 (Kd.Zaf HR.out BW.out) (kk:Int) (by omega) (by omega);simp only[Int.toNat_natCast]at hx0
    have hcall := HP.out (Zca zs (kk : Int)) A2 c2 (by
      unfold Zca;rw[Int.toNat_natCast,List.getD_eq_getElem?_getD,List.getElem?_eq_getElem hlt]
      exact List.getElem_mem hlt) wr BW.out hi0 hl0
    have htk : Za (zs.take (kk + 1) = zs.take kk ++ [Zca zs (kk : Int)]) := ⟨by
      rw[List.take_succ_eq_append_getElem hlt]
      simp [Zca, List.getD_eq_getElem?_getD, List.getElem?_eq_getElem hlt]⟩
    clear hl0 hi0
    generalize Zca zs (kk:Int)=y at hx0 hcall htk
    cases hq:p y with
    |true=>
      rw[hq]at hcall;have B:=Za.mk hq;clear hq
      go_wp2_with (go_at_fn g;refine hcall.mono ?_;rintro e w' ⟨rfl,hb'⟩)
      go_ret;refine⟨⟨_,rfl,?_⟩,Zae BW.out hb'⟩;rw[HY.out (kk+1),htk.out,List.any_append]
      simp[B.out]
    |false=>
      rw[hq]at hcall;have B:=Za.mk hq;clear hq
      go_wp2_with (go_at_fn g;refine hcall.mono ?_;rintro e w' ⟨rfl,hb'⟩)
      go_roundg (zs.length - (kk+1))
      case measure=>omega
      case rel=>exact⟨kk+1,by omega,by omega,by go_num,⟨Zae BW.out hb'⟩,⟨by rw[htk.out,List.any_append,A1.out];simp[B.out]⟩⟩
theorem Zg4 (p : List Int → Bool) (g : Nat) (lb : Array Value) (eg : ∀ args w, (callFunc g args).run Tryz.prog w = .ok (.enter g args) w) (A : Option Addr) (c : Nat) (zs : List (List Int)) (w : World) (hr : Kd.C (Kd.slice 3 (Kd.int .i64)) w A zs.length zs)
    (hp:∀(x:List Int) (A1:Option Addr) (c1:Nat),x ∈ zs→∀W,Below w.heap.size w W→Kd.C (Kd.int .i64) W A1 x.length x→x.length≤c1→Calls Tryz.prog g (#[.slice A1 x.length c1]++lb) W fun e w'=>e= .returned (.bool (p x))∧Below W.heap.size W w'):
    Calls Tryz.prog 61 #[.slice A zs.length c,.func (.func g) #[] lb] w fun e w'=>e= .returned (.bool (zs.any p))∧Below w.heap.size w w':=by
  have hI:=indexFunc_L p g lb eg A c zs w hr hp;go_enter Tryz.func61,Tryz.ntmps61
  go_wp2_with (go_at_call 83;refine hI.mono ?_;rintro e w' ⟨⟨i,rfl,hi⟩,hb⟩)
  go_ret;exact⟨by rw[←hi];rfl,hb⟩
end Go.Proofs.YtkgjaklnbgdmiaaGreat.P
namespace Go.Proofs.YtkgjaklnbgdmiaaGreat.P
open Go.RowKit Go.Proofs.YtkgjaklnbgdmiaaGreatW.PrintWords Go.Proofs.YtkgjaklnbgdmiaaGreatW.PrintLast Go.Proofs.YtkgjaklnbgdmiaaGreatW.PrintMore
attribute [local go_sem] Zci Zck Zc3 Zc4 Zcb Zcc Zcj Zcl
mutual
def Za8.l0 : Nat → List (S59) → List (S59) → List (S59) → Int → Int → Option ((List (S59)))
 | 0, _, _, _, _, _ => none
 |k+1,x1,x5,x10,x11,x12=>if x12<x11 then(if 0≤x12 then(if x12<(x10.length:Int)then(Za8.l1 k x1 x5 x10 x11 x12 x1 (x1.length:Int) 0 ((Zba x10 x12).f0) ((Zba x10 x12).f1))else(none))else(none))else(some x5)
def Za8.l1 : Nat → List (S59) → List (S59) → List (S59) → Int → Int → List (S59) → Int → Int → Int → Int → Option ((List (S59)))
 | 0, _, _, _, _, _, _, _, _, _, _ => none
 |k+1,x1,x5,x10,x11,x12,x16,x17,x18,qi,qj=>if x18<x17 then(if 0≤x18 then(if x18<(x16.length:Int)then(if((Zba x16 x18).f1)<qi then(Za8.j2 k x1 x5 x10 x11 x12 x16 x17 x18 true qi qj ((Zba x16 x18).f0) ((Zba x16 x18).f1))else(Za8.j2 k x1 x5 x10 x11 x12 x16 x17 x18 (decide (((Zba x16 x18).f0)>qj)) qi qj ((Zba x16 x18).f0) ((Zba x16 x18).f1)))else(none))else(none))else(if qi≤qj then(if x5.length<8796093022208 then(Za8.l0 k x1 (x5++ [(⟨qi,qj⟩:S59)]) x10 x11 (wrap64 (x12+1)))else(none))else(Za8.l0 k x1 x5 x10 x11 (wrap64 (x12+1))))
def Za8.j2 : Nat → List (S59) → List (S59) → List (S59) → Int → Int → List (S59) → Int → Int → Bool → Int → Int → Int → Int → Option ((List (S59)))
 | 0, _, _, _, _, _, _, _, _, _, _, _, _, _ => none
 |k+1,x1,x5,x10,x11,x12,x16,x17,x18,x33,qi,qj,Pn,Po=>if x33=true then(Za8.l1 k x1 x5 x10 x11 x12 x16 x17 (wrap64 (x18+1)) qi qj)else(if Pn>qi then(if x5.length<8796093022208 then(Za8.l1 k x1 (x5++ [(⟨qi,wrap64 (Pn - 1)⟩:S59)]) x10 x11 x12 x16 x17 (wrap64 (x18+1)) (wrap64 (Po+1)) qj)else(none))else(Za8.l1 k x1 x5 x10 x11 x12 x16 x17 (wrap64 (x18+1)) (wrap64 (Po+1)) qj))
end
def Za8.f (k:Nat) (l0:List (S59)) (l1:List (S59)):Option ((List (S59))):=Za8.l0 k l1 ([]:List (S59)) l0 (l0.length:Int) 0
theorem Za8.Zf3 : ∀ k, (∀ y0 y1 y2 y3 y4, LeO (Za8.l0 k y0 y1 y2 y3 y4) (Za8.l0 (k + 1) y0 y1 y2 y3 y4)) ∧ (∀ y0 y1 y2 y3 y4 y5 y6 y7 y8 y9, LeO (Za8.l1 k y0 y1 y2 y3 y4 y5 y6 y7 y8 y9) (Za8.l1 (k + 1) y0 y1 y2 y3 y4 y5 y6 y7 y8 y9)) ∧ (∀ y0 y1 y2 y3 y4 y5 y6 y7 y8 y9 y10 y11 y12, LeO (Za8.j2 k y0 y1 y2 y3 y4 y5 y6 y7 y8 y9 y10 y11 y12) (Za8.j2 (k + 1) y0 y1 y2 y3 y4 y5 y6 y7 y8 y9 y10 y11 y12))
 | 0 => ⟨fun _ _ _ _ _ r h => by simp [Za8.l0] at h, fun _ _ _ _ _ _ _ _ _ _ r h => by simp [Za8.l1] at h, fun _ _ _ _ _ _ _ _ _ _ _ _ _ r h => by simp [Za8.j2] at h⟩
 |k+1=>by
  obtain⟨ih0,ih1,ih2⟩:=Za8.Zf3 k;refine⟨?_,?_,?_⟩
  all_goals intros
  all_goals first|unfold Za8.l0|unfold Za8.l1|unfold Za8.j2
  all_goals repeat' first
   | (with_reducible exact ih0 ..)
   | (with_reducible exact ih1 ..)
   | (with_reducible exact ih2 ..)
   | (with_reducible exact LeO.refl ..)
   | (with_reducible exact LeO.none ..)
   | (with_reducible refine LeO.ite ?_ ?_)
   |(with_reducible refine LeO.bind ?_ (fun _=> ?_))
theorem Za8.mono:∀a0 a1 k,LeO (Za8.f k a0 a1) (Za8.f (k+1) a0 a1):=by
 intro a0 a1 k;obtain⟨ih0,ih1,ih2⟩:=Za8.Zf3 k;unfold Za8.f
 repeat' first
   | (with_reducible exact ih0 _ _ _ _ _)
   | (with_reducible exact ih1 _ _ _ _ _ _ _ _ _ _)
   | (with_reducible exact ih2 _ _ _ _ _ _ _ _ _ _ _ _ _)
   | (with_reducible exact LeO.refl _)
   | (with_reducible exact LeO.none _)
   | (with_reducible refine LeO.ite ?_ ?_)
   |(with_reducible refine LeO.bind ?_ (fun _=> ?_))
set_option maxRecDepth 100000 in
theorem Za8.calls (k : Nat) (A0 : Option Addr) (c0 : Nat) (l0 : List (S59)) (A1 : Option Addr) (c1 : Nat) (l1 : List (S59)) (r : List (S59)) (w : World) (hr0 : Kd.C k59 w A0 l0.length l0) (hc0 : l0.length ≤ c0) (hr1 : Kd.C k59 w A1 l1.length l1) (hc1 : l1.length ≤ c1) (h : Za8.f k l0 l1 = some r) :
  Calls Tryz.prog 79 #[.slice A0 l0.length c0,.slice A1 l1.length c1] w fun e w'=>∃v0_:Value,e= .returned (v0_)∧Kd.R k59 59 w' w.heap.size (fun _=>True) v0_ r∧Below w.heap.size w w':=by
 have hu59:=Tryz.underlying59;have HR0:=Za.mk hr0;have HC0:=Za.mk hc0;clear hr0 hc0;have HR1:=Za.mk hr1;have HC1:=Za.mk hc1;clear hr1 hc1;have HB:=Za.mk (Below.refl w.heap.size w);have H:(Za8.l0 k l1 ([]:List (S59)) l0 (l0.length:Int) 0)=some r:=h;clear h;have H':=Za.mk H;clear H;go_enter Tryz.func79,Tryz.ntmps79;go_wp2
 go_loopg [5,12] k (fun kq v5 v12 w'=>∃(aH:List (S59)) (gF:Int),v12= .int .i64 gF∧Za (Za8.l0 kq l1 aH l0 (l0.length:Int) gF=some r)∧Za (kq≤k)∧Za (Kd.R k59 59 w' w.heap.size (fun _=>True) v5 aH)∧Za (Below w.heap.size w w'))
 case atStart=>exact⟨(([]:List (S59))),(0),eS,H',⟨Nat.le_refl _⟩,⟨by first|exact Kd.Zfk _ _ _ _ _|exact Kd.N_nil _ _ _ _ _|exact Kd.Zey _ _ _ _ _|exact Kd.Q_nil _ _ _ _ _|exact Kd.Zge _ _ _ _ _⟩,⟨bM HB.out⟩⟩
 case round=>
  clear H';try clear c1
  try clear p2
  obtain⟨aH,gF,rfl,HA,HK1,bY,HB⟩:=hrel
  cases gk with
  | zero => exact absurd HA.out (by simp [Za8.l0])
  |succ k1=>
   have H:=HA.out;clear HA;simp only[Za8.l0]at H;by_cases c3:gF<(l0.length:Int)
   case neg=>
    rw[if_neg c3]at H;have gL:decide (gF<(l0.length:Int))=false:=decide_eq_false c3;clear c3;obtain rfl:=sj H;go_wp2;go_ret;exact⟨_,eR,rM bY.out,bM HB.out⟩
   rw[if_pos c3]at H;have gL:decide (gF<(l0.length:Int))=true:=decide_eq_true c3;clear c3;obtain⟨dV,H⟩:=ifT H;obtain⟨dS,H⟩:=ifT H;have H':=Za.mk H;clear H;have aHa:(0≤(gF:Int))=True:=teq;have aRa:(gF<(l0.length:Int))=True:=teq;obtain⟨lea,rfl,EG,EI⟩:=Zd0 HR0.out gF odt odt;replace EG:=hB HB.out EG;replace EI:=hB HB.out EI
   go_wp2_with (first|((with_reducible refine Zap (N:=7) rfl ?_);refine bx 7 #[.int .i64 0,.int .i64 0] 59 ?_;intro mK hg w6 hbox hb;replace bY:=Za.mk (Kd.Zbt (Kd.Zf7 (rM bY.out) mK (Nat.le_of_eq hg.symm)) hb);have jE:=Za.mk (hbox);have kGa:=Za.mk ((gE hg HB.out:w.heap.size≤mK));replace HB:=Za.mk (bS HB.out hb);clear hb hbox hg;obtain⟨vk,vo,uX,uY⟩:=cz2 jE.out))
   go_loopg [5,18] k1 (fun kq v5 v18 w'=>∃(aD:List (S59)) (fK:Int) (eY:Int),v18= .int .i64 fK∧Za (Za8.l1 kq l1 aD l0 (l0.length:Int) gF l1 (l1.length:Int) fK eY ((Zba l0 gF).f1)=some r)∧Za (kq≤k1)∧Za (Kd.R k59 59 w' w.heap.size (fun k_=>k_≠mK) v5 aD)∧Za (w'.heap[mK]? =some (.cells #[.int .i64 eY,.int .i64 ((Zba l0 gF).f1)] 59 (0,0)))∧Za (Below w.heap.size w w'))
   case atStart=>exact⟨(aH),(0),((Zba l0 gF).f0),eS,H',⟨Nat.le_refl _⟩,⟨rM (Kd.Zaw (Kd.Za2 (p:=⟨mK,1,none⟩) (Kd.Za2 (p:=⟨mK,0,none⟩) (Kd.Zaw bY.out (fun k_ hk=>(⟨hk,hk.2⟩:_∧k_≠mK))) (fun _ hk=>hk.2) (.int .i64 ((Zba l0 gF).f0))) (fun _ hk=>hk.2) (.int .i64 ((Zba l0 gF).f1))) (fun _ hk=>hk.1.2))⟩,⟨by(with_reducible repeat(first|refine Zab ?_ _|refine Zad ?_|refine Zaa ?_ _));refine Zas (cs:=#[.int .i64 ((Zba l0 gF).f0),.int .i64 0]) ?_ 1 _ rfl;(with_reducible repeat(first|refine Zab ?_ _|refine Zad ?_|refine Zaa ?_ _));refine Zas (cs:=#[.int .i64 0,.int .i64 0]) ?_ 0 _ rfl;(with_reducible repeat(first|refine Zab ?_ _|refine Zad ?_|refine Zaa ?_ _));exact jE.out⟩,⟨bM HB.out⟩⟩
   case round=>
    clear H';try clear c1
    try clear p2
    try clear q2
    try clear hx2
    try clear c3
    try clear gL
    try clear c4
    try clear dV
    try clear c5
    try clear dS
    try clear c7
    try clear vk vo uX uY
    try clear EG
    try clear EI
    try clear p2
    try clear aHa
    try clear aRa
    obtain⟨aD,fK,eY,rfl,HA,HK2,bY,jE,HB⟩:=hrel
    cases gk with
    | zero => exact absurd HA.out (by simp [Za8.l1])
    |succ k2=>
     have H:=HA.out;clear HA;simp only[Za8.l1]at H;by_cases c8:fK<(l1.length:Int)
     case neg=>
      rw[if_neg c8]at H;have nP:decide (fK<(l1.length:Int))=false:=decide_eq_false c8;clear c8;by_cases c34:eY≤((Zba l0 gF).f1)
      case neg=>
       rw[if_neg c34]at H;have dka:decide (eY≤((Zba l0 gF).f1))=false:=decide_eq_false c34;clear c34;have H':=Za.mk H;clear H;obtain⟨SB,SC,RA,RB⟩:=cz2 jE.out;go_wp2
       go_roundg k2
       case measure=>have:=HK1.out;have:=HK2.out;omega
       case rel=>exact⟨(aD),(wrap64 (gF+1)),eS,H',⟨by have:=HK1.out;have:=HK2.out;omega⟩,⟨rM (Kd.Zaw bY.out (fun _ hk=>trivial))⟩,⟨bM HB.out⟩⟩
      rw[if_pos c34]at H;have dka:decide (eY≤((Zba l0 gF).f1))=true:=decide_eq_true c34;clear c34;obtain⟨c35,H⟩:=ifP H;have cna:=Za.mk c35;clear c35;obtain⟨b5a,IE⟩:∃y_:List (S59),y_=(aD++ [(⟨eY,((Zba l0 gF).f1)⟩:S59)]):=⟨_,rfl⟩;replace H:(Za8.l0 k2 l1 b5a l0 (l0.length:Int) (wrap64 (gF+1)))=some r:=by first|(rw[IE];with_reducible exact H)|(have H2_:=(Option.bind_some _ _).symm.trans H;rw[IE];with_reducible exact H2_)|(have H2_:=(Option.bind_some _ _).symm.trans H;with_reducible exact H2_)|with_reducible exact H|(rw[IE];exact H)|exact H
      have c9a:=Za.mk IE;clear IE;have H':=Za.mk H;clear H;obtain⟨gna,goa,e5a,e6a⟩:=cz2 jE.out
      go_wp2_with (first|((with_reducible refine Zbk (b:= .append) (xs:=#[.tmp 58,.tmp 60]) rfl ?_);at_builtin;refine Kd.Zct k59 (w0:=w) w.heap.size rfl (.tmp 58) (.tmp 60) 35 59 (.agg #[(.int .i64 0),(.int .i64 0)]) 16 rfl Tryz.underlying35 Zgl rfl (by decide) (by omega) u5 aD (⟨eY,((Zba l0 gF).f1)⟩:S59) [.int .i64 eY,.int .i64 ((Zba l0 gF).f1)] (fun k_=>k_≠mK) (fun _=>False) rfl rfl ?aP (fun _ hk=>hk.elim) ?aF ?aO ?aB ?aS ?aL ?_;(case aP=>exact Zgo _ _ _ (⟨eY,((Zba l0 gF).f1)⟩:S59));(case aB=>exact(bM HB.out));(case aF=>exact(fun k_ hk=>Kd.freshB (kM jE.out) k_ hk));(case aO=>exact(rM bY.out));(case aS=>exact(Zaj (bM HB.out)));(case aL=>have:=cna.out;omega);intro tXa w37 ho hb hg hat;rw[←c9a.out]at ho;replace HB:=Za.mk (hb);have bUa:=Za.mk (ho);clear jE bY;clear ho hb hg hat))
      go_roundg k2
      case measure=>have:=HK1.out;have:=HK2.out;omega
      case rel=>exact⟨(b5a),(wrap64 (gF+1)),eS,H',⟨by have:=HK1.out;have:=HK2.out;omega⟩,⟨rM (Kd.Zaw bUa.out (fun _ hk=>trivial))⟩,⟨bM HB.out⟩⟩
     rw[if_pos c8]at H;have nP:decide (fK<(l1.length:Int))=true:=decide_eq_true c8;clear c8;obtain⟨yG,H⟩:=ifT H;obtain⟨qP,H⟩:=ifT H;have TD:=Za.mk H;clear H;have iDa:(0≤(fK:Int))=True:=teq;have iSa:(fK<(l1.length:Int))=True:=teq;obtain⟨lfa,rfl,JV,JW⟩:=Zd0 HR1.out fK odt odt;replace JV:=hB HB.out JV;replace JW:=hB HB.out JW
     go_upto_region 8 with (first|((with_reducible refine Zap (N:=9) rfl ?_);refine bx 9 #[.int .i64 0,.int .i64 0] 59 ?_;intro pK hg w12 hbox hb;replace bY:=Za.mk (Kd.Zbt (Kd.Zf7 (rM bY.out) pK (Nat.le_of_eq hg.symm)) hb);have qK:=Za.mk (hbox);have kHa:=Za.mk ((gE hg HB.out:w.heap.size≤pK));replace HB:=Za.mk (bS HB.out hb);have mJ:=Za.mk ((by rw[hg];exact Nat.ne_of_lt (Zbj (kM jE.out)):mK≠pK));have uQ:=Za.mk ((by rw[hg];exact Nat.ne_of_gt (Zbj (kM jE.out)):pK≠mK));replace jE:=Za.mk (kB jE.out hb);clear hb hbox hg;have l9a:=uQ.out;have mja:=mJ.out;obtain⟨uJ,uK,uC,uD⟩:=cz2 qK.out))
     (try simp only[Act.put,List.setIfInBounds_toArray,List.set_cons_zero,List.set_cons_succ])
     go_cut [33] (fun v33 wc=>∃(kq:Nat) (Jk:Bool),v33= .bool Jk∧Za (Za8.j2 kq l1 aD l0 (l0.length:Int) gF l1 (l1.length:Int) fK Jk eY ((Zba l0 gF).f1) ((Zba l1 fK).f0) ((Zba l1 fK).f1)=some r)∧Za (kq≤k2)∧Za (Kd.R k59 59 wc w.heap.size (fun k_=>k_≠mK∧k_≠pK) u5 aD)∧Za (wc.heap[mK]? =some (.cells #[.int .i64 eY,.int .i64 ((Zba l0 gF).f1)] 59 (0,0)))∧Za (wc.heap[pK]? =some (.cells #[.int .i64 ((Zba l1 fK).f0),.int .i64 ((Zba l1 fK).f1)] 59 (0,0)))∧Za (Below w.heap.size w wc))
     case first=>
      have H:=TD.out;clear TD;by_cases c15:((Zba l1 fK).f1)<eY
      case neg=>
       rw[if_neg c15]at H;have lU:decide (((Zba l1 fK).f1)<eY)=false:=decide_eq_false c15;clear c15
       (first|rw[lU]|(simp only[Zdk,Zdn];rw[lU])|skip)
       have H':=Za.mk H;clear H;have dBa:=uQ.out;have dPa:=mJ.out;obtain⟨uO,uP,uH,uI⟩:=cz2 qK.out;obtain⟨J3,J4,Jp,Jq⟩:=cz2 jE.out;go_wp2
       go_meet
       case rel=>exact⟨_,(decide (((Zba l1 fK).f0)>((Zba l0 gF).f1))),eS,H',⟨by have:=HK1.out;have:=HK2.out;first|omega|exact Nat.le_refl _⟩,⟨rM (Kd.Zaw (Kd.Za2 (p:=⟨pK,1,none⟩) (Kd.Za2 (p:=⟨pK,0,none⟩) (Kd.Zaw bY.out (fun k_ hk=>(⟨hk,hk.2⟩:_∧k_≠pK))) (fun _ hk=>hk.2) (.int .i64 ((Zba l1 fK).f0))) (fun _ hk=>hk.2) (.int .i64 ((Zba l1 fK).f1))) (fun _ hk=>⟨hk.1.1,hk.1.2⟩))⟩,⟨by(with_reducible repeat(first|refine Zab ?_ _|refine Zad ?_|refine Zaa ?_ _));refine Zav ?_ mJ.out _;(with_reducible repeat(first|refine Zab ?_ _|refine Zad ?_|refine Zaa ?_ _));refine Zav ?_ mJ.out _;(with_reducible repeat(first|refine Zab ?_ _|refine Zad ?_|refine Zaa ?_ _));exact jE.out⟩,⟨by(with_reducible repeat(first|refine Zab ?_ _|refine Zad ?_|refine Zaa ?_ _));refine Zas (cs:=#[.int .i64 ((Zba l1 fK).f0),.int .i64 0]) ?_ 1 _ rfl;(with_reducible repeat(first|refine Zab ?_ _|refine Zad ?_|refine Zaa ?_ _));refine Zas (cs:=#[.int .i64 0,.int .i64 0]) ?_ 0 _ rfl;(with_reducible repeat(first|refine Zab ?_ _|refine Zad ?_|refine Zaa ?_ _));exact qK.out⟩,⟨bM HB.out⟩⟩
      rw[if_pos c15]at H;have lU:decide (((Zba l1 fK).f1)<eY)=true:=decide_eq_true c15;clear c15
      (first|rw[lU]|(simp only[Zdk,Zdn];rw[lU])|skip)
      have H':=Za.mk H;clear H;have lCa:=uQ.out;have mma:=mJ.out;obtain⟨yu,yw,xS,xU⟩:=cz2 qK.out;obtain⟨Xc,Xd,WA,WB⟩:=cz2 jE.out;go_wp2
      go_meet
      case rel=>exact⟨_,(true),eS,H',⟨by have:=HK1.out;have:=HK2.out;first|omega|exact Nat.le_refl _⟩,⟨rM (Kd.Zaw (Kd.Za2 (p:=⟨pK,1,none⟩) (Kd.Za2 (p:=⟨pK,0,none⟩) (Kd.Zaw bY.out (fun k_ hk=>(⟨hk,hk.2⟩:_∧k_≠pK))) (fun _ hk=>hk.2) (.int .i64 ((Zba l1 fK).f0))) (fun _ hk=>hk.2) (.int .i64 ((Zba l1 fK).f1))) (fun _ hk=>⟨hk.1.1,hk.1.2⟩))⟩,⟨by(with_reducible repeat(first|refine Zab ?_ _|refine Zad ?_|refine Zaa ?_ _));refine Zav ?_ mJ.out _;(with_reducible repeat(first|refine Zab ?_ _|refine Zad ?_|refine Zaa ?_ _));refine Zav ?_ mJ.out _;(with_reducible repeat(first|refine Zab ?_ _|refine Zad ?_|refine Zaa ?_ _));exact jE.out⟩,⟨by(with_reducible repeat(first|refine Zab ?_ _|refine Zad ?_|refine Zaa ?_ _));refine Zas (cs:=#[.int .i64 ((Zba l1 fK).f0),.int .i64 0]) ?_ 1 _ rfl;(with_reducible repeat(first|refine Zab ?_ _|refine Zad ?_|refine Zaa ?_ _));refine Zas (cs:=#[.int .i64 0,.int .i64 0]) ?_ 0 _ rfl;(with_reducible repeat(first|refine Zab ?_ _|refine Zad ?_|refine Zaa ?_ _));exact qK.out⟩,⟨bM HB.out⟩⟩
     case rest=>
      clear TD;try clear c1
      try clear p2
      try clear q2
      try clear hx2
      try clear c3
      try clear gL
      try clear c4
      try clear dV
      try clear c5
      try clear dS
      try clear c7
      try clear c8
      try clear nP
      try clear c9
      try clear yG
      try clear c10
      try clear qP
      try clear c13
      try clear c15
      try clear lU
      try clear c16
      try clear c19
      try clear uJ uK uC uD
      try clear yu yw xS xU
      try clear Xc Xd WA WB
      try clear uO uP uH uI
      try clear J3 J4 Jp Jq
      try clear vk vo uX uY
      try clear EG
      try clear EI
      try clear JV
      try clear JW
      try clear p2
      try clear aHa
      try clear iDa
      try clear q2
      try clear aRa
      try clear iSa
      obtain⟨kq,Jk,rfl,HA,HJ10,bY,jE,qK,HB⟩:=hcut
      cases kq with
      | zero => exact absurd HA.out (by simp [Za8.j2])
      |succ kj10=>
       have H:=HA.out;clear HA;simp only[Za8.j2]at H;by_cases c22:Jk=true
       case pos=>
        subst c22;rw[if_pos rfl]at H;have H':=Za.mk H;clear H;go_wp2
        go_roundg kj10
        case measure=>have:=HK1.out;have:=HK2.out;have:=HJ10.out;omega
        case rel=>exact⟨(aD),(wrap64 (fK+1)),(eY),eS,H',⟨by have:=HK1.out;have:=HK2.out;have:=HJ10.out;omega⟩,⟨rM (Kd.Zaw bY.out (fun _ hk=>hk.1))⟩,⟨by(with_reducible repeat(first|refine Zab ?_ _|refine Zad ?_|refine Zaa ?_ _));exact jE.out⟩,⟨bM HB.out⟩⟩
       replace c22:=Bool.eq_false_iff.mpr c22;subst c22;replace H:=ifF H;by_cases c23:((Zba l1 fK).f0)>eY
       case neg=>
        rw[if_neg c23]at H;have uB:decide (eY<((Zba l1 fK).f0))=false:=decide_eq_false c23;clear c23;have H':=Za.mk H;clear H;have dEa:=uQ.out;have dSa:=mJ.out;obtain⟨Mm,Mo,LH,LJ⟩:=cz2 qK.out;obtain⟨Xj,Xk,WI,WJ⟩:=cz2 jE.out;go_wp2
        go_roundg kj10
        case measure=>have:=HK1.out;have:=HK2.out;have:=HJ10.out;omega
        case rel=>exact⟨(aD),(wrap64 (fK+1)),(wrap64 (((Zba l1 fK).f1)+1)),eS,H',⟨by have:=HK1.out;have:=HK2.out;have:=HJ10.out;omega⟩,⟨rM (Kd.Zaw (Kd.Za2 (p:=⟨mK,0,none⟩) (Kd.Zaw bY.out (fun k_ hk=>(⟨hk,hk.1⟩:_∧k_≠mK))) (fun _ hk=>hk.2) (.int .i64 (wrap64 (((Zba l1 fK).f1)+1)))) (fun _ hk=>hk.1.1))⟩,⟨by(with_reducible repeat(first|refine Zab ?_ _|refine Zad ?_|refine Zaa ?_ _));refine Zas (cs:=#[.int .i64 eY,.int .i64 ((Zba l0 gF).f1)]) ?_ 0 _ rfl;(with_reducible repeat(first|refine Zab ?_ _|refine Zad ?_|refine Zaa ?_ _));exact jE.out⟩,⟨bM HB.out⟩⟩
       rw[if_pos c23]at H;have uB:decide (eY<((Zba l1 fK).f0))=true:=decide_eq_true c23;clear c23;obtain⟨c24,H⟩:=ifP H;have cla:=Za.mk c24;clear c24;obtain⟨b6a,IG⟩:∃y_:List (S59),y_=(aD++ [(⟨eY,wrap64 (((Zba l1 fK).f0) - 1)⟩:S59)]):=⟨_,rfl⟩;replace H:(Za8.l1 kj10 l1 b6a l0 (l0.length:Int) gF l1 (l1.length:Int) (wrap64 (fK+1)) (wrap64 (((Zba l1 fK).f1)+1)) ((Zba l0 gF).f1))=some r:=by first|(rw[IG];with_reducible exact H)|(have H2_:=(Option.bind_some _ _).symm.trans H;rw[IG];with_reducible exact H2_)|(have H2_:=(Option.bind_some _ _).symm.trans H;with_reducible exact H2_)|with_reducible exact H|(rw[IG];exact H)|exact H
       have cAa:=Za.mk IG;clear IG;have H':=Za.mk H;clear H;have lHa:=uQ.out;have mra:=mJ.out;obtain⟨J5,J6,Jr,Js⟩:=cz2 qK.out;obtain⟨Sk,Sl,Ru,Rv⟩:=cz2 jE.out
       go_wp2_with (first|((with_reducible refine Zbk (b:= .append) (xs:=#[.tmp 39,.tmp 46]) rfl ?_);at_builtin;refine Kd.Zct k59 (w0:=w) w.heap.size rfl (.tmp 39) (.tmp 46) 35 59 (.agg #[(.int .i64 0),(.int .i64 0)]) 16 rfl Tryz.underlying35 Zgl rfl (by decide) (by omega) u5 aD (⟨eY,wrap64 (((Zba l1 fK).f0) - 1)⟩:S59) [.int .i64 eY,.int .i64 (wrap64 (((Zba l1 fK).f0) - 1))] (fun k_=>k_≠mK∧k_≠pK) (fun _=>False) rfl rfl ?aP (fun _ hk=>hk.elim) ?aF ?aO ?aB ?aS ?aL ?_;(case aP=>exact Zgo _ _ _ (⟨eY,wrap64 (((Zba l1 fK).f0) - 1)⟩:S59));(case aB=>exact(bM HB.out));(case aF=>exact(fun k_ hk=>⟨Kd.freshB (kM jE.out) k_ hk,Kd.freshB (kM qK.out) k_ hk⟩));(case aO=>exact(rM bY.out));(case aS=>exact(Zaj (bM HB.out)));(case aL=>have:=cla.out;omega);intro tYa w28 ho hb hg hat;rw[←cAa.out]at ho;replace jE:=Za.mk (kG jE.out hg (Kd.R_away bY.out (fun _ hk=>hk.1)));replace qK:=Za.mk (kG qK.out hg (Kd.R_away bY.out (fun _ hk=>hk.2)));replace HB:=Za.mk (hb);have bVa:=Za.mk (ho);clear bY;clear ho hb hg hat;obtain⟨yE,yF,yg,yh⟩:=cz2 qK.out;obtain⟨Mk,Ml,LF,LG⟩:=cz2 jE.out))
       go_roundg kj10
       case measure=>have:=HK1.out;have:=HK2.out;have:=HJ10.out;omega
       case rel=>exact⟨(b6a),(wrap64 (fK+1)),(wrap64 (((Zba l1 fK).f1)+1)),eS,H',⟨by have:=HK1.out;have:=HK2.out;have:=HJ10.out;omega⟩,⟨rM (Kd.Zaw (Kd.Za2 (p:=⟨mK,0,none⟩) (Kd.Zaw bVa.out (fun k_ hk=>(⟨hk,hk.1⟩:_∧k_≠mK))) (fun _ hk=>hk.2) (.int .i64 (wrap64 (((Zba l1 fK).f1)+1)))) (fun _ hk=>hk.1.1))⟩,⟨by(with_reducible repeat(first|refine Zab ?_ _|refine Zad ?_|refine Zaa ?_ _));refine Zas (cs:=#[.int .i64 eY,.int .i64 ((Zba l0 gF).f1)]) ?_ 0 _ rfl;(with_reducible repeat(first|refine Zab ?_ _|refine Zad ?_|refine Zaa ?_ _));exact jE.out⟩,⟨bM HB.out⟩⟩
def Zcd.f (k:Nat) (l0:List (S59)):Option (Bool):=(Za8.f k l0 (([(⟨0,1⟩:S59)]:List (S59)))).bind fun G6=>(some ((G6.length:Int)==0))
theorem Zcd.mono:∀a0 k,LeO (Zcd.f k a0) (Zcd.f (k+1) a0):=by
 intro a0 k;unfold Zcd.f
 repeat' first
   | (with_reducible exact Za8.mono _ _ _)
   | (with_reducible exact LeO.refl _)
   | (with_reducible exact LeO.none _)
   | (with_reducible refine LeO.ite ?_ ?_)
   |(with_reducible refine LeO.bind ?_ (fun _=> ?_))
set_option maxRecDepth 100000 in
theorem Zcd.calls (k : Nat) (A0 : Option Addr) (c0 : Nat) (l0 : List (S59)) (r : Bool) (w : World) (hr0 : Kd.C k59 w A0 l0.length l0) (hc0 : l0.length ≤ c0) (h : Zcd.f k l0 = some r) :
  Calls Tryz.prog 55 #[.slice A0 l0.length c0] w fun e w'=>e= .returned (.bool r)∧Below w.heap.size w w':=by
 have hu59:=Tryz.underlying59;have HR0:=Za.mk hr0;have HC0:=Za.mk hc0;clear hr0 hc0;have HB:=Za.mk (Below.refl w.heap.size w);have H:((Za8.f k l0 (([(⟨0,1⟩:S59)]:List (S59)))).bind fun G6=>(some ((G6.length:Int)==0)))=some r:=h;clear h;obtain⟨Vf,II⟩:∃y_:List (S59),y_=(([(⟨0,1⟩:S59)]:List (S59))):=⟨_,rfl⟩;replace H:((Za8.f k l0 Vf).bind fun G6=>(some ((G6.length:Int)==0)))=some r:=by first|(rw[II];with_reducible exact H)|(have H2_:=(Option.bind_some _ _).symm.trans H;rw[II];with_reducible exact H2_)|(have H2_:=(Option.bind_some _ _).symm.trans H;with_reducible exact H2_)|with_reducible exact H|(rw[II];exact H)|exact H
 have VC:=Za.mk II;clear II;obtain⟨G6,A2,H⟩:=bnd H;try dsimp only at H
 obtain rfl:=sj H;go_enter Tryz.func55,Tryz.ntmps55
 go_wp2_with (first|((with_reducible refine Zap (N:=5) rfl ?_);refine Kd.Zdf k59 _ 59 ?hg (N:=5) ?hd (xs:=([(⟨0,1⟩:S59)]:List (S59))) (inner:= [.int .i64 0,.int .i64 1]) (ok:=fun _=>True) (okp:=fun _=>True) ?hr ?hp (fun _ hk=>hk) trivial (Below.refl _ _) (Nat.le_refl _) (by simp) ?_;(case hd=>rfl);(case hg=>rfl);(case hr=>first|(go_simp;done)|(go_simp;rfl));(case hp=>exact(Reps.c2 (show Kd.M k59 _ _ _ (⟨0,1⟩:S59) [.int .i64 0,.int .i64 1]from(Zgo _ _ _ (⟨0,1⟩:S59))) (Reps.none _ _)));intro uaa w3 ho4 hb hg_ hnew_;clear hg_ hnew_;(first|rw[←VC.out]at ho4|(simp only[Int.reduceToNat]at ho4;rw[←VC.out]at ho4));have He:=Za.mk (Kd.Zbp ho4 (Zaj (bM HB.out)));replace HB:=Za.mk (bS HB.out hb);clear hb ho4;obtain⟨Ao5,co5,eo5⟩:=Kd.Za9 He.out;subst eo5)|((with_reducible refine Zat (f:=79) rfl ?_);refine gl 6 Tryz.func79 #[.slice A0 l0.length c0,.slice Ao5 Vf.length co5] ?_;(with_reducible refine(Za8.calls k _ _ l0 _ _ Vf G6 _ (cM (Kd.Zaf HR0.out HB.out)) HC0.out (cM ((Kd.Za3 He.out).2.2)) ((Kd.Za3 He.out).2.1) A2.out).mono ?_);rintro e w6 ⟨uba,rfl,ho0,hb⟩;refine⟨_,rfl,?_⟩;have bWa:=Za.mk (Kd.Zbp (Kd.Zcs ho0 (Kd.R_lt (rM He.out))) (Zaj (bM HB.out)));replace HB:=Za.mk (bS HB.out hb);clear He;(try clear hb);(try clear hb2);(try clear hk);(try clear hi);(try clear ho0);obtain⟨Ao7,co7,eo7⟩:=Kd.Za9 bWa.out;subst eo7))
 go_ret;exact⟨eR,bM HB.out⟩
end Go.Proofs.YtkgjaklnbgdmiaaGreat.P
