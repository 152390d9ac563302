/- Proved: what each function of the program that the statements of this seat reach comes to, for whatever memory and arguments it is called with (on condition that its plain text tells a result). -/
import Derived.Test.YtdpieallpbllkaaGreatProg
import Derived.Below
import Derived.Deep.Draws
import Derived.Deep.AppendLies
import Derived.Maps.AppendAt
import Derived.OwnWalk
import Derived.Laws.BytesArg
import Derived.Laws.MakeOwn
import Derived.Laws.OwnMore
import Derived.Deep.OwnRows
import Derived.Tactics
import Derived.Lib.ConvBytes
import Derived.Laws.Slices
import Derived.WalkKit
import Derived.KernelRfl
import Derived.RowKit3
import Derived.Deep.LoopGhost
import Derived.Deep.QuietTactic
import Derived.BigQuiet
import Derived.WideLaws
import Derived.Deep.DeepCutAuto
import Derived.Deep.CutBlock
import Derived.Deep.RegionHeld3
import Derived.Laws.Rows
import Derived.Lib.AppendStr
import Derived.ArgAppend
import Derived.Laws.IdiomCopy
import Derived.OrdersHeld
import Derived.Laws.BitsLemmas
import Derived.RowKit
import Derived.Test.YtdpieallpbllkaaGreatU1
import Derived.Laws.Bits64b
import Derived.RangeFuncNested
import Derived.RangeFuncBox
import Derived.RangeFuncBound
import Derived.RangeFuncCalls
import Derived.RangeFuncLeaves
import Derived.Shelf.Abstract
import Derived.Shelf.AbstractIn
import Derived.OwnWalkIn
import Derived.TacticsInMore
import Derived.LoopNIn
import Derived.LoopIn
import Derived.Shelf.SlLaysM
import Derived.Shelf.SlLaysN
import Derived.Shelf.SortM.Plain
import Derived.Shelf.SortM.SortNone
import Derived.Sort.OwnSortedInts
import Derived.Shelf.GgClosure.Gives
import Derived.Lib.SlBy
import Derived.Shelf.SlicesG.CompactI
import Derived.Lib.SlicesCompact
set_option linter.unusedSimpArgs false
set_option linter.unusedVariables false
set_option maxHeartbeats 8000000
namespace Go.Proofs.YtdpieallpbllkaaGreat.P
open Go.RowKit Go.Proofs.YtdpieallpbllkaaGreatW.PrintWords Go.Proofs.YtdpieallpbllkaaGreatW.PrintLast Go.Proofs.YtdpieallpbllkaaGreatW.PrintMore
attribute [local go_sem] Zcw Zcy Zdg Zdh Zco Zcp Zcx Zcz
def errW : Option Int → Value
 | none => .nilIface
 |some c=> .iface 0 (.int .i64 c)
theorem Zde:errW none= .nilIface:=rfl
theorem Zdf (c:Int):errW (some c)= .iface 0 (.int .i64 c):=rfl
theorem info3:(Tryz.prog.info? 3).map (fun i=>(i.zero,i.size,i.bytes))=some (some (.int .i64 0),1,8):=by kernel_rfl
theorem Zh6:(Tryz.prog.info? 24).map (fun i=>(i.zero,i.size,i.bytes))=some (some (.slice none 0 0),1,24):=by kernel_rfl
theorem info36:(Tryz.prog.info? 36).map (fun i=>(i.zero,i.size,i.bytes))=some (some (.agg #[(.int .i64 0),(.slice none 0 0),(.slice none 0 0),(.int .i64 0),(.int .i64 0),(.slice none 0 0),(.int .i64 0)]),7,104):=by kernel_rfl
theorem info53:(Tryz.prog.info? 53).map (fun i=>(i.zero,i.size,i.bytes))=some (some (.slice none 0 0),1,24):=by kernel_rfl
theorem info55:(Tryz.prog.info? 55).map (fun i=>(i.zero,i.size,i.bytes))=some (some (.agg #[(.string ⟨#[]⟩),(.slice none 0 0)]),2,40):=by kernel_rfl
theorem Zh7:(Tryz.prog.info? 82).map (fun i=>(i.zero,i.size,i.bytes))=some (some (.agg #[(.int .i64 0),(.int .i64 0)]),2,16):=by kernel_rfl
def Zb3 (xs:List (List Int)) (i:Int):(List Int):=xs.getD i.toNat ([]:List Int)
theorem Zew {w:World} {A:Option Addr} {n:Nat} {xs:List (List Int)} (h:Kd.C (Kd.slice 3 (Kd.int .i64)) w A n xs) (i:Int) (h0:0≤i) (h1:i<n):∃ad A0 c0,A=some ad∧w.cell? (ad.add i.toNat)=some (.slice A0 (Zb3 xs i).length c0)∧(Zb3 xs i).length≤c0∧(Kd.int .i64).C w A0 (Zb3 xs i).length (Zb3 xs i):=by
 obtain⟨ad,c,e,_,hK,hc0⟩:=Kd.C_get h ([]:List Int) i h0 h1;have hc:∀j u,c[j]? =some u→w.cell? (ad.add (i.toNat*1+j))=some u:=hc0;obtain⟨A0,c0,rfl,l0,g0⟩:=hK;exact⟨ad,A0,c0,e,by have hq:=hc 0 _ rfl;rwa [Nat.mul_one,Nat.add_zero]at hq,l0,g0⟩
structure S82 where
 f0:Int
 f1:Int
def z82:S82:=⟨(0:Int),(0:Int)⟩
def k82:Kd S82:=Kd.iso (Kd.pair (Kd.int .i64) (Kd.int .i64)) (fun x:S82=>(x.f0,x.f1))
theorem k82_heap:Kd.Heap k82:=Kd.heap_iso _ (Kd.heap_pair (Kd.heap_int .i64) (Kd.heap_int .i64))
theorem k82_open {w:World} {x:S82} {cs:List Value} (h:k82.K w x cs):cs= [.int .i64 x.f0,.int .i64 x.f1]:=by
 obtain⟨_,_,rfl,rfl,rfl⟩:=h;exact rfl
theorem Zg9 (w:World) (base:Nat) (ok:Nat→Prop) (x:S82):k82.M w base ok x [.int .i64 x.f0,.int .i64 x.f1]:=⟨[.int .i64 x.f0],[.int .i64 x.f1],rfl,rfl,rfl⟩
def Zbk (xs:List S82) (i:Int):S82:=xs.getD i.toNat z82
theorem Zem {w:World} {A:Option Addr} {n:Nat} {xs:List S82} (h:Kd.C k82 w A n xs) (i:Int) (h0:0≤i) (h1:i<n):∃ad,A=some ad∧w.cell? (ad.add (i.toNat*2))=some (.int .i64 (Zbk xs i).f0)∧w.cell? ⟨(ad.add (i.toNat*2)).block,(ad.add (i.toNat*2)).off+1,none⟩=some (.int .i64 (Zbk xs i).f1):=by
 obtain⟨ad,c,e,_,hK,hc0⟩:=Kd.C_get h z82 i h0 h1;have hc:∀j u,c[j]? =some u→w.cell? (ad.add (i.toNat*2+j))=some u:=hc0;obtain rfl:=k82_open hK;exact⟨ad,e,hc 0 _ rfl,by rw[←Zei _ _ 1 (by omega)];exact hc 1 _ rfl⟩
def Zdo (xs:List (List S82)) (i:Int):(List S82):=xs.getD i.toNat ([]:List S82)
theorem Zfv {w:World} {A:Option Addr} {n:Nat} {xs:List (List S82)} (h:Kd.C (Kd.slice 82 k82) w A n xs) (i:Int) (h0:0≤i) (h1:i<n):∃ad A0 c0,A=some ad∧w.cell? (ad.add i.toNat)=some (.slice A0 (Zdo xs i).length c0)∧(Zdo xs i).length≤c0∧k82.C w A0 (Zdo xs i).length (Zdo xs i):=by
 obtain⟨ad,c,e,_,hK,hc0⟩:=Kd.C_get h ([]:List S82) i h0 h1;have hc:∀j u,c[j]? =some u→w.cell? (ad.add (i.toNat*1+j))=some u:=hc0;obtain⟨A0,c0,rfl,l0,g0⟩:=hK;exact⟨ad,A0,c0,e,by have hq:=hc 0 _ rfl;rwa [Nat.mul_one,Nat.add_zero]at hq,l0,g0⟩
structure S55 where
 f0:ByteArray
 f1:(List S82)
def z55:S55:=⟨(⟨#[]⟩:ByteArray),([]:List S82)⟩
def k55:Kd S55:=Kd.iso (Kd.pair Kd.string (Kd.slice 82 k82)) (fun x:S55=>(x.f0,x.f1))
theorem k55_heap:Kd.Heap k55:=Kd.heap_iso _ (Kd.heap_pair Kd.heap_string (Kd.heap_slice 82 k82_heap))
theorem k55_open {w:World} {x:S55} {cs:List Value} (h:k55.K w x cs):∃A1 c1,cs= [.string x.f0,.slice A1 x.f1.length c1]∧x.f1.length≤c1∧k82.C w A1 x.f1.length x.f1:=by
 obtain⟨_,_,rfl,rfl,⟨A1,c1,rfl,l1,g1⟩⟩:=h;exact⟨A1,c1,rfl,l1,g1⟩
theorem k55_mk (w:World) (x:S55) {A1:Option Addr} {c1:Nat} (l1:x.f1.length≤c1) (g1:k82.C w A1 x.f1.length x.f1):k55.K w x [.string x.f0,.slice A1 x.f1.length c1]:=⟨[.string x.f0],[.slice A1 x.f1.length c1],rfl,rfl,⟨A1,c1,rfl,l1,g1⟩⟩
theorem k55_mkM (w:World) (base:Nat) (ok:Nat→Prop) (x:S55) {v1:Value} (g1:k82.R 82 w base ok v1 x.f1):k55.M w base ok x [.string x.f0,v1]:=⟨[.string x.f0],[v1],rfl,rfl,⟨v1,rfl,g1⟩⟩
theorem k55_openF {W:World} {ok:Nat→Prop} {x:S55} {cs:List Value} (h:Kd.FK k55 W ok x cs):∃A1 c1,cs= [.string x.f0,.slice A1 x.f1.length c1]∧x.f1.length≤c1∧Kd.F k82 W ok A1 x.f1.length x.f1:=by
 obtain⟨A1,c1,rfl,l1,_⟩:=k55_open (Kd.Zgw h);exact⟨A1,c1,rfl,l1,(fun W' hW=>by obtain⟨A1_,c1_,he,l1_,g1_⟩:=k55_open (h W' hW);injection (Option.some.inj (show some (Value.slice A1 x.f1.length c1)=some (Value.slice A1_ x.f1.length c1_)from congrArg (fun l=>l[1]?) he))with ha_ _ _;rw[ha_];exact g1_)⟩
theorem k55_mkF (W:World) (ok:Nat→Prop) (x:S55) {A1:Option Addr} {c1:Nat} (l1:x.f1.length≤c1) (g1:Kd.F k82 W ok A1 x.f1.length x.f1):Kd.FK k55 W ok x [.string x.f0,.slice A1 x.f1.length c1]:=fun W2 hW=>k55_mk W2 x l1 (g1 W2 hW)
def Za9 (xs:List S55) (i:Int):S55:=xs.getD i.toNat z55
theorem Zev {w:World} {A:Option Addr} {n:Nat} {xs:List S55} (h:Kd.C k55 w A n xs) (i:Int) (h0:0≤i) (h1:i<n):∃ad A1 c1,A=some ad∧w.cell? (ad.add (i.toNat*2))=some (.string (Za9 xs i).f0)∧w.cell? ⟨(ad.add (i.toNat*2)).block,(ad.add (i.toNat*2)).off+1,none⟩=some (.slice A1 (Za9 xs i).f1.length c1)∧(Za9 xs i).f1.length≤c1∧k82.C w A1 (Za9 xs i).f1.length (Za9 xs i).f1:=by
 obtain⟨ad,c,e,_,hK,hc0⟩:=Kd.C_get h z55 i h0 h1;have hc:∀j u,c[j]? =some u→w.cell? (ad.add (i.toNat*2+j))=some u:=hc0;obtain⟨A1,c1,rfl,l1,g1⟩:=k55_open hK;exact⟨ad,A1,c1,e,hc 0 _ rfl,by rw[←Zei _ _ 1 (by omega)];exact hc 1 _ rfl,l1,g1⟩
structure S36 where
 f0:Int
 f1:(List Int)
 f2:(List Int)
 f3:Int
 f4:Int
 f5:(List (List Int))
 f6:Int
def z36:S36:=⟨(0:Int),([]:List Int),([]:List Int),(0:Int),(0:Int),([]:List (List Int)),(0:Int)⟩
def k36:Kd S36:=Kd.iso (Kd.pair (Kd.int .i64) (Kd.pair (Kd.slice 3 (Kd.int .i64)) (Kd.pair (Kd.slice 3 (Kd.int .i64)) (Kd.pair (Kd.int .i64) (Kd.pair (Kd.int .i64) (Kd.pair (Kd.slice 24 (Kd.slice 3 (Kd.int .i64))) (Kd.int .i64))))))) (fun x:S36=>(x.f0,x.f1,x.f2,x.f3,x.f4,x.f5,x.f6))
theorem k36_open {w:World} {x:S36} {cs:List Value} (h:k36.K w x cs):∃A1 c1 A2 c2 A5 c5,cs= [.int .i64 x.f0,.slice A1 x.f1.length c1,.slice A2 x.f2.length c2,.int .i64 x.f3,.int .i64 x.f4,.slice A5 x.f5.length c5,.int .i64 x.f6]∧x.f1.length≤c1∧(Kd.int .i64).C w A1 x.f1.length x.f1∧x.f2.length≤c2∧(Kd.int .i64).C w A2 x.f2.length x.f2∧x.f5.length≤c5∧(Kd.slice 3 (Kd.int .i64)).C w A5 x.f5.length x.f5:=by
 obtain⟨_,_,rfl,rfl,⟨_,_,rfl,⟨A1,c1,rfl,l1,g1⟩,⟨_,_,rfl,⟨A2,c2,rfl,l2,g2⟩,⟨_,_,rfl,rfl,⟨_,_,rfl,rfl,⟨_,_,rfl,⟨A5,c5,rfl,l5,g5⟩,rfl⟩⟩⟩⟩⟩⟩:=h;exact⟨A1,c1,A2,c2,A5,c5,rfl,l1,g1,l2,g2,l5,g5⟩
theorem k36_mk (w:World) (x:S36) {A1:Option Addr} {c1:Nat} (l1:x.f1.length≤c1) (g1:(Kd.int .i64).C w A1 x.f1.length x.f1) {A2:Option Addr} {c2:Nat} (l2:x.f2.length≤c2) (g2:(Kd.int .i64).C w A2 x.f2.length x.f2) {A5:Option Addr} {c5:Nat} (l5:x.f5.length≤c5) (g5:(Kd.slice 3 (Kd.int .i64)).C w A5 x.f5.length x.f5):k36.K w x [.int .i64 x.f0,.slice A1 x.f1.length c1,.slice A2 x.f2.length c2,.int .i64 x.f3,.int .i64 x.f4,.slice A5 x.f5.length c5,.int .i64 x.f6]:=⟨[.int .i64 x.f0],[.slice A1 x.f1.length c1,.slice A2 x.f2.length c2,.int .i64 x.f3,.int .i64 x.f4,.slice A5 x.f5.length c5,.int .i64 x.f6],rfl,rfl,⟨[.slice A1 x.f1.length c1],[.slice A2 x.f2.length c2,.int .i64 x.f3,.int .i64 x.f4,.slice A5 x.f5.length c5,.int .i64 x.f6],rfl,⟨A1,c1,rfl,l1,g1⟩,⟨[.slice A2 x.f2.length c2],[.int .i64 x.f3,.int .i64 x.f4,.slice A5 x.f5.length c5,.int .i64 x.f6],rfl,⟨A2,c2,rfl,l2,g2⟩,⟨[.int .i64 x.f3],[.int .i64 x.f4,.slice A5 x.f5.length c5,.int .i64 x.f6],rfl,rfl,⟨[.int .i64 x.f4],[.slice A5 x.f5.length c5,.int .i64 x.f6],rfl,rfl,⟨[.slice A5 x.f5.length c5],[.int .i64 x.f6],rfl,⟨A5,c5,rfl,l5,g5⟩,rfl⟩⟩⟩⟩⟩⟩
theorem k36_mkM (w:World) (base:Nat) (ok:Nat→Prop) (x:S36) {v1:Value} (g1:(Kd.int .i64).R 3 w base ok v1 x.f1) {v2:Value} (g2:(Kd.int .i64).R 3 w base ok v2 x.f2) {v5:Value} (g5:(Kd.slice 3 (Kd.int .i64)).R 24 w base ok v5 x.f5):k36.M w base ok x [.int .i64 x.f0,v1,v2,.int .i64 x.f3,.int .i64 x.f4,v5,.int .i64 x.f6]:=⟨[.int .i64 x.f0],[v1,v2,.int .i64 x.f3,.int .i64 x.f4,v5,.int .i64 x.f6],rfl,rfl,⟨[v1],[v2,.int .i64 x.f3,.int .i64 x.f4,v5,.int .i64 x.f6],rfl,⟨v1,rfl,g1⟩,⟨[v2],[.int .i64 x.f3,.int .i64 x.f4,v5,.int .i64 x.f6],rfl,⟨v2,rfl,g2⟩,⟨[.int .i64 x.f3],[.int .i64 x.f4,v5,.int .i64 x.f6],rfl,rfl,⟨[.int .i64 x.f4],[v5,.int .i64 x.f6],rfl,rfl,⟨[v5],[.int .i64 x.f6],rfl,⟨v5,rfl,g5⟩,rfl⟩⟩⟩⟩⟩⟩
theorem k36_mkF (W:World) (ok:Nat→Prop) (x:S36) {A1:Option Addr} {c1:Nat} (l1:x.f1.length≤c1) (g1:Kd.F (Kd.int .i64) W ok A1 x.f1.length x.f1) {A2:Option Addr} {c2:Nat} (l2:x.f2.length≤c2) (g2:Kd.F (Kd.int .i64) W ok A2 x.f2.length x.f2) {A5:Option Addr} {c5:Nat} (l5:x.f5.length≤c5) (g5:Kd.F (Kd.slice 3 (Kd.int .i64)) W ok A5 x.f5.length x.f5):Kd.FK k36 W ok x [.int .i64 x.f0,.slice A1 x.f1.length c1,.slice A2 x.f2.length c2,.int .i64 x.f3,.int .i64 x.f4,.slice A5 x.f5.length c5,.int .i64 x.f6]:=fun W2 hW=>k36_mk W2 x l1 (g1 W2 hW) l2 (g2 W2 hW) l5 (g5 W2 hW)
def Zad (xs:List S36) (i:Int):S36:=xs.getD i.toNat z36
theorem at_T36 {w:World} {A:Option Addr} {n:Nat} {xs:List S36} (h:Kd.C k36 w A n xs) (i:Int) (h0:0≤i) (h1:i<n):∃ad A1 c1 A2 c2 A5 c5,A=some ad∧w.cell? (ad.add (i.toNat*7))=some (.int .i64 (Zad xs i).f0)∧w.cell? ⟨(ad.add (i.toNat*7)).block,(ad.add (i.toNat*7)).off+1,none⟩=some (.slice A1 (Zad xs i).f1.length c1)∧w.cell? ⟨(ad.add (i.toNat*7)).block,(ad.add (i.toNat*7)).off+2,none⟩=some (.slice A2 (Zad xs i).f2.length c2)∧w.cell? ⟨(ad.add (i.toNat*7)).block,(ad.add (i.toNat*7)).off+3,none⟩=some (.int .i64 (Zad xs i).f3)∧w.cell? ⟨(ad.add (i.toNat*7)).block,(ad.add (i.toNat*7)).off+4,none⟩=some (.int .i64 (Zad xs i).f4)∧w.cell? ⟨(ad.add (i.toNat*7)).block,(ad.add (i.toNat*7)).off+5,none⟩=some (.slice A5 (Zad xs i).f5.length c5)∧w.cell? ⟨(ad.add (i.toNat*7)).block,(ad.add (i.toNat*7)).off+6,none⟩=some (.int .i64 (Zad xs i).f6)∧(Zad xs i).f1.length≤c1∧(Kd.int .i64).C w A1 (Zad xs i).f1.length (Zad xs i).f1∧(Zad xs i).f2.length≤c2∧(Kd.int .i64).C w A2 (Zad xs i).f2.length (Zad xs i).f2∧(Zad xs i).f5.length≤c5∧(Kd.slice 3 (Kd.int .i64)).C w A5 (Zad xs i).f5.length (Zad xs i).f5:=by
 obtain⟨ad,c,e,_,hK,hc0⟩:=Kd.C_get h z36 i h0 h1;have hc:∀j u,c[j]? =some u→w.cell? (ad.add (i.toNat*7+j))=some u:=hc0;obtain⟨A1,c1,A2,c2,A5,c5,rfl,l1,g1,l2,g2,l5,g5⟩:=k36_open hK;exact⟨ad,A1,c1,A2,c2,A5,c5,e,hc 0 _ rfl,by rw[←Zei _ _ 1 (by omega)];exact hc 1 _ rfl,by rw[←Zei _ _ 2 (by omega)];exact hc 2 _ rfl,by rw[←Zei _ _ 3 (by omega)];exact hc 3 _ rfl,by rw[←Zei _ _ 4 (by omega)];exact hc 4 _ rfl,by rw[←Zei _ _ 5 (by omega)];exact hc 5 _ rfl,by rw[←Zei _ _ 6 (by omega)];exact hc 6 _ rfl,l1,g1,l2,g2,l5,g5⟩
end Go.Proofs.YtdpieallpbllkaaGreat.P
/- Short words for walks: the steps that come again and again are told by what a lemma does for itself (its last arguments are shown by fixed tactics). -/
namespace Go.Proofs.YtdpieallpbllkaaGreat.P
open Go.RowKit Go.Proofs.YtdpieallpbllkaaGreatW.PrintWords Go.Proofs.YtdpieallpbllkaaGreatW.PrintLast Go.Proofs.YtdpieallpbllkaaGreatW.PrintMore
section
variable {w0 w1 W W':World} {g:Nat} {o:Obj} {m:Nat}
theorem bM (h:Below m w0 w1) (k:Below m w0 w1→Below m w0 W:=by intro k_;repeat(first|(with_reducible first|exact k_|apply Zbi|apply Zcb|apply Zcs|(refine Zba ?_ (Za.out (by assumption))))|exact k_)):Below m w0 W:=k h
theorem bS (h:Below w0.heap.size w0 w1) (hb:Below W.heap.size W W') (k:Below w0.heap.size w0 w1→Below w0.heap.size w0 W:=by intro k_;repeat(first|(with_reducible first|exact k_|apply Zbi|apply Zcb|apply Zcs|(refine Zba ?_ (Za.out (by assumption))))|exact k_)):Below w0.heap.size w0 W':=Zae (k h) hb
theorem gE (hg:g=W.heap.size) (h:Below w0.heap.size w0 w1) (k:Below w0.heap.size w0 w1→Below w0.heap.size w0 W:=by intro k_;repeat(first|(with_reducible first|exact k_|apply Zbi|apply Zcb|apply Zcs|(refine Zba ?_ (Za.out (by assumption))))|exact k_)):w0.heap.size≤g:=by
  rw[hg];exact Zaf (k h)
theorem kM (h:w1.heap[g]? =some o) (k:w1.heap[g]? =some o→W.heap[g]? =some o:=by intro k_;(with_reducible repeat(first|exact k_|refine Zah ?_ _|refine Zai ?_|refine Zab ?_ _))):W.heap[g]? =some o:=k h
theorem kB (h:w1.heap[g]? =some o) (hb:Below W.heap.size W W') (k:w1.heap[g]? =some o→W.heap[g]? =some o:=by intro k_;(with_reducible repeat(first|exact k_|refine Zah ?_ _|refine Zai ?_|refine Zab ?_ _))):W'.heap[g]? =some o:=Zci (k h) hb
theorem kG {row:Option Nat} (h:w1.heap[g]? =some o) (hg:W.grownBy W' row) (hne:some g≠row) (k:w1.heap[g]? =some o→W.heap[g]? =some o:=by intro k_;(with_reducible repeat(first|exact k_|refine Zah ?_ _|refine Zai ?_|refine Zab ?_ _))):W'.heap[g]? =some o:=Ze4 (k h) hg hne
theorem hB {a:Addr} {v:Value} (hb:Below W.heap.size W W') (h:W.cell? a=some v):W'.cell? a=some v:=(hb.cell (World.block_lt_of_cell? W _ h)).trans h
end
section
variable {α:Type} {d:Kd α} {e base n:Nat} {ok:Nat→Prop} {w w1 W:World} {v:Value} {xs:List α} {A:Option Addr}
theorem rM (h:d.R e w1 base ok v xs) (k:d.R e w1 base ok v xs→d.R e W base ok v xs:=by intro k_;(with_reducible repeat(first|exact k_|apply Kd.R_alloc|apply Kd.R_drewN|apply Kd.Zel))):d.R e W base ok v xs:=k h
theorem sM (h:Kd.S d e w1 base ok v xs) (k:Kd.S d e w1 base ok v xs→Kd.S d e W base ok v xs:=by intro k_;(with_reducible repeat(first|exact k_|apply Kd.S_alloc|apply Kd.S_drewN|apply Kd.S_drew))):Kd.S d e W base ok v xs:=k h
theorem nM (h:Kd.N d e w1 base ok v xs) (k:Kd.N d e w1 base ok v xs→Kd.N d e W base ok v xs:=by intro k_;(with_reducible repeat(first|exact k_|apply Kd.N_alloc|apply Kd.N_drewN|apply Kd.Zef))):Kd.N d e W base ok v xs:=k h
theorem vM (h:Kd.V d e w1 base ok v xs) (k:Kd.V d e w1 base ok v xs→Kd.V d e W base ok v xs:=by intro k_;(with_reducible repeat(first|exact k_|apply Kd.V_alloc|apply Kd.V_drewN|apply Kd.V_drew))):Kd.V d e W base ok v xs:=k h
theorem cM (h:Kd.C d w1 A n xs) (k:Kd.C d w1 A n xs→Kd.C d W A n xs:=by intro k_;repeat(first|exact k_|(with_reducible refine Kd.C_alloc ?_ _)|(with_reducible refine Kd.Zbt ?_ _)|(with_reducible refine Kd.Zb4 ?_))):Kd.C d W A n xs:=k h
end
section
variable {w1 W w':World} {g:Nat} {p:Addr} {V:Value} {t:TypeId} {cs:Array Value}
end
theorem teq {p:Prop} [Decidable p] (h:decide p=true:=by first|(with_reducible assumption)|assumption):p=True:=eq_true (of_decide_eq_true h)
theorem ifP {α:Type} {c:Prop} [Decidable c] {x:Option α} {r:α} (h:(if c then x else none)=some r):c∧x=some r:=by
  by_cases k:c
  · rw[if_pos k]at h;exact⟨k,h⟩
  rw[if_neg k]at h;exact absurd h (by simp)
theorem ifT {α:Type} {c:Prop} [Decidable c] {x:Option α} {r:α} (h:(if c then x else none)=some r):decide c=true∧x=some r:=⟨decide_eq_true (ifP h).1,(ifP h).2⟩
theorem ifF {α:Type} {a b c:α} [Decidable (false=true)] (h:(if false=true then a else b)=c):b=c:=by rwa [if_neg Bool.false_ne_true]at h
theorem sj {α:Type} {a b:α} (h:some a=some b):a=b:=Option.some.inj h
theorem bnd {α β:Type} {x:Option α} {f:α→Option β} {r:β} (h:x.bind f=some r):∃a,Za (x=some a)∧f a=some r:=by
  obtain⟨a,h1,h2⟩:=Option.bind_eq_some_iff.mp h;exact⟨a,⟨h1⟩,h2⟩
theorem odt {p:Prop} [Decidable p] (h:decide p=true:=by first|(with_reducible assumption)|assumption):p:=of_decide_eq_true h
theorem eR {p:Prop} (h:p:=by first|rfl|(simp[Zde,Zdf]<;>rfl)|(simp[*,Zde,Zdf]<;>rfl)):p:=h
theorem eS {p:Prop} (h:p:=by first|rfl|(simp;done)|(simp[*];done)):p:=h
theorem bc {w:World} {g:Nat} {t:TypeId} {cs:Array Value} (h:w.heap[g]? =some (.cells cs t (0,0))) (i:Nat) {v:Value} (e:cs[i]? =some v:=by rfl):w.cell? ⟨g,i,none⟩=some v:=(Zap h i).trans e
section
variable {w:World} {g:Nat} {t:TypeId} {x0 x1 x2 x3 x4 x5 x6:Value}
theorem cz2 (h:w.heap[g]? =some (.cells #[x0,x1] t (0,0))):w.cell? ⟨g,0,none⟩=some x0∧w.cell? ⟨g,1,none⟩=some x1∧w.frozen? ⟨g,0,none⟩=false∧w.frozen? ⟨g,1,none⟩=false:=⟨bc h 0,bc h 1,Za0 h 0,Za0 h 1⟩
theorem cz3 (h:w.heap[g]? =some (.cells #[x0,x1,x2] t (0,0))):w.cell? ⟨g,0,none⟩=some x0∧w.cell? ⟨g,1,none⟩=some x1∧w.cell? ⟨g,2,none⟩=some x2∧w.frozen? ⟨g,0,none⟩=false∧w.frozen? ⟨g,1,none⟩=false∧w.frozen? ⟨g,2,none⟩=false:=⟨bc h 0,bc h 1,bc h 2,Za0 h 0,Za0 h 1,Za0 h 2⟩
theorem cz5 (h:w.heap[g]? =some (.cells #[x0,x1,x2,x3,x4] t (0,0))):w.cell? ⟨g,0,none⟩=some x0∧w.cell? ⟨g,1,none⟩=some x1∧w.cell? ⟨g,2,none⟩=some x2∧w.cell? ⟨g,3,none⟩=some x3∧w.cell? ⟨g,4,none⟩=some x4∧w.frozen? ⟨g,0,none⟩=false∧w.frozen? ⟨g,1,none⟩=false∧w.frozen? ⟨g,2,none⟩=false∧w.frozen? ⟨g,3,none⟩=false∧w.frozen? ⟨g,4,none⟩=false:=⟨bc h 0,bc h 1,bc h 2,bc h 3,bc h 4,Za0 h 0,Za0 h 1,Za0 h 2,Za0 h 3,Za0 h 4⟩
theorem cz7 (h:w.heap[g]? =some (.cells #[x0,x1,x2,x3,x4,x5,x6] t (0,0))):w.cell? ⟨g,0,none⟩=some x0∧w.cell? ⟨g,1,none⟩=some x1∧w.cell? ⟨g,2,none⟩=some x2∧w.cell? ⟨g,3,none⟩=some x3∧w.cell? ⟨g,4,none⟩=some x4∧w.cell? ⟨g,5,none⟩=some x5∧w.cell? ⟨g,6,none⟩=some x6∧w.frozen? ⟨g,0,none⟩=false∧w.frozen? ⟨g,1,none⟩=false∧w.frozen? ⟨g,2,none⟩=false∧w.frozen? ⟨g,3,none⟩=false∧w.frozen? ⟨g,4,none⟩=false∧w.frozen? ⟨g,5,none⟩=false∧w.frozen? ⟨g,6,none⟩=false:=⟨bc h 0,bc h 1,bc h 2,bc h 3,bc h 4,bc h 5,bc h 6,Za0 h 0,Za0 h 1,Za0 h 2,Za0 h 3,Za0 h 4,Za0 h 5,Za0 h 6⟩
end
section
variable {P:Program} {ops:Array Oper} {Q:Exit→Act→World→Prop} {md:Region.Mode} {S:World→Prop} {ds:List Nat} {T:Bool × List (List Nat × List Nat)} {B:List Nat} {l l':Array Bool} {oi:Oper} {v:Value} {fuel:Nat} {a a':Act} {w:World}
theorem nmp (N:Nat) {v:Value} (h:wpAnyLast P md ops Q S ds fuel l a' w) (ha:a.put (some N) v=a':=by simp only[Act.put,List.setIfInBounds_toArray,List.set_cons_zero,List.set_cons_succ,Zd5,Zeo];rfl):wpAnyLast P md ops Q S ds fuel l (a.put (some N) v) w:=norm_ ha h
theorem pu (HT : Za (rtab md ops = T)) (i N : Nat) (h : wpAnyLast P md ops Q S ds fuel l' a' w) (hi : ops[i]? = some oi := by rfl) (hN : oi.dst = some N := by rfl)
    (hl:l.setIfInBounds i true=l':=by simp only[List.setIfInBounds_toArray,List.set_cons_zero,List.set_cons_succ];rfl) (hc:anyT T l.toList l'.toList i=true:=by kernel_rfl) (hw:Region.wanted oi (yielded ops a.tmps)=true:=by rfl)
    (hr:∀w',(execOp a.eval oi).run P w'= .ok (.value v) w':=by intro w';go_simp;with_reducible rfl)
    (hQ:∀c a w,Q (.panic c) (a.put oi.dst v) w→Q (.panic c) a w:=by exact fun _ _ _ h=>h)
    (ha:a.put (some N) v=a':=by simp only[Act.put,List.setIfInBounds_toArray,List.set_cons_zero,List.set_cons_succ,Zd5,Zeo];rfl):wpAnyLast P md ops Q S ds (fuel+1) l a w:=
  pure_ l' hi hN (any_of HT.out hc) hQ (Or.inl ⟨hw,hr⟩) ha h
theorem un (HT : Za (rtab md ops = T)) (i N : Nat) (h : wpAnyLast P md ops Q S ds fuel l' a' w) (hi : ops[i]? = some oi := by rfl) (hN : oi.dst = some N := by rfl)
    (hl:l.setIfInBounds i true=l':=by simp only[List.setIfInBounds_toArray,List.set_cons_zero,List.set_cons_succ];rfl) (hc:anyT T l.toList l'.toList i=true:=by kernel_rfl) (hw:Region.wanted oi (yielded ops a.tmps)=false:=by rfl)
    (hQ:∀c a w,Q (.panic c) (a.put oi.dst undef) w→Q (.panic c) a w:=by exact fun _ _ _ h=>h)
    (ha:a.put (some N) undef=a':=by simp only[Act.put,List.setIfInBounds_toArray,List.set_cons_zero,List.set_cons_succ,Zd5,Zeo];rfl):wpAnyLast P md ops Q S ds (fuel+1) l a w:=
  pure_ l' hi hN (any_of HT.out hc) hQ (Or.inr ⟨hw,rfl⟩) ha h
theorem tk (HT : Za (rtab md ops = T)) (HW : Za (waitsOk T.2 B = true)) (hS : S w) (i N : Nat) (h : wpAnyLast P md ops Q S ds fuel l' a' w) (hi : ops[i]? = some oi := by rfl) (hN : oi.dst = some N := by rfl)
    (hl:l.setIfInBounds i true=l':=by simp only[List.setIfInBounds_toArray,List.set_cons_zero,List.set_cons_succ];rfl) (hc:takeW T B ds l.toList l'.toList i=true:=by kernel_rfl) (hw:Region.wanted oi (yielded ops a.tmps)=true:=by rfl)
    (hr:∀w',S w'→(execOp a.eval oi).run P w'= .ok (.value v) w':=by intro w' s_;repeat(obtain⟨_,s_⟩:=s_);go_simp;with_reducible rfl)
    (hQ:∀c a w,Q (.panic c) (a.put oi.dst v) w→Q (.panic c) a w:=by exact fun _ _ _ h=>h)
    (ha:a.put (some N) v=a':=by simp only[Act.put,List.setIfInBounds_toArray,List.set_cons_zero,List.set_cons_succ,Zd5,Zeo];rfl):wpAnyLast P md ops Q S ds (fuel+1) l a w:=
  take_ l' hi hN (take_ofW HT.out HW.out hc) hQ (Or.inl ⟨hw,hr⟩) hS ha h
theorem on1 (HT : Za (rtab md ops = T)) (i N : Nat)
    (h:∀K:Act→World→Prop,Shut (∀a' w',S w'→(S w'→wpAnyLast P md ops Q S ds fuel l' a' w')→K a' w')→if Region.wanted oi (yielded ops a.tmps)=true then Oper.wp P oi a w K Q else K (a.put (some N) undef) w)
    (hi:ops[i]? =some oi:=by rfl) (hN:oi.dst=some N:=by rfl)
    (hl:l.setIfInBounds i true=l':=by simp only[List.setIfInBounds_toArray,List.set_cons_zero,List.set_cons_succ];rfl) (hc:(readyT T.2 l.toList== [i] && l.toList.set i true==l'.toList)=true:=by kernel_rfl) (hd:i ∉ ds:=by decide):wpAnyLast P md ops Q S ds (fuel+1) l a w:=
  one_ l' hi hN (Zia HT.out hc) hd h
theorem gs {N : Option Tmp} {K : Act → World → Prop} {f : FuncId} {fn : Func} {as_ : Array Operand} {ts : Array TypeId} (hf : P.funcs[f]? = some fn) (args : Array Value) (h : Calls P f args w fun e w' => ∃ v, e = .returned v ∧ K (a.put N v) w')
    (hname : (fn.name == "runtime.NumGoroutine") = false := by kernel_rfl) (hb : fn.body.isSome = true := by rfl)
    (hw:Region.wanted oi (yielded ops a.tmps)=true:=by rfl) (hN:oi.dst=N:=by rfl) (hop:oi.op= .call { callee:= .value (.func f),args:=as_,argTypes:=ts } :=by rfl)
    (hargs:as_.map a.eval=args:=by(try simp only[List.map_toArray,List.map_cons,List.map_nil]);first|done|rfl|(simp only[List.length_drop,List.length_take];rfl)):if Region.wanted oi (yielded ops a.tmps)=true then Oper.wp P oi a w K Q else K (a.put N undef) w:=
  goes_ hf hname hb args hw hN hop hargs h
theorem gl {rest : List Oper} (N : Nat) {f : FuncId} {fn : Func} {as_ : Array Operand} {ts : Array TypeId} (hf : P.funcs[f]? = some fn) (args : Array Value) (h : Calls P f args w fun e w' => ∃ v, e = .returned v ∧ wpList P ops Q rest (a.put (some N) v) w')
    (hd : oi.dst = some N := by rfl) (hg : oi.guard = none := by rfl) (hname : (fn.name == "runtime.NumGoroutine") = false := by kernel_rfl) (hb : fn.body.isSome = true := by rfl) (hop : oi.op = .call { callee := .value (.func f), args := as_, argTypes := ts } := by rfl)
    (hargs:as_.map a.eval=args:=by(try simp only[List.map_toArray,List.map_cons,List.map_nil]);first|done|rfl|(simp only[List.length_drop,List.length_take];rfl)):wpList P ops Q (oi::rest) a w:=
  goesL_ (some N) hd hg hf hname hb args hop hargs h
theorem nm (h:wpAnyLast P md ops Q S ds fuel l a' w) (ha:a=a':=by first|(simp only[putAll,Act.put,List.setIfInBounds_toArray,List.set_cons_zero,List.set_cons_succ];done)|(simp only[putAll,Act.put,List.setIfInBounds_toArray,List.set_cons_zero,List.set_cons_succ];rfl)):wpAnyLast P md ops Q S ds fuel l a w:=norm_ ha h
theorem bx {o : Oper} {rest : List Oper} {W : World} (N : Nat) (cs : Array Value) (t : TypeId)
    (h:∀g,g=W.heap.size→∀w1,w1.heap[g]? =some (.cells cs t (0,0))→Below W.heap.size W w1→wpList P ops Q rest (a.put o.dst (.pointer (some ⟨g,0,none⟩))) w1)
    (hgd:o.guard=none:=by rfl) (hd:o.dst=some N:=by rfl) (hrun:(execOp a.eval o).run P W= .ok (.value (.pointer (some ⟨W.heap.size,0,none⟩))) (W.alloc (.cells cs t (0,0))):=by first|(go_simp;done)|(go_simp;rfl)):wpList P ops Q (o::rest) a W:=Zdd hgd hd hrun h
end
end Go.Proofs.YtdpieallpbllkaaGreat.P
namespace Go.Proofs.YtdpieallpbllkaaGreat.P
open Go.RowKit Go.Proofs.YtdpieallpbllkaaGreatW.PrintWords Go.Proofs.YtdpieallpbllkaaGreatW.PrintLast Go.Proofs.YtdpieallpbllkaaGreatW.PrintMore
attribute [local go_sem] Zcw Zcy Zdg Zdh Zco Zcp Zcx Zcz
def Zbb.l0 : Nat → List Int → Int → Int → Option (Bool)
 | 0, _, _, _ => none
 |k+1,x5,x6,x7=>if x7<x6 then(if 0≤x7 then(if x7<(x5.length:Int)then(if(rd x5 x7)<(-4611686018427387904)then(some false)else(if(rd x5 x7)>4611686018427387904 then(some false)else(Zbb.l0 k x5 x6 (wrap64 (x7+1)))))else(none))else(none))else(some true)
def Zbb.f (k:Nat) (l0:List Int):Option (Bool):=Zbb.l0 k l0 (l0.length:Int) 0
theorem Zbb.Zc9 : ∀ k, (∀ y0 y1 y2, LeO (Zbb.l0 k y0 y1 y2) (Zbb.l0 (k + 1) y0 y1 y2))
 | 0 => fun _ _ _ r h => by simp [Zbb.l0] at h
 |k+1=>by
  have ih0:=Zbb.Zc9 k;intro y0 y1 y2;unfold Zbb.l0
  repeat' first
  | (with_reducible exact ih0 _ _ _)
  | (with_reducible exact LeO.refl _)
  | (with_reducible exact LeO.none _)
  | (with_reducible refine LeO.ite ?_ ?_)
  |(with_reducible refine LeO.bind ?_ (fun _=> ?_))
theorem Zbb.mono:∀a0 k,LeO (Zbb.f k a0) (Zbb.f (k+1) a0):=by
 intro a0 k;have ih0:=Zbb.Zc9 k;unfold Zbb.f
 repeat' first
   | (with_reducible exact ih0 _ _ _)
   | (with_reducible exact LeO.refl _)
   | (with_reducible exact LeO.none _)
   | (with_reducible refine LeO.ite ?_ ?_)
   |(with_reducible refine LeO.bind ?_ (fun _=> ?_))
set_option maxRecDepth 100000 in
theorem Zbb.calls (k : Nat) (A0 : Option Addr) (c0 : Nat) (l0 : List Int) (r : Bool) (w : World) (hr0 : Kd.C (Kd.int .i64) w A0 l0.length l0) (hc0 : l0.length ≤ c0) (h : Zbb.f k l0 = some r) :
  Calls Tryz.prog 98 #[.slice A0 l0.length c0] w fun e w'=>e= .returned (.bool r)∧Zav w w':=by
 have HR0:=Za.mk hr0;have HC0:=Za.mk hc0;clear hr0 hc0;have H:(Zbb.l0 k l0 (l0.length:Int) 0)=some r:=h;clear h;have H':=Za.mk H;clear H;go_enter Tryz.func98,Tryz.ntmps98;go_wp2
 go_loopg [7] k (fun kq v7 w'=>∃(jG:Int),v7= .int .i64 jG∧Za (Zbb.l0 kq l0 (l0.length:Int) jG=some r)∧Za (kq≤k)∧Zav w w')
 case atStart=>exact⟨(0),eS,H',⟨Nat.le_refl _⟩,by repeat(first|exact Zav.refl _|apply Zav.step)⟩
 case round=>
  clear H';obtain⟨jG,rfl,HA,HK1,⟨m1,rfl⟩⟩:=hrel
  cases gk with
  | zero => exact absurd HA.out (by simp [Zbb.l0])
  |succ k1=>
   have H:=HA.out;clear HA;simp only[Zbb.l0]at H;by_cases c2:jG<(l0.length:Int)
   case neg=>
    rw[if_neg c2]at H;have jC:decide (jG<(l0.length:Int))=false:=decide_eq_false c2;clear c2;obtain rfl:=sj H;go_wp2;go_ret;exact⟨eS,by repeat(first|exact Zav.refl _|apply Zav.step)⟩
   rw[if_pos c2]at H;have jC:decide (jG<(l0.length:Int))=true:=decide_eq_true c2;clear c2;obtain⟨fB,H⟩:=ifT H;obtain⟨dC,H⟩:=ifT H;by_cases c5:(rd l0 jG)<(-4611686018427387904)
   case pos=>
    rw[if_pos c5]at H;have dw:decide ((rd l0 jG)<(-4611686018427387904))=true:=decide_eq_true c5;clear c5;obtain rfl:=sj H;have sU:0≤(jG:Int):=odt;have tH:jG<(l0.length:Int):=odt;obtain⟨Rl,rfl,JQ⟩:=Kd.Zb1 HR0.out jG sU tH;replace sU:=eq_true sU;replace tH:=eq_true tH;go_wp2;go_ret;exact⟨eS,by repeat(first|exact Zav.refl _|apply Zav.step)⟩
   rw[if_neg c5]at H;have dw:decide ((rd l0 jG)<(-4611686018427387904))=false:=decide_eq_false c5;clear c5;by_cases c6:(rd l0 jG)>4611686018427387904
   case pos=>
    rw[if_pos c6]at H;have iF:decide (4611686018427387904<(rd l0 jG))=true:=decide_eq_true c6;clear c6;obtain rfl:=sj H;have sU:0≤(jG:Int):=odt;have tH:jG<(l0.length:Int):=odt;obtain⟨Rl,rfl,JQ⟩:=Kd.Zb1 HR0.out jG sU tH;replace sU:=eq_true sU;replace tH:=eq_true tH;go_wp2;go_ret;exact⟨eS,by repeat(first|exact Zav.refl _|apply Zav.step)⟩
   rw[if_neg c6]at H;have iF:decide (4611686018427387904<(rd l0 jG))=false:=decide_eq_false c6;clear c6;have H':=Za.mk H;clear H;have sU:0≤(jG:Int):=odt;have tH:jG<(l0.length:Int):=odt;obtain⟨Rl,rfl,JQ⟩:=Kd.Zb1 HR0.out jG sU tH;replace sU:=eq_true sU;replace tH:=eq_true tH;go_wp2
   go_roundg k1
   case measure=>have:=HK1.out;omega
   case rel=>exact⟨(wrap64 (jG+1)),eS,H',⟨by have:=HK1.out;omega⟩,by repeat(first|exact Zav.refl _|apply Zav.step)⟩
def bits_Mul64.f (a0:Int) (a1:Int):Option (Int × Int):=some (IntKind.u64.wrap ((IntKind.u64.wrap ((IntKind.u64.wrap ((a0 / 4294967296)*(a1 / 4294967296)))+((IntKind.u64.wrap ((IntKind.u64.wrap ((a0 / 4294967296)*(Go.bits .and .u64 a1 4294967295)))+((IntKind.u64.wrap ((Go.bits .and .u64 a0 4294967295)*(Go.bits .and .u64 a1 4294967295))) / 4294967296))) / 4294967296)))+((IntKind.u64.wrap ((Go.bits .and .u64 (IntKind.u64.wrap ((IntKind.u64.wrap ((a0 / 4294967296)*(Go.bits .and .u64 a1 4294967295)))+((IntKind.u64.wrap ((Go.bits .and .u64 a0 4294967295)*(Go.bits .and .u64 a1 4294967295))) / 4294967296))) 4294967295)+(IntKind.u64.wrap ((Go.bits .and .u64 a0 4294967295)*(a1 / 4294967296))))) / 4294967296)),IntKind.u64.wrap (a0*a1))
set_option maxRecDepth 100000 in
theorem bits_Mul64.calls (a0 : Int) (a1 : Int) (r1 : Int) (r2 : Int) (w : World) (h : bits_Mul64.f a0 a1 = some (r1, r2)) :
  Calls Tryz.prog 99 #[.int .u64 a0,.int .u64 a1] w fun e w'=>e= .returned (.tuple #[.int .u64 r1,.int .u64 r2])∧Zav w w':=by
 have H:(some (IntKind.u64.wrap ((IntKind.u64.wrap ((IntKind.u64.wrap ((a0 / 4294967296)*(a1 / 4294967296)))+((IntKind.u64.wrap ((IntKind.u64.wrap ((a0 / 4294967296)*(Go.bits .and .u64 a1 4294967295)))+((IntKind.u64.wrap ((Go.bits .and .u64 a0 4294967295)*(Go.bits .and .u64 a1 4294967295))) / 4294967296))) / 4294967296)))+((IntKind.u64.wrap ((Go.bits .and .u64 (IntKind.u64.wrap ((IntKind.u64.wrap ((a0 / 4294967296)*(Go.bits .and .u64 a1 4294967295)))+((IntKind.u64.wrap ((Go.bits .and .u64 a0 4294967295)*(Go.bits .and .u64 a1 4294967295))) / 4294967296))) 4294967295)+(IntKind.u64.wrap ((Go.bits .and .u64 a0 4294967295)*(a1 / 4294967296))))) / 4294967296)),IntKind.u64.wrap (a0*a1)))=some (r1,r2):=h;clear h;simp only[Option.some.injEq,Prod.mk.injEq]at H;obtain⟨rfl,rfl⟩:=H;go_enter Tryz.func99,Tryz.ntmps99;go_wp2
 go_ret2
 exact⟨eS,by repeat(first|exact Zav.refl _|apply Zav.step)⟩
def Zc1.f (a0:Int):Option (Int):=if a0<0 then(some (IntKind.u64.wrap (-(IntKind.u64.wrap (a0)))))else(some (IntKind.u64.wrap (a0)))
set_option maxRecDepth 100000 in
theorem Zc1.calls (a0 : Int) (r : Int) (w : World) (h : Zc1.f a0 = some r) :
  Calls Tryz.prog 100 #[.int .i64 a0] w fun e w'=>e= .returned (.int .u64 r)∧Zav w w':=by
 have H:(if a0<0 then(some (IntKind.u64.wrap (-(IntKind.u64.wrap (a0)))))else(some (IntKind.u64.wrap (a0))))=some r:=h;clear h;by_cases c2:a0<0
 case pos=>
  rw[if_pos c2]at H;have jC:decide (a0<0)=true:=decide_eq_true c2;clear c2;obtain rfl:=sj H;go_enter Tryz.func100,Tryz.ntmps100;go_wp2;go_ret;exact⟨eS,by repeat(first|exact Zav.refl _|apply Zav.step)⟩
 rw[if_neg c2]at H;have jC:decide (a0<0)=false:=decide_eq_false c2;clear c2;obtain rfl:=sj H;go_enter Tryz.func100,Tryz.ntmps100;go_wp2;go_ret;exact⟨eS,by repeat(first|exact Zav.refl _|apply Zav.step)⟩
def Zbz.j0 : Nat → Int → Int → Int → Bool → Option (Int × Bool)
 | 0, _, _, _, _ => none
 |k+1,x0,x1,x7,x26=>if x26=true then(some (0,false))else(if((decide (x0<0)) !=(decide (x1<0)))=true then(some (wrap64 (-(wrap64 (x7))),true))else(some (wrap64 (x7),true)))
def Zbz.f (k:Nat) (a0:Int) (a1:Int):Option (Int × Bool):=(Zbb.f k (([a0,a1]:List Int))).bind fun yz=>(if yz=true then((Zc1.f a0).bind fun oL=>((Zc1.f a1).bind fun nY=>((bits_Mul64.f oL nY).bind fun fD=>(if fD.1=0 then(Zbz.j0 k a0 a1 fD.2 (decide (fD.2>4611686018427387904)))else(Zbz.j0 k a0 a1 fD.2 true)))))else(some (0,false)))
theorem Zbz.Zc9 : ∀ k, (∀ y0 y1 y2 y3, LeO (Zbz.j0 k y0 y1 y2 y3) (Zbz.j0 (k + 1) y0 y1 y2 y3))
 | 0 => fun _ _ _ _ r h => by simp [Zbz.j0] at h
 |k+1=>by
  have ih0:=Zbz.Zc9 k;intro y0 y1 y2 y3;unfold Zbz.j0
  repeat' first
  | (with_reducible exact ih0 _ _ _ _)
  | (with_reducible exact Zbb.mono _ _)
  | (with_reducible exact LeO.refl _)
  | (with_reducible exact LeO.none _)
  | (with_reducible refine LeO.ite ?_ ?_)
  |(with_reducible refine LeO.bind ?_ (fun _=> ?_))
theorem Zbz.mono:∀a0 a1 k,LeO (Zbz.f k a0 a1) (Zbz.f (k+1) a0 a1):=by
 intro a0 a1 k;have ih0:=Zbz.Zc9 k;unfold Zbz.f
 repeat' first
   | (with_reducible exact ih0 _ _ _ _)
   | (with_reducible exact Zbb.mono _ _)
   | (with_reducible exact LeO.refl _)
   | (with_reducible exact LeO.none _)
   | (with_reducible refine LeO.ite ?_ ?_)
   |(with_reducible refine LeO.bind ?_ (fun _=> ?_))
set_option maxRecDepth 100000 in
theorem Zbz.calls (k : Nat) (a0 : Int) (a1 : Int) (r1 : Int) (r2 : Bool) (w : World) (h : Zbz.f k a0 a1 = some (r1, r2)) :
  Calls Tryz.prog 70 #[.int .i64 a0,.int .i64 a1] w fun e w'=>e= .returned (.tuple #[.int .i64 r1,.bool r2])∧Below w.heap.size w w':=by
 have HB:=Za.mk (Below.refl w.heap.size w);have H:((Zbb.f k (([a0,a1]:List Int))).bind fun yz=>(if yz=true then((Zc1.f a0).bind fun oL=>((Zc1.f a1).bind fun nY=>((bits_Mul64.f oL nY).bind fun fD=>(if fD.1=0 then(Zbz.j0 k a0 a1 fD.2 (decide (fD.2>4611686018427387904)))else(Zbz.j0 k a0 a1 fD.2 true)))))else(some (0,false))))=some (r1,r2):=h;clear h;obtain⟨IK,Dp⟩:∃y_:List Int,y_=(([a0,a1]:List Int)):=⟨_,rfl⟩;replace H:((Zbb.f k IK).bind fun yz=>(if yz=true then((Zc1.f a0).bind fun oL=>((Zc1.f a1).bind fun nY=>((bits_Mul64.f oL nY).bind fun fD=>(if fD.1=0 then(Zbz.j0 k a0 a1 fD.2 (decide (fD.2>4611686018427387904)))else(Zbz.j0 k a0 a1 fD.2 true)))))else(some (0,false))))=some (r1,r2):=by first|(rw[Dp];with_reducible exact H)|(have H2_:=(Option.bind_some _ _).symm.trans H;rw[Dp];with_reducible exact H2_)|(have H2_:=(Option.bind_some _ _).symm.trans H;with_reducible exact H2_)|with_reducible exact H|(rw[Dp];exact H)|exact H
 have FN:=Za.mk Dp;clear Dp;obtain⟨yz,A3,H⟩:=bnd H;replace H:(if yz=true then((Zc1.f a0).bind fun oL=>((Zc1.f a1).bind fun nY=>((bits_Mul64.f oL nY).bind fun fD=>(if fD.1=0 then(Zbz.j0 k a0 a1 fD.2 (decide (fD.2>4611686018427387904)))else(Zbz.j0 k a0 a1 fD.2 true)))))else(some (0,false)))=some (r1,r2):=H;by_cases c4:yz=true
 case neg=>
  replace c4:=Bool.eq_false_iff.mpr c4;subst c4;replace H:=ifF H;simp only[Option.some.injEq,Prod.mk.injEq]at H;obtain⟨rfl,rfl⟩:=H;go_enter Tryz.func70,Tryz.ntmps70
  go_wp2_with (first|((with_reducible refine Zar (N:=10) rfl ?_);refine Kd.Zdj (Kd.int .i64) _ 3 ?hg (N:=10) ?hd (xs:=([a0,a1]:List Int)) (inner:= [.int .i64 a0,.int .i64 a1]) (ok:=fun _=>True) (okp:=fun _=>True) ?hr ?hp (fun _ hk=>hk) trivial (Below.refl _ _) (Nat.le_refl _) (by simp) ?_;(case hd=>rfl);(case hg=>rfl);(case hr=>first|(go_simp;done)|(go_simp;rfl));(case hp=>exact(Reps.one (show Kd.M (Kd.int .i64) _ _ _ a0 [.int .i64 a0]from rfl) (Reps.one (show Kd.M (Kd.int .i64) _ _ _ a1 [.int .i64 a1]from rfl) (Reps.none _ _))));intro eaa w15 qF hb hg_ hnew_;clear hg_ hnew_;(first|rw[←FN.out]at qF|(simp only[Int.reduceToNat]at qF;rw[←FN.out]at qF));have wM:=Za.mk (Kd.Zbm qF (Zaf (bM HB.out)));replace HB:=Za.mk (bS HB.out hb);clear hb qF;obtain⟨bQ,bN,zI⟩:=Kd.Zbe wM.out;subst zI)|((with_reducible refine Zal (f:=98) rfl ?_);refine gl 11 Tryz.func98 #[.slice bQ IK.length bN] ?_;(with_reducible refine(Zbb.calls k _ _ IK false _ (cM ((Kd.Zan wM.out).2.2)) ((Kd.Zan wM.out).2.1) A3.out).mono ?_);rintro e w' ⟨rfl,⟨nd,rfl⟩⟩;refine⟨_,rfl,?_⟩))
  go_ret2
  exact⟨eR,bM HB.out⟩
 subst c4;have H1:((Zc1.f a0).bind fun oL=>((Zc1.f a1).bind fun nY=>((bits_Mul64.f oL nY).bind fun fD=>(if fD.1=0 then(Zbz.j0 k a0 a1 fD.2 (decide (fD.2>4611686018427387904)))else(Zbz.j0 k a0 a1 fD.2 true)))))=some (r1,r2):=by rw[if_pos rfl]at H;exact H
 clear H;have H:=H1;clear H1;obtain⟨oL,A5,H⟩:=bnd H;replace H:((Zc1.f a1).bind fun nY=>((bits_Mul64.f oL nY).bind fun fD=>(if fD.1=0 then(Zbz.j0 k a0 a1 fD.2 (decide (fD.2>4611686018427387904)))else(Zbz.j0 k a0 a1 fD.2 true))))=some (r1,r2):=H;obtain⟨nY,A6,H⟩:=bnd H;replace H:((bits_Mul64.f oL nY).bind fun fD=>(if fD.1=0 then(Zbz.j0 k a0 a1 fD.2 (decide (fD.2>4611686018427387904)))else(Zbz.j0 k a0 a1 fD.2 true)))=some (r1,r2):=H;obtain⟨⟨AC,Fj⟩,A7,H⟩:=bnd H;replace H:(if AC=0 then(Zbz.j0 k a0 a1 Fj (decide (Fj>4611686018427387904)))else(Zbz.j0 k a0 a1 Fj true))=some (r1,r2):=H;have HC8:=Za.mk H;clear H;go_enter Tryz.func70,Tryz.ntmps70
 go_upto_region 4 with (first|((with_reducible refine Zar (N:=10) rfl ?_);refine Kd.Zdj (Kd.int .i64) _ 3 ?hg (N:=10) ?hd (xs:=([a0,a1]:List Int)) (inner:= [.int .i64 a0,.int .i64 a1]) (ok:=fun _=>True) (okp:=fun _=>True) ?hr ?hp (fun _ hk=>hk) trivial (Below.refl _ _) (Nat.le_refl _) (by simp) ?_;(case hd=>rfl);(case hg=>rfl);(case hr=>first|(go_simp;done)|(go_simp;rfl));(case hp=>exact(Reps.one (show Kd.M (Kd.int .i64) _ _ _ a0 [.int .i64 a0]from rfl) (Reps.one (show Kd.M (Kd.int .i64) _ _ _ a1 [.int .i64 a1]from rfl) (Reps.none _ _))));intro eaa w9 qE hb hg_ hnew_;clear hg_ hnew_;(first|rw[←FN.out]at qE|(simp only[Int.reduceToNat]at qE;rw[←FN.out]at qE));have wM:=Za.mk (Kd.Zbm qE (Zaf (bM HB.out)));replace HB:=Za.mk (bS HB.out hb);clear hb qE;obtain⟨Kn,LU,Oz⟩:=Kd.Zbe wM.out;subst Oz)|((with_reducible refine Zal (f:=98) rfl ?_);refine gl 11 Tryz.func98 #[.slice Kn IK.length LU] ?_;(with_reducible refine(Zbb.calls k _ _ IK true _ (cM ((Kd.Zan wM.out).2.2)) ((Kd.Zan wM.out).2.1) A3.out).mono ?_);rintro e w' ⟨rfl,⟨nd,rfl⟩⟩;refine⟨_,rfl,?_⟩)|((with_reducible refine Zal (f:=100) rfl ?_);refine gl 15 Tryz.func100 #[.int .i64 a0] ?_;(with_reducible refine(Zc1.calls a0 oL _ A5.out).mono ?_);rintro e w' ⟨rfl,⟨nd,rfl⟩⟩;refine⟨_,rfl,?_⟩)|((with_reducible refine Zal (f:=100) rfl ?_);refine gl 17 Tryz.func100 #[.int .i64 a1] ?_;(with_reducible refine(Zc1.calls a1 nY _ A6.out).mono ?_);rintro e w' ⟨rfl,⟨nd,rfl⟩⟩;refine⟨_,rfl,?_⟩)|((with_reducible refine Zal (f:=99) rfl ?_);refine gl 18 Tryz.func99 #[.int .u64 oL,.int .u64 nY] ?_;(with_reducible refine(bits_Mul64.calls oL nY AC Fj _ A7.out).mono ?_);rintro e w' ⟨rfl,⟨nd,rfl⟩⟩;refine⟨_,rfl,?_⟩))
 (try simp only[Act.put,List.setIfInBounds_toArray,List.set_cons_zero,List.set_cons_succ])
 go_cut [26] (fun v26 wc=>∃(kq:Nat) (Gb:Bool),v26= .bool Gb∧Za (Zbz.j0 kq a0 a1 Fj Gb=some (r1,r2))∧Za (kq≤k)∧Za (Below w.heap.size w wc))
 case first=>
  have H:=HC8.out;clear HC8;by_cases c12:AC=0
  case neg=>
   rw[if_neg c12]at H;have iV:(AC==0)=false:=beq_eq_false_iff_ne.mpr c12;have ul:(AC !=0)=true:=bne_iff_ne.mpr c12
   (first|rw[iV]|(simp only[Zd5,Zeo];rw[iV])|skip)
   have H':=Za.mk H;clear H;go_wp2
   go_meet
   case rel=>exact⟨_,(true),eS,H',⟨by first|omega|exact Nat.le_refl _⟩,⟨bM HB.out⟩⟩
  rw[if_pos c12]at H;have iV:(AC==0)=true:=beq_iff_eq.mpr c12;have ul:(AC !=0)=false:=bne_eq_false_iff_eq.mpr c12;clear c12
  (first|rw[iV]|(simp only[Zd5,Zeo];rw[iV])|skip)
  have H':=Za.mk H;clear H;go_wp2
  go_meet
  case rel=>exact⟨_,(decide (Fj>4611686018427387904)),eS,H',⟨by first|omega|exact Nat.le_refl _⟩,⟨bM HB.out⟩⟩
 case rest=>
  clear HC8;try clear c1
  try clear p2
  try clear c4
  try clear c7
  try clear c9
  try clear c10
  try clear c12
  try clear iV
  try clear ul
  obtain⟨kq,Gb,rfl,HA,HJ7,HB⟩:=hcut
  cases kq with
  | zero => exact absurd HA.out (by simp [Zbz.j0])
  |succ kj7=>
   have H:=HA.out;clear HA;simp only[Zbz.j0]at H;by_cases c13:Gb=true
   case pos=>
    subst c13;have H1:(some (0,false))=some (r1,r2):=by rw[if_pos rfl]at H;exact H
    clear H;have H:=H1;clear H1;simp only[Option.some.injEq,Prod.mk.injEq]at H;obtain⟨rfl,rfl⟩:=H;go_wp2
    go_ret2
    exact⟨eR,bM HB.out⟩
   replace c13:=Bool.eq_false_iff.mpr c13;subst c13;replace H:=ifF H;by_cases c14:((decide (a0<0)) !=(decide (a1<0)))=true
   case neg=>
    rw[if_neg c14]at H;have lm:((decide (a0<0)) !=(decide (a1<0)))=false:=by simpa using c14
    (try(have XU:decide ((decide (a0<0))=(decide (a1<0)))=true:=by simpa using c14))
    (try(have XV:((decide (a0<0))==(decide (a1<0)))=true:=by simpa using c14))
    clear c14;simp only[Option.some.injEq,Prod.mk.injEq]at H;obtain⟨rfl,rfl⟩:=H;go_wp2
    go_ret2
    exact⟨eR,bM HB.out⟩
   rw[if_pos c14]at H;have lm:((decide (a0<0)) !=(decide (a1<0)))=true:=c14
   (try(have XU:decide ((decide (a0<0))=(decide (a1<0)))=false:=by simpa using c14))
   (try(have XV:((decide (a0<0))==(decide (a1<0)))=false:=by simpa using c14))
   (try(have fOa:¬((decide (a0<0))=(decide (a1<0))):=by simpa using c14))
   clear c14;simp only[Option.some.injEq,Prod.mk.injEq]at H;obtain⟨rfl,rfl⟩:=H;go_wp2
   go_ret2
   exact⟨eR,bM HB.out⟩
def Zcd.f (k:Nat) (a0:Int):Option (Int × Bool):=(Zbb.f k (([a0]:List Int))).bind fun yA=>(if yA=true then(some (a0,true))else(some (0,false)))
theorem Zcd.mono:∀a0 k,LeO (Zcd.f k a0) (Zcd.f (k+1) a0):=by
 intro a0 k;unfold Zcd.f
 repeat' first
   | (with_reducible exact Zbb.mono _ _)
   | (with_reducible exact LeO.refl _)
   | (with_reducible exact LeO.none _)
   | (with_reducible refine LeO.ite ?_ ?_)
   |(with_reducible refine LeO.bind ?_ (fun _=> ?_))
set_option maxRecDepth 100000 in
theorem Zcd.calls (k : Nat) (a0 : Int) (r1 : Int) (r2 : Bool) (w : World) (h : Zcd.f k a0 = some (r1, r2)) :
  Calls Tryz.prog 101 #[.int .i64 a0] w fun e w'=>e= .returned (.tuple #[.int .i64 r1,.bool r2])∧Below w.heap.size w w':=by
 have HB:=Za.mk (Below.refl w.heap.size w);have H:((Zbb.f k (([a0]:List Int))).bind fun yA=>(if yA=true then(some (a0,true))else(some (0,false))))=some (r1,r2):=h;clear h;obtain⟨IL,Dq⟩:∃y_:List Int,y_=(([a0]:List Int)):=⟨_,rfl⟩;replace H:((Zbb.f k IL).bind fun yA=>(if yA=true then(some (a0,true))else(some (0,false))))=some (r1,r2):=by first|(rw[Dq];with_reducible exact H)|(have H2_:=(Option.bind_some _ _).symm.trans H;rw[Dq];with_reducible exact H2_)|(have H2_:=(Option.bind_some _ _).symm.trans H;with_reducible exact H2_)|with_reducible exact H|(rw[Dq];exact H)|exact H
 have FO:=Za.mk Dq;clear Dq;obtain⟨yA,A2,H⟩:=bnd H;replace H:(if yA=true then(some (a0,true))else(some (0,false)))=some (r1,r2):=H;by_cases c3:yA=true
 case pos=>
  subst c3;have H1:(some (a0,true))=some (r1,r2):=by rw[if_pos rfl]at H;exact H
  clear H;have H:=H1;clear H1;simp only[Option.some.injEq,Prod.mk.injEq]at H;obtain⟨rfl,rfl⟩:=H;go_enter Tryz.func101,Tryz.ntmps101
  go_wp2_with (first|((with_reducible refine Zar (N:=5) rfl ?_);refine Kd.Zdj (Kd.int .i64) _ 3 ?hg (N:=5) ?hd (xs:=([a0]:List Int)) (inner:= [.int .i64 a0]) (ok:=fun _=>True) (okp:=fun _=>True) ?hr ?hp (fun _ hk=>hk) trivial (Below.refl _ _) (Nat.le_refl _) (by simp) ?_;(case hd=>rfl);(case hg=>rfl);(case hr=>first|(go_simp;done)|(go_simp;rfl));(case hp=>exact(Reps.one (show Kd.M (Kd.int .i64) _ _ _ a0 [.int .i64 a0]from rfl) (Reps.none _ _)));intro eba w4 ho5 hb hg_ hnew_;clear hg_ hnew_;(first|rw[←FO.out]at ho5|(simp only[Int.reduceToNat]at ho5;rw[←FO.out]at ho5));have wO:=Za.mk (Kd.Zbm ho5 (Zaf (bM HB.out)));replace HB:=Za.mk (bS HB.out hb);clear hb ho5;obtain⟨Ao6,co6,eo6⟩:=Kd.Zbe wO.out;subst eo6)|((with_reducible refine Zal (f:=98) rfl ?_);refine gl 6 Tryz.func98 #[.slice Ao6 IL.length co6] ?_;(with_reducible refine(Zbb.calls k _ _ IL true _ (cM ((Kd.Zan wO.out).2.2)) ((Kd.Zan wO.out).2.1) A2.out).mono ?_);rintro e w' ⟨rfl,⟨nd,rfl⟩⟩;refine⟨_,rfl,?_⟩))
  go_ret2
  exact⟨eR,bM HB.out⟩
 replace c3:=Bool.eq_false_iff.mpr c3;subst c3;replace H:=ifF H;simp only[Option.some.injEq,Prod.mk.injEq]at H;obtain⟨rfl,rfl⟩:=H;go_enter Tryz.func101,Tryz.ntmps101
 go_wp2_with (first|((with_reducible refine Zar (N:=5) rfl ?_);refine Kd.Zdj (Kd.int .i64) _ 3 ?hg (N:=5) ?hd (xs:=([a0]:List Int)) (inner:= [.int .i64 a0]) (ok:=fun _=>True) (okp:=fun _=>True) ?hr ?hp (fun _ hk=>hk) trivial (Below.refl _ _) (Nat.le_refl _) (by simp) ?_;(case hd=>rfl);(case hg=>rfl);(case hr=>first|(go_simp;done)|(go_simp;rfl));(case hp=>exact(Reps.one (show Kd.M (Kd.int .i64) _ _ _ a0 [.int .i64 a0]from rfl) (Reps.none _ _)));intro eba w7 ho8 hb hg_ hnew_;clear hg_ hnew_;(first|rw[←FO.out]at ho8|(simp only[Int.reduceToNat]at ho8;rw[←FO.out]at ho8));have wO:=Za.mk (Kd.Zbm ho8 (Zaf (bM HB.out)));replace HB:=Za.mk (bS HB.out hb);clear hb ho8;obtain⟨Ao9,co9,eo9⟩:=Kd.Zbe wO.out;subst eo9)|((with_reducible refine Zal (f:=98) rfl ?_);refine gl 6 Tryz.func98 #[.slice Ao9 IL.length co9] ?_;(with_reducible refine(Zbb.calls k _ _ IL false _ (cM ((Kd.Zan wO.out).2.2)) ((Kd.Zan wO.out).2.1) A2.out).mono ?_);rintro e w' ⟨rfl,⟨nd,rfl⟩⟩;refine⟨_,rfl,?_⟩))
 go_ret2
 exact⟨eR,bM HB.out⟩
def Zcq.f (k:Nat) (a0:Int) (a1:Int):Option (Int × Bool):=(Zbb.f k (([a0,a1]:List Int))).bind fun yB=>(if yB=true then(if a0>0 then(if a1>(wrap64 (4611686018427387904 - a0))then(some (0,false))else(if a0<0 then(if a1<(wrap64 ((-4611686018427387904) - a0))then(some (0,false))else((Zcd.f k (wrap64 (a0+a1))).bind fun mi=>(some (mi.1,mi.2))))else((Zcd.f k (wrap64 (a0+a1))).bind fun mo=>(some (mo.1,mo.2)))))else(if a0<0 then(if a1<(wrap64 ((-4611686018427387904) - a0))then(some (0,false))else((Zcd.f k (wrap64 (a0+a1))).bind fun mq=>(some (mq.1,mq.2))))else((Zcd.f k (wrap64 (a0+a1))).bind fun mr=>(some (mr.1,mr.2)))))else(some (0,false)))
theorem Zcq.mono:∀a0 a1 k,LeO (Zcq.f k a0 a1) (Zcq.f (k+1) a0 a1):=by
 intro a0 a1 k;unfold Zcq.f
 repeat' first
   | (with_reducible exact Zbb.mono _ _)
   | (with_reducible exact Zcd.mono _ _)
   | (with_reducible exact LeO.refl _)
   | (with_reducible exact LeO.none _)
   | (with_reducible refine LeO.ite ?_ ?_)
   |(with_reducible refine LeO.bind ?_ (fun _=> ?_))
set_option maxRecDepth 100000 in
theorem Zcq.calls (k : Nat) (a0 : Int) (a1 : Int) (r1 : Int) (r2 : Bool) (w : World) (h : Zcq.f k a0 a1 = some (r1, r2)) :
  Calls Tryz.prog 71 #[.int .i64 a0,.int .i64 a1] w fun e w'=>e= .returned (.tuple #[.int .i64 r1,.bool r2])∧Below w.heap.size w w':=by
 have HB:=Za.mk (Below.refl w.heap.size w);have H:((Zbb.f k (([a0,a1]:List Int))).bind fun yB=>(if yB=true then(if a0>0 then(if a1>(wrap64 (4611686018427387904 - a0))then(some (0,false))else(if a0<0 then(if a1<(wrap64 ((-4611686018427387904) - a0))then(some (0,false))else((Zcd.f k (wrap64 (a0+a1))).bind fun mi=>(some (mi.1,mi.2))))else((Zcd.f k (wrap64 (a0+a1))).bind fun mo=>(some (mo.1,mo.2)))))else(if a0<0 then(if a1<(wrap64 ((-4611686018427387904) - a0))then(some (0,false))else((Zcd.f k (wrap64 (a0+a1))).bind fun mq=>(some (mq.1,mq.2))))else((Zcd.f k (wrap64 (a0+a1))).bind fun mr=>(some (mr.1,mr.2)))))else(some (0,false))))=some (r1,r2):=h;clear h;obtain⟨nA,Dr⟩:∃y_:List Int,y_=(([a0,a1]:List Int)):=⟨_,rfl⟩;replace H:((Zbb.f k nA).bind fun yB=>(if yB=true then(if a0>0 then(if a1>(wrap64 (4611686018427387904 - a0))then(some (0,false))else(if a0<0 then(if a1<(wrap64 ((-4611686018427387904) - a0))then(some (0,false))else((Zcd.f k (wrap64 (a0+a1))).bind fun mi=>(some (mi.1,mi.2))))else((Zcd.f k (wrap64 (a0+a1))).bind fun mo=>(some (mo.1,mo.2)))))else(if a0<0 then(if a1<(wrap64 ((-4611686018427387904) - a0))then(some (0,false))else((Zcd.f k (wrap64 (a0+a1))).bind fun mq=>(some (mq.1,mq.2))))else((Zcd.f k (wrap64 (a0+a1))).bind fun mr=>(some (mr.1,mr.2)))))else(some (0,false))))=some (r1,r2):=by first|(rw[Dr];with_reducible exact H)|(have H2_:=(Option.bind_some _ _).symm.trans H;rw[Dr];with_reducible exact H2_)|(have H2_:=(Option.bind_some _ _).symm.trans H;with_reducible exact H2_)|with_reducible exact H|(rw[Dr];exact H)|exact H
 have ky:=Za.mk Dr;clear Dr;obtain⟨yB,A3,H⟩:=bnd H;replace H:(if yB=true then(if a0>0 then(if a1>(wrap64 (4611686018427387904 - a0))then(some (0,false))else(if a0<0 then(if a1<(wrap64 ((-4611686018427387904) - a0))then(some (0,false))else((Zcd.f k (wrap64 (a0+a1))).bind fun mi=>(some (mi.1,mi.2))))else((Zcd.f k (wrap64 (a0+a1))).bind fun mo=>(some (mo.1,mo.2)))))else(if a0<0 then(if a1<(wrap64 ((-4611686018427387904) - a0))then(some (0,false))else((Zcd.f k (wrap64 (a0+a1))).bind fun mq=>(some (mq.1,mq.2))))else((Zcd.f k (wrap64 (a0+a1))).bind fun mr=>(some (mr.1,mr.2)))))else(some (0,false)))=some (r1,r2):=H;by_cases c4:yB=true
 case neg=>
  replace c4:=Bool.eq_false_iff.mpr c4;subst c4;replace H:=ifF H;simp only[Option.some.injEq,Prod.mk.injEq]at H;obtain⟨rfl,rfl⟩:=H;go_enter Tryz.func71,Tryz.ntmps71
  go_wp2_with (first|((with_reducible refine Zar (N:=8) rfl ?_);refine Kd.Zdj (Kd.int .i64) _ 3 ?hg (N:=8) ?hd (xs:=([a0,a1]:List Int)) (inner:= [.int .i64 a0,.int .i64 a1]) (ok:=fun _=>True) (okp:=fun _=>True) ?hr ?hp (fun _ hk=>hk) trivial (Below.refl _ _) (Nat.le_refl _) (by simp) ?_;(case hd=>rfl);(case hg=>rfl);(case hr=>first|(go_simp;done)|(go_simp;rfl));(case hp=>exact(Reps.one (show Kd.M (Kd.int .i64) _ _ _ a0 [.int .i64 a0]from rfl) (Reps.one (show Kd.M (Kd.int .i64) _ _ _ a1 [.int .i64 a1]from rfl) (Reps.none _ _))));intro AQ w40 Hw hb hg_ hnew_;clear hg_ hnew_;(first|rw[←ky.out]at Hw|(simp only[Int.reduceToNat]at Hw;rw[←ky.out]at Hw));have fA:=Za.mk (Kd.Zbm Hw (Zaf (bM HB.out)));replace HB:=Za.mk (bS HB.out hb);clear hb Hw;obtain⟨cla,c3a,cOa⟩:=Kd.Zbe fA.out;subst cOa)|((with_reducible refine Zal (f:=98) rfl ?_);refine gl 9 Tryz.func98 #[.slice cla nA.length c3a] ?_;(with_reducible refine(Zbb.calls k _ _ nA false _ (cM ((Kd.Zan fA.out).2.2)) ((Kd.Zan fA.out).2.1) A3.out).mono ?_);rintro e w' ⟨rfl,⟨nd,rfl⟩⟩;refine⟨_,rfl,?_⟩))
  go_ret2
  exact⟨eR,bM HB.out⟩
 subst c4;have H1:(if a0>0 then(if a1>(wrap64 (4611686018427387904 - a0))then(some (0,false))else(if a0<0 then(if a1<(wrap64 ((-4611686018427387904) - a0))then(some (0,false))else((Zcd.f k (wrap64 (a0+a1))).bind fun mi=>(some (mi.1,mi.2))))else((Zcd.f k (wrap64 (a0+a1))).bind fun mo=>(some (mo.1,mo.2)))))else(if a0<0 then(if a1<(wrap64 ((-4611686018427387904) - a0))then(some (0,false))else((Zcd.f k (wrap64 (a0+a1))).bind fun mq=>(some (mq.1,mq.2))))else((Zcd.f k (wrap64 (a0+a1))).bind fun mr=>(some (mr.1,mr.2)))))=some (r1,r2):=by rw[if_pos rfl]at H;exact H
 clear H;have H:=H1;clear H1;by_cases c5:a0>0
 case neg=>
  rw[if_neg c5]at H;have dw:decide (0<a0)=false:=decide_eq_false c5;clear c5;by_cases c25:a0<0
  case neg=>
   rw[if_neg c25]at H;have XW:decide (a0<0)=false:=decide_eq_false c25;clear c25;obtain⟨⟨Vw,Vx⟩,A35,H⟩:=bnd H;replace H:(some (Vw,Vx))=some (r1,r2):=H;simp only[Option.some.injEq,Prod.mk.injEq]at H;obtain⟨rfl,rfl⟩:=H;go_enter Tryz.func71,Tryz.ntmps71
   go_wp2_with (first|((with_reducible refine Zar (N:=8) rfl ?_);refine Kd.Zdj (Kd.int .i64) _ 3 ?hg (N:=8) ?hd (xs:=([a0,a1]:List Int)) (inner:= [.int .i64 a0,.int .i64 a1]) (ok:=fun _=>True) (okp:=fun _=>True) ?hr ?hp (fun _ hk=>hk) trivial (Below.refl _ _) (Nat.le_refl _) (by simp) ?_;(case hd=>rfl);(case hg=>rfl);(case hr=>first|(go_simp;done)|(go_simp;rfl));(case hp=>exact(Reps.one (show Kd.M (Kd.int .i64) _ _ _ a0 [.int .i64 a0]from rfl) (Reps.one (show Kd.M (Kd.int .i64) _ _ _ a1 [.int .i64 a1]from rfl) (Reps.none _ _))));intro AQ w36 Ht hb hg_ hnew_;clear hg_ hnew_;(first|rw[←ky.out]at Ht|(simp only[Int.reduceToNat]at Ht;rw[←ky.out]at Ht));have fA:=Za.mk (Kd.Zbm Ht (Zaf (bM HB.out)));replace HB:=Za.mk (bS HB.out hb);clear hb Ht;obtain⟨iT,iW,EP⟩:=Kd.Zbe fA.out;subst EP)|((with_reducible refine Zal (f:=98) rfl ?_);refine gl 9 Tryz.func98 #[.slice iT nA.length iW] ?_;(with_reducible refine(Zbb.calls k _ _ nA true _ (cM ((Kd.Zan fA.out).2.2)) ((Kd.Zan fA.out).2.1) A3.out).mono ?_);rintro e w' ⟨rfl,⟨nd,rfl⟩⟩;refine⟨_,rfl,?_⟩)|((with_reducible refine Zal (f:=101) rfl ?_);refine gl 34 Tryz.func101 #[.int .i64 (wrap64 (a0+a1))] ?_;(with_reducible refine(Zcd.calls k (wrap64 (a0+a1)) Vw Vx _ A35.out).mono ?_);rintro e w39 ⟨rfl,hb⟩;refine⟨_,rfl,?_⟩;replace HB:=Za.mk (bS HB.out hb);clear fA;(try clear hb);(try clear hb2);(try clear hk);(try clear hi)))
   go_ret2
   exact⟨eR,bM HB.out⟩
  rw[if_pos c25]at H;have XW:decide (a0<0)=true:=decide_eq_true c25;clear c25;by_cases c26:a1<(wrap64 ((-4611686018427387904) - a0))
  case pos=>
   rw[if_pos c26]at H;have Co:decide (a1<(wrap64 ((-4611686018427387904) - a0)))=true:=decide_eq_true c26;clear c26;simp only[Option.some.injEq,Prod.mk.injEq]at H;obtain⟨rfl,rfl⟩:=H;go_enter Tryz.func71,Tryz.ntmps71
   go_wp2_with (first|((with_reducible refine Zar (N:=8) rfl ?_);refine Kd.Zdj (Kd.int .i64) _ 3 ?hg (N:=8) ?hd (xs:=([a0,a1]:List Int)) (inner:= [.int .i64 a0,.int .i64 a1]) (ok:=fun _=>True) (okp:=fun _=>True) ?hr ?hp (fun _ hk=>hk) trivial (Below.refl _ _) (Nat.le_refl _) (by simp) ?_;(case hd=>rfl);(case hg=>rfl);(case hr=>first|(go_simp;done)|(go_simp;rfl));(case hp=>exact(Reps.one (show Kd.M (Kd.int .i64) _ _ _ a0 [.int .i64 a0]from rfl) (Reps.one (show Kd.M (Kd.int .i64) _ _ _ a1 [.int .i64 a1]from rfl) (Reps.none _ _))));intro AQ w27 Hm hb hg_ hnew_;clear hg_ hnew_;(first|rw[←ky.out]at Hm|(simp only[Int.reduceToNat]at Hm;rw[←ky.out]at Hm));have fA:=Za.mk (Kd.Zbm Hm (Zaf (bM HB.out)));replace HB:=Za.mk (bS HB.out hb);clear hb Hm;obtain⟨cia,cya,cKa⟩:=Kd.Zbe fA.out;subst cKa)|((with_reducible refine Zal (f:=98) rfl ?_);refine gl 9 Tryz.func98 #[.slice cia nA.length cya] ?_;(with_reducible refine(Zbb.calls k _ _ nA true _ (cM ((Kd.Zan fA.out).2.2)) ((Kd.Zan fA.out).2.1) A3.out).mono ?_);rintro e w' ⟨rfl,⟨nd,rfl⟩⟩;refine⟨_,rfl,?_⟩))
   go_ret2
   exact⟨eR,bM HB.out⟩
  rw[if_neg c26]at H;have Co:decide (a1<(wrap64 ((-4611686018427387904) - a0)))=false:=decide_eq_false c26;clear c26;obtain⟨⟨Vu,Vv⟩,A30,H⟩:=bnd H;replace H:(some (Vu,Vv))=some (r1,r2):=H;simp only[Option.some.injEq,Prod.mk.injEq]at H;obtain⟨rfl,rfl⟩:=H;go_enter Tryz.func71,Tryz.ntmps71
  go_wp2_with (first|((with_reducible refine Zar (N:=8) rfl ?_);refine Kd.Zdj (Kd.int .i64) _ 3 ?hg (N:=8) ?hd (xs:=([a0,a1]:List Int)) (inner:= [.int .i64 a0,.int .i64 a1]) (ok:=fun _=>True) (okp:=fun _=>True) ?hr ?hp (fun _ hk=>hk) trivial (Below.refl _ _) (Nat.le_refl _) (by simp) ?_;(case hd=>rfl);(case hg=>rfl);(case hr=>first|(go_simp;done)|(go_simp;rfl));(case hp=>exact(Reps.one (show Kd.M (Kd.int .i64) _ _ _ a0 [.int .i64 a0]from rfl) (Reps.one (show Kd.M (Kd.int .i64) _ _ _ a1 [.int .i64 a1]from rfl) (Reps.none _ _))));intro AQ w31 Hq hb hg_ hnew_;clear hg_ hnew_;(first|rw[←ky.out]at Hq|(simp only[Int.reduceToNat]at Hq;rw[←ky.out]at Hq));have fA:=Za.mk (Kd.Zbm Hq (Zaf (bM HB.out)));replace HB:=Za.mk (bS HB.out hb);clear hb Hq;obtain⟨U5,UN,O5⟩:=Kd.Zbe fA.out;subst O5)|((with_reducible refine Zal (f:=98) rfl ?_);refine gl 9 Tryz.func98 #[.slice U5 nA.length UN] ?_;(with_reducible refine(Zbb.calls k _ _ nA true _ (cM ((Kd.Zan fA.out).2.2)) ((Kd.Zan fA.out).2.1) A3.out).mono ?_);rintro e w' ⟨rfl,⟨nd,rfl⟩⟩;refine⟨_,rfl,?_⟩)|((with_reducible refine Zal (f:=101) rfl ?_);refine gl 34 Tryz.func101 #[.int .i64 (wrap64 (a0+a1))] ?_;(with_reducible refine(Zcd.calls k (wrap64 (a0+a1)) Vu Vv _ A30.out).mono ?_);rintro e w34 ⟨rfl,hb⟩;refine⟨_,rfl,?_⟩;replace HB:=Za.mk (bS HB.out hb);clear fA;(try clear hb);(try clear hb2);(try clear hk);(try clear hi)))
  go_ret2
  exact⟨eR,bM HB.out⟩
 rw[if_pos c5]at H;have dw:decide (0<a0)=true:=decide_eq_true c5;clear c5;by_cases c6:a1>(wrap64 (4611686018427387904 - a0))
 case pos=>
  rw[if_pos c6]at H;have iF:decide ((wrap64 (4611686018427387904 - a0))<a1)=true:=decide_eq_true c6;clear c6;simp only[Option.some.injEq,Prod.mk.injEq]at H;obtain⟨rfl,rfl⟩:=H;go_enter Tryz.func71,Tryz.ntmps71
  go_wp2_with (first|((with_reducible refine Zar (N:=8) rfl ?_);refine Kd.Zdj (Kd.int .i64) _ 3 ?hg (N:=8) ?hd (xs:=([a0,a1]:List Int)) (inner:= [.int .i64 a0,.int .i64 a1]) (ok:=fun _=>True) (okp:=fun _=>True) ?hr ?hp (fun _ hk=>hk) trivial (Below.refl _ _) (Nat.le_refl _) (by simp) ?_;(case hd=>rfl);(case hg=>rfl);(case hr=>first|(go_simp;done)|(go_simp;rfl));(case hp=>exact(Reps.one (show Kd.M (Kd.int .i64) _ _ _ a0 [.int .i64 a0]from rfl) (Reps.one (show Kd.M (Kd.int .i64) _ _ _ a1 [.int .i64 a1]from rfl) (Reps.none _ _))));intro AQ w7 ho8 hb hg_ hnew_;clear hg_ hnew_;(first|rw[←ky.out]at ho8|(simp only[Int.reduceToNat]at ho8;rw[←ky.out]at ho8));have fA:=Za.mk (Kd.Zbm ho8 (Zaf (bM HB.out)));replace HB:=Za.mk (bS HB.out hb);clear hb ho8;obtain⟨Ao9,co9,eo9⟩:=Kd.Zbe fA.out;subst eo9)|((with_reducible refine Zal (f:=98) rfl ?_);refine gl 9 Tryz.func98 #[.slice Ao9 nA.length co9] ?_;(with_reducible refine(Zbb.calls k _ _ nA true _ (cM ((Kd.Zan fA.out).2.2)) ((Kd.Zan fA.out).2.1) A3.out).mono ?_);rintro e w' ⟨rfl,⟨nd,rfl⟩⟩;refine⟨_,rfl,?_⟩))
  go_ret2
  exact⟨eR,bM HB.out⟩
 rw[if_neg c6]at H;have iF:decide ((wrap64 (4611686018427387904 - a0))<a1)=false:=decide_eq_false c6;clear c6;by_cases c10:a0<0
 case neg=>
  rw[if_neg c10]at H;have jS:decide (a0<0)=false:=decide_eq_false c10;clear c10;obtain⟨⟨Vs,Vt⟩,A20,H⟩:=bnd H;replace H:(some (Vs,Vt))=some (r1,r2):=H;simp only[Option.some.injEq,Prod.mk.injEq]at H;obtain⟨rfl,rfl⟩:=H;go_enter Tryz.func71,Tryz.ntmps71
  go_wp2_with (first|((with_reducible refine Zar (N:=8) rfl ?_);refine Kd.Zdj (Kd.int .i64) _ 3 ?hg (N:=8) ?hd (xs:=([a0,a1]:List Int)) (inner:= [.int .i64 a0,.int .i64 a1]) (ok:=fun _=>True) (okp:=fun _=>True) ?hr ?hp (fun _ hk=>hk) trivial (Below.refl _ _) (Nat.le_refl _) (by simp) ?_;(case hd=>rfl);(case hg=>rfl);(case hr=>first|(go_simp;done)|(go_simp;rfl));(case hp=>exact(Reps.one (show Kd.M (Kd.int .i64) _ _ _ a0 [.int .i64 a0]from rfl) (Reps.one (show Kd.M (Kd.int .i64) _ _ _ a1 [.int .i64 a1]from rfl) (Reps.none _ _))));intro AQ w21 Hl hb hg_ hnew_;clear hg_ hnew_;(first|rw[←ky.out]at Hl|(simp only[Int.reduceToNat]at Hl;rw[←ky.out]at Hl));have fA:=Za.mk (Kd.Zbm Hl (Zaf (bM HB.out)));replace HB:=Za.mk (bS HB.out hb);clear hb Hl;obtain⟨U3,UL,O3⟩:=Kd.Zbe fA.out;subst O3)|((with_reducible refine Zal (f:=98) rfl ?_);refine gl 9 Tryz.func98 #[.slice U3 nA.length UL] ?_;(with_reducible refine(Zbb.calls k _ _ nA true _ (cM ((Kd.Zan fA.out).2.2)) ((Kd.Zan fA.out).2.1) A3.out).mono ?_);rintro e w' ⟨rfl,⟨nd,rfl⟩⟩;refine⟨_,rfl,?_⟩)|((with_reducible refine Zal (f:=101) rfl ?_);refine gl 34 Tryz.func101 #[.int .i64 (wrap64 (a0+a1))] ?_;(with_reducible refine(Zcd.calls k (wrap64 (a0+a1)) Vs Vt _ A20.out).mono ?_);rintro e w24 ⟨rfl,hb⟩;refine⟨_,rfl,?_⟩;replace HB:=Za.mk (bS HB.out hb);clear fA;(try clear hb);(try clear hb2);(try clear hk);(try clear hi)))
  go_ret2
  exact⟨eR,bM HB.out⟩
 rw[if_pos c10]at H;have jS:decide (a0<0)=true:=decide_eq_true c10;clear c10;by_cases c11:a1<(wrap64 ((-4611686018427387904) - a0))
 case pos=>
  rw[if_pos c11]at H;have oz:decide (a1<(wrap64 ((-4611686018427387904) - a0)))=true:=decide_eq_true c11;clear c11;simp only[Option.some.injEq,Prod.mk.injEq]at H;obtain⟨rfl,rfl⟩:=H;go_enter Tryz.func71,Tryz.ntmps71
  go_wp2_with (first|((with_reducible refine Zar (N:=8) rfl ?_);refine Kd.Zdj (Kd.int .i64) _ 3 ?hg (N:=8) ?hd (xs:=([a0,a1]:List Int)) (inner:= [.int .i64 a0,.int .i64 a1]) (ok:=fun _=>True) (okp:=fun _=>True) ?hr ?hp (fun _ hk=>hk) trivial (Below.refl _ _) (Nat.le_refl _) (by simp) ?_;(case hd=>rfl);(case hg=>rfl);(case hr=>first|(go_simp;done)|(go_simp;rfl));(case hp=>exact(Reps.one (show Kd.M (Kd.int .i64) _ _ _ a0 [.int .i64 a0]from rfl) (Reps.one (show Kd.M (Kd.int .i64) _ _ _ a1 [.int .i64 a1]from rfl) (Reps.none _ _))));intro AQ w12 Hf hb hg_ hnew_;clear hg_ hnew_;(first|rw[←ky.out]at Hf|(simp only[Int.reduceToNat]at Hf;rw[←ky.out]at Hf));have fA:=Za.mk (Kd.Zbm Hf (Zaf (bM HB.out)));replace HB:=Za.mk (bS HB.out hb);clear hb Hf;obtain⟨eX,eU,GY⟩:=Kd.Zbe fA.out;subst GY)|((with_reducible refine Zal (f:=98) rfl ?_);refine gl 9 Tryz.func98 #[.slice eX nA.length eU] ?_;(with_reducible refine(Zbb.calls k _ _ nA true _ (cM ((Kd.Zan fA.out).2.2)) ((Kd.Zan fA.out).2.1) A3.out).mono ?_);rintro e w' ⟨rfl,⟨nd,rfl⟩⟩;refine⟨_,rfl,?_⟩))
  go_ret2
  exact⟨eR,bM HB.out⟩
 rw[if_neg c11]at H;have oz:decide (a1<(wrap64 ((-4611686018427387904) - a0)))=false:=decide_eq_false c11;clear c11;obtain⟨⟨Vq,Vr⟩,A15,H⟩:=bnd H;replace H:(some (Vq,Vr))=some (r1,r2):=H;simp only[Option.some.injEq,Prod.mk.injEq]at H;obtain⟨rfl,rfl⟩:=H;go_enter Tryz.func71,Tryz.ntmps71
 go_wp2_with (first|((with_reducible refine Zar (N:=8) rfl ?_);refine Kd.Zdj (Kd.int .i64) _ 3 ?hg (N:=8) ?hd (xs:=([a0,a1]:List Int)) (inner:= [.int .i64 a0,.int .i64 a1]) (ok:=fun _=>True) (okp:=fun _=>True) ?hr ?hp (fun _ hk=>hk) trivial (Below.refl _ _) (Nat.le_refl _) (by simp) ?_;(case hd=>rfl);(case hg=>rfl);(case hr=>first|(go_simp;done)|(go_simp;rfl));(case hp=>exact(Reps.one (show Kd.M (Kd.int .i64) _ _ _ a0 [.int .i64 a0]from rfl) (Reps.one (show Kd.M (Kd.int .i64) _ _ _ a1 [.int .i64 a1]from rfl) (Reps.none _ _))));intro AQ w16 Hg hb hg_ hnew_;clear hg_ hnew_;(first|rw[←ky.out]at Hg|(simp only[Int.reduceToNat]at Hg;rw[←ky.out]at Hg));have fA:=Za.mk (Kd.Zbm Hg (Zaf (bM HB.out)));replace HB:=Za.mk (bS HB.out hb);clear hb Hg;obtain⟨dH,dE,zJ⟩:=Kd.Zbe fA.out;subst zJ)|((with_reducible refine Zal (f:=98) rfl ?_);refine gl 9 Tryz.func98 #[.slice dH nA.length dE] ?_;(with_reducible refine(Zbb.calls k _ _ nA true _ (cM ((Kd.Zan fA.out).2.2)) ((Kd.Zan fA.out).2.1) A3.out).mono ?_);rintro e w' ⟨rfl,⟨nd,rfl⟩⟩;refine⟨_,rfl,?_⟩)|((with_reducible refine Zal (f:=101) rfl ?_);refine gl 34 Tryz.func101 #[.int .i64 (wrap64 (a0+a1))] ?_;(with_reducible refine(Zcd.calls k (wrap64 (a0+a1)) Vq Vr _ A15.out).mono ?_);rintro e w19 ⟨rfl,hb⟩;refine⟨_,rfl,?_⟩;replace HB:=Za.mk (bS HB.out hb);clear fA;(try clear hb);(try clear hb2);(try clear hk);(try clear hi)))
 go_ret2
 exact⟨eR,bM HB.out⟩
def Zea.f (k:Nat) (a0:Int) (a1:Int):Option (Int × Bool):=(Zbb.f k (([a0,a1]:List Int))).bind fun yD=>(if yD=true then((Zcq.f k a0 (wrap64 (-a1))).bind fun mD=>(some (mD.1,mD.2)))else(some (0,false)))
theorem Zea.mono:∀a0 a1 k,LeO (Zea.f k a0 a1) (Zea.f (k+1) a0 a1):=by
 intro a0 a1 k;unfold Zea.f
 repeat' first
   | (with_reducible exact Zcq.mono _ _ _)
   | (with_reducible exact Zbb.mono _ _)
   | (with_reducible exact LeO.refl _)
   | (with_reducible exact LeO.none _)
   | (with_reducible refine LeO.ite ?_ ?_)
   |(with_reducible refine LeO.bind ?_ (fun _=> ?_))
set_option maxRecDepth 100000 in
theorem Zea.calls (k : Nat) (a0 : Int) (a1 : Int) (r1 : Int) (r2 : Bool) (w : World) (h : Zea.f k a0 a1 = some (r1, r2)) :
  Calls Tryz.prog 137 #[.int .i64 a0,.int .i64 a1] w fun e w'=>e= .returned (.tuple #[.int .i64 r1,.bool r2])∧Below w.heap.size w w':=by
 have HB:=Za.mk (Below.refl w.heap.size w);have H:((Zbb.f k (([a0,a1]:List Int))).bind fun yD=>(if yD=true then((Zcq.f k a0 (wrap64 (-a1))).bind fun mD=>(some (mD.1,mD.2)))else(some (0,false))))=some (r1,r2):=h;clear h;obtain⟨IM,Du⟩:∃y_:List Int,y_=(([a0,a1]:List Int)):=⟨_,rfl⟩;replace H:((Zbb.f k IM).bind fun yD=>(if yD=true then((Zcq.f k a0 (wrap64 (-a1))).bind fun mD=>(some (mD.1,mD.2)))else(some (0,false))))=some (r1,r2):=by first|(rw[Du];with_reducible exact H)|(have H2_:=(Option.bind_some _ _).symm.trans H;rw[Du];with_reducible exact H2_)|(have H2_:=(Option.bind_some _ _).symm.trans H;with_reducible exact H2_)|with_reducible exact H|(rw[Du];exact H)|exact H
 have FP:=Za.mk Du;clear Du;obtain⟨yD,A3,H⟩:=bnd H;replace H:(if yD=true then((Zcq.f k a0 (wrap64 (-a1))).bind fun mD=>(some (mD.1,mD.2)))else(some (0,false)))=some (r1,r2):=H;by_cases c4:yD=true
 case neg=>
  replace c4:=Bool.eq_false_iff.mpr c4;subst c4;replace H:=ifF H;simp only[Option.some.injEq,Prod.mk.injEq]at H;obtain⟨rfl,rfl⟩:=H;go_enter Tryz.func137,Tryz.ntmps137
  go_wp2_with (first|((with_reducible refine Zar (N:=8) rfl ?_);refine Kd.Zdj (Kd.int .i64) _ 3 ?hg (N:=8) ?hd (xs:=([a0,a1]:List Int)) (inner:= [.int .i64 a0,.int .i64 a1]) (ok:=fun _=>True) (okp:=fun _=>True) ?hr ?hp (fun _ hk=>hk) trivial (Below.refl _ _) (Nat.le_refl _) (by simp) ?_;(case hd=>rfl);(case hg=>rfl);(case hr=>first|(go_simp;done)|(go_simp;rfl));(case hp=>exact(Reps.one (show Kd.M (Kd.int .i64) _ _ _ a0 [.int .i64 a0]from rfl) (Reps.one (show Kd.M (Kd.int .i64) _ _ _ a1 [.int .i64 a1]from rfl) (Reps.none _ _))));intro eca w10 He hb hg_ hnew_;clear hg_ hnew_;(first|rw[←FP.out]at He|(simp only[Int.reduceToNat]at He;rw[←FP.out]at He));have uf:=Za.mk (Kd.Zbm He (Zaf (bM HB.out)));replace HB:=Za.mk (bS HB.out hb);clear hb He;obtain⟨iE,iG,pQ⟩:=Kd.Zbe uf.out;subst pQ)|((with_reducible refine Zal (f:=98) rfl ?_);refine gl 9 Tryz.func98 #[.slice iE IM.length iG] ?_;(with_reducible refine(Zbb.calls k _ _ IM false _ (cM ((Kd.Zan uf.out).2.2)) ((Kd.Zan uf.out).2.1) A3.out).mono ?_);rintro e w' ⟨rfl,⟨nd,rfl⟩⟩;refine⟨_,rfl,?_⟩))
  go_ret2
  exact⟨eR,bM HB.out⟩
 subst c4;have H1:((Zcq.f k a0 (wrap64 (-a1))).bind fun mD=>(some (mD.1,mD.2)))=some (r1,r2):=by rw[if_pos rfl]at H;exact H
 clear H;have H:=H1;clear H1;obtain⟨⟨V3,V4⟩,A5,H⟩:=bnd H;replace H:(some (V3,V4))=some (r1,r2):=H;simp only[Option.some.injEq,Prod.mk.injEq]at H;obtain⟨rfl,rfl⟩:=H;go_enter Tryz.func137,Tryz.ntmps137
 go_wp2_with (first|((with_reducible refine Zar (N:=8) rfl ?_);refine Kd.Zdj (Kd.int .i64) _ 3 ?hg (N:=8) ?hd (xs:=([a0,a1]:List Int)) (inner:= [.int .i64 a0,.int .i64 a1]) (ok:=fun _=>True) (okp:=fun _=>True) ?hr ?hp (fun _ hk=>hk) trivial (Below.refl _ _) (Nat.le_refl _) (by simp) ?_;(case hd=>rfl);(case hg=>rfl);(case hr=>first|(go_simp;done)|(go_simp;rfl));(case hp=>exact(Reps.one (show Kd.M (Kd.int .i64) _ _ _ a0 [.int .i64 a0]from rfl) (Reps.one (show Kd.M (Kd.int .i64) _ _ _ a1 [.int .i64 a1]from rfl) (Reps.none _ _))));intro eca w6 ho7 hb hg_ hnew_;clear hg_ hnew_;(first|rw[←FP.out]at ho7|(simp only[Int.reduceToNat]at ho7;rw[←FP.out]at ho7));have uf:=Za.mk (Kd.Zbm ho7 (Zaf (bM HB.out)));replace HB:=Za.mk (bS HB.out hb);clear hb ho7;obtain⟨Ao8,co8,eo8⟩:=Kd.Zbe uf.out;subst eo8)|((with_reducible refine Zal (f:=98) rfl ?_);refine gl 9 Tryz.func98 #[.slice Ao8 IM.length co8] ?_;(with_reducible refine(Zbb.calls k _ _ IM true _ (cM ((Kd.Zan uf.out).2.2)) ((Kd.Zan uf.out).2.1) A3.out).mono ?_);rintro e w' ⟨rfl,⟨nd,rfl⟩⟩;refine⟨_,rfl,?_⟩)|((with_reducible refine Zal (f:=71) rfl ?_);refine gl 14 Tryz.func71 #[.int .i64 a0,.int .i64 (wrap64 (-a1))] ?_;(with_reducible refine(Zcq.calls k a0 (wrap64 (-a1)) V3 V4 _ A5.out).mono ?_);rintro e w9 ⟨rfl,hb⟩;refine⟨_,rfl,?_⟩;replace HB:=Za.mk (bS HB.out hb);clear uf;(try clear hb);(try clear hb2);(try clear hk);(try clear hi)))
 go_ret2
 exact⟨eR,bM HB.out⟩
def Zc0.f (k:Nat) (a0:Int):Option (Int × Bool):=if a0<0 then((Zea.f k 0 a0).bind fun Cf=>(some (Cf.1,Cf.2)))else((Zcq.f k 0 a0).bind fun Cg=>(some (Cg.1,Cg.2)))
theorem Zc0.mono:∀a0 k,LeO (Zc0.f k a0) (Zc0.f (k+1) a0):=by
 intro a0 k;unfold Zc0.f
 repeat' first
   | (with_reducible exact Zcq.mono _ _ _)
   | (with_reducible exact Zea.mono _ _ _)
   | (with_reducible exact LeO.refl _)
   | (with_reducible exact LeO.none _)
   | (with_reducible refine LeO.ite ?_ ?_)
   |(with_reducible refine LeO.bind ?_ (fun _=> ?_))
set_option maxRecDepth 100000 in
theorem Zc0.calls (k : Nat) (a0 : Int) (r1 : Int) (r2 : Bool) (w : World) (h : Zc0.f k a0 = some (r1, r2)) :
  Calls Tryz.prog 130 #[.int .i64 a0] w fun e w'=>e= .returned (.tuple #[.int .i64 r1,.bool r2])∧Below w.heap.size w w':=by
 have HB:=Za.mk (Below.refl w.heap.size w);have H:(if a0<0 then((Zea.f k 0 a0).bind fun Cf=>(some (Cf.1,Cf.2)))else((Zcq.f k 0 a0).bind fun Cg=>(some (Cg.1,Cg.2))))=some (r1,r2):=h;clear h;by_cases c2:a0<0
 case pos=>
  rw[if_pos c2]at H;have jC:decide (a0<0)=true:=decide_eq_true c2;clear c2;obtain⟨⟨V5,V6⟩,A3,H⟩:=bnd H;replace H:(some (V5,V6))=some (r1,r2):=H;simp only[Option.some.injEq,Prod.mk.injEq]at H;obtain⟨rfl,rfl⟩:=H;go_enter Tryz.func130,Tryz.ntmps130
  go_wp2_with (first|((with_reducible refine Zal (f:=137) rfl ?_);refine gl 7 Tryz.func137 #[.int .i64 0,.int .i64 a0] ?_;(with_reducible refine(Zea.calls k 0 a0 V5 V6 _ A3.out).mono ?_);rintro e w4 ⟨rfl,hb⟩;refine⟨_,rfl,?_⟩;replace HB:=Za.mk (bS HB.out hb);(try clear hb);(try clear hb2);(try clear hk);(try clear hi)))
  go_ret2
  exact⟨eR,bM HB.out⟩
 rw[if_neg c2]at H;have jC:decide (a0<0)=false:=decide_eq_false c2;clear c2;obtain⟨⟨V7,V8⟩,A5,H⟩:=bnd H;replace H:(some (V7,V8))=some (r1,r2):=H;simp only[Option.some.injEq,Prod.mk.injEq]at H;obtain⟨rfl,rfl⟩:=H;go_enter Tryz.func130,Tryz.ntmps130
 go_wp2_with (first|((with_reducible refine Zal (f:=71) rfl ?_);refine gl 11 Tryz.func71 #[.int .i64 0,.int .i64 a0] ?_;(with_reducible refine(Zcq.calls k 0 a0 V7 V8 _ A5.out).mono ?_);rintro e w6 ⟨rfl,hb⟩;refine⟨_,rfl,?_⟩;replace HB:=Za.mk (bS HB.out hb);(try clear hb);(try clear hb2);(try clear hk);(try clear hi)))
 go_ret2
 exact⟨eR,bM HB.out⟩
def Zcf.l0 : Nat → Int → Bool → List Int → Int → Int → Option (Bool)
 | 0, _, _, _, _, _ => none
 |k+1,x5,x6,x16,x17,x18=>if x18<x17 then(if 0≤x18 then(if x18<(x16.length:Int)then((Zc0.f k (rd x16 x18)).bind fun Rq=>(if Rq.2=true then((Zbz.f k Rq.1 1048576).bind fun Rs=>(if Rs.2=true then(if x6=true then((Zcq.f k x5 Rs.1).bind fun Rt=>(Zcf.l0 k Rt.1 Rt.2 x16 x17 (wrap64 (x18+1))))else(some true))else(some true)))else(some true)))else(none))else(none))else(some (!x6))
def Zcf.f (k:Nat) (l0:List Int) (a1:Int):Option (Bool):=(Zc0.f k a1).bind fun Ch=>(Zcf.l0 k Ch.1 Ch.2 l0 (l0.length:Int) 0)
theorem Zcf.Zc9 : ∀ k, (∀ y0 y1 y2 y3 y4, LeO (Zcf.l0 k y0 y1 y2 y3 y4) (Zcf.l0 (k + 1) y0 y1 y2 y3 y4))
 | 0 => fun _ _ _ _ _ r h => by simp [Zcf.l0] at h
 |k+1=>by
  have ih0:=Zcf.Zc9 k;intro y0 y1 y2 y3 y4;unfold Zcf.l0
  repeat' first
  | (with_reducible exact ih0 _ _ _ _ _)
  | (with_reducible exact Zcq.mono _ _ _)
  | (with_reducible exact Zbz.mono _ _ _)
  | (with_reducible exact Zc0.mono _ _)
  | (with_reducible exact LeO.refl _)
  | (with_reducible exact LeO.none _)
  | (with_reducible refine LeO.ite ?_ ?_)
  |(with_reducible refine LeO.bind ?_ (fun _=> ?_))
theorem Zcf.mono:∀a0 a1 k,LeO (Zcf.f k a0 a1) (Zcf.f (k+1) a0 a1):=by
 intro a0 a1 k;have ih0:=Zcf.Zc9 k;unfold Zcf.f
 repeat' first
   | (with_reducible exact ih0 _ _ _ _ _)
   | (with_reducible exact Zcq.mono _ _ _)
   | (with_reducible exact Zbz.mono _ _ _)
   | (with_reducible exact Zc0.mono _ _)
   | (with_reducible exact LeO.refl _)
   | (with_reducible exact LeO.none _)
   | (with_reducible refine LeO.ite ?_ ?_)
   |(with_reducible refine LeO.bind ?_ (fun _=> ?_))
set_option maxRecDepth 100000 in
theorem Zcf.calls (k : Nat) (A0 : Option Addr) (c0 : Nat) (l0 : List Int) (a1 : Int) (r : Bool) (w : World) (hr0 : Kd.C (Kd.int .i64) w A0 l0.length l0) (hc0 : l0.length ≤ c0) (h : Zcf.f k l0 a1 = some r) :
  Calls Tryz.prog 111 #[.slice A0 l0.length c0,.int .i64 a1] w fun e w'=>e= .returned (.bool r)∧Below w.heap.size w w':=by
 have HR0:=Za.mk hr0;have HC0:=Za.mk hc0;clear hr0 hc0;have HB:=Za.mk (Below.refl w.heap.size w);have H:((Zc0.f k a1).bind fun Ch=>(Zcf.l0 k Ch.1 Ch.2 l0 (l0.length:Int) 0))=some r:=h;clear h;obtain⟨⟨V9,VA⟩,A3,H⟩:=bnd H;try dsimp only at H
 have H':=Za.mk H;clear H;go_enter Tryz.func111,Tryz.ntmps111
 go_wp2_with (first|((with_reducible refine Zal (f:=130) rfl ?_);refine gl 13 Tryz.func130 #[.int .i64 a1] ?_;(with_reducible refine(Zc0.calls k a1 V9 VA _ A3.out).mono ?_);rintro e w4 ⟨rfl,hb⟩;refine⟨_,rfl,?_⟩;replace HB:=Za.mk (bS HB.out hb);(try clear hb);(try clear hb2);(try clear hk);(try clear hi)))
 go_loopg [5,6,18] k (fun kq v5 v6 v18 w'=>∃(ax:Int) (iB:Bool) (gQ:Int),v5= .int .i64 ax∧v6= .bool iB∧v18= .int .i64 gQ∧Za (Zcf.l0 kq ax iB l0 (l0.length:Int) gQ=some r)∧Za (kq≤k)∧Za (Below w.heap.size w w'))
 case atStart=>exact⟨(V9),(VA),(0),eS,eS,eS,H',⟨Nat.le_refl _⟩,⟨bM HB.out⟩⟩
 case round=>
  clear H';try clear c1
  try clear p2
  obtain⟨ax,iB,gQ,rfl,rfl,rfl,HA,HK1,HB⟩:=hrel
  cases gk with
  | zero => exact absurd HA.out (by simp [Zcf.l0])
  |succ k1=>
   have H:=HA.out;clear HA;simp only[Zcf.l0]at H;by_cases c5:gQ<(l0.length:Int)
   case neg=>
    rw[if_neg c5]at H;have dw:decide (gQ<(l0.length:Int))=false:=decide_eq_false c5;clear c5;obtain rfl:=sj H;go_wp2;go_ret;exact⟨eR,bM HB.out⟩
   rw[if_pos c5]at H;have dw:decide (gQ<(l0.length:Int))=true:=decide_eq_true c5;clear c5;obtain⟨iF,H⟩:=ifT H;obtain⟨nu,H⟩:=ifT H;obtain⟨⟨uH,dFa⟩,A8,H⟩:=bnd H;try dsimp only at H
   by_cases c9:dFa=true
   case neg=>
    replace c9:=Bool.eq_false_iff.mpr c9;subst c9;replace H:=ifF H;obtain rfl:=sj H;have oI:0≤(gQ:Int):=odt;have oK:gQ<(l0.length:Int):=odt;obtain⟨Lx,rfl,kP⟩:=Kd.Zb1 HR0.out gQ oI oK;replace kP:=hB HB.out kP;replace oI:=eq_true oI;replace oK:=eq_true oK
    go_wp2_with (first|((with_reducible refine Zal (f:=130) rfl ?_);refine gl 24 Tryz.func130 #[.int .i64 (rd l0 gQ)] ?_;(with_reducible refine(Zc0.calls k1 (rd l0 gQ) uH false _ A8.out).mono ?_);rintro e w21 ⟨rfl,hb⟩;refine⟨_,rfl,?_⟩;replace HB:=Za.mk (bS HB.out hb);(try clear hb);(try clear hb2);(try clear hk);(try clear hi)))
    go_ret;exact⟨eR,bM HB.out⟩
   subst c9;rw[if_pos rfl]at H;obtain⟨⟨Iz,dGa⟩,A10,H⟩:=bnd H;try dsimp only at H
   by_cases c11:dGa=true
   case neg=>
    replace c11:=Bool.eq_false_iff.mpr c11;subst c11;replace H:=ifF H;obtain rfl:=sj H;have oI:0≤(gQ:Int):=odt;have oK:gQ<(l0.length:Int):=odt;obtain⟨Lx,rfl,kP⟩:=Kd.Zb1 HR0.out gQ oI oK;replace kP:=hB HB.out kP;replace oI:=eq_true oI;replace oK:=eq_true oK
    go_wp2_with (first|((with_reducible refine Zal (f:=130) rfl ?_);refine gl 24 Tryz.func130 #[.int .i64 (rd l0 gQ)] ?_;(with_reducible refine(Zc0.calls k1 (rd l0 gQ) uH true _ A8.out).mono ?_);rintro e w19 ⟨rfl,hb⟩;refine⟨_,rfl,?_⟩;replace HB:=Za.mk (bS HB.out hb);(try clear hb);(try clear hb2);(try clear hk);(try clear hi))|((with_reducible refine Zal (f:=70) rfl ?_);refine gl 30 Tryz.func70 #[.int .i64 uH,.int .i64 1048576] ?_;(with_reducible refine(Zbz.calls k1 uH 1048576 Iz false _ A10.out).mono ?_);rintro e w20 ⟨rfl,hb⟩;refine⟨_,rfl,?_⟩;replace HB:=Za.mk (bS HB.out hb);(try clear hb);(try clear hb2);(try clear hk);(try clear hi)))
    go_ret;exact⟨eR,bM HB.out⟩
   subst c11;rw[if_pos rfl]at H;by_cases c12:iB=true
   case neg=>
    replace c12:=Bool.eq_false_iff.mpr c12;subst c12;replace H:=ifF H;obtain rfl:=sj H;have oI:0≤(gQ:Int):=odt;have oK:gQ<(l0.length:Int):=odt;obtain⟨Lx,rfl,kP⟩:=Kd.Zb1 HR0.out gQ oI oK;replace kP:=hB HB.out kP;replace oI:=eq_true oI;replace oK:=eq_true oK
    go_wp2_with (first|((with_reducible refine Zal (f:=130) rfl ?_);refine gl 24 Tryz.func130 #[.int .i64 (rd l0 gQ)] ?_;(with_reducible refine(Zc0.calls k1 (rd l0 gQ) uH true _ A8.out).mono ?_);rintro e w17 ⟨rfl,hb⟩;refine⟨_,rfl,?_⟩;replace HB:=Za.mk (bS HB.out hb);(try clear hb);(try clear hb2);(try clear hk);(try clear hi))|((with_reducible refine Zal (f:=70) rfl ?_);refine gl 30 Tryz.func70 #[.int .i64 uH,.int .i64 1048576] ?_;(with_reducible refine(Zbz.calls k1 uH 1048576 Iz true _ A10.out).mono ?_);rintro e w18 ⟨rfl,hb⟩;refine⟨_,rfl,?_⟩;replace HB:=Za.mk (bS HB.out hb);(try clear hb);(try clear hb2);(try clear hk);(try clear hi)))
    go_ret;exact⟨eR,bM HB.out⟩
   subst c12;rw[if_pos rfl]at H;obtain⟨⟨VB,VC⟩,A13,H⟩:=bnd H;try dsimp only at H
   have H':=Za.mk H;clear H;have oI:0≤(gQ:Int):=odt;have oK:gQ<(l0.length:Int):=odt;obtain⟨Lx,rfl,kP⟩:=Kd.Zb1 HR0.out gQ oI oK;replace kP:=hB HB.out kP;replace oI:=eq_true oI;replace oK:=eq_true oK
   go_wp2_with (first|((with_reducible refine Zal (f:=130) rfl ?_);refine gl 24 Tryz.func130 #[.int .i64 (rd l0 gQ)] ?_;(with_reducible refine(Zc0.calls k1 (rd l0 gQ) uH true _ A8.out).mono ?_);rintro e w14 ⟨rfl,hb⟩;refine⟨_,rfl,?_⟩;replace HB:=Za.mk (bS HB.out hb);(try clear hb);(try clear hb2);(try clear hk);(try clear hi))|((with_reducible refine Zal (f:=70) rfl ?_);refine gl 30 Tryz.func70 #[.int .i64 uH,.int .i64 1048576] ?_;(with_reducible refine(Zbz.calls k1 uH 1048576 Iz true _ A10.out).mono ?_);rintro e w15 ⟨rfl,hb⟩;refine⟨_,rfl,?_⟩;replace HB:=Za.mk (bS HB.out hb);(try clear hb);(try clear hb2);(try clear hk);(try clear hi))|((with_reducible refine Zal (f:=71) rfl ?_);refine gl 42 Tryz.func71 #[.int .i64 ax,.int .i64 Iz] ?_;(with_reducible refine(Zcq.calls k1 ax Iz VB VC _ A13.out).mono ?_);rintro e w16 ⟨rfl,hb⟩;refine⟨_,rfl,?_⟩;replace HB:=Za.mk (bS HB.out hb);(try clear hb);(try clear hb2);(try clear hk);(try clear hi)))
   go_roundg k1
   case measure=>have:=HK1.out;omega
   case rel=>exact⟨(VB),(VC),(wrap64 (gQ+1)),eS,eS,eS,H',⟨by have:=HK1.out;omega⟩,⟨bM HB.out⟩⟩
end Go.Proofs.YtdpieallpbllkaaGreat.P
/- Plain: 'from some number of rounds on it tells a'; lists of numbers in order. No program in sight. -/
namespace Go.Proofs.YtdpieallpbllkaaGreat.P
open Go.RowKit Go.Proofs.YtdpieallpbllkaaGreatW.PrintWords Go.Proofs.YtdpieallpbllkaaGreatW.PrintLast Go.Proofs.YtdpieallpbllkaaGreatW.PrintMore
def Ev {α:Type} (F:Nat→Option α) (a:α):Prop:=∃k0,∀k,k0≤k→F k=some a
section
variable {α β:Type} {F G:Nat→Option α} {a:α} {b:β}
theorem Ev.out (h:Ev F a):∃k,F k=some a:=by obtain⟨k,h⟩:=h;exact⟨k,h k (Nat.le_refl _)⟩
theorem Ev.const {x:Option α} (h:x=some a):Ev (fun _=>x) a:=⟨0,fun _ _=>h⟩
theorem Ev.pure (a:α):Ev (fun _=>some a) a:=Ev.const rfl
theorem Ev.bind {H:Nat→α→Option β} (h:Ev F a) (g:Ev (fun k=>H k a) b):Ev (fun k=>(F k).bind (H k)) b:=by
  obtain⟨k1,h1⟩:=h;obtain⟨k2,h2⟩:=g;refine⟨max k1 k2,fun k hk=> ?_⟩
  show(F k).bind (H k)=some b
  rw[h1 k (by omega)];exact h2 k (by omega)
theorem Ev.step (h:∀k,F (k+1)=G k) (g:Ev G a):Ev F a:=by
  obtain⟨k1,h1⟩:=g;refine⟨k1+1,fun k hk=> ?_⟩;obtain⟨m,rfl⟩:∃m,k=m+1:=⟨k - 1,by omega⟩;rw[h m];exact h1 m (by omega)
theorem Ev.eq (h:∀k,F k=G k) (g:Ev G a):Ev F a:=by
  obtain⟨k1,h1⟩:=g;exact⟨k1,fun k hk=>(h k).trans (h1 k hk)⟩
theorem Ev.of_mono (k:Nat) (h:F k=some a) (hm:∀k,LeO (F k) (F (k+1))):Ev F a:=by
  refine⟨k,fun m hm'=> ?_⟩
  induction hm' with
  | refl => exact h
  |step _ ih=>exact hm _ _ ih
theorem Ev.Zak {c:Prop} [Decidable c] (hc:c) (g:Ev F a):Ev (fun k=>if c then F k else G k) a:=Ev.eq (fun k=>if_pos hc) g
theorem Ev.Zat {c:Prop} [Decidable c] (hc:¬c) (g:Ev G a):Ev (fun k=>if c then F k else G k) a:=Ev.eq (fun k=>if_neg hc) g
end
theorem w64 {n:Int} (h1: -9223372036854775808≤n) (h2:n≤9223372036854775807):wrap64 n=n:=by unfold wrap64;omega
theorem w1 {n:Nat} (h:n<4611686018427387904):wrap64 ((n:Int)+1)=((n+1:Nat):Int):=by rw[w64 (by omega) (by omega)];omega
theorem wf64 {n:Int} (h:(Lit.int .i64 n).wf=true): -9223372036854775808≤n∧n≤9223372036854775807:=by
  simp[Lit.wf,IntKind.min,IntKind.max,IntKind.signed,IntKind.bits]at h
  omega
theorem Zc2 (l:List Int) (n:Nat) (h:n<l.length):rd l (n:Int)=l[n]:=by simp[rd,List.getD_eq_getElem?_getD,List.getElem?_eq_getElem h]
abbrev SS (l:List Int):Prop:=List.Pairwise (fun a b:Int=>a<b) l
theorem SS.ext : ∀ {l m : List Int}, SS l → SS m → (∀ x, x ∈ l ↔ x ∈ m) → l = m
  | [], [], _, _, _ => rfl
  | [], y :: m, _, _, h => absurd ((h y).2 List.mem_cons_self) (by simp)
  | x :: l, [], _, _, h => absurd ((h x).1 List.mem_cons_self) (by simp)
  |x::l,y::m,h1,h2,h=>by
    obtain⟨hx,hl⟩:=List.pairwise_cons.1 h1;obtain⟨hy,hm⟩:=List.pairwise_cons.1 h2
    have e:x=y:=by
      rcases List.mem_cons.1 ((h x).1 List.mem_cons_self)with e|h3
      · exact e
      rcases List.mem_cons.1 ((h y).2 List.mem_cons_self)with e|h4
      · exact e.symm
      have:=hy x h3;have:=hx y h4;omega
    subst e
    congr 1
    refine SS.ext hl hm (fun z=>⟨fun hz=> ?_,fun hz=> ?_⟩)
    · rcases List.mem_cons.1 ((h z).1 (List.mem_cons_of_mem _ hz)) with e | h3
      · have:=hx z hz;omega
      exact h3
    rcases List.mem_cons.1 ((h z).2 (List.mem_cons_of_mem _ hz))with e|h3
    · have:=hy z hz;omega
    exact h3
def insU (x : Int) : List Int → List Int
  | [] => [x]
  |y::l=>if x<y then x::y::l else if x=y then y::l else y::insU x l
theorem Zgv (x z : Int) : ∀ l, z ∈ insU x l ↔ z = x ∨ z ∈ l
  | [] => by simp [insU]
  |y::l=>by
    unfold insU
    split
    · simp
    split
    · rename_i h1 h2
      subst h2
      simp
    rw[List.mem_cons,Zgv x z l,List.mem_cons]
    constructor
    · rintro (h | h | h)
      · exact .inr (.inl h)
      · exact .inl h
      exact .inr (.inr h)
    rintro(h|h|h)
    · exact .inr (.inl h)
    · exact .inl h
    exact .inr (.inr h)
theorem insU_ss (x : Int) : ∀ l, SS l → SS (insU x l)
  | [], _ => by simp [insU]
  |y::l,h=>by
    obtain⟨hy,hl⟩:=List.pairwise_cons.1 h;unfold insU
    split
    · refine List.pairwise_cons.2 ⟨fun z hz => ?_, h⟩
      rcases List.mem_cons.1 hz with rfl|hz
      · assumption
      have:=hy z hz;omega
    split
    · exact h
    refine List.pairwise_cons.2 ⟨fun z hz=> ?_,insU_ss x l hl⟩
    rcases(Zgv x z l).1 hz with rfl|hz
    · omega
    exact hy z hz
def sd : List Int → List Int
  | [] => []
  |x::l=>insU x (sd l)
theorem mem_sd (z : Int) : ∀ l, z ∈ sd l ↔ z ∈ l
  | [] => by simp [sd]
  |x::l=>by rw[sd,Zgv,mem_sd z l,List.mem_cons]
theorem sd_ss : ∀ l, SS (sd l)
  | [] => List.Pairwise.nil
  |x::l=>insU_ss x _ (sd_ss l)
theorem sd_eq {l m:List Int} (hm:SS m) (h:∀x,x ∈ m↔x ∈ l):sd l=m:=SS.ext (sd_ss l) hm (fun x=>(mem_sd x l).trans (h x).symm)
theorem Zfq (x : Int) : ∀ l, (insU x l).length ≤ l.length + 1
  | [] => by simp [insU]
  |y::l=>by
    unfold insU
    split
    · simp
    split
    · simp
    have:=Zfq x l
    simp;omega
theorem Zhl : ∀ l, (sd l).length ≤ l.length
  | [] => by simp [sd]
  |x::l=>by
    have:=Zfq x (sd l);have:=Zhl l
    simp[sd];omega
theorem ss_length {l:List Int} {a b:Int} (h:SS l) (hb:∀x ∈ l,a≤x∧x≤b):(l.length:Int)≤max 0 (b+1 - a):=by
  induction l generalizing a with
  | nil => simp; omega
  |cons x l ih=>
    obtain⟨hx,hl⟩:=List.pairwise_cons.1 h;have h1:=hb x List.mem_cons_self;have:=ih (a:=x+1) hl (fun y hy=>⟨by have:=hx y hy;omega,(hb y (List.mem_cons_of_mem _ hy)).2⟩)
    simp
    omega
end Go.Proofs.YtdpieallpbllkaaGreat.P
/- Whole numbers with their bound, in plain words: Add, Sub, Mul by 2^20, size, big. -/
namespace Go.Proofs.YtdpieallpbllkaaGreat.P
open Go.RowKit Go.Proofs.YtdpieallpbllkaaGreatW.PrintWords Go.Proofs.YtdpieallpbllkaaGreatW.PrintLast
def Sml (x:Int):Prop:= -4611686018427387904≤x∧x≤4611686018427387904
instance (x:Int):Decidable (Sml x):=inferInstanceAs (Decidable (_∧_))
theorem Zig (l : List Int) (hl : l.length ≤ 1000000) : ∀ (d i : Nat), i + d = l.length → Ev (fun k => Zbb.l0 k l (l.length : Int) (i : Int)) ((l.drop i).all fun x => decide (Sml x))
  |0,i,h=>by
    obtain rfl:i=l.length:=by omega
    refine Ev.step (G:=fun _=>some true) (fun k=>by rw[Zbb.l0,if_neg (by omega)]) (Ev.const ?_);rw[List.drop_length]
    rfl
  |d+1,i,h=>by
    have hi:i<l.length:=by omega
    have hw:wrap64 ((i:Int)+1)=((i+1:Nat):Int):=by unfold wrap64;omega
    have hr:rd l (i:Int)=l[i]:=by simp[rd,List.getD_eq_getElem?_getD,List.getElem?_eq_getElem hi]
    have ih:=Zig l hl d (i+1) (by omega);rw[List.drop_eq_getElem_cons hi,List.all_cons];by_cases h1:l[i]< -4611686018427387904
    · have e : decide (Sml l[i]) = false := decide_eq_false (fun hs => absurd hs.1 (by omega))
      rw[e,Bool.false_and];exact Ev.step (G:=fun _=>some false) (fun k=>by rw[Zbb.l0,if_pos (by omega),if_pos (by omega),if_pos (by omega),hr,if_pos h1]) (Ev.const rfl)
    by_cases h2:l[i]>4611686018427387904;rotate_left
    · have e : decide (Sml l[i]) = true := decide_eq_true ⟨by omega, by omega⟩
      rw[e,Bool.true_and];exact Ev.step (fun k=>by rw[Zbb.l0,if_pos (by omega),if_pos (by omega),if_pos (by omega),hr,if_neg h1,if_neg h2,hw]) ih
    have e:decide (Sml l[i])=false:=decide_eq_false (fun hs=>absurd hs.2 (by omega));rw[e,Bool.false_and];exact Ev.step (G:=fun _=>some false) (fun k=>by rw[Zbb.l0,if_pos (by omega),if_pos (by omega),if_pos (by omega),hr,if_neg h1,if_pos h2]) (Ev.const rfl)
theorem Zf6 (l:List Int) (hl:l.length≤1000000):Ev (fun k=>Zbb.f k l) (l.all fun x=>decide (Sml x)):=by
  have:=Zig l hl l.length 0 (by omega);rw[List.drop_zero]at this;exact this
theorem told_ev (a:Int):Ev (fun k=>Zcd.f k a) (if Sml a then(a,true)else(0,false)):=by
  unfold Zcd.f;have h:=Zf6 [a] (by simp);by_cases hs:Sml a
  · rw [if_pos hs]
    rw[show([a].all fun x=>decide (Sml x))=true by simp[hs]]at h;exact Ev.bind h (Ev.Zak rfl (Ev.const rfl))
  rw[if_neg hs];rw[show([a].all fun x=>decide (Sml x))=false by simp[hs]]at h;exact Ev.bind h (Ev.Zat (by simp) (Ev.const rfl))
def addS (a b:Int):Int × Bool:=if Sml a∧Sml b∧Sml (a+b)then(a+b,true)else(0,false)
theorem add_ev (a b:Int):Ev (fun k=>Zcq.f k a b) (addS a b):=by
  unfold Zcq.f;have h:=Zf6 [a,b] (by simp);by_cases hs:Sml a∧Sml b;rotate_left
  · have e : addS a b = (0, false) := if_neg (fun hh => hs ⟨hh.1, hh.2.1⟩)
    rw[e]
    have e2:([a,b].all fun x=>decide (Sml x))=false:=by
      by_cases ha:Sml a;rotate_left
      · simp[ha]
      have hb:¬Sml b:=fun hb=>hs ⟨ha,hb⟩
      simp[ha,hb]
    rw[e2]at h;exact Ev.bind h (Ev.Zat (by simp) (Ev.const rfl))
  rw[show([a,b].all fun x=>decide (Sml x))=true by simp[hs.1,hs.2]]at h;refine Ev.bind h (Ev.Zak rfl ?_);obtain⟨⟨a1,a2⟩,b1,b2⟩:=hs;have w1:a>0→wrap64 (4611686018427387904 - a)=4611686018427387904 - a:=fun _=>by unfold wrap64;omega
  have w2:a<0→wrap64 (-4611686018427387904 - a)= -4611686018427387904 - a:=fun _=>by unfold wrap64;omega
  have ht:=told_ev (a+b);by_cases hab:Sml (a+b)
  · have e : addS a b = (a + b, true) := if_pos ⟨⟨a1, a2⟩, ⟨b1, b2⟩, hab⟩
    rw[if_pos hab]at ht;rw[e];have hb:=Ev.bind (H:=fun _ (p:Int × Bool)=>some (p.1,p.2)) ht (Ev.const rfl);obtain⟨c1,c2⟩:=hab;have w3:wrap64 (a+b)=a+b:=by unfold wrap64;omega
    simp only[w3];by_cases q1:a>0
    · exact Ev.Zak q1 (Ev.Zat (by rw[w1 q1];omega) (Ev.Zat (by omega) hb))
    by_cases q2:a<0;rotate_left
    · exact Ev.Zat q1 (Ev.Zat q2 hb)
    exact Ev.Zat q1 (Ev.Zak q2 (Ev.Zat (by rw[w2 q2];omega) hb))
  have e:addS a b=(0,false):=if_neg (fun hh=>hab hh.2.2);rw[e]
  have hab':a+b< -4611686018427387904∨4611686018427387904<a+b:=by
    rcases Int.lt_or_le (a+b) (-4611686018427387904)with z|z
    · exact .inl z
    rcases Int.lt_or_le 4611686018427387904 (a+b)with z2|z2
    · exact .inr z2
    exact absurd ⟨z,z2⟩ hab
  by_cases q1:a>0
  · exact Ev.Zak q1 (Ev.Zak (by rw[w1 q1];omega) (Ev.const rfl))
  by_cases q2:a<0;rotate_left
  · exfalso;omega
  exact Ev.Zat q1 (Ev.Zak q2 (Ev.Zak (by rw[w2 q2];omega) (Ev.const rfl)))
theorem sub0_ev (a:Int) (h0:a<0) (hw: -9223372036854775808≤a):Ev (fun k=>Zea.f k 0 a) (if Sml a then(-a,true)else(0,false)):=by
  unfold Zea.f;have h:=Zf6 [0,a] (by simp);by_cases hs:Sml a;rotate_left
  · rw [if_neg hs]
    rw[show([0,a].all fun x=>decide (Sml x))=false by simp[hs]]at h;exact Ev.bind h (Ev.Zat (by simp) (Ev.const rfl))
  rw[if_pos hs];rw[show([0,a].all fun x=>decide (Sml x))=true by simp[hs];exact⟨by omega,by omega⟩]at h
  have hn:wrap64 (-a)= -a:=by
    have:=hs.1;unfold wrap64;omega
  have hadd:=add_ev 0 (-a)
  have e:addS 0 (-a)=(-a,true):=by
    unfold addS;have h1:=hs.1;have h2:=hs.2;rw[if_pos ⟨⟨by omega,by omega⟩,⟨by omega,by omega⟩,by rw[Int.zero_add];exact⟨by omega,by omega⟩⟩,Int.zero_add]
  rw[e]at hadd;refine Ev.bind h (Ev.Zak rfl ?_);rw[hn];exact Ev.bind (H:=fun _ (p:Int × Bool)=>some (p.1,p.2)) hadd (Ev.const rfl)
theorem size_ev (a:Int) (hw: -9223372036854775808≤a):Ev (fun k=>Zc0.f k a) (if Sml a then((a.natAbs:Int),true)else(0,false)):=by
  unfold Zc0.f;by_cases h0:a<0
  · refine Ev.Zak h0 ?_
    have h:=sub0_ev a h0 hw
    have e:(if Sml a then(-a,true)else((0:Int),false))=(if Sml a then((a.natAbs:Int),true)else(0,false)):=by
      rw[show(-a:Int)=(a.natAbs:Int) by omega]
    rw[e]at h;refine Ev.bind h (Ev.const ?_)
    split<;>rfl
  refine Ev.Zat h0 ?_;have h:=add_ev 0 a
  have e:addS 0 a=(if Sml a then((a.natAbs:Int),true)else(0,false)):=by
    unfold addS;rw[Int.zero_add,show(a.natAbs:Int)=a by omega];by_cases hs:Sml a;rotate_left
    · rw[if_neg (fun hh=>hs hh.2.1),if_neg hs]
    rw[if_pos ⟨⟨by omega,by omega⟩,hs,hs⟩,if_pos hs]
  rw[e]at h;refine Ev.bind h (Ev.const ?_)
  split<;>rfl
theorem wrapU {x:Int} (h0:0≤x) (h1:x<18446744073709551616):IntKind.u64.wrap x=x:=by
  rw[IntKind.wrap_u64]
  omega
theorem maskU {x:Int} (h0:0≤x) (h1:x<18446744073709551616):Go.bits .and .u64 x 4294967295=x%4294967296:=by
  obtain⟨n,rfl⟩:∃n:Nat,x=n:=⟨x.toNat,by omega⟩;rw[show(4294967295:Int)=((4294967295:Nat):Int)from rfl,bits_and_u64_nat n 4294967295 (by omega) (by omega),show(4294967295:Nat)=2^32 - 1 from rfl,Nat.and_two_pow_sub_one_eq_mod]
  omega
theorem mul64_mega {a:Int} (h0:0≤a) (h1:a≤4611686018427387904):bits_Mul64.f a 1048576=some (a*1048576 / 18446744073709551616,a*1048576%18446744073709551616):=by
  unfold bits_Mul64.f;have e1:(1048576:Int) / 4294967296=0:=by decide
  have e2:Go.bits .and .u64 (1048576:Int) 4294967295=1048576:=by rw[maskU (by omega) (by omega)];decide
  rw[e1,e2,maskU h0 (by omega)];have w1:IntKind.u64.wrap (a / 4294967296*0)=0:=by rw[Int.mul_zero];exact wrapU (by omega) (by omega)
  have w2:IntKind.u64.wrap (a / 4294967296*1048576)=a / 4294967296*1048576:=wrapU (by omega) (by omega);have w3:IntKind.u64.wrap (a%4294967296*1048576)=a%4294967296*1048576:=wrapU (by omega) (by omega);have w4:IntKind.u64.wrap (a%4294967296*0)=0:=by rw[Int.mul_zero];exact wrapU (by omega) (by omega)
  rw[w1,w2,w3,w4];have w5:IntKind.u64.wrap (a / 4294967296*1048576+a%4294967296*1048576 / 4294967296)=a / 4294967296*1048576+a%4294967296*1048576 / 4294967296:=wrapU (by omega) (by omega);rw[w5,maskU (by omega) (by omega)]
  have w6:∀t:Int,0≤t→t<18446744073709551616→IntKind.u64.wrap (IntKind.u64.wrap (0+t / 4294967296)+IntKind.u64.wrap (t%4294967296+0) / 4294967296)=t / 4294967296:=fun t ht0 ht1=>by
    rw[wrapU (x:=0+t / 4294967296) (by omega) (by omega),wrapU (x:=t%4294967296+0) (by omega) (by omega),wrapU (by omega) (by omega)]
    omega
  rw[w6 _ (by omega) (by omega)]
  have w7:IntKind.u64.wrap (a*1048576)=a*1048576%18446744073709551616:=by
    rw[IntKind.wrap_u64]
  rw[w7]
  congr 2
  omega
theorem mul_ev {a:Int} (h0:0≤a) (h1:a≤4611686018427387904):Ev (fun k=>Zbz.f k a 1048576) (if a*1048576≤4611686018427387904 then(a*1048576,true)else(0,false)):=by
  unfold Zbz.f;have h:=Zf6 [a,1048576] (by simp)
  rw [show ([a, 1048576].all fun x => decide (Sml x)) = true by
    have hs1:Sml a:=⟨by omega,h1⟩;have hs2:Sml 1048576:=⟨by omega,by omega⟩
    simp [hs1, hs2]] at h
  have s1:Zc1.f a=some a:=by
    unfold Zc1.f;rw[if_neg (by omega),wrapU h0 (by omega)]
  have s2:Zc1.f 1048576=some 1048576:=by
    unfold Zc1.f;rw[if_neg (by omega),wrapU (by omega) (by omega)]
  refine Ev.bind h (Ev.Zak rfl ?_);simp only[s1,s2,mul64_mega h0 h1,Option.bind_some];by_cases hc:a*1048576≤4611686018427387904;rotate_left
  · rw [if_neg hc]
    have key:∀b:Bool,b=true→∀x:Int,Ev (fun k=>Zbz.j0 k a 1048576 x b) (0,false):=fun b hb x=>Ev.step (G:=fun _=>some (0,false)) (fun k=>by rw[Zbz.j0,if_pos hb]) (Ev.const rfl)
    by_cases q1:a*1048576 / 18446744073709551616=0;rotate_left
    · exact Ev.Zat q1 (key _ rfl _)
    exact Ev.Zak q1 (key _ (by simp;omega) _)
  rw[if_pos hc];have q1:a*1048576 / 18446744073709551616=0:=by omega
  have q2:a*1048576%18446744073709551616=a*1048576:=by omega
  simp only[q1,q2];refine Ev.Zak trivial (Ev.step (G:=fun _=>some (a*1048576,true)) (fun k=> ?_) (Ev.const rfl));rw[Zbz.j0,if_neg (by simp;omega),if_neg (by simp;omega),show wrap64 (a*1048576)=a*1048576 by unfold wrap64;omega]
def tot : List Int → Int
  | [] => 0
  |c::l=>(c.natAbs:Int)*1048576+tot l
theorem Zeq : ∀ l, 0 ≤ tot l
  | [] => Int.le_refl _
  |c::l=>by have:=Zeq l;unfold tot;omega
theorem big_no (l : List Int) (hl : l.length ≤ 1000000) (hw : ∀ c ∈ l, -9223372036854775808 ≤ c) (s : Int) : ∀ (d i : Nat), i + d = l.length → Ev (fun k => Zcf.l0 k s false l (l.length : Int) (i : Int)) true
  |0,i,h=>by
    obtain rfl:i=l.length:=by omega
    exact Ev.step (G:=fun _=>some true) (fun k=>by rw[Zcf.l0,if_neg (by omega)];rfl) (Ev.const rfl)
  |d+1,i,h=>by
    have hi:i<l.length:=by omega
    have hr:rd l (i:Int)=l[i]:=by simp[rd,List.getD_eq_getElem?_getD,List.getElem?_eq_getElem hi]
    have hs:=size_ev l[i] (hw _ (List.getElem_mem hi));refine Ev.step (fun k=>by rw[Zcf.l0,if_pos (by omega),if_pos (by omega),if_pos (by omega),hr]) ?_;refine Ev.bind hs ?_;by_cases hsm:Sml l[i];rotate_left
    · rw [if_neg hsm]
      exact Ev.Zat (by simp) (Ev.const rfl)
    rw[if_pos hsm];obtain⟨m1,m2⟩:=hsm;refine Ev.Zak rfl (Ev.bind (mul_ev (a:=(l[i].natAbs:Int)) (by omega) (by omega)) ?_);by_cases hm:(l[i].natAbs:Int)*1048576≤4611686018427387904;rotate_left
    · rw [if_neg hm]
      exact Ev.Zat (by simp) (Ev.const rfl)
    rw[if_pos hm];exact Ev.Zak rfl (Ev.Zat (by simp) (Ev.const rfl))
theorem big_loop (l : List Int) (hl : l.length ≤ 1000000) (hw : ∀ c ∈ l, -9223372036854775808 ≤ c) : ∀ (d i : Nat) (s : Int), i + d = l.length → 0 ≤ s → s ≤ 4611686018427387904 → Ev (fun k => Zcf.l0 k s true l (l.length : Int) (i : Int)) (!decide (s + tot (l.drop i) ≤ 4611686018427387904))
  |0,i,s,h,h0,h1=>by
    obtain rfl:i=l.length:=by omega
    rw[List.drop_length];refine Ev.step (G:=fun _=>some false) (fun k=>by rw[Zcf.l0,if_neg (by omega)];rfl) (Ev.const ?_);rw[decide_eq_true (by unfold tot;omega)]
    rfl
  |d+1,i,s,h,h0,h1=>by
    have hi:i<l.length:=by omega
    have hr:rd l (i:Int)=l[i]:=by simp[rd,List.getD_eq_getElem?_getD,List.getElem?_eq_getElem hi]
    have hz:wrap64 ((i:Int)+1)=((i+1:Nat):Int):=by unfold wrap64;omega
    have hs:=size_ev l[i] (hw _ (List.getElem_mem hi));rw[List.drop_eq_getElem_cons hi,tot];have ht:=Zeq (l.drop (i+1));refine Ev.step (fun k=>by rw[Zcf.l0,if_pos (by omega),if_pos (by omega),if_pos (by omega),hr]) ?_;refine Ev.bind hs ?_;by_cases hsm:Sml l[i];rotate_left
    · rw [if_neg hsm, decide_eq_false (by
        have:¬(-4611686018427387904≤l[i]∧l[i]≤4611686018427387904):=hsm
        omega)]
      exact Ev.Zat (by simp) (Ev.const rfl)
    rw[if_pos hsm];obtain⟨m1,m2⟩:=hsm;refine Ev.Zak rfl (Ev.bind (mul_ev (a:=(l[i].natAbs:Int)) (by omega) (by omega)) ?_);by_cases hm:(l[i].natAbs:Int)*1048576≤4611686018427387904;rotate_left
    · rw [if_neg hm, decide_eq_false (by omega)]
      exact Ev.Zat (by simp) (Ev.const rfl)
    rw[if_pos hm];refine Ev.Zak rfl (Ev.Zak rfl ?_);have ha:=add_ev s ((l[i].natAbs:Int)*1048576);refine Ev.bind ha ?_;rw[hz];by_cases hab:s+(l[i].natAbs:Int)*1048576≤4611686018427387904;rotate_left
    · have e : addS s ((l[i].natAbs : Int) * 1048576) = (0, false) := if_neg (fun hh => hab hh.2.2.2)
      rw[e,decide_eq_false (by omega)];exact big_no l hl hw 0 d (i+1) (by omega)
    have e:addS s ((l[i].natAbs:Int)*1048576)=(s+(l[i].natAbs:Int)*1048576,true):=if_pos ⟨⟨by omega,h1⟩,⟨by omega,hm⟩,⟨by omega,hab⟩⟩;rw[e,←Int.add_assoc];exact big_loop l hl hw d (i+1) _ (by omega) (by omega) hab
theorem big_ev (l:List Int) (rhs:Int) (hl:l.length≤1000000) (hw:∀c ∈ l,-9223372036854775808≤c) (hr: -9223372036854775808≤rhs):Ev (fun k=>Zcf.f k l rhs) (!decide ((rhs.natAbs:Int)+tot l≤4611686018427387904)):=by
  unfold Zcf.f;have ht:=Zeq l;refine Ev.bind (size_ev rhs hr) ?_;by_cases hsm:Sml rhs;rotate_left
  · rw [if_neg hsm, decide_eq_false (by
      have:¬(-4611686018427387904≤rhs∧rhs≤4611686018427387904):=hsm
      omega)]
    exact big_no l hl hw 0 l.length 0 (by omega)
  rw[if_pos hsm];obtain⟨m1,m2⟩:=hsm;have:=big_loop l hl hw l.length 0 (rhs.natAbs:Int) (by omega) (by omega) (by omega);rw[List.drop_zero]at this;exact this
end Go.Proofs.YtdpieallpbllkaaGreat.P
namespace Go.Proofs.YtdpieallpbllkaaGreat.P
open Go.RowKit Go.Proofs.YtdpieallpbllkaaGreatW.PrintWords Go.Proofs.YtdpieallpbllkaaGreatW.PrintLast Go.Proofs.YtdpieallpbllkaaGreatW.PrintMore
attribute [local go_sem] Zcw Zcy Zdg Zdh Zco Zcp Zcx Zcz
def Zce.l0 : Nat → List Int → Int → List Int → Int → Int → Option (Int × Bool)
 | 0, _, _, _, _, _ => none
 |k+1,x1,x6,x17,x18,x19=>if x19<x18 then(if 0≤x19 then(if x19<(x17.length:Int)then(if x19<(x1.length:Int)then((Zbz.f k (rd x17 x19) (rd x1 x19)).bind fun Rp=>(if Rp.2=true then((Zcq.f k x6 Rp.1).bind fun uk=>(if uk.2=true then(Zce.l0 k x1 uk.1 x17 x18 (wrap64 (x19+1)))else(some (0,false))))else(some (0,false))))else(none))else(none))else(none))else(some (x6,true))
def Zce.f (k:Nat) (l0:List Int) (l1:List Int):Option (Int × Bool):=if(l0.length:Int)=(l1.length:Int)then(Zce.l0 k l1 0 l0 (l0.length:Int) 0)else(some (0,false))
theorem Zce.Zc9 : ∀ k, (∀ y0 y1 y2 y3 y4, LeO (Zce.l0 k y0 y1 y2 y3 y4) (Zce.l0 (k + 1) y0 y1 y2 y3 y4))
 | 0 => fun _ _ _ _ _ r h => by simp [Zce.l0] at h
 |k+1=>by
  have ih0:=Zce.Zc9 k;intro y0 y1 y2 y3 y4;unfold Zce.l0
  repeat' first
  | (with_reducible exact ih0 _ _ _ _ _)
  | (with_reducible exact Zcq.mono _ _ _)
  | (with_reducible exact Zbz.mono _ _ _)
  | (with_reducible exact LeO.refl _)
  | (with_reducible exact LeO.none _)
  | (with_reducible refine LeO.ite ?_ ?_)
  |(with_reducible refine LeO.bind ?_ (fun _=> ?_))
theorem Zce.mono:∀a0 a1 k,LeO (Zce.f k a0 a1) (Zce.f (k+1) a0 a1):=by
 intro a0 a1 k;have ih0:=Zce.Zc9 k;unfold Zce.f
 repeat' first
   | (with_reducible exact ih0 _ _ _ _ _)
   | (with_reducible exact Zcq.mono _ _ _)
   | (with_reducible exact Zbz.mono _ _ _)
   | (with_reducible exact LeO.refl _)
   | (with_reducible exact LeO.none _)
   | (with_reducible refine LeO.ite ?_ ?_)
   |(with_reducible refine LeO.bind ?_ (fun _=> ?_))
set_option maxRecDepth 100000 in
theorem Zce.calls (k : Nat) (A0 : Option Addr) (c0 : Nat) (l0 : List Int) (A1 : Option Addr) (c1 : Nat) (l1 : List Int) (r1 : Int) (r2 : Bool) (w : World) (hr0 : Kd.C (Kd.int .i64) w A0 l0.length l0) (hc0 : l0.length ≤ c0) (hr1 : Kd.C (Kd.int .i64) w A1 l1.length l1) (hc1 : l1.length ≤ c1) (h : Zce.f k l0 l1 = some (r1, r2)) :
  Calls Tryz.prog 51 #[.slice A0 l0.length c0,.slice A1 l1.length c1] w fun e w'=>e= .returned (.tuple #[.int .i64 r1,.bool r2])∧Below w.heap.size w w':=by
 have HR0:=Za.mk hr0;have HC0:=Za.mk hc0;clear hr0 hc0;have HR1:=Za.mk hr1;have HC1:=Za.mk hc1;clear hr1 hc1;have HB:=Za.mk (Below.refl w.heap.size w);have H:(if(l0.length:Int)=(l1.length:Int)then(Zce.l0 k l1 0 l0 (l0.length:Int) 0)else(some (0,false)))=some (r1,r2):=h;clear h;by_cases c3:(l0.length:Int)=(l1.length:Int)
 case neg=>
  rw[if_neg c3]at H;have fB:((l0.length:Int)==(l1.length:Int))=false:=beq_eq_false_iff_ne.mpr c3;have jY:((l0.length:Int) !=(l1.length:Int))=true:=bne_iff_ne.mpr c3;have qD:(l0.length==l1.length)=false:=by first|simpa using c3|(simp at c3 ⊢;omega)
  simp only[Option.some.injEq,Prod.mk.injEq]at H;obtain⟨rfl,rfl⟩:=H;go_enter Tryz.func51,Tryz.ntmps51;go_wp2
  go_ret2
  exact⟨eR,bM HB.out⟩
 rw[if_pos c3]at H;have fB:((l0.length:Int)==(l1.length:Int))=true:=beq_iff_eq.mpr c3;have jY:((l0.length:Int) !=(l1.length:Int))=false:=bne_eq_false_iff_eq.mpr c3;have qD:(l0.length==l1.length)=true:=by first|simpa using c3|(simp at c3 ⊢;omega)
 clear c3;have H':=Za.mk H;clear H;go_enter Tryz.func51,Tryz.ntmps51;go_wp2
 go_loopg [6,19] k (fun kq v6 v19 w'=>∃(iB:Int) (eH:Int),v6= .int .i64 iB∧v19= .int .i64 eH∧Za (Zce.l0 kq l1 iB l0 (l0.length:Int) eH=some (r1,r2))∧Za (kq≤k)∧Za (Below w.heap.size w w'))
 case atStart=>exact⟨(0),(0),eS,eS,H',⟨Nat.le_refl _⟩,⟨bM HB.out⟩⟩
 case round=>
  clear H';try clear c1
  try clear p2
  try clear c3
  try clear fB
  try clear jY
  try clear qD
  obtain⟨iB,eH,rfl,rfl,HA,HK1,HB⟩:=hrel
  cases gk with
  | zero => exact absurd HA.out (by simp [Zce.l0])
  |succ k1=>
   have H:=HA.out;clear HA;simp only[Zce.l0]at H;by_cases c4:eH<(l0.length:Int)
   case neg=>
    rw[if_neg c4]at H;have dC:decide (eH<(l0.length:Int))=false:=decide_eq_false c4;clear c4;simp only[Option.some.injEq,Prod.mk.injEq]at H;obtain⟨rfl,rfl⟩:=H;go_wp2
    go_ret2
    exact⟨eR,bM HB.out⟩
   rw[if_pos c4]at H;have dC:decide (eH<(l0.length:Int))=true:=decide_eq_true c4;clear c4;obtain⟨dw,H⟩:=ifT H;obtain⟨iF,H⟩:=ifT H;obtain⟨nu,H⟩:=ifT H;obtain⟨⟨xu,Vy⟩,A8,H⟩:=bnd H;replace H:(if Vy=true then((Zcq.f k1 iB xu).bind fun uk=>(if uk.2=true then(Zce.l0 k1 l1 uk.1 l0 (l0.length:Int) (wrap64 (eH+1)))else(some (0,false))))else(some (0,false)))=some (r1,r2):=H;by_cases c9:Vy=true
   case neg=>
    replace c9:=Bool.eq_false_iff.mpr c9;subst c9;replace H:=ifF H;simp only[Option.some.injEq,Prod.mk.injEq]at H;obtain⟨rfl,rfl⟩:=H;have sV:0≤(eH:Int):=odt;have tJ:eH<(l0.length:Int):=odt;obtain⟨Rm,rfl,pz⟩:=Kd.Zb1 HR0.out eH sV tJ;replace pz:=hB HB.out pz;replace sV:=eq_true sV;replace tJ:=eq_true tJ;have sW:0≤(eH:Int):=odt;have tK:eH<(l1.length:Int):=odt;obtain⟨Rn,rfl,p8⟩:=Kd.Zb1 HR1.out eH sW tK;replace p8:=hB HB.out p8;replace sW:=eq_true sW;replace tK:=eq_true tK
    go_wp2_with (first|((with_reducible refine Zal (f:=70) rfl ?_);refine gl 30 Tryz.func70 #[.int .i64 (rd l0 eH),.int .i64 (rd l1 eH)] ?_;(with_reducible refine(Zbz.calls k1 (rd l0 eH) (rd l1 eH) xu false _ A8.out).mono ?_);rintro e w16 ⟨rfl,hb⟩;refine⟨_,rfl,?_⟩;replace HB:=Za.mk (bS HB.out hb);(try clear hb);(try clear hb2);(try clear hk);(try clear hi)))
    go_ret2
    exact⟨eR,bM HB.out⟩
   subst c9;have H1:((Zcq.f k1 iB xu).bind fun uk=>(if uk.2=true then(Zce.l0 k1 l1 uk.1 l0 (l0.length:Int) (wrap64 (eH+1)))else(some (0,false))))=some (r1,r2):=by rw[if_pos rfl]at H;exact H
   clear H;have H:=H1;clear H1;obtain⟨⟨Iu,Vz⟩,A10,H⟩:=bnd H;replace H:(if Vz=true then(Zce.l0 k1 l1 Iu l0 (l0.length:Int) (wrap64 (eH+1)))else(some (0,false)))=some (r1,r2):=H;by_cases c11:Vz=true
   case neg=>
    replace c11:=Bool.eq_false_iff.mpr c11;subst c11;replace H:=ifF H;simp only[Option.some.injEq,Prod.mk.injEq]at H;obtain⟨rfl,rfl⟩:=H;have sV:0≤(eH:Int):=odt;have tJ:eH<(l0.length:Int):=odt;obtain⟨Rm,rfl,pz⟩:=Kd.Zb1 HR0.out eH sV tJ;replace pz:=hB HB.out pz;replace sV:=eq_true sV;replace tJ:=eq_true tJ;have sW:0≤(eH:Int):=odt;have tK:eH<(l1.length:Int):=odt;obtain⟨Rn,rfl,p8⟩:=Kd.Zb1 HR1.out eH sW tK;replace p8:=hB HB.out p8;replace sW:=eq_true sW;replace tK:=eq_true tK
    go_wp2_with (first|((with_reducible refine Zal (f:=70) rfl ?_);refine gl 30 Tryz.func70 #[.int .i64 (rd l0 eH),.int .i64 (rd l1 eH)] ?_;(with_reducible refine(Zbz.calls k1 (rd l0 eH) (rd l1 eH) xu true _ A8.out).mono ?_);rintro e w14 ⟨rfl,hb⟩;refine⟨_,rfl,?_⟩;replace HB:=Za.mk (bS HB.out hb);(try clear hb);(try clear hb2);(try clear hk);(try clear hi))|((with_reducible refine Zal (f:=71) rfl ?_);refine gl 38 Tryz.func71 #[.int .i64 iB,.int .i64 xu] ?_;(with_reducible refine(Zcq.calls k1 iB xu Iu false _ A10.out).mono ?_);rintro e w15 ⟨rfl,hb⟩;refine⟨_,rfl,?_⟩;replace HB:=Za.mk (bS HB.out hb);(try clear hb);(try clear hb2);(try clear hk);(try clear hi)))
    go_ret2
    exact⟨eR,bM HB.out⟩
   subst c11;have H1:(Zce.l0 k1 l1 Iu l0 (l0.length:Int) (wrap64 (eH+1)))=some (r1,r2):=by rw[if_pos rfl]at H;exact H
   clear H;have H:=H1;clear H1;have H':=Za.mk H;clear H;have sV:0≤(eH:Int):=odt;have tJ:eH<(l0.length:Int):=odt;obtain⟨Rm,rfl,pz⟩:=Kd.Zb1 HR0.out eH sV tJ;replace pz:=hB HB.out pz;replace sV:=eq_true sV;replace tJ:=eq_true tJ;have sW:0≤(eH:Int):=odt;have tK:eH<(l1.length:Int):=odt;obtain⟨Rn,rfl,p8⟩:=Kd.Zb1 HR1.out eH sW tK;replace p8:=hB HB.out p8;replace sW:=eq_true sW;replace tK:=eq_true tK
   go_wp2_with (first|((with_reducible refine Zal (f:=70) rfl ?_);refine gl 30 Tryz.func70 #[.int .i64 (rd l0 eH),.int .i64 (rd l1 eH)] ?_;(with_reducible refine(Zbz.calls k1 (rd l0 eH) (rd l1 eH) xu true _ A8.out).mono ?_);rintro e w12 ⟨rfl,hb⟩;refine⟨_,rfl,?_⟩;replace HB:=Za.mk (bS HB.out hb);(try clear hb);(try clear hb2);(try clear hk);(try clear hi))|((with_reducible refine Zal (f:=71) rfl ?_);refine gl 38 Tryz.func71 #[.int .i64 iB,.int .i64 xu] ?_;(with_reducible refine(Zcq.calls k1 iB xu Iu true _ A10.out).mono ?_);rintro e w13 ⟨rfl,hb⟩;refine⟨_,rfl,?_⟩;replace HB:=Za.mk (bS HB.out hb);(try clear hb);(try clear hb2);(try clear hk);(try clear hi)))
   go_roundg k1
   case measure=>have:=HK1.out;omega
   case rel=>exact⟨(Iu),(wrap64 (eH+1)),eS,eS,H',⟨by have:=HK1.out;omega⟩,⟨bM HB.out⟩⟩
def Zep.f (l0:List Int) (a1:Int):Option (Int):=if a1<0 then(some 0)else(if a1≥(l0.length:Int)then(some 0)else(if 0≤a1 then(if a1<(l0.length:Int)then(some (rd l0 a1))else(none))else(none)))
set_option maxRecDepth 100000 in
theorem Zep.calls (A0 : Option Addr) (c0 : Nat) (l0 : List Int) (a1 : Int) (r : Int) (w : World) (hr0 : Kd.C (Kd.int .i64) w A0 l0.length l0) (hc0 : l0.length ≤ c0) (h : Zep.f l0 a1 = some r) :
  Calls Tryz.prog 38 #[.slice A0 l0.length c0,.int .i64 a1] w fun e w'=>e= .returned (.int .i64 r)∧Zav w w':=by
 have HR0:=Za.mk hr0;have HC0:=Za.mk hc0;clear hr0 hc0;have H:(if a1<0 then(some 0)else(if a1≥(l0.length:Int)then(some 0)else(if 0≤a1 then(if a1<(l0.length:Int)then(some (rd l0 a1))else(none))else(none))))=some r:=h;clear h;by_cases c3:a1<0
 case pos=>
  rw[if_pos c3]at H;have fB:decide (a1<0)=true:=decide_eq_true c3;clear c3;obtain rfl:=sj H;go_enter Tryz.func38,Tryz.ntmps38;go_wp2;go_ret;exact⟨eS,by repeat(first|exact Zav.refl _|apply Zav.step)⟩
 rw[if_neg c3]at H;have fB:decide (a1<0)=false:=decide_eq_false c3;clear c3;by_cases c4:a1≥(l0.length:Int)
 case pos=>
  rw[if_pos c4]at H;have dC:decide ((l0.length:Int)≤a1)=true:=decide_eq_true c4;clear c4;obtain rfl:=sj H;go_enter Tryz.func38,Tryz.ntmps38;go_wp2;go_ret;exact⟨eS,by repeat(first|exact Zav.refl _|apply Zav.step)⟩
 rw[if_neg c4]at H;have dC:decide ((l0.length:Int)≤a1)=false:=decide_eq_false c4;clear c4;by_cases c5:0≤a1
 case neg=>
  rw[if_neg c5]at H;exact absurd H (by simp)
 rw[if_pos c5]at H;have dw:decide (0≤a1)=true:=decide_eq_true c5;clear c5;obtain⟨iF,H⟩:=ifT H;obtain rfl:=sj H;have OQ:0≤(a1:Int):=odt;have Ph:a1<(l0.length:Int):=odt;obtain⟨fJa,rfl,eva⟩:=Kd.Zb1 HR0.out a1 OQ Ph;replace OQ:=eq_true OQ;replace Ph:=eq_true Ph;go_enter Tryz.func38,Tryz.ntmps38;go_wp2;go_ret;exact⟨eS,by repeat(first|exact Zav.refl _|apply Zav.step)⟩
end Go.Proofs.YtdpieallpbllkaaGreat.P
/- meaning.picked: some variables' values. -/
namespace Go.Proofs.YtdpieallpbllkaaGreat.P
open Go.RowKit Go.Proofs.YtdpieallpbllkaaGreatW.PrintWords Go.Proofs.YtdpieallpbllkaaGreatW.PrintLast Go.Proofs.YtdpieallpbllkaaGreatW.PrintMore
def atV (a:List Int) (v:Int):Int:=if v<0 then 0 else if(a.length:Int)≤v then 0 else rd a v
theorem atV_f (a:List Int) (v:Int):Zep.f a v=some (atV a v):=by
  unfold Zep.f atV;by_cases h1:v<0
  · rw[if_pos h1,if_pos h1]
  rw[if_neg h1,if_neg h1];by_cases h2:(a.length:Int)≤v
  · rw[if_pos (show v≥(a.length:Int)from h2),if_pos h2]
  rw[if_neg (show ¬v≥(a.length:Int)from h2),if_neg h2,if_pos (by omega),if_pos (by omega)]
def Zch.f (a vars:List Int):Option (List Int):=if vars.length<1000000 then some (vars.map (atV a))else none
theorem pick_take {a vars:List Int} {i:Nat} (hi:i<vars.length):(vars.take (i+1)).map (atV a)=(vars.take i).map (atV a)++ [atV a (rd vars (i:Int))]:=by
  rw[List.take_succ_eq_append_getElem hi,List.map_append]
  simp[rd,List.getD_eq_getElem?_getD,List.getElem?_eq_getElem hi]
set_option maxRecDepth 100000 in
theorem Zch.calls (A0 : Option Addr) (c0 : Nat) (a : List Int) (A1 : Option Addr) (c1 : Nat) (vars : List Int) (r : List Int) (w : World) (hr0 : Kd.C (Kd.int .i64) w A0 a.length a) (hc0 : a.length ≤ c0) (hr1 : Kd.C (Kd.int .i64) w A1 vars.length vars) (hc1 : vars.length ≤ c1)
    (h:Zch.f a vars=some r):
    Calls Tryz.prog 31 #[.slice A0 a.length c0,.slice A1 vars.length c1] w fun e w'=>∃v0_:Value,e= .returned v0_∧Kd.R (Kd.int .i64) 3 w' w.heap.size (fun _=>True) v0_ r∧Below w.heap.size w w':=by
  unfold Zch.f at h
  split at h
  case isFalse=>cases h
  case isTrue hl=>
  obtain rfl:=Option.some.inj h;clear h;obtain⟨i0,hi0,hz0,hz1,hz2⟩:=info_parts info3;obtain⟨wm,hrun,hown,hgr⟩:=run_make_own (P:=Tryz.prog) w w.heap.size 24 3 i0 (.int .i64 0) 1 Tryz.underlying24 hi0 hz0 hz1 .i64 .i64 vars.length (by rw[hz2];omega) (Nat.le_trans (Nat.le_of_lt hl) (by decide)) (Nat.le_refl _);have HO:=Za.mk (Kd.R_of_own (enc:=Value.int .i64) (h1:=fun _=>rfl) (xs:=([]:List Int)) (ok:=fun _=>True) hown (fun _ _=>trivial));have HB:=Za.mk ((Below.refl w.heap.size w).grown hgr (Nat.le_refl _) (fun k_ e_=>by cases e_));have HR0:=Za.mk hr0;have HR1:=Za.mk hr1;have HC0:=Za.mk hc0;have HL:=Za.mk hl;clear hr0 hr1 hc0 hc1 hown hgr hl hi0 hz0 hz1 hz2;go_enter Tryz.func31,Tryz.ntmps31;go_wp2;clear hrun
  go_loopg [5,13] vars.length (fun gg v5 v13 w'=>∃i:Nat,v13= .int .i64 i∧i≤vars.length∧vars.length - i≤gg∧Za (Kd.R (Kd.int .i64) 3 w' w.heap.size (fun _=>True) v5 ((vars.take i).map (atV a)))∧Za (Below w.heap.size w w'))
  case atStart=>exact⟨0,rfl,Nat.zero_le _,Nat.le_refl _,HO,HB⟩
  case round=>
    clear HO HB;obtain⟨i,rfl,hi,hg,HO,HB⟩:=hrel;by_cases hlt:i<vars.length;rotate_left
    · obtain rfl : i = vars.length := by omega
      have p1_:decide ((vars.length:Int)<(vars.length:Int))=false:=decide_eq_false (by omega);have HT:Za ((vars.take vars.length).map (atV a)=vars.map (atV a)):=⟨by rw[List.take_length]⟩;go_wp2;go_ret;exact⟨_,rfl,by rw[←HT.out];exact rM HO.out,bM HB.out⟩
    have hltz:(i:Int)<(vars.length:Int):=by omega
    have p1_:decide ((i:Int)<(vars.length:Int))=true:=decide_eq_true hltz;have p2_:decide ((0:Int)≤(i:Int))=true:=decide_eq_true (by omega);obtain⟨ad,e_,hx⟩:=Kd.Zb1 (Kd.Zac HR1.out HB.out) (i:Int) (by omega) hltz;cases e_;simp only[Int.toNat_natCast]at hx;have HT:=Za.mk (pick_take (a:=a) hlt);have HLN:Za (((vars.take i).map (atV a)).length<1000000):=⟨by have:=HL.out;rw[List.length_map,List.length_take];omega⟩
    generalize rd vars (i:Int)=x at hx HT
    go_wp2_with (first|(go_at_call 38;go_loud (refine(Zep.calls A0 c0 a x _ _ (cM (Kd.Zac HR0.out HB.out)) HC0.out (atV_f a x)).mono ?_;rintro e w2 ⟨rfl,⟨nd,rfl⟩⟩))|((with_reducible refine Zbo (b:= .append) (xs:=#[.tmp 17,.tmp 21]) rfl ?_);at_builtin;refine Kd.Zc4 (Kd.int .i64) (w0:=w) w.heap.size rfl (.tmp 17) (.tmp 21) 24 3 (.int .i64 0) 8 rfl Tryz.underlying24 info3 rfl (by decide) (by omega) _ ((vars.take i).map (atV a)) (atV a x) [.int .i64 (atV a x)] (fun _=>True) (fun _=>False) rfl rfl ?aP (fun _ hk=>hk.elim) (fun _ _=>trivial) ?aO ?aB ?aS ?aL ?_;(case aP=>exact rfl);(case aO=>exact rM HO.out);(case aB=>exact bM HB.out);(case aS=>exact(bM HB.out:Below w.heap.size w _).size);(case aL=>have:=HLN.out;omega);rintro v2 W2 ho hb2 hg2 hat2;have HO2:=Za.mk ho;have HB2:=Za.mk hb2;clear ho hb2 hg2 hat2))
    have hL:=HL.out
    go_roundg (vars.length - (i+1))
    case measure=>omega
    case rel=>exact⟨i+1,(by rw[show wrap64 ((i:Int)+1)=((i+1:Nat):Int)from by unfold wrap64;omega]),by omega,Nat.le_refl _,⟨by rw[HT.out];exact HO2.out⟩,HB2⟩
end Go.Proofs.YtdpieallpbllkaaGreat.P
namespace Go.Proofs.YtdpieallpbllkaaGreat.P
open Go.RowKit Go.Proofs.YtdpieallpbllkaaGreatW.PrintWords Go.Proofs.YtdpieallpbllkaaGreatW.PrintLast Go.Proofs.YtdpieallpbllkaaGreatW.PrintMore
attribute [local go_sem] Zcw Zcy Zdg Zdh Zco Zcp Zcx Zcz
def Zds.f (l0:List Int) (a1:Int):Option (Int):=if a1<0 then(some 0)else(if a1≥(l0.length:Int)then(some 0)else(if 0≤a1 then(if a1<(l0.length:Int)then(some (rd l0 a1))else(none))else(none)))
def Zcg.l0 : Nat → List Int → List Int → List Int → Int → Int → Option (Int)
 | 0, _, _, _, _, _ => none
 |k+1,x0,x1,x2,x7,x8=>if x8<(x0.length:Int)then(if x8<(x1.length:Int)then(if 0≤x8 then((Zds.f x2 (rd x0 x8)).bind fun dLa=>(Zcg.l0 k x0 x1 x2 (wrap64 (x7+(wrap64 ((rd x1 x8)*dLa)))) (wrap64 (x8+1))))else(none))else(some x7))else(some x7)
def Zcg.f (k:Nat) (l0:List Int) (l1:List Int) (l2:List Int):Option (Int):=Zcg.l0 k l0 l1 l2 0 0
end Go.Proofs.YtdpieallpbllkaaGreat.P
/- Products and their sums in plain words: ints.Mul, ints.Dot; secateurref06.Sum. -/
namespace Go.Proofs.YtdpieallpbllkaaGreat.P
open Go.RowKit Go.Proofs.YtdpieallpbllkaaGreatW.PrintWords Go.Proofs.YtdpieallpbllkaaGreatW.PrintLast
theorem Ze6 {a b A B:Int} (h0:0≤a) (h1:a≤A) (g0:0≤b) (g1:b≤B):a*b≤A*B:=
  Int.le_trans (Int.mul_le_mul_of_nonneg_right h1 g0) (Int.mul_le_mul_of_nonneg_left g1 (Int.le_trans h0 h1))
theorem mul64_small {a b:Int} (h0:0≤a) (h1:a≤4611686018427387904) (g0:0≤b) (g1:b≤1048576) (hp:a*b≤4611686018427387904):bits_Mul64.f a b=some (0,a*b):=by
  unfold bits_Mul64.f;have e1:b / 4294967296=0:=by omega
  have e2:Go.bits .and .u64 b 4294967295=b:=by rw[maskU g0 (by omega)];omega
  rw[e1,e2,maskU h0 (by omega)];have hq0:0≤a / 4294967296:=by omega
  have hr0:0≤a%4294967296:=by omega
  have hq:=Ze6 hq0 (show a / 4294967296≤1073741824 by omega) g0 g1;have hr:=Ze6 hr0 (show a%4294967296≤4294967295 by omega) g0 g1;have hqn:=Int.mul_nonneg hq0 g0;have hrn:=Int.mul_nonneg hr0 g0;have hab:=Int.mul_nonneg h0 g0
  have hdec:a*b=4294967296*(a / 4294967296*b)+a%4294967296*b:=by
    rw[←Int.mul_assoc,←Int.add_mul]
    congr 1
    omega
  generalize a / 4294967296*b=Q at hq hqn hdec ⊢
  generalize a%4294967296*b=R at hr hrn hdec ⊢
  have w1:IntKind.u64.wrap (a / 4294967296*0)=0:=by rw[Int.mul_zero];exact wrapU (by omega) (by omega)
  have w2:IntKind.u64.wrap Q=Q:=wrapU hqn (by omega);have w3:IntKind.u64.wrap R=R:=wrapU hrn (by omega);have w4:IntKind.u64.wrap (a%4294967296*0)=0:=by rw[Int.mul_zero];exact wrapU (by omega) (by omega)
  rw[w1,w2,w3,w4];have w5:IntKind.u64.wrap (Q+R / 4294967296)=Q+R / 4294967296:=wrapU (by omega) (by omega);rw[w5,maskU (by omega) (by omega)];have w7:IntKind.u64.wrap (a*b)=a*b:=wrapU hab (by omega);rw[w7]
  generalize a*b=M at hdec hp hab ⊢
  have hz:(Q+R / 4294967296) / 4294967296=0:=by omega
  rw[wrapU (x:=0+(Q+R / 4294967296) / 4294967296) (by omega) (by omega),wrapU (x:=(Q+R / 4294967296)%4294967296+0) (by omega) (by omega),wrapU (by omega) (by omega)]
  congr 2
  omega
theorem isize (a:Int) (h: -9223372036854775808≤a) (h2:a≤9223372036854775807):Zc1.f a=some (a.natAbs:Int):=by
  unfold Zc1.f;by_cases q:a<0;rotate_left
  · rw [if_neg q]
    congr 1
    rw[IntKind.wrap_u64]
    omega
  rw[if_pos q]
  congr 1
  rw[IntKind.wrap_u64,IntKind.wrap_u64]
  omega
theorem mulS_ev {a b:Int} (hb: -1048576≤b∧b≤1048576) (ha:(a.natAbs:Int)*1048576≤4611686018427387904):Ev (fun k=>Zbz.f k a b) (a*b,true):=by
  unfold Zbz.f;have hA:(a.natAbs:Int)≤4398046511104:=by omega
  have sa:Sml a:=⟨by omega,by omega⟩;have sb:Sml b:=⟨by omega,by omega⟩;have h:=Zf6 [a,b] (by simp);rw[show([a,b].all fun x=>decide (Sml x))=true by simp[sa,sb]]at h;refine Ev.bind h (Ev.Zak rfl ?_);have hp:(a.natAbs:Int)*(b.natAbs:Int)≤4611686018427387904:=Int.le_trans (Ze6 (by omega) (Int.le_refl _) (by omega) (show(b.natAbs:Int)≤1048576 by omega)) ha;have hn:(0:Int)≤(a.natAbs:Int)*(b.natAbs:Int):=Int.mul_nonneg (by omega) (by omega);have hm:=mul64_small (a:=(a.natAbs:Int)) (b:=(b.natAbs:Int)) (by omega) (by omega) (by omega) (by omega) hp;simp only[isize a (by omega) (by omega),isize b (by omega) (by omega),hm,Option.bind_some]
  have hsgn:a*b=if(decide (a<0) !=decide (b<0))=true then -((a.natAbs:Int)*(b.natAbs:Int))else(a.natAbs:Int)*(b.natAbs:Int):=by
    rcases Int.lt_or_le a 0 with qa|qa<;>rcases Int.lt_or_le b 0 with qb|qb
    · have ea : a = -(a.natAbs : Int) := by omega
      have eb:b= -(b.natAbs:Int):=by omega
      rw[if_neg (by simp[qa,qb])]
      conv=>lhs;rw[ea,eb]
      rw[Int.neg_mul_neg]
    · have ea : a = -(a.natAbs : Int) := by omega
      have eb:b=(b.natAbs:Int):=by omega
      rw [if_pos (by have : ¬ b < 0 := by omega
                     simp [qa, this])]
      conv=>lhs;rw[ea,eb]
      rw[Int.neg_mul]
    · have ea : a = (a.natAbs : Int) := by omega
      have eb:b= -(b.natAbs:Int):=by omega
      rw [if_pos (by have : ¬ a < 0 := by omega
                     simp [qb, this])]
      conv=>lhs;rw[ea,eb]
      rw[Int.mul_neg]
    have ea:a=(a.natAbs:Int):=by omega
    have eb:b=(b.natAbs:Int):=by omega
    rw [if_neg (by have h1 : ¬ a < 0 := by omega
                   have h2:¬b<0:=by omega
                   simp [h1, h2])]
    conv=>lhs;rw[ea,eb]
  generalize hM:(a.natAbs:Int)*(b.natAbs:Int)=M at hp hn hsgn ⊢
  refine Ev.Zak trivial (Ev.step (G:=fun _=>some (a*b,true)) (fun k=> ?_) (Ev.const rfl));have w1:wrap64 M=M:=w64 (by omega) (by omega);have w2:wrap64 (-M)= -M:=w64 (by omega) (by omega);rw[Zbz.j0,if_neg (by simp;omega),w1,w2,hsgn]
  split<;>rfl
def dotV : List Int → List Int → Int
  | c :: cs, v :: vs => c * v + dotV cs vs
  |_,_=>0
def smallV (l:List Int):Prop:=∀v ∈ l,-1048576≤v∧v≤1048576
theorem mul_abs {a b B:Int} (hb: -B≤b∧b≤B): -((a.natAbs:Int)*B)≤a*b∧a*b≤(a.natAbs:Int)*B:=by
  have hB:0≤B:=by omega
  have h:=Ze6 (a:=(a.natAbs:Int)) (by omega) (Int.le_refl _) (b:=(b.natAbs:Int)) (B:=B) (by omega) (by omega);have h2:((a*b).natAbs:Int)=(a.natAbs:Int)*(b.natAbs:Int):=by rw[Int.natAbs_mul];exact Int.natCast_mul _ _
  omega
theorem dot_loop (cs vs : List Int) (hl : cs.length ≤ 1000000) (he : cs.length = vs.length) (hs : smallV vs) : ∀ (d n : Nat) (s : Int), n + d = cs.length → (s.natAbs : Int) + tot (cs.drop n) ≤ 4611686018427387904 →
    Ev (fun k=>Zce.l0 k vs s cs (cs.length:Int) (n:Int)) (s+dotV (cs.drop n) (vs.drop n),true)
  |0,n,s,h,ht=>by
    rw[List.drop_eq_nil_of_le (by omega)];exact Ev.step (G:=fun _=>some (s,true)) (fun k=>by rw[Zce.l0,if_neg (by omega)]) (Ev.const (by simp[dotV]))
  |d+1,n,s,h,ht=>by
    have hn:n<cs.length:=by omega
    have hn2:n<vs.length:=by omega
    rw[List.drop_eq_getElem_cons hn]at ht ⊢;rw[List.drop_eq_getElem_cons hn2,dotV];rw[tot]at ht;have htn:=Zeq (cs.drop (n+1));have hv:=hs _ (List.getElem_mem hn2);have hm:=mulS_ev (a:=cs[n]) hv (by omega);have hab:=mul_abs (a:=cs[n]) hv;have ha:=add_ev s (cs[n]*vs[n]);have e:addS s (cs[n]*vs[n])=(s+cs[n]*vs[n],true):=if_pos ⟨⟨by omega,by omega⟩,⟨by omega,by omega⟩,⟨by omega,by omega⟩⟩;rw[e]at ha;refine Ev.step (fun k=>by rw[Zce.l0,if_pos (by omega),if_pos (by omega),if_pos (by omega),if_pos (by omega),Zc2 _ _ hn,Zc2 _ _ hn2]) ?_;refine Ev.bind hm (Ev.Zak rfl (Ev.bind ha (Ev.Zak rfl ?_)));rw[w1 (by omega),←Int.add_assoc];exact dot_loop cs vs hl he hs d (n+1) _ (by omega) (by omega)
theorem dot_ev (cs vs:List Int) (hl:cs.length≤1000000) (he:cs.length=vs.length) (hs:smallV vs) (ht:tot cs≤4611686018427387904):Ev (fun k=>Zce.f k cs vs) (dotV cs vs,true):=by
  unfold Zce.f;refine Ev.Zak (by omega) ?_;have:=dot_loop cs vs hl he hs cs.length 0 0 (by omega) (by rw[List.drop_zero];simpa using ht)
  simpa using this
theorem refAt_f (a:List Int) (v:Int):Zds.f a v=some (atV a v):=by
  unfold Zds.f atV;by_cases h1:v<0
  · rw[if_pos h1,if_pos h1]
  rw[if_neg h1,if_neg h1];by_cases h2:(a.length:Int)≤v
  · rw[if_pos (show v≥(a.length:Int)from h2),if_pos h2]
  rw[if_neg (show ¬v≥(a.length:Int)from h2),if_neg h2,if_pos (by omega),if_pos (by omega)]
theorem sum_loop (vars cs a : List Int) (hl : cs.length ≤ 1000000) (he : vars.length = cs.length) (hs : smallV (vars.map (atV a))) : ∀ (d n : Nat) (s : Int), n + d = vars.length → (s.natAbs : Int) + tot (cs.drop n) ≤ 4611686018427387904 →
    Ev (fun k=>Zcg.l0 k vars cs a s (n:Int)) (s+dotV (cs.drop n) ((vars.map (atV a)).drop n))
  |0,n,s,h,ht=>by
    rw[List.drop_eq_nil_of_le (by omega)];exact Ev.step (G:=fun _=>some s) (fun k=>by rw[Zcg.l0,if_neg (by omega)]) (Ev.const (by simp[dotV]))
  |d+1,n,s,h,ht=>by
    have hn:n<vars.length:=by omega
    have hn2:n<cs.length:=by omega
    have hn3:n<(vars.map (atV a)).length:=by rw[List.length_map];omega
    rw[List.drop_eq_getElem_cons hn2]at ht ⊢;rw[List.drop_eq_getElem_cons hn3,dotV,List.getElem_map];rw[tot]at ht;have htn:=Zeq (cs.drop (n+1));have hv:=hs _ (List.mem_map_of_mem (List.getElem_mem hn));have hab:=mul_abs (a:=cs[n]) hv;have q1:wrap64 (cs[n]*atV a vars[n])=cs[n]*atV a vars[n]:=w64 (by omega) (by omega);have q2:wrap64 (s+cs[n]*atV a vars[n])=s+cs[n]*atV a vars[n]:=w64 (by omega) (by omega);refine Ev.step (fun k=>by rw[Zcg.l0,if_pos (by omega),if_pos (by omega),if_pos (by omega),Zc2 _ _ hn,Zc2 _ _ hn2,refAt_f]) ?_;refine Ev.bind (a:=atV a vars[n]) (Ev.const rfl) ?_;rw[q1,q2,w1 (by omega),←Int.add_assoc];exact sum_loop vars cs a hl he hs d (n+1) _ (by omega) (by omega)
theorem rsumD_ev (vars cs a:List Int) (hl:cs.length≤1000000) (he:vars.length=cs.length) (hs:smallV (vars.map (atV a))) (ht:tot cs≤4611686018427387904):Ev (fun k=>Zcg.f k vars cs a) (dotV cs (vars.map (atV a))):=by
  unfold Zcg.f;have:=sum_loop vars cs a hl he hs vars.length 0 0 (by omega) (by rw[List.drop_zero];simpa using ht)
  simpa using this
end Go.Proofs.YtdpieallpbllkaaGreat.P
/- The iterators that the program goes over: the values of a slice (slices.Values); what comes, round by round, for every loop body that keeps the rest of memory. -/
namespace Go.Proofs.YtdpieallpbllkaaGreat.P
open Go.RowKit Go.Shelf Go.Proofs.YtdpieallpbllkaaGreatW.PrintWords Go.Proofs.YtdpieallpbllkaaGreatW.PrintLast Go.Proofs.YtdpieallpbllkaaGreatW.PrintMore
attribute [local go_sem] Oper.semAt_some
def KeepsTy (t:Nat) (W W':World):Prop:=∀(k:Nat) (cs:Array Value) (fr:Nat × Nat),W.heap[k]? =some (Obj.cells cs t fr)→W'.heap[k]? =some (Obj.cells cs t fr)
theorem KeepsTy.refl (t:Nat) (W:World):KeepsTy t W W:=fun _ _ _ h=>h
theorem KeepsTy.trans {t:Nat} {A B C:World} (h:KeepsTy t A B) (k:KeepsTy t B C):KeepsTy t A C:=fun i cs fr hi=>k i cs fr (h i cs fr hi)
theorem KeepsTy.grown {t:Nat} {W W':World} {row:Option Nat} (hg:W.grownBy W' row) (hr:∀r,row=some r→∀cs fr,W.heap[r]? ≠some (Obj.cells cs t fr)):KeepsTy t W W':=fun k cs fr h=>
  (hg.block k (Array.getElem?_eq_some_iff.1 h).1 (fun e=>hr k e.symm cs fr h)).trans h
theorem KeepsTy.alloc (t:Nat) (W:World) (o:Obj):KeepsTy t W (W.alloc o):=KeepsTy.grown (World.grownBy_alloc W o none) (fun r e=>by cases e)
theorem KeepsTy.box {t t' B:Nat} {W:World} {v v':Value} (h:Boxed W B t' v) (hne:t'≠t):KeepsTy t W (W.setCell ⟨B,0,none⟩ v'):=
  KeepsTy.grown (grownBy_setCell' W B v') (fun r e cs fr hh => by
    cases e;have:=(show W.heap[B]? =_ from h).symm.trans hh
    simp at this
    exact hne this.2.1)
theorem KeepsTy.putObj {t l:Nat} {W:World} {o:Obj} (o':Obj) (h:W.heap[l]? =some o) (ho:o.isCells=false):KeepsTy t W (W.putObj l o'):=
  KeepsTy.grown (grownBy_putObj' W l o') (fun r e cs fr hh => by
    cases e;rw[h]at hh;cases hh
    cases ho)
theorem KeepsTy.row {t e base size n:Nat} {W W':World} {v:Value} {xs:List Value} (hr:W.ownsRow base e size v n xs) (hne:e≠t) (hg:W.grownBy W' v.ownBlock):KeepsTy t W W':=
  KeepsTy.grown hg (fun r er cs fr hh => by
    rcases hr.2 with ⟨rfl,_⟩|⟨g,cap,cur,rfl,_,hgb,_⟩
    · simp[Value.ownBlock]at er
    obtain rfl:g=r:=by simpa[Value.ownBlock] using er
    rw[hgb]at hh
    simp at hh
    exact hne hh.2.1)
def Kp (n₀:Nat) (W W':World):Prop:=Below n₀ W W'∧KeepsTy 82 W W'
theorem Kp.t {n₀:Nat} {A B C:World} (h:Kp n₀ A B) (k:Kp n₀ B C):Kp n₀ A C:=⟨h.1.trans k.1,h.2.trans k.2⟩
theorem Kp.b {n₀:Nat} {w:World} (hn:n₀≤w.heap.size) (W:World) (l:Nat) (o o':Obj) (hl:w.heap.size≤l) (h:W.heap[l]? =some o) (hc:o.isCells=false) (hw:o.isWalk=false):Kp n₀ W (W.putObj l o'):=
  ⟨belowK_b hn W l o o' hl h hc hw,KeepsTy.putObj o' h hc⟩
set_option maxRecDepth 100000 in
theorem values1_in (F : Fence) (n : Nat) (h1 : F.fn 139) (hro : F.round = none) (hn : 1 ≤ n) (l Bs : Nat) (w : World) (A : Option Addr) (c : Nat) (zs : List Int) (hr : Kd.C (Kd.int .i64) w A zs.length zs) (J Jx : List Int → World → Prop)
    (hY : ∀ pre x W, J pre W → pre.length < zs.length → YieldAt F (n - 1) Tryz.prog l #[.int .i64 x] W fun e W' =>
      (e = .returned (.bool true) ∧ J (pre ++ [x]) W' ∧ Kp w.heap.size W W') ∨ (e = .returned (.bool false) ∧ Jx (pre ++ [x]) W'))
    (W:World) (hW:Below w.heap.size w W) (hBs:W.cell? ⟨Bs,0,none⟩=some (.slice A zs.length c)) (h0:J [] W):
    CallsIn F n Tryz.prog 139 #[.func (.yield l) #[] #[], .pointer (some ⟨Bs, 0, none⟩)] W fun e W' => (∃ v, e = .returned v) ∧
      ((∃ys,ys=zs∧J ys W')∨(∃pre,pre<+:zs∧Jx pre W')):=by
  refine callsIn_of_wp Tryz.func139 rfl h1 ?_ hro;simp only[Tryz.ntmps139,List.size_toArray,List.length_cons,List.length_nil,Nat.reduceAdd,Nat.reduceSub,Array.replicate_succ,Array.replicate_zero,List.push_toArray,List.append_toArray,List.nil_append,List.cons_append];have hlen:zs.length≤9223372036854775807:=hr.2.1
  gi_wp2
  gi_loopw [7] (fun i7 wr => ∃ (k : Nat), k ≤ zs.length ∧ i7 = .int .i64 k ∧ J (zs.take k) wr ∧ Below w.heap.size w wr)
    (fun i _=>zs.length - (intOf i).toNat)
  case atStart=>exact⟨0,Nat.zero_le _,rfl,by simpa using h0,hW⟩
  case round=>
    obtain⟨k,hk,rfl,hJs,hb⟩:=hrel;by_cases hlt:k<zs.length;rotate_left
    · obtain rfl : k = zs.length := by omega
      gi_wp2
      go_end0
      exact⟨⟨_,rfl⟩,.inl ⟨zs,rfl,by simpa using hJs⟩⟩
    obtain⟨ad,rfl,hx0⟩:=Kd.Zb1 hr (k:Int) (by omega) (by omega);have hx0:=(hb.cell (World.block_lt_of_cell? w _ hx0)).trans hx0;simp only[Int.toNat_natCast]at hx0
    have htk:zs.take (k+1)=zs.take k++ [rd zs (k:Int)]:=by
      rw[List.take_succ_eq_append_getElem hlt]
      simp[rd,List.getD_eq_getElem?_getD,List.getElem?_eq_getElem hlt]
    have HT:=Za.mk htk;clear htk;have hy0:=hY (zs.take k) (rd zs (k:Int)) wr hJs (by rw[List.length_take];omega)
    generalize rd zs (k:Int)=x at*
    obtain⟨fn,tmps,assign,body,hy,hR⟩:=hy0
    gi_wp2
    refine hR.mono ?_;rintro e W3 (⟨rfl,hJ3,hk3⟩|⟨rfl,hJx3⟩)
    · have hb3 := hb.trans hk3.1
      clear hR hy hx0
      gi_wp2
      go_roundw
      case rel=>exact⟨k+1,by omega,by first|rfl|go_num,by rw[HT.out];exact hJ3,hb3⟩
      case measure=>simp[intOf];omega
    gi_wp2
    refine bodyPost_ret (results_none rfl _ _ _) rfl ?_;exact⟨⟨_,rfl⟩,.inr ⟨_,by rw[←HT.out];exact List.take_prefix _ _,hJx3⟩⟩
theorem values_in (F : Fence) (n : Nat) (h : F.fn 134) (hro : F.round = none) (A : Option Addr) (len cap : Nat) (w : World) :
    CallsIn F n Tryz.prog 134 #[.slice A len cap] w fun e w'=>e= .returned (.func (.func 139) #[] #[.pointer (some ⟨w.heap.size,0,none⟩)])∧w'=w.alloc (.cells #[.slice A len cap] 24):=by
  refine callsIn_of_wp Tryz.func134 rfl h ?_ hro;simp only[Tryz.ntmps134,List.size_toArray,List.length_cons,List.length_nil,Nat.reduceAdd,Nat.reduceSub,Array.replicate_succ,Array.replicate_zero,List.push_toArray,List.append_toArray,List.nil_append,List.cons_append]
  gi_wp2
  go_ret;exact⟨rfl,rfl⟩
theorem values_stops (F : Fence) (n : Nat) (h1 : F.fn 139) (hro : F.round = none) (hn : 1 ≤ n) (Bs : Nat) (w0 w : World) (A : Option Addr) (c : Nat) (zs : List Int) (hr : Kd.C (Kd.int .i64) w0 A zs.length zs) (hBs : Bs < w.heap.size) (hw : Below w0.heap.size w0 w)
    (hc:w.cell? ⟨Bs,0,none⟩=some (.slice A zs.length c)):
    SeqStopsK F n Tryz.prog 139 #[.pointer (some ⟨Bs,0,none⟩)] (fun x:Int=>#[Value.int .i64 x]) (Kp w0.heap.size) (fun ys=>ys=zs) (fun pre=>pre<+:zs) zs.length w:=fun l J Jx W hW _ _ hY h0=>
  values1_in F n h1 hro hn l Bs w0 A c zs hr J Jx hY W (hw.trans (hW.mono hw.size)) ((hW.cell (p:=⟨Bs,0,none⟩) hBs).trans hc) h0
theorem infoI:(Tryz.prog.info? 3).map (fun i=>(i.zero,i.size,i.bytes))=some (some (.int .i64 0),1,8):=by kernel_rfl
set_option maxRecDepth 100000 in
theorem appendSeq_in (F : Fence) (n : Nat) (h : F.fn 140) (hro : F.round = none) (hn : 2 ≤ n) (g : Nat) (lb : Array Value) (hFg : F.fn g) (eg : ∀ args w, (callFunc g args).run Tryz.prog w = .ok (.enter g args) w)
    (n0:Nat) (S Sp:List Int→Prop) (N:Nat) (hN:N*8≤140737488355328) (w0 w:World) (hw:Below w0.heap.size w0 w) (hn0:n0≤w.heap.size) (hseq:SeqStopsK F (n - 1) Tryz.prog g lb (fun x:Int=>#[Value.int .i64 x]) (Kp n0) S Sp N w0):
    CallsIn F n Tryz.prog 140 #[.slice none 0 0,.func (.func g) #[] lb] w fun e w'=>∃(v:Value) (xs:List Int),e= .returned v∧S xs∧w'.ownsRow w.heap.size 3 1 v xs.length (xs.map (Value.int .i64))∧Below w.heap.size w w':=by
  have h1:1≤n:=by omega
  obtain⟨i0,hi,hz0,hz1,hz2⟩:=info_parts infoI;refine callsIn_of_wp_marks Tryz.func140 rfl h ?_ hro;simp only[Tryz.ntmps140,List.size_toArray,List.length_cons,List.length_nil,Nat.reduceAdd,Nat.reduceSub,Array.replicate_succ,Array.replicate_zero,List.push_toArray,List.append_toArray,List.nil_append,List.cons_append]
  gi_wp2
  have bO:=Boxed.new w 24 (.slice none 0 0);have hB0:Below w.heap.size w (w.alloc (.cells #[.slice none 0 0] 24)):=(Below.refl _ w).alloc (Nat.le_refl _) _;have hseq':SeqStopsK F (n - 1) Tryz.prog g lb (fun x:Int=>#[Value.int .i64 x]) (Kp n0) S Sp N (w.alloc (.cells #[.slice none 0 0] 24)):=fun l J Jx W hW a b c d=>hseq l J Jx W (hw.trans ((hB0.mono hw.size).trans (hW.mono (by have:=hw.size;simp;omega)))) a b c d
  refine wpIn_rangeFunc_ownG hro h1 (gf := g) (lb := lb) rfl hFg eg hseq' Kp.t (Kp.b (by simp; omega)) (Below.refl _ _) (fun _ => rfl)
    (fun pre W=>(∃v,Boxed W w.heap.size 24 v∧W.ownsRow w.heap.size 3 1 v pre.length (pre.map (Value.int .i64))∧True)∧Below w.heap.size w W)
    (fun _ _ _=>False)
    (OwnFrom.and (Own.from (holdsRow_own w.heap.size w.heap.size 24 3 1 (fun pre:List Int=>pre.length) (fun pre=>pre.map (Value.int .i64)) (fun _ _=>True)) _) (ownFrom_below (Nat.le_refl _) (by simp)))
    (fun _ _ _ _ _ hs _ _=>hs)
    ⟨⟨_,bO,World.ownsRow_nil _ _ _ _,trivial⟩,hB0⟩
    (fun x=>{ tmps:=#[.slice none 0 0,.func (.func g) #[] lb,.pointer (some ⟨w.heap.size,0,none⟩),undef,.slice none 0 0,.int .i64 x,.func (.func g) #[] lb,.int .i64 x,undef,undef,undef,undef,undef],defers:= [] }) ?assign ?body ?done ?stop
  case assign=>
    intro l x W K hK
    gi_wp2
    exact hK
  case body=>
    rintro l pre x W ⟨⟨v,hv,hrow,_⟩,hB⟩ hlt;have hc:=hv.cell
    gi_wp2_with (gi_at_builtin;refine wpListIn_append_own _ rfl _ _ 24 rfl w.heap.size 3 i0 (.int .i64 0) 1 8 Tryz.underlying24 hi hz0 hz1 hz2 rfl (by decide) _ _ _ rfl (hrow.alloc _) ⟨W.heap.size,0,none⟩ 1 1 [.int .i64 x] rfl rfl (cell_one_new _ _ _) (by simp[Value.oneCell']) (by unfold maxLen;omega) (by omega) (by have:=hB.size;simp;omega) ?_;intro v' w1 hown' hgrow _;obtain⟨g',cap',rfl⟩:=ownsRow_succ hown';have hty:=(KeepsTy.alloc 82 W (.cells #[.int .i64 x] 3)).trans (KeepsTy.row (hrow.alloc _) (by decide) hgrow);obtain⟨hv1,hv2,hr2,hk2,hb2⟩:=hv.appended (by decide) hrow hB.size (Nat.le_refl _) hown' hgrow;have hty2:=hty.trans (KeepsTy.box hv1 (v':= .slice (some ⟨g',0,none⟩) (pre.length+1) cap') (by decide));have hc1:=hv1.cell;have hf1:=hv1.frozen)
    exact⟨hk2.from _,⟨hb2.mono hn0,hty2⟩,⟨_,hv2,by simpa using hr2,trivial⟩,hB.trans hb2⟩
  case done=>
    rintro D ys W hD hS ⟨⟨v,hv,hrow,_⟩,hB⟩ hK;have hc:=hv.cell
    gi_wp2
    refine⟨by simp,.inl ⟨_,_,rfl,run_takeDeferred hK,?_⟩⟩;exact⟨_,results_tmp rfl _ _ _,v,ys,rfl,hS,ownsRow_putObj hrow _ hK rfl,hB.trans (belowK_b (w:=w) (Nat.le_refl _) W D _ _ (by simp at hD;omega) hK rfl rfl)⟩
  case stop=>
    rintro D c pre W _ _ h _;exact h.elim
theorem collect_in (F : Fence) (n : Nat) (h : F.fn 138) (h2 : F.fn 140) (hro : F.round = none) (hn : 3 ≤ n) (g : Nat) (lb : Array Value) (hFg : F.fn g) (eg : ∀ args w, (callFunc g args).run Tryz.prog w = .ok (.enter g args) w)
    (n0:Nat) (S Sp:List Int→Prop) (N:Nat) (hN:N*8≤140737488355328) (w0 w:World) (hw:Below w0.heap.size w0 w) (hn0:n0≤w.heap.size) (hseq:SeqStopsK F (n - 1 - 1) Tryz.prog g lb (fun x:Int=>#[Value.int .i64 x]) (Kp n0) S Sp N w0):
    CallsIn F n Tryz.prog 138 #[.func (.func g) #[] lb] w fun e w'=>∃(v:Value) (xs:List Int),e= .returned v∧S xs∧w'.ownsRow w.heap.size 3 1 v xs.length (xs.map (Value.int .i64))∧Below w.heap.size w w':=by
  have h1:1≤n:=by omega
  refine callsIn_of_wp Tryz.func138 rfl h ?_ hro;simp only[Tryz.ntmps138,List.size_toArray,List.length_cons,List.length_nil,Nat.reduceAdd,Nat.reduceSub,Array.replicate_succ,Array.replicate_zero,List.push_toArray,List.append_toArray,List.nil_append,List.cons_append];have cA:=fun W (hw:Below w0.heap.size w0 W) hn0=>appendSeq_in F (n - 1) h2 hro (by omega) g lb hFg eg n0 S Sp N hN w0 W hw hn0 hseq
  gi_wp2_with (gi_at_call 140;refine(cA _ hw hn0).mono ?_;rintro e w' ⟨v,xs,rfl,hS,hrow,hb⟩)
  go_ret;exact⟨v,xs,rfl,hS,hrow,hb⟩
end Go.Proofs.YtdpieallpbllkaaGreat.P
/- The library's sort and its like, laid at this program (the shelf's contracts). -/
namespace Go.Proofs.YtdpieallpbllkaaGreat.P
open Go.Shelf Go.Proofs
def lsort_ren:Go.Shelf.Ren:=⟨fun|5=>33|7=>63|8=>64|10=>85|11=>86|12=>87|13=>88|14=>89|15=>90|16=>91|17=>92|18=>93|19=>94|20=>95|30=>112|31=>113|32=>114|33=>115|34=>116|35=>96|40=>131|n=>n,fun|0=>0|3=>3|4=>4|5=>5|9=>9|22=>24|23=>24|25=>3|32=>85|35=>101|36=>102|41=>69|44=>109|46=>111|53=>120|57=>124|63=>127|64=>128|n=>n,fun n=>n⟩
theorem lsort : SlLaysM.n5 Tryz.prog lsort_ren := {
  mixed:=by kernel_rfl,
  f5:=⟨Tryz.f33.name,by decide,Tryz.func33.trans (congrArg some (by kernel_rfl))⟩,
  f7:=⟨Tryz.f63.name,by decide,Tryz.func63.trans (congrArg some (by kernel_rfl))⟩,
  f8:=Tryz.func64.trans (congrArg some (by kernel_rfl)),
  f10:=⟨Tryz.f85.name,by decide,Tryz.func85.trans (congrArg some (by kernel_rfl))⟩,
  f11:=⟨Tryz.f86.name,by decide,Tryz.func86.trans (congrArg some (by kernel_rfl))⟩,
  f12:=⟨Tryz.f87.name,by decide,Tryz.func87.trans (congrArg some (by kernel_rfl))⟩,
  f13:=⟨Tryz.f88.name,by decide,Tryz.func88.trans (congrArg some (by kernel_rfl))⟩,
  f14:=⟨Tryz.f89.name,by decide,Tryz.func89.trans (congrArg some (by kernel_rfl))⟩,
  f15:=⟨Tryz.f90.name,by decide,Tryz.func90.trans (congrArg some (by kernel_rfl))⟩,
  f16:=⟨Tryz.f91.name,by decide,Tryz.func91.trans (congrArg some (by kernel_rfl))⟩,
  f17:=⟨Tryz.f92.name,by decide,Tryz.func92.trans (congrArg some (by kernel_rfl))⟩,
  f18:=⟨Tryz.f93.name,by decide,Tryz.func93.trans (congrArg some (by kernel_rfl))⟩,
  f19:=Tryz.func94.trans (congrArg some (by kernel_rfl)),
  f20:=Tryz.func95.trans (congrArg some (by kernel_rfl)),
  f30:=⟨Tryz.f112.name,by decide,Tryz.func112.trans (congrArg some (by kernel_rfl))⟩,
  f31:=Tryz.func113.trans (congrArg some (by kernel_rfl)),
  f32:=Tryz.func114.trans (congrArg some (by kernel_rfl)),
  f33:=⟨Tryz.f115.name,by decide,Tryz.func115.trans (congrArg some (by kernel_rfl))⟩,
  f34:=⟨Tryz.f116.name,by decide,Tryz.func116.trans (congrArg some (by kernel_rfl))⟩,
  f35:=⟨Tryz.f96.name,by decide,Tryz.func96.trans (congrArg some (by kernel_rfl))⟩,
  f40:=⟨Tryz.f131.name,by decide,Tryz.func131.trans (congrArg some (by kernel_rfl))⟩,
  t0:=Tryz.underlying0,
  a0:=Tryz.isAgg0,
  z0:=Tryz.sizeOf0,
  v0:=Tryz.zeroValue0,
  t3:=Tryz.underlying3,
  a3:=Tryz.isAgg3,
  z3:=Tryz.sizeOf3,
  v3:=Tryz.zeroValue3,
  t4:=Tryz.underlying4,
  a4:=Tryz.isAgg4,
  z4:=Tryz.sizeOf4,
  v4:=Tryz.zeroValue4,
  t5:=Tryz.underlying5,
  a5:=Tryz.isAgg5,
  z5:=Tryz.sizeOf5,
  v5:=Tryz.zeroValue5,
  t9:=Tryz.underlying9,
  a9:=Tryz.isAgg9,
  z9:=Tryz.sizeOf9,
  v9:=Tryz.zeroValue9,
  t22:=Tryz.underlying24,
  a22:=Tryz.isAgg24,
  z22:=Tryz.sizeOf24,
  v22:=Tryz.zeroValue24,
  t23:=Tryz.underlying24,
  a23:=Tryz.isAgg24,
  z23:=Tryz.sizeOf24,
  v23:=Tryz.zeroValue24,
  t25:=Tryz.underlying3,
  a25:=Tryz.isAgg3,
  z25:=Tryz.sizeOf3,
  v25:=Tryz.zeroValue3,
  t32:=Tryz.underlying85,
  a32:=Tryz.isAgg85,
  z32:=Tryz.sizeOf85,
  v32:=Tryz.zeroValue85,
  t35:=Tryz.underlying101,
  a35:=Tryz.isAgg101,
  z35:=Tryz.sizeOf101,
  v35:=Tryz.zeroValue101,
  t36:=Tryz.underlying102,
  a36:=Tryz.isAgg102,
  z36:=Tryz.sizeOf102,
  v36:=Tryz.zeroValue102,
  t41:=Tryz.underlying69,
  a41:=Tryz.isAgg69,
  z41:=Tryz.sizeOf69,
  v41:=Tryz.zeroValue69,
  t44:=Tryz.underlying109,
  a44:=Tryz.isAgg109,
  z44:=Tryz.sizeOf109,
  v44:=Tryz.zeroValue109,
  t46:=Tryz.underlying111,
  a46:=Tryz.isAgg111,
  z46:=Tryz.sizeOf111,
  v46:=Tryz.zeroValue111,
  t53:=Tryz.underlying120,
  a53:=Tryz.isAgg120,
  z53:=Tryz.sizeOf120,
  v53:=Tryz.zeroValue120,
  t57:=Tryz.underlying124,
  a57:=Tryz.isAgg124,
  z57:=Tryz.sizeOf124,
  v57:=Tryz.zeroValue124,
  t63:=Tryz.underlying127,
  a63:=Tryz.isAgg127,
  z63:=Tryz.sizeOf127,
  v63:=Tryz.zeroValue127,
  t64:=Tryz.underlying128,
  a64:=Tryz.isAgg128,
  z64:=Tryz.sizeOf128,
  v64 := Tryz.zeroValue128 }
def lcompact_ren:Go.Shelf.Ren:=⟨fun|43=>34|n=>n,fun|0=>0|3=>3|4=>4|22=>24|23=>3|n=>n,fun n=>n⟩
theorem lcompact : SlLaysN.n43 Tryz.prog lcompact_ren := {
  mixed:=by kernel_rfl,
  f43:=⟨Tryz.f34.name,by decide,Tryz.func34.trans (congrArg some (by kernel_rfl))⟩,
  t0:=Tryz.underlying0,
  a0:=Tryz.isAgg0,
  z0:=Tryz.sizeOf0,
  v0:=Tryz.zeroValue0,
  t3:=Tryz.underlying3,
  a3:=Tryz.isAgg3,
  z3:=Tryz.sizeOf3,
  v3:=Tryz.zeroValue3,
  t4:=Tryz.underlying4,
  a4:=Tryz.isAgg4,
  z4:=Tryz.sizeOf4,
  v4:=Tryz.zeroValue4,
  t22:=Tryz.underlying24,
  a22:=Tryz.isAgg24,
  z22:=Tryz.sizeOf24,
  v22:=Tryz.zeroValue24,
  t23:=Tryz.underlying3,
  a23:=Tryz.isAgg3,
  z23:=Tryz.sizeOf3,
  v23:=Tryz.zeroValue3,
  i23 := by kernel_rfl }
end Go.Proofs.YtdpieallpbllkaaGreat.P
/- slices.ContainsFunc over ints, slices.Sorted over an iterator. -/
namespace Go.Proofs.YtdpieallpbllkaaGreat.P
open Go.RowKit Go.Shelf Go.Proofs.YtdpieallpbllkaaGreatW.PrintWords Go.Proofs.YtdpieallpbllkaaGreatW.PrintLast Go.Proofs.YtdpieallpbllkaaGreatW.PrintMore
def insI (x : Int) : List Int → List Int
  | [] => [x]
  |y::ys=>if x≤y then x::y::ys else y::insI x ys
def sortI : List Int → List Int
  | [] => []
  |x::xs=>insI x (sortI xs)
theorem Zg8 (x : Int) : ∀ l, List.Perm (insI x l) (x :: l)
  | [] => List.Perm.refl _
  |y::ys=>by
    unfold insI
    split
    · exact List.Perm.refl _
    exact((Zg8 x ys).cons y).trans (List.Perm.swap x y ys)
theorem Zfj : ∀ l, List.Perm (sortI l) l
  | [] => List.Perm.refl _
  |x::xs=>(Zg8 x _).trans ((Zfj xs).cons x)
theorem insI_le (x : Int) : ∀ l, List.Pairwise (fun a b : Int => a ≤ b) l → List.Pairwise (fun a b : Int => a ≤ b) (insI x l)
  | [], _ => by simp [insI]
  |y::ys,h=>by
    unfold insI
    split
    · rename_i hxy
      refine List.pairwise_cons.2 ⟨fun z hz=> ?_,h⟩
      rcases List.mem_cons.1 hz with rfl|hz
      · exact hxy
      have:=(List.pairwise_cons.1 h).1 z hz
      omega
    rename_i hxy
    refine List.pairwise_cons.2 ⟨fun z hz=> ?_,insI_le x ys (List.pairwise_cons.1 h).2⟩
    rcases List.mem_cons.1 ((Zg8 x ys).mem_iff.1 hz)with rfl|hz
    · omega
    exact(List.pairwise_cons.1 h).1 z hz
theorem sortI_le : ∀ l, List.Pairwise (fun a b : Int => a ≤ b) (sortI l)
  | [] => List.Pairwise.nil
  |x::xs=>insI_le x _ (sortI_le xs)
theorem Zfd (l:List Int):(l.mergeSort fun x y=>decide (x≤y))=sortI l:=by
  refine List.Perm.eq_of_pairwise (le:=fun a b:Int=>a≤b) (fun a b _ _ h1 h2=>by omega) ?_ (sortI_le l) ((List.mergeSort_perm l _).trans (Zfj l).symm);have:=List.pairwise_mergeSort (le:=fun x y:Int=>decide (x≤y)) (fun a b c h1 h2=>by simp at*;omega) (fun a b=>by simp;omega) l;exact this.imp (fun h=>by simpa using h)
theorem Zee (l:List Int):(sortI l).length=l.length:=(Zfj l).length_eq
theorem indexFunc_int (p : Int → Bool) (g : Nat) (lb : Array Value) (eg : ∀ args w, (callFunc g args).run Tryz.prog w = .ok (.enter g args) w) (A : Option Addr) (c : Nat) (zs : List Int) (w : World) (hr : Kd.C (Kd.int .i64) w A zs.length zs)
    (hp:∀k,k<zs.length→∀q,Calls Tryz.prog g (#[.int .i64 (rd zs (k:Int))]++lb) (w.drewN q) fun e w'=>e= .returned (.bool (p (rd zs (k:Int))))∧∃q',w'=(w.drewN q).drewN q'):
    Calls Tryz.prog 118 #[.slice A zs.length c,.func (.func g) #[] lb] w fun e w'=>(∃i:Int,e= .returned (.int .i64 i)∧decide (0≤i)=zs.any p)∧∃q,w'=w.drewN q:=by
  have hlen:zs.length≤9223372036854775807:=hr.2.1;have hany:∀k,zs.any p=((zs.take k).any p||(zs.drop k).any p):=fun k=>by rw[←List.any_append,List.take_append_drop]
  have HY:=Za.mk hany;clear hany;go_enter Tryz.func118,Tryz.ntmps118;go_wp2
  go_loopg [5,8] zs.length (fun gg _ s8 wr=>∃kk q:Nat,kk≤zs.length∧zs.length - kk≤gg∧s8= .int .i64 kk∧wr=w.drewN q∧Za ((zs.take kk).any p=false))
  case atStart=>exact⟨0,0,Nat.zero_le _,by omega,rfl,rfl,⟨by simp⟩⟩
  case round=>
    obtain⟨kk,q,hkk,hg,rfl,rfl,A1⟩:=hrel;by_cases hlt:kk<zs.length;rotate_left
    · obtain rfl : kk = zs.length := by omega
      go_wp2;go_ret;refine⟨⟨_,rfl,?_⟩,q,rfl⟩;have:=A1.out;rw[List.take_length]at this;rw[this]
      rfl
    obtain⟨ad,rfl,hx0⟩:=Kd.Zb1 hr (kk:Int) (by omega) (by omega);simp only[Int.toNat_natCast]at hx0;have hcall:=hp kk hlt;clear hp
    have htk : Za (zs.take (kk + 1) = zs.take kk ++ [rd zs (kk : Int)]) := ⟨by
      rw[List.take_succ_eq_append_getElem hlt]
      simp [rd, List.getD_eq_getElem?_getD, List.getElem?_eq_getElem hlt]⟩
    generalize rd zs (kk:Int)=y at*
    cases hq:p y with
    |true=>
      rw[hq]at hcall;have B:=Za.mk hq;clear hq
      go_wp2_with (go_at_fn g;refine(hcall _).mono ?_;rintro e w' ⟨rfl,q',rfl⟩)
      go_ret;refine⟨⟨_,rfl,?_⟩,_,rfl⟩;rw[HY.out (kk+1),htk.out,List.any_append]
      simp[B.out]
    |false=>
      rw[hq]at hcall;have B:=Za.mk hq;clear hq
      go_wp2_with (go_at_fn g;refine(hcall _).mono ?_;rintro e w' ⟨rfl,q',rfl⟩)
      go_roundg (zs.length - (kk+1))
      case measure=>omega
      case rel=>exact⟨kk+1,_,by omega,by omega,by go_num,rfl,⟨by rw[htk.out,List.any_append,A1.out];simp[B.out]⟩⟩
theorem Zeu (p : Int → Bool) (g : Nat) (lb : Array Value) (eg : ∀ args w, (callFunc g args).run Tryz.prog w = .ok (.enter g args) w) (A : Option Addr) (c : Nat) (zs : List Int) (w : World) (hr : Kd.C (Kd.int .i64) w A zs.length zs)
    (hp:∀k,k<zs.length→∀q,Calls Tryz.prog g (#[.int .i64 (rd zs (k:Int))]++lb) (w.drewN q) fun e w'=>e= .returned (.bool (p (rd zs (k:Int))))∧∃q',w'=(w.drewN q).drewN q'):
    Calls Tryz.prog 109 #[.slice A zs.length c,.func (.func g) #[] lb] w fun e w'=>e= .returned (.bool (zs.any p))∧∃q,w'=w.drewN q:=by
  have hI:=indexFunc_int p g lb eg A c zs w hr hp;go_enter Tryz.func109,Tryz.ntmps109
  go_wp2_with (go_at_call 118;refine hI.mono ?_;rintro e w' ⟨⟨i,rfl,hi⟩,q,rfl⟩)
  go_ret;exact⟨by rw[←hi];rfl,q,rfl⟩
theorem sorted_int (v : Value) (xs : List Int) (w0 w : World) (hx : xs.length < 4611686018427387904) (hS : w0.heap.size ≤ w.heap.size) (hrow : w.ownsRow w0.heap.size 3 1 v xs.length (xs.map (Value.int .i64))) (hB : Below w0.heap.size w0 w) :
    Calls Tryz.prog 33 #[v] w fun e w'=>e= .returned (.tuple #[])∧w'.ownsRow w0.heap.size 3 1 v xs.length ((sortI xs).map (Value.int .i64))∧Below w0.heap.size w0 w':=by
  rcases hrow.2 with ⟨rfl,h0⟩|⟨g,cap,cur,rfl,hg,hb,hn,hcap,hsz,htk⟩
  · have hx : xs = [] := List.length_eq_zero_iff.1 h0
    subst hx;refine(AnyM.slices_Sort_int_none lsort none 0 w).mono ?_;rintro e w' ⟨rfl,rfl⟩;exact⟨rfl,hrow,hB⟩
  have hlt:g<w.heap.size:=(Array.getElem?_eq_some_iff.1 hb).1;refine(AnyM.slices_Sort_int lsort g 0 cap xs w (holds_of_blockI hb (by simpa using htk)) hlt hx).mono ?_;rintro e w' ⟨rfl,n,os,rfl⟩;rw[Zfd];refine⟨rfl,ownsRow_sortedI (Zee xs) hg hb hn hcap hsz,?_⟩;exact hB.grown (grownBy_sortedI _) hS (fun k e=>by cases e;exact hg)
theorem sorted_calls (g : Nat) (lb : Array Value) (eg : ∀ args w, (callFunc g args).run Tryz.prog w = .ok (.enter g args) w) (n0 : Nat) (S Sp : List Int → Prop) (N : Nat) (hN : N * 8 ≤ 140737488355328) (hSN : ∀ xs, S xs → xs.length ≤ N) (w0 w : World) (hw : Below w0.heap.size w0 w) (hn0 : n0 ≤ w.heap.size)
    (hseq:SeqStopsK Fence.wide 7 Tryz.prog g lb (fun x:Int=>#[Value.int .i64 x]) (Kp n0) S Sp N w0):
    Calls Tryz.prog 133 #[.func (.func g) #[] lb] w fun e w'=>∃(v:Value) (xs:List Int),e= .returned v∧S xs∧w'.ownsRow w.heap.size 3 1 v xs.length ((sortI xs).map (Value.int .i64))∧Below w.heap.size w w':=by
  have cB:=callsIn_wide.1 (collect_in Fence.wide 9 trivial trivial rfl (by omega) g lb trivial eg n0 S Sp N hN w0 w hw hn0 hseq);go_enter Tryz.func133,Tryz.ntmps133
  go_wp2_with (first|(go_at_call 138;refine cB.mono ?_;rintro e w' ⟨v,xs,rfl,hS,hrow,hb⟩)|(go_at_call 33;refine(sorted_int v xs w w' (by have:=hSN xs hS;omega) hb.size hrow hb).mono ?_;rintro e w'' ⟨rfl,hrow2,hb2⟩))
  go_ret;exact⟨v,xs,rfl,hS,hrow2,hb2⟩
end Go.Proofs.YtdpieallpbllkaaGreat.P
/- slices.ContainsFunc over whole numbers and over lists of them; the function may lay blocks of its own. -/
namespace Go.Proofs.YtdpieallpbllkaaGreat.P
open Go.RowKit Go.Shelf Go.Proofs.YtdpieallpbllkaaGreatW.PrintWords Go.Proofs.YtdpieallpbllkaaGreatW.PrintLast Go.Proofs.YtdpieallpbllkaaGreatW.PrintMore
theorem Zhv (p : Int → Bool) (g : Nat) (lb : Array Value) (eg : ∀ args w, (callFunc g args).run Tryz.prog w = .ok (.enter g args) w) (A : Option Addr) (c : Nat) (zs : List Int) (w : World) (hr : Kd.C (Kd.int .i64) w A zs.length zs)
    (hp:∀k,k<zs.length→∀W,Below w.heap.size w W→Calls Tryz.prog g (#[.int .i64 (rd zs (k:Int))]++lb) W fun e w'=>e= .returned (.bool (p (rd zs (k:Int))))∧Below W.heap.size W w'):
    Calls Tryz.prog 118 #[.slice A zs.length c,.func (.func g) #[] lb] w fun e w'=>(∃i:Int,e= .returned (.int .i64 i)∧decide (0≤i)=zs.any p)∧Below w.heap.size w w':=by
  have hlen:zs.length≤9223372036854775807:=hr.2.1;have hany:∀k,zs.any p=((zs.take k).any p||(zs.drop k).any p):=fun k=>by rw[←List.any_append,List.take_append_drop]
  have HY:=Za.mk hany;have HR:=Za.mk hr;have HP:=Za.mk hp;clear hany hr hp;obtain⟨wo,rfl⟩:∃wo:World,wo=w:=⟨_,rfl⟩;go_enter Tryz.func118,Tryz.ntmps118;go_wp2
  go_loopg [5,8] zs.length (fun gg _ s8 wr=>∃kk:Nat,kk≤zs.length∧zs.length - kk≤gg∧s8= .int .i64 kk∧Za (Below wo.heap.size wo wr)∧Za ((zs.take kk).any p=false))
  case atStart=>exact⟨0,Nat.zero_le _,by omega,rfl,⟨Below.refl _ _⟩,⟨by simp⟩⟩
  case round=>
    obtain⟨kk,hkk,hg,rfl,BW,A1⟩:=hrel;by_cases hlt:kk<zs.length;rotate_left
    · obtain rfl : kk = zs.length := by omega
      go_wp2;go_ret;refine⟨⟨_,rfl,?_⟩,BW.out⟩;have:=A1.out;rw[List.take_length]at this;rw[this]
      rfl
    obtain⟨ad,rfl,hx0⟩:=Kd.Zb1 (Kd.Zac HR.out BW.out) (kk:Int) (by omega) (by omega);simp only[Int.toNat_natCast]at hx0;have hcall:=HP.out kk hlt wr BW.out
    have htk : Za (zs.take (kk + 1) = zs.take kk ++ [rd zs (kk : Int)]) := ⟨by
      rw[List.take_succ_eq_append_getElem hlt]
      simp [rd, List.getD_eq_getElem?_getD, List.getElem?_eq_getElem hlt]⟩
    generalize rd zs (kk:Int)=y at hx0 hcall htk
    cases hq:p y with
    |true=>
      rw[hq]at hcall;have B:=Za.mk hq;clear hq
      go_wp2_with (go_at_fn g;refine hcall.mono ?_;rintro e w' ⟨rfl,hb'⟩)
      go_ret;refine⟨⟨_,rfl,?_⟩,Zae BW.out hb'⟩;rw[HY.out (kk+1),htk.out,List.any_append]
      simp[B.out]
    |false=>
      rw[hq]at hcall;have B:=Za.mk hq;clear hq
      go_wp2_with (go_at_fn g;refine hcall.mono ?_;rintro e w' ⟨rfl,hb'⟩)
      go_roundg (zs.length - (kk+1))
      case measure=>omega
      case rel=>exact⟨kk+1,by omega,by omega,by go_num,⟨Zae BW.out hb'⟩,⟨by rw[htk.out,List.any_append,A1.out];simp[B.out]⟩⟩
theorem Zgf (p : Int → Bool) (g : Nat) (lb : Array Value) (eg : ∀ args w, (callFunc g args).run Tryz.prog w = .ok (.enter g args) w) (A : Option Addr) (c : Nat) (zs : List Int) (w : World) (hr : Kd.C (Kd.int .i64) w A zs.length zs)
    (hp:∀k,k<zs.length→∀W,Below w.heap.size w W→Calls Tryz.prog g (#[.int .i64 (rd zs (k:Int))]++lb) W fun e w'=>e= .returned (.bool (p (rd zs (k:Int))))∧Below W.heap.size W w'):
    Calls Tryz.prog 109 #[.slice A zs.length c,.func (.func g) #[] lb] w fun e w'=>e= .returned (.bool (zs.any p))∧Below w.heap.size w w':=by
  have hI:=Zhv p g lb eg A c zs w hr hp;go_enter Tryz.func109,Tryz.ntmps109
  go_wp2_with (go_at_call 118;refine hI.mono ?_;rintro e w' ⟨⟨i,rfl,hi⟩,hb⟩)
  go_ret;exact⟨by rw[←hi];rfl,hb⟩
theorem indexFunc_L (p : List Int → Bool) (g : Nat) (lb : Array Value) (eg : ∀ args w, (callFunc g args).run Tryz.prog w = .ok (.enter g args) w) (A : Option Addr) (c : Nat) (zs : List (List Int)) (w : World) (hr : Kd.C (Kd.slice 3 (Kd.int .i64)) w A zs.length zs)
    (hp:∀(x:List Int) (A1:Option Addr) (c1:Nat),x ∈ zs→∀W,Below w.heap.size w W→Kd.C (Kd.int .i64) W A1 x.length x→x.length≤c1→Calls Tryz.prog g (#[.slice A1 x.length c1]++lb) W fun e w'=>e= .returned (.bool (p x))∧Below W.heap.size W w'):
    Calls Tryz.prog 65 #[.slice A zs.length c,.func (.func g) #[] lb] w fun e w'=>(∃i:Int,e= .returned (.int .i64 i)∧decide (0≤i)=zs.any p)∧Below w.heap.size w w':=by
  have hlen:zs.length≤9223372036854775807:=hr.2.1;have hany:∀k,zs.any p=((zs.take k).any p||(zs.drop k).any p):=fun k=>by rw[←List.any_append,List.take_append_drop]
  have HY:=Za.mk hany;have HR:=Za.mk hr;have HP:=Za.mk hp;clear hany hr hp;obtain⟨wo,rfl⟩:∃wo:World,wo=w:=⟨_,rfl⟩;go_enter Tryz.func65,Tryz.ntmps65;go_wp2
  go_loopg [5,8] zs.length (fun gg _ s8 wr=>∃kk:Nat,kk≤zs.length∧zs.length - kk≤gg∧s8= .int .i64 kk∧Za (Below wo.heap.size wo wr)∧Za ((zs.take kk).any p=false))
  case atStart=>exact⟨0,Nat.zero_le _,by omega,rfl,⟨Below.refl _ _⟩,⟨by simp⟩⟩
  case round=>
    obtain⟨kk,hkk,hg,rfl,BW,A1⟩:=hrel;by_cases hlt:kk<zs.length;rotate_left
    · obtain rfl : kk = zs.length := by omega
      go_wp2;go_ret;refine⟨⟨_,rfl,?_⟩,BW.out⟩;have:=A1.out;rw[List.take_length]at this;rw[this]
      rfl
    obtain⟨ad,A2,c2,rfl,hx0,hl0,hi0⟩:=Zew (Kd.Zac HR.out BW.out) (kk:Int) (by omega) (by omega);simp only[Int.toNat_natCast]at hx0
    have hcall := HP.out (Zb3 zs (kk : Int)) A2 c2 (by
      unfold Zb3;rw[Int.toNat_natCast,List.getD_eq_getElem?_getD,List.getElem?_eq_getElem hlt]
      exact List.getElem_mem hlt) wr BW.out hi0 hl0
    have htk : Za (zs.take (kk + 1) = zs.take kk ++ [Zb3 zs (kk : Int)]) := ⟨by
      rw[List.take_succ_eq_append_getElem hlt]
      simp [Zb3, List.getD_eq_getElem?_getD, List.getElem?_eq_getElem hlt]⟩
    clear hl0 hi0
    generalize Zb3 zs (kk:Int)=y at hx0 hcall htk
    cases hq:p y with
    |true=>
      rw[hq]at hcall;have B:=Za.mk hq;clear hq
      go_wp2_with (go_at_fn g;refine hcall.mono ?_;rintro e w' ⟨rfl,hb'⟩)
      go_ret;refine⟨⟨_,rfl,?_⟩,Zae BW.out hb'⟩;rw[HY.out (kk+1),htk.out,List.any_append]
      simp[B.out]
    |false=>
      rw[hq]at hcall;have B:=Za.mk hq;clear hq
      go_wp2_with (go_at_fn g;refine hcall.mono ?_;rintro e w' ⟨rfl,hb'⟩)
      go_roundg (zs.length - (kk+1))
      case measure=>omega
      case rel=>exact⟨kk+1,by omega,by omega,by go_num,⟨Zae BW.out hb'⟩,⟨by rw[htk.out,List.any_append,A1.out];simp[B.out]⟩⟩
theorem Zfk (p : List Int → Bool) (g : Nat) (lb : Array Value) (eg : ∀ args w, (callFunc g args).run Tryz.prog w = .ok (.enter g args) w) (A : Option Addr) (c : Nat) (zs : List (List Int)) (w : World) (hr : Kd.C (Kd.slice 3 (Kd.int .i64)) w A zs.length zs)
    (hp:∀(x:List Int) (A1:Option Addr) (c1:Nat),x ∈ zs→∀W,Below w.heap.size w W→Kd.C (Kd.int .i64) W A1 x.length x→x.length≤c1→Calls Tryz.prog g (#[.slice A1 x.length c1]++lb) W fun e w'=>e= .returned (.bool (p x))∧Below W.heap.size W w'):
    Calls Tryz.prog 35 #[.slice A zs.length c,.func (.func g) #[] lb] w fun e w'=>e= .returned (.bool (zs.any p))∧Below w.heap.size w w':=by
  have hI:=indexFunc_L p g lb eg A c zs w hr hp;go_enter Tryz.func35,Tryz.ntmps35
  go_wp2_with (go_at_call 65;refine hI.mono ?_;rintro e w' ⟨⟨i,rfl,hi⟩,hb⟩)
  go_ret;exact⟨by rw[←hi];rfl,hb⟩
end Go.Proofs.YtdpieallpbllkaaGreat.P
namespace Go.Proofs.YtdpieallpbllkaaGreat.P
open Go.RowKit Go.Proofs.YtdpieallpbllkaaGreatW.PrintWords Go.Proofs.YtdpieallpbllkaaGreatW.PrintLast Go.Proofs.YtdpieallpbllkaaGreatW.PrintMore
attribute [local go_sem] Zcw Zcy Zdg Zdh Zco Zcp Zcx Zcz
mutual
def Zb.l0 : Nat → List (S82) → List (S82) → List (S82) → Int → Int → Option ((List (S82)))
 | 0, _, _, _, _, _ => none
 |k+1,x1,x5,x10,x11,x12=>if x12<x11 then(if 0≤x12 then(if x12<(x10.length:Int)then(Zb.l1 k x1 x5 x10 x11 x12 x1 (x1.length:Int) 0 ((Zbk x10 x12).f0) ((Zbk x10 x12).f1))else(none))else(none))else(some x5)
def Zb.l1 : Nat → List (S82) → List (S82) → List (S82) → Int → Int → List (S82) → Int → Int → Int → Int → Option ((List (S82)))
 | 0, _, _, _, _, _, _, _, _, _, _ => none
 |k+1,x1,x5,x10,x11,x12,x16,x17,x18,nP,nQ=>if x18<x17 then(if 0≤x18 then(if x18<(x16.length:Int)then(if((Zbk x16 x18).f1)<nP then(Zb.j2 k x1 x5 x10 x11 x12 x16 x17 x18 true nP nQ ((Zbk x16 x18).f0) ((Zbk x16 x18).f1))else(Zb.j2 k x1 x5 x10 x11 x12 x16 x17 x18 (decide (((Zbk x16 x18).f0)>nQ)) nP nQ ((Zbk x16 x18).f0) ((Zbk x16 x18).f1)))else(none))else(none))else(if nP≤nQ then(if x5.length<8796093022208 then(Zb.l0 k x1 (x5++ [(⟨nP,nQ⟩:S82)]) x10 x11 (wrap64 (x12+1)))else(none))else(Zb.l0 k x1 x5 x10 x11 (wrap64 (x12+1))))
def Zb.j2 : Nat → List (S82) → List (S82) → List (S82) → Int → Int → List (S82) → Int → Int → Bool → Int → Int → Int → Int → Option ((List (S82)))
 | 0, _, _, _, _, _, _, _, _, _, _, _, _, _ => none
 |k+1,x1,x5,x10,x11,x12,x16,x17,x18,x33,nP,nQ,Kl,Km=>if x33=true then(Zb.l1 k x1 x5 x10 x11 x12 x16 x17 (wrap64 (x18+1)) nP nQ)else(if Kl>nP then(if x5.length<8796093022208 then(Zb.l1 k x1 (x5++ [(⟨nP,wrap64 (Kl - 1)⟩:S82)]) x10 x11 x12 x16 x17 (wrap64 (x18+1)) (wrap64 (Km+1)) nQ)else(none))else(Zb.l1 k x1 x5 x10 x11 x12 x16 x17 (wrap64 (x18+1)) (wrap64 (Km+1)) nQ))
end
def Zb.f (k:Nat) (l0:List (S82)) (l1:List (S82)):Option ((List (S82))):=Zb.l0 k l1 ([]:List (S82)) l0 (l0.length:Int) 0
theorem Zb.Zc9 : ∀ k, (∀ y0 y1 y2 y3 y4, LeO (Zb.l0 k y0 y1 y2 y3 y4) (Zb.l0 (k + 1) y0 y1 y2 y3 y4)) ∧ (∀ y0 y1 y2 y3 y4 y5 y6 y7 y8 y9, LeO (Zb.l1 k y0 y1 y2 y3 y4 y5 y6 y7 y8 y9) (Zb.l1 (k + 1) y0 y1 y2 y3 y4 y5 y6 y7 y8 y9)) ∧ (∀ y0 y1 y2 y3 y4 y5 y6 y7 y8 y9 y10 y11 y12, LeO (Zb.j2 k y0 y1 y2 y3 y4 y5 y6 y7 y8 y9 y10 y11 y12) (Zb.j2 (k + 1) y0 y1 y2 y3 y4 y5 y6 y7 y8 y9 y10 y11 y12))
 | 0 => ⟨fun _ _ _ _ _ r h => by simp [Zb.l0] at h, fun _ _ _ _ _ _ _ _ _ _ r h => by simp [Zb.l1] at h, fun _ _ _ _ _ _ _ _ _ _ _ _ _ r h => by simp [Zb.j2] at h⟩
 |k+1=>by
  obtain⟨ih0,ih1,ih2⟩:=Zb.Zc9 k;refine⟨?_,?_,?_⟩
  all_goals intros
  all_goals first|unfold Zb.l0|unfold Zb.l1|unfold Zb.j2
  all_goals repeat' first
   | (with_reducible exact ih0 ..)
   | (with_reducible exact ih1 ..)
   | (with_reducible exact ih2 ..)
   | (with_reducible exact LeO.refl ..)
   | (with_reducible exact LeO.none ..)
   | (with_reducible refine LeO.ite ?_ ?_)
   |(with_reducible refine LeO.bind ?_ (fun _=> ?_))
theorem Zb.mono:∀a0 a1 k,LeO (Zb.f k a0 a1) (Zb.f (k+1) a0 a1):=by
 intro a0 a1 k;obtain⟨ih0,ih1,ih2⟩:=Zb.Zc9 k;unfold Zb.f
 repeat' first
   | (with_reducible exact ih0 _ _ _ _ _)
   | (with_reducible exact ih1 _ _ _ _ _ _ _ _ _ _)
   | (with_reducible exact ih2 _ _ _ _ _ _ _ _ _ _ _ _ _)
   | (with_reducible exact LeO.refl _)
   | (with_reducible exact LeO.none _)
   | (with_reducible refine LeO.ite ?_ ?_)
   |(with_reducible refine LeO.bind ?_ (fun _=> ?_))
set_option maxRecDepth 100000 in
theorem Zb.calls (k : Nat) (A0 : Option Addr) (c0 : Nat) (l0 : List (S82)) (A1 : Option Addr) (c1 : Nat) (l1 : List (S82)) (r : List (S82)) (w : World) (hr0 : Kd.C k82 w A0 l0.length l0) (hc0 : l0.length ≤ c0) (hr1 : Kd.C k82 w A1 l1.length l1) (hc1 : l1.length ≤ c1) (h : Zb.f k l0 l1 = some r) :
  Calls Tryz.prog 132 #[.slice A0 l0.length c0,.slice A1 l1.length c1] w fun e w'=>∃v0_:Value,e= .returned (v0_)∧Kd.R k82 82 w' w.heap.size (fun _=>True) v0_ r∧Below w.heap.size w w':=by
 have hu82:=Tryz.underlying82;have HR0:=Za.mk hr0;have HC0:=Za.mk hc0;clear hr0 hc0;have HR1:=Za.mk hr1;have HC1:=Za.mk hc1;clear hr1 hc1;have HB:=Za.mk (Below.refl w.heap.size w);have H:(Zb.l0 k l1 ([]:List (S82)) l0 (l0.length:Int) 0)=some r:=h;clear h;have H':=Za.mk H;clear H;go_enter Tryz.func132,Tryz.ntmps132;go_wp2
 go_loopg [5,12] k (fun kq v5 v12 w'=>∃(ax:List (S82)) (fE:Int),v12= .int .i64 fE∧Za (Zb.l0 kq l1 ax l0 (l0.length:Int) fE=some r)∧Za (kq≤k)∧Za (Kd.R k82 82 w' w.heap.size (fun _=>True) v5 ax)∧Za (Below w.heap.size w w'))
 case atStart=>exact⟨(([]:List (S82))),(0),eS,H',⟨Nat.le_refl _⟩,⟨by first|exact Kd.R_nil _ _ _ _ _|exact Kd.N_nil _ _ _ _ _|exact Kd.V_nil _ _ _ _ _|exact Kd.Q_nil _ _ _ _ _|exact Kd.S_nil _ _ _ _ _⟩,⟨bM HB.out⟩⟩
 case round=>
  clear H';try clear c1
  try clear p2
  obtain⟨ax,fE,rfl,HA,HK1,bz,HB⟩:=hrel
  cases gk with
  | zero => exact absurd HA.out (by simp [Zb.l0])
  |succ k1=>
   have H:=HA.out;clear HA;simp only[Zb.l0]at H;by_cases c3:fE<(l0.length:Int)
   case neg=>
    rw[if_neg c3]at H;have fB:decide (fE<(l0.length:Int))=false:=decide_eq_false c3;clear c3;obtain rfl:=sj H;go_wp2;go_ret;exact⟨_,eR,rM bz.out,bM HB.out⟩
   rw[if_pos c3]at H;have fB:decide (fE<(l0.length:Int))=true:=decide_eq_true c3;clear c3;obtain⟨dC,H⟩:=ifT H;obtain⟨dw,H⟩:=ifT H;have H':=Za.mk H;clear H;have Vi:(0≤(fE:Int))=True:=teq;have Vp:(fE<(l0.length:Int))=True:=teq;obtain⟨fLa,rfl,ze,zf⟩:=Zem HR0.out fE odt odt;replace ze:=hB HB.out ze;replace zf:=hB HB.out zf
   go_wp2_with (first|((with_reducible refine Zar (N:=7) rfl ?_);refine bx 7 #[.int .i64 0,.int .i64 0] 82 ?_;intro jT hg w6 hbox hb;replace bz:=Za.mk (Kd.Zb6 (Kd.R_elderB (rM bz.out) jT (Nat.le_of_eq hg.symm)) hb);have iC:=Za.mk (hbox);have f9a:=Za.mk ((gE hg HB.out:w.heap.size≤jT));replace HB:=Za.mk (bS HB.out hb);clear hb hbox hg;obtain⟨qY,rf,qW,qX⟩:=cz2 iC.out))
   go_loopg [5,18] k1 (fun kq v5 v18 w'=>∃(dG:List (S82)) (eP:Int) (dW:Int),v18= .int .i64 eP∧Za (Zb.l1 kq l1 dG l0 (l0.length:Int) fE l1 (l1.length:Int) eP dW ((Zbk l0 fE).f1)=some r)∧Za (kq≤k1)∧Za (Kd.R k82 82 w' w.heap.size (fun k_=>k_≠jT) v5 dG)∧Za (w'.heap[jT]? =some (.cells #[.int .i64 dW,.int .i64 ((Zbk l0 fE).f1)] 82 (0,0)))∧Za (Below w.heap.size w w'))
   case atStart=>exact⟨(ax),(0),((Zbk l0 fE).f0),eS,H',⟨Nat.le_refl _⟩,⟨rM (Kd.Za6 (Kd.Zbv (p:=⟨jT,1,none⟩) (Kd.Zbv (p:=⟨jT,0,none⟩) (Kd.Za6 bz.out (fun k_ hk=>(⟨hk,hk.2⟩:_∧k_≠jT))) (fun _ hk=>hk.2) (.int .i64 ((Zbk l0 fE).f0))) (fun _ hk=>hk.2) (.int .i64 ((Zbk l0 fE).f1))) (fun _ hk=>hk.1.2))⟩,⟨by(with_reducible repeat(first|refine Zah ?_ _|refine Zai ?_|refine Zab ?_ _));refine Zaz (cs:=#[.int .i64 ((Zbk l0 fE).f0),.int .i64 0]) ?_ 1 _ rfl;(with_reducible repeat(first|refine Zah ?_ _|refine Zai ?_|refine Zab ?_ _));refine Zaz (cs:=#[.int .i64 0,.int .i64 0]) ?_ 0 _ rfl;(with_reducible repeat(first|refine Zah ?_ _|refine Zai ?_|refine Zab ?_ _));exact iC.out⟩,⟨bM HB.out⟩⟩
   case round=>
    clear H';try clear c1
    try clear p2
    try clear c3
    try clear fB
    try clear c4
    try clear dC
    try clear p4
    try clear q4
    try clear hx4
    try clear c5
    try clear dw
    try clear qY rf qW qX
    try clear ze
    try clear zf
    try clear p2
    try clear Vi
    try clear Vp
    obtain⟨dG,eP,dW,rfl,HA,HK2,bz,iC,HB⟩:=hrel
    cases gk with
    | zero => exact absurd HA.out (by simp [Zb.l1])
    |succ k2=>
     have H:=HA.out;clear HA;simp only[Zb.l1]at H;by_cases c8:eP<(l1.length:Int)
     case neg=>
      rw[if_neg c8]at H;have ny:decide (eP<(l1.length:Int))=false:=decide_eq_false c8;clear c8;by_cases c34:dW≤((Zbk l0 fE).f1)
      case neg=>
       rw[if_neg c34]at H;have Ya:decide (dW≤((Zbk l0 fE).f1))=false:=decide_eq_false c34;clear c34;have H':=Za.mk H;clear H;obtain⟨Tk,Tm,Sl,Sm⟩:=cz2 iC.out;go_wp2
       go_roundg k2
       case measure=>have:=HK1.out;have:=HK2.out;omega
       case rel=>exact⟨(dG),(wrap64 (fE+1)),eS,H',⟨by have:=HK1.out;have:=HK2.out;omega⟩,⟨rM (Kd.Za6 bz.out (fun _ hk=>trivial))⟩,⟨bM HB.out⟩⟩
      rw[if_pos c34]at H;have Ya:decide (dW≤((Zbk l0 fE).f1))=true:=decide_eq_true c34;clear c34;obtain⟨c35,H⟩:=ifP H;have Xh:=Za.mk c35;clear c35;obtain⟨Wd,Dv⟩:∃y_:List (S82),y_=(dG++ [(⟨dW,((Zbk l0 fE).f1)⟩:S82)]):=⟨_,rfl⟩;replace H:(Zb.l0 k2 l1 Wd l0 (l0.length:Int) (wrap64 (fE+1)))=some r:=by first|(rw[Dv];with_reducible exact H)|(have H2_:=(Option.bind_some _ _).symm.trans H;rw[Dv];with_reducible exact H2_)|(have H2_:=(Option.bind_some _ _).symm.trans H;with_reducible exact H2_)|with_reducible exact H|(rw[Dv];exact H)|exact H
      have X3:=Za.mk Dv;clear Dv;have H':=Za.mk H;clear H;obtain⟨kWa,kXa,hFa,hGa⟩:=cz2 iC.out
      go_wp2_with (first|((with_reducible refine Zbo (b:= .append) (xs:=#[.tmp 58,.tmp 60]) rfl ?_);at_builtin;refine Kd.Zc4 k82 (w0:=w) w.heap.size rfl (.tmp 58) (.tmp 60) 53 82 (.agg #[(.int .i64 0),(.int .i64 0)]) 16 rfl Tryz.underlying53 Zh7 rfl (by decide) (by omega) u5 dG (⟨dW,((Zbk l0 fE).f1)⟩:S82) [.int .i64 dW,.int .i64 ((Zbk l0 fE).f1)] (fun k_=>k_≠jT) (fun _=>False) rfl rfl ?aP (fun _ hk=>hk.elim) ?aF ?aO ?aB ?aS ?aL ?_;(case aP=>exact Zg9 _ _ _ (⟨dW,((Zbk l0 fE).f1)⟩:S82));(case aB=>exact(bM HB.out));(case aF=>exact(fun k_ hk=>Kd.freshB (kM iC.out) k_ hk));(case aO=>exact(rM bz.out));(case aS=>exact(Zaf (bM HB.out)));(case aL=>have:=Xh.out;omega);intro oSa w37 ho hb hg hat;rw[←X3.out]at ho;replace HB:=Za.mk (hb);have WT:=Za.mk (ho);clear iC bz;clear ho hb hg hat))
      go_roundg k2
      case measure=>have:=HK1.out;have:=HK2.out;omega
      case rel=>exact⟨(Wd),(wrap64 (fE+1)),eS,H',⟨by have:=HK1.out;have:=HK2.out;omega⟩,⟨rM (Kd.Za6 WT.out (fun _ hk=>trivial))⟩,⟨bM HB.out⟩⟩
     rw[if_pos c8]at H;have ny:decide (eP<(l1.length:Int))=true:=decide_eq_true c8;clear c8;obtain⟨nz,H⟩:=ifT H;obtain⟨jS,H⟩:=ifT H;have Oa:=Za.mk H;clear H;have d1a:(0≤(eP:Int))=True:=teq;have dAa:(eP<(l1.length:Int))=True:=teq;obtain⟨fMa,rfl,Fb,Fe⟩:=Zem HR1.out eP odt odt;replace Fb:=hB HB.out Fb;replace Fe:=hB HB.out Fe
     go_upto_region 8 with (first|((with_reducible refine Zar (N:=9) rfl ?_);refine bx 9 #[.int .i64 0,.int .i64 0] 82 ?_;intro nK hg w12 hbox hb;replace bz:=Za.mk (Kd.Zb6 (Kd.R_elderB (rM bz.out) nK (Nat.le_of_eq hg.symm)) hb);have ou:=Za.mk (hbox);have fAa:=Za.mk ((gE hg HB.out:w.heap.size≤nK));replace HB:=Za.mk (bS HB.out hb);have nk:=Za.mk ((by rw[hg];exact Nat.ne_of_lt (Zc7 (kM iC.out)):jT≠nK));have qO:=Za.mk ((by rw[hg];exact Nat.ne_of_gt (Zc7 (kM iC.out)):nK≠jT));replace iC:=Za.mk (kB iC.out hb);clear hb hbox hg;have gka:=qO.out;have g9a:=nk.out;obtain⟨xO,xP,xz,xA⟩:=cz2 ou.out))
     (try simp only[Act.put,List.setIfInBounds_toArray,List.set_cons_zero,List.set_cons_succ])
     go_cut [33] (fun v33 wc=>∃(kq:Nat) (Ee:Bool),v33= .bool Ee∧Za (Zb.j2 kq l1 dG l0 (l0.length:Int) fE l1 (l1.length:Int) eP Ee dW ((Zbk l0 fE).f1) ((Zbk l1 eP).f0) ((Zbk l1 eP).f1)=some r)∧Za (kq≤k2)∧Za (Kd.R k82 82 wc w.heap.size (fun k_=>k_≠jT∧k_≠nK) u5 dG)∧Za (wc.heap[jT]? =some (.cells #[.int .i64 dW,.int .i64 ((Zbk l0 fE).f1)] 82 (0,0)))∧Za (wc.heap[nK]? =some (.cells #[.int .i64 ((Zbk l1 eP).f0),.int .i64 ((Zbk l1 eP).f1)] 82 (0,0)))∧Za (Below w.heap.size w wc))
     case first=>
      have H:=Oa.out;clear Oa;by_cases c15:((Zbk l1 eP).f1)<dW
      case neg=>
       rw[if_neg c15]at H;have jo:decide (((Zbk l1 eP).f1)<dW)=false:=decide_eq_false c15;clear c15
       (first|rw[jo]|(simp only[Zd5,Zeo];rw[jo])|skip)
       have H':=Za.mk H;clear H;have gma:=qO.out;have gBa:=nk.out;obtain⟨zD,zF,zx,zy⟩:=cz2 ou.out;obtain⟨G7,G8,Gj,Gl⟩:=cz2 iC.out;go_wp2
       go_meet
       case rel=>exact⟨_,(decide (((Zbk l1 eP).f0)>((Zbk l0 fE).f1))),eS,H',⟨by have:=HK1.out;have:=HK2.out;first|omega|exact Nat.le_refl _⟩,⟨rM (Kd.Za6 (Kd.Zbv (p:=⟨nK,1,none⟩) (Kd.Zbv (p:=⟨nK,0,none⟩) (Kd.Za6 bz.out (fun k_ hk=>(⟨hk,hk.2⟩:_∧k_≠nK))) (fun _ hk=>hk.2) (.int .i64 ((Zbk l1 eP).f0))) (fun _ hk=>hk.2) (.int .i64 ((Zbk l1 eP).f1))) (fun _ hk=>⟨hk.1.1,hk.1.2⟩))⟩,⟨by(with_reducible repeat(first|exact iC.out|refine Zcv ?_ nk.out _|refine Zab ?_ _|refine Zai ?_|refine Zah ?_ _))⟩,⟨by(with_reducible repeat(first|refine Zah ?_ _|refine Zai ?_|refine Zab ?_ _));refine Zaz (cs:=#[.int .i64 ((Zbk l1 eP).f0),.int .i64 0]) ?_ 1 _ rfl;(with_reducible repeat(first|refine Zah ?_ _|refine Zai ?_|refine Zab ?_ _));refine Zaz (cs:=#[.int .i64 0,.int .i64 0]) ?_ 0 _ rfl;(with_reducible repeat(first|refine Zah ?_ _|refine Zai ?_|refine Zab ?_ _));exact ou.out⟩,⟨bM HB.out⟩⟩
      rw[if_pos c15]at H;have jo:decide (((Zbk l1 eP).f1)<dW)=true:=decide_eq_true c15;clear c15
      (first|rw[jo]|(simp only[Zd5,Zeo];rw[jo])|skip)
      have H':=Za.mk H;clear H;have gla:=qO.out;have gAa:=nk.out;obtain⟨EB,EC,Es,Et⟩:=cz2 ou.out;obtain⟨Nb,Nc,M4,M5⟩:=cz2 iC.out;go_wp2
      go_meet
      case rel=>exact⟨_,(true),eS,H',⟨by have:=HK1.out;have:=HK2.out;first|omega|exact Nat.le_refl _⟩,⟨rM (Kd.Za6 (Kd.Zbv (p:=⟨nK,1,none⟩) (Kd.Zbv (p:=⟨nK,0,none⟩) (Kd.Za6 bz.out (fun k_ hk=>(⟨hk,hk.2⟩:_∧k_≠nK))) (fun _ hk=>hk.2) (.int .i64 ((Zbk l1 eP).f0))) (fun _ hk=>hk.2) (.int .i64 ((Zbk l1 eP).f1))) (fun _ hk=>⟨hk.1.1,hk.1.2⟩))⟩,⟨by(with_reducible repeat(first|exact iC.out|refine Zcv ?_ nk.out _|refine Zab ?_ _|refine Zai ?_|refine Zah ?_ _))⟩,⟨by(with_reducible repeat(first|refine Zah ?_ _|refine Zai ?_|refine Zab ?_ _));refine Zaz (cs:=#[.int .i64 ((Zbk l1 eP).f0),.int .i64 0]) ?_ 1 _ rfl;(with_reducible repeat(first|refine Zah ?_ _|refine Zai ?_|refine Zab ?_ _));refine Zaz (cs:=#[.int .i64 0,.int .i64 0]) ?_ 0 _ rfl;(with_reducible repeat(first|refine Zah ?_ _|refine Zai ?_|refine Zab ?_ _));exact ou.out⟩,⟨bM HB.out⟩⟩
     case rest=>
      clear Oa;try clear c1
      try clear p2
      try clear c3
      try clear fB
      try clear c4
      try clear dC
      try clear p4
      try clear q4
      try clear hx4
      try clear c5
      try clear dw
      try clear c8
      try clear ny
      try clear c9
      try clear nz
      try clear c10
      try clear jS
      try clear c13
      try clear c15
      try clear jo
      try clear c16
      try clear c19
      try clear xO xP xz xA
      try clear EB EC Es Et
      try clear Nb Nc M4 M5
      try clear zD zF zx zy
      try clear G7 G8 Gj Gl
      try clear qY rf qW qX
      try clear ze
      try clear zf
      try clear Fb
      try clear Fe
      try clear p2
      try clear p4
      try clear Vi
      try clear d1a
      try clear q4
      try clear Vp
      try clear dAa
      obtain⟨kq,Ee,rfl,HA,HJ10,bz,iC,ou,HB⟩:=hcut
      cases kq with
      | zero => exact absurd HA.out (by simp [Zb.j2])
      |succ kj10=>
       have H:=HA.out;clear HA;simp only[Zb.j2]at H;by_cases c22:Ee=true
       case pos=>
        subst c22;rw[if_pos rfl]at H;have H':=Za.mk H;clear H;go_wp2
        go_roundg kj10
        case measure=>have:=HK1.out;have:=HK2.out;have:=HJ10.out;omega
        case rel=>exact⟨(dG),(wrap64 (eP+1)),(dW),eS,H',⟨by have:=HK1.out;have:=HK2.out;have:=HJ10.out;omega⟩,⟨rM (Kd.Za6 bz.out (fun _ hk=>hk.1))⟩,⟨kM iC.out⟩,⟨bM HB.out⟩⟩
       replace c22:=Bool.eq_false_iff.mpr c22;subst c22;replace H:=ifF H;by_cases c23:((Zbk l1 eP).f0)>dW
       case neg=>
        rw[if_neg c23]at H;have yY:decide (dW<((Zbk l1 eP).f0))=false:=decide_eq_false c23;clear c23;have H':=Za.mk H;clear H;have Y3:=qO.out;have Y5:=nk.out;obtain⟨Tf,Tg,Sg,Si⟩:=cz2 ou.out;obtain⟨Ti,Tj,Sj,Sk⟩:=cz2 iC.out;go_wp2
        go_roundg kj10
        case measure=>have:=HK1.out;have:=HK2.out;have:=HJ10.out;omega
        case rel=>exact⟨(dG),(wrap64 (eP+1)),(wrap64 (((Zbk l1 eP).f1)+1)),eS,H',⟨by have:=HK1.out;have:=HK2.out;have:=HJ10.out;omega⟩,⟨rM (Kd.Za6 (Kd.Zbv (p:=⟨jT,0,none⟩) (Kd.Za6 bz.out (fun k_ hk=>(⟨hk,hk.1⟩:_∧k_≠jT))) (fun _ hk=>hk.2) (.int .i64 (wrap64 (((Zbk l1 eP).f1)+1)))) (fun _ hk=>hk.1.1))⟩,⟨by(with_reducible repeat(first|refine Zah ?_ _|refine Zai ?_|refine Zab ?_ _));refine Zaz (cs:=#[.int .i64 dW,.int .i64 ((Zbk l0 fE).f1)]) ?_ 0 _ rfl;(with_reducible repeat(first|refine Zah ?_ _|refine Zai ?_|refine Zab ?_ _));exact iC.out⟩,⟨bM HB.out⟩⟩
       rw[if_pos c23]at H;have yY:decide (dW<((Zbk l1 eP).f0))=true:=decide_eq_true c23;clear c23;obtain⟨c24,H⟩:=ifP H;have Xf:=Za.mk c24;clear c24;obtain⟨We,Dw⟩:∃y_:List (S82),y_=(dG++ [(⟨dW,wrap64 (((Zbk l1 eP).f0) - 1)⟩:S82)]):=⟨_,rfl⟩;replace H:(Zb.l1 kj10 l1 We l0 (l0.length:Int) fE l1 (l1.length:Int) (wrap64 (eP+1)) (wrap64 (((Zbk l1 eP).f1)+1)) ((Zbk l0 fE).f1))=some r:=by first|(rw[Dw];with_reducible exact H)|(have H2_:=(Option.bind_some _ _).symm.trans H;rw[Dw];with_reducible exact H2_)|(have H2_:=(Option.bind_some _ _).symm.trans H;with_reducible exact H2_)|with_reducible exact H|(rw[Dw];exact H)|exact H
       have X4:=Za.mk Dw;clear Dw;have H':=Za.mk H;clear H;have gpa:=qO.out;have gEa:=nk.out;obtain⟨Nt,Nu,MK,ML⟩:=cz2 ou.out;obtain⟨Nv,Nw,MM,MN⟩:=cz2 iC.out
       go_wp2_with (first|((with_reducible refine Zbo (b:= .append) (xs:=#[.tmp 39,.tmp 46]) rfl ?_);at_builtin;refine Kd.Zc4 k82 (w0:=w) w.heap.size rfl (.tmp 39) (.tmp 46) 53 82 (.agg #[(.int .i64 0),(.int .i64 0)]) 16 rfl Tryz.underlying53 Zh7 rfl (by decide) (by omega) u5 dG (⟨dW,wrap64 (((Zbk l1 eP).f0) - 1)⟩:S82) [.int .i64 dW,.int .i64 (wrap64 (((Zbk l1 eP).f0) - 1))] (fun k_=>k_≠jT∧k_≠nK) (fun _=>False) rfl rfl ?aP (fun _ hk=>hk.elim) ?aF ?aO ?aB ?aS ?aL ?_;(case aP=>exact Zg9 _ _ _ (⟨dW,wrap64 (((Zbk l1 eP).f0) - 1)⟩:S82));(case aB=>exact(bM HB.out));(case aF=>exact(fun k_ hk=>⟨Kd.freshB (kM iC.out) k_ hk,Kd.freshB (kM ou.out) k_ hk⟩));(case aO=>exact(rM bz.out));(case aS=>exact(Zaf (bM HB.out)));(case aL=>have:=Xf.out;omega);intro oTa w28 ho hb hg hat;rw[←X4.out]at ho;replace iC:=Za.mk (kG iC.out hg (Kd.R_away bz.out (fun _ hk=>hk.1)));replace ou:=Za.mk (kG ou.out hg (Kd.R_away bz.out (fun _ hk=>hk.2)));replace HB:=Za.mk (hb);have WU:=Za.mk (ho);clear bz;clear ho hb hg hat;obtain⟨uE,uF,u6,u7⟩:=cz2 ou.out;obtain⟨boa,bpa,YV,YW⟩:=cz2 iC.out))
       go_roundg kj10
       case measure=>have:=HK1.out;have:=HK2.out;have:=HJ10.out;omega
       case rel=>exact⟨(We),(wrap64 (eP+1)),(wrap64 (((Zbk l1 eP).f1)+1)),eS,H',⟨by have:=HK1.out;have:=HK2.out;have:=HJ10.out;omega⟩,⟨rM (Kd.Za6 (Kd.Zbv (p:=⟨jT,0,none⟩) (Kd.Za6 WU.out (fun k_ hk=>(⟨hk,hk.1⟩:_∧k_≠jT))) (fun _ hk=>hk.2) (.int .i64 (wrap64 (((Zbk l1 eP).f1)+1)))) (fun _ hk=>hk.1.1))⟩,⟨by(with_reducible repeat(first|refine Zah ?_ _|refine Zai ?_|refine Zab ?_ _));refine Zaz (cs:=#[.int .i64 dW,.int .i64 ((Zbk l0 fE).f1)]) ?_ 0 _ rfl;(with_reducible repeat(first|refine Zah ?_ _|refine Zai ?_|refine Zab ?_ _));exact iC.out⟩,⟨bM HB.out⟩⟩
def Zct.f (k:Nat) (l0:List (S82)):Option (Bool):=(Zb.f k l0 (([(⟨0,1⟩:S82)]:List (S82)))).bind fun AO=>(some ((AO.length:Int)==0))
theorem Zct.mono:∀a0 k,LeO (Zct.f k a0) (Zct.f (k+1) a0):=by
 intro a0 k;unfold Zct.f
 repeat' first
   | (with_reducible exact Zb.mono _ _ _)
   | (with_reducible exact LeO.refl _)
   | (with_reducible exact LeO.none _)
   | (with_reducible refine LeO.ite ?_ ?_)
   |(with_reducible refine LeO.bind ?_ (fun _=> ?_))
set_option maxRecDepth 100000 in
theorem Zct.calls (k : Nat) (A0 : Option Addr) (c0 : Nat) (l0 : List (S82)) (r : Bool) (w : World) (hr0 : Kd.C k82 w A0 l0.length l0) (hc0 : l0.length ≤ c0) (h : Zct.f k l0 = some r) :
  Calls Tryz.prog 121 #[.slice A0 l0.length c0] w fun e w'=>e= .returned (.bool r)∧Below w.heap.size w w':=by
 have hu82:=Tryz.underlying82;have HR0:=Za.mk hr0;have HC0:=Za.mk hc0;clear hr0 hc0;have HB:=Za.mk (Below.refl w.heap.size w);have H:((Zb.f k l0 (([(⟨0,1⟩:S82)]:List (S82)))).bind fun AO=>(some ((AO.length:Int)==0)))=some r:=h;clear h;obtain⟨Qg,Dx⟩:∃y_:List (S82),y_=(([(⟨0,1⟩:S82)]:List (S82))):=⟨_,rfl⟩;replace H:((Zb.f k l0 Qg).bind fun AO=>(some ((AO.length:Int)==0)))=some r:=by first|(rw[Dx];with_reducible exact H)|(have H2_:=(Option.bind_some _ _).symm.trans H;rw[Dx];with_reducible exact H2_)|(have H2_:=(Option.bind_some _ _).symm.trans H;with_reducible exact H2_)|with_reducible exact H|(rw[Dx];exact H)|exact H
 have QI:=Za.mk Dx;clear Dx;obtain⟨AO,A2,H⟩:=bnd H;try dsimp only at H
 obtain rfl:=sj H;go_enter Tryz.func121,Tryz.ntmps121
 go_wp2_with (first|((with_reducible refine Zar (N:=5) rfl ?_);refine Kd.Zdj k82 _ 82 ?hg (N:=5) ?hd (xs:=([(⟨0,1⟩:S82)]:List (S82))) (inner:= [.int .i64 0,.int .i64 1]) (ok:=fun _=>True) (okp:=fun _=>True) ?hr ?hp (fun _ hk=>hk) trivial (Below.refl _ _) (Nat.le_refl _) (by simp) ?_;(case hd=>rfl);(case hg=>rfl);(case hr=>first|(go_simp;done)|(go_simp;rfl));(case hp=>exact(Reps.c2 (show Kd.M k82 _ _ _ (⟨0,1⟩:S82) [.int .i64 0,.int .i64 1]from(Zg9 _ _ _ (⟨0,1⟩:S82))) (Reps.none _ _)));intro oUa w3 ho4 hb hg_ hnew_;clear hg_ hnew_;(first|rw[←QI.out]at ho4|(simp only[Int.reduceToNat]at ho4;rw[←QI.out]at ho4));have BC:=Za.mk (Kd.Zbm ho4 (Zaf (bM HB.out)));replace HB:=Za.mk (bS HB.out hb);clear hb ho4;obtain⟨Ao5,co5,eo5⟩:=Kd.Zbe BC.out;subst eo5)|((with_reducible refine Zal (f:=132) rfl ?_);refine gl 6 Tryz.func132 #[.slice A0 l0.length c0,.slice Ao5 Qg.length co5] ?_;(with_reducible refine(Zb.calls k _ _ l0 _ _ Qg AO _ (cM (Kd.Zac HR0.out HB.out)) HC0.out (cM ((Kd.Zan BC.out).2.2)) ((Kd.Zan BC.out).2.1) A2.out).mono ?_);rintro e w6 ⟨oVa,rfl,ho0,hb⟩;refine⟨_,rfl,?_⟩;have WV:=Za.mk (Kd.Zbm (Kd.Ze3 ho0 (Kd.R_lt (rM BC.out))) (Zaf (bM HB.out)));replace HB:=Za.mk (bS HB.out hb);clear BC;(try clear hb);(try clear hb2);(try clear hk);(try clear hi);(try clear ho0);obtain⟨Ao7,co7,eo7⟩:=Kd.Zbe WV.out;subst eo7))
 go_ret;exact⟨eR,bM HB.out⟩
end Go.Proofs.YtdpieallpbllkaaGreat.P
/- The closures of model.right and model.Con, and model.row. -/
namespace Go.Proofs.YtdpieallpbllkaaGreat.P
open Go.RowKit Go.Shelf Go.Proofs.YtdpieallpbllkaaGreatW.PrintWords Go.Proofs.YtdpieallpbllkaaGreatW.PrintLast Go.Proofs.YtdpieallpbllkaaGreatW.PrintMore
theorem cellB {W W':World} {a:Addr} {v:Value} (hb:Below W.heap.size W W') (hc:W.cell? a=some v):W'.cell? a=some v:=(hb.cell (World.block_lt_of_cell? W _ hc)).trans hc
def farV (x:Int):Bool:=decide (x< -1048576)||decide (1048576<x)
theorem rowPred (x:Int) (w:World):Calls Tryz.prog 135 #[.int .i64 x] w fun e w'=>e= .returned (.bool (farV x))∧∃q,w'=w.drewN q:=by
  unfold farV;by_cases h1:x< -1048576
  · have d1 : decide (x < -1048576) = true := decide_eq_true h1
    go_enter Tryz.func135,Tryz.ntmps135;go_wp2;go_ret;exact⟨by simp[d1],0,rfl⟩
  have d1:decide (x< -1048576)=false:=decide_eq_false h1;go_enter Tryz.func135,Tryz.ntmps135;go_wp2;go_ret;exact⟨by simp[d1],0,rfl⟩
def oddU (x:Int):Bool:=x !=1 && x != -1
theorem oddPred (x:Int) (w:World):Calls Tryz.prog 128 #[.int .i64 x] w fun e w'=>e= .returned (.bool (oddU x))∧∃q,w'=w.drewN q:=by
  unfold oddU;by_cases h1:x=1
  · subst h1
    go_enter Tryz.func128,Tryz.ntmps128;go_wp2;go_ret;exact⟨by simp,0,rfl⟩
  have d1:decide (x=1)=false:=decide_eq_false h1;go_enter Tryz.func128,Tryz.ntmps128;go_wp2;go_ret;exact⟨by simp[d1],0,rfl⟩
def awayV (n:Nat) (x:Int):Bool:=decide (x<0)||decide ((n:Int)≤x)
theorem awayPred (x:Int) (bd:Nat) (A0:Option Addr) (n c0:Nat) (w:World) (hd:w.cell? ⟨bd,0,none⟩=some (.slice A0 n c0)):Calls Tryz.prog 108 #[.int .i64 x,.pointer (some ⟨bd,0,none⟩)] w fun e w'=>e= .returned (.bool (awayV n x))∧∃q,w'=w.drewN q:=by
  unfold awayV;by_cases h1:x<0
  · have d1 : decide (x < 0) = true := decide_eq_true h1
    go_enter Tryz.func108,Tryz.ntmps108;go_wp2;go_ret;exact⟨by simp[d1],0,rfl⟩
  have d1:decide (x<0)=false:=decide_eq_false h1;go_enter Tryz.func108,Tryz.ntmps108;go_wp2;go_ret;exact⟨by simp[d1],0,rfl⟩
def rowOk (vars l:List Int):Bool:=decide ((l.length:Int)=(vars.length:Int)) && !(l.any farV)
theorem row_calls (kd : Int) (A1 : Option Addr) (c1 : Nat) (vars : List Int) (v2 : Value) (op rhs : Int) (v5 : Value) (b : Int) (A : Option Addr) (c : Nat) (l : List Int) (w : World) (hr : Kd.C (Kd.int .i64) w A l.length l) (hc : l.length ≤ c) (hv2 : v2.oneCell' = true) (hv5 : v5.oneCell' = true) :
    Calls Tryz.prog 126 #[.agg #[.int .i64 kd,.slice A1 vars.length c1,v2,.int .i64 op,.int .i64 rhs,v5,.int .i64 b],.slice A l.length c] w fun e w'=>e= .returned (.bool (rowOk vars l))∧Below w.heap.size w w':=by
  have hb0:Below w.heap.size w (w.alloc (.cells #[.int .i64 kd,.slice A1 vars.length c1,v2,.int .i64 op,.int .i64 rhs,v5,.int .i64 b] 36)):=Zbi (Below.refl _ _) _;have cC:=fun(W:World) (hW:Below w.heap.size w W)=>Zeu farV 135 #[] (enters_of Tryz.func135 (by kernel_rfl) rfl) A c l W (Kd.Zac hr hW) (fun k _ q=>rowPred _ _)
  have CC:=Za.mk cC;clear cC;unfold rowOk;by_cases hl:(l.length:Int)=(vars.length:Int);rotate_left
  · have d1 : decide ((l.length : Int) = (vars.length : Int)) = false := decide_eq_false hl
    have d2:((l.length:Int)==(vars.length:Int))=false:=d1;go_enter Tryz.func126,Tryz.ntmps126;go_wp2;go_ret;exact⟨by simp[d1],hb0⟩
  have d1:decide ((l.length:Int)=(vars.length:Int))=true:=decide_eq_true hl;have d2:((l.length:Int)==(vars.length:Int))=true:=d1;go_enter Tryz.func126,Tryz.ntmps126
  go_wp2_with (go_at_call 109;go_loud (refine(CC.out _ (Zbi (Below.refl _ _) _)).mono ?_;rintro e w' ⟨rfl,q,rfl⟩))
  go_ret;exact⟨by simp[d1],Zcb hb0 _⟩
structure ConAt (W : World) (bd bc : Nat) (A0 : Option Addr) (c0 : Nat) (l0 : List (List S82)) (kd : Int) (A1 : Option Addr) (c1 : Nat) (vars : List Int) (A2 : Option Addr) (c2 : Nat) (coefs : List Int) (op rhs : Int) (A5 : Option Addr) (c5 : Nat) (rows : List (List Int)) (b : Int) : Prop where
  ed:W.cell? ⟨bd,0,none⟩=some (.slice A0 l0.length c0)
  k0:W.cell? ⟨bc,0,none⟩=some (.int .i64 kd)
  k1:W.cell? ⟨bc,1,none⟩=some (.slice A1 vars.length c1)
  k2:W.cell? ⟨bc,2,none⟩=some (.slice A2 coefs.length c2)
  k3:W.cell? ⟨bc,3,none⟩=some (.int .i64 op)
  k4:W.cell? ⟨bc,4,none⟩=some (.int .i64 rhs)
  k5:W.cell? ⟨bc,5,none⟩=some (.slice A5 rows.length c5)
  k6:W.cell? ⟨bc,6,none⟩=some (.int .i64 b)
  rd:Kd.C (Kd.slice 82 k82) W A0 l0.length l0
  r1:Kd.C (Kd.int .i64) W A1 vars.length vars
  r2:Kd.C (Kd.int .i64) W A2 coefs.length coefs
  r5:Kd.C (Kd.slice 3 (Kd.int .i64)) W A5 rows.length rows
  hd:l0.length≤c0
  h1:vars.length≤c1
  h2:coefs.length≤c2
  h5:rows.length≤c5
theorem ConAt.below {W W' : World} {bd bc : Nat} {A0 : Option Addr} {c0 : Nat} {l0 : List (List S82)} {kd : Int} {A1 : Option Addr} {c1 : Nat} {vars : List Int} {A2 : Option Addr} {c2 : Nat} {coefs : List Int} {op rhs : Int} {A5 : Option Addr} {c5 : Nat} {rows : List (List Int)} {b : Int}
    (h:ConAt W bd bc A0 c0 l0 kd A1 c1 vars A2 c2 coefs op rhs A5 c5 rows b) (hb:Below W.heap.size W W'):ConAt W' bd bc A0 c0 l0 kd A1 c1 vars A2 c2 coefs op rhs A5 c5 rows b:=
  ⟨cellB hb h.ed,cellB hb h.k0,cellB hb h.k1,cellB hb h.k2,cellB hb h.k3,cellB hb h.k4,cellB hb h.k5,cellB hb h.k6,Kd.Zac h.rd hb,Kd.Zac h.r1 hb,Kd.Zac h.r2 hb,Kd.Zac h.r5 hb,h.hd,h.h1,h.h2,h.h5⟩
section
variable {bd bc:Nat} {A0:Option Addr} {c0:Nat} {l0:List (List S82)} {kd:Int} {A1:Option Addr} {c1:Nat} {vars:List Int} {A2:Option Addr} {c2:Nat} {coefs:List Int} {op rhs:Int} {A5:Option Addr} {c5:Nat} {rows:List (List Int)} {b:Int}
theorem rowBad (W : World) (h : ConAt W bd bc A0 c0 l0 kd A1 c1 vars A2 c2 coefs op rhs A5 c5 rows b) (A : Option Addr) (c : Nat) (l : List Int) (hr : Kd.C (Kd.int .i64) W A l.length l) (hc : l.length ≤ c) :
    Calls Tryz.prog 125 #[.slice A l.length c,.pointer (some ⟨bc,0,none⟩)] W fun e w'=>e= .returned (.bool (!rowOk vars l))∧Below W.heap.size W w':=by
  have cR:=fun(w:World) (hw:Below W.heap.size W w)=>row_calls kd A1 c1 vars (.slice A2 coefs.length c2) op rhs (.slice A5 rows.length c5) b A c l w (Kd.Zac hr hw) hc rfl rfl
  have CR:=Za.mk cR;have k0:=h.k0;have k1:=h.k1;have k2:=h.k2;have k3:=h.k3;have k4:=h.k4;have k5:=h.k5;have k6:=h.k6;clear cR h
  generalize rowOk vars l=rk at CR ⊢
  obtain⟨wo,rfl⟩:∃wo:World,wo=W:=⟨_,rfl⟩;go_enter Tryz.func125,Tryz.ntmps125
  go_wp2_with (go_at_call 126;go_loud (refine(CR.out _ ?hB).mono ?_;(case hB=>first|exact Below.refl _ _|exact Zcb (Below.refl _ _) _|exact Zd6 (Below.refl _ _));rintro e w' ⟨rfl,hb⟩))
  go_ret;exact⟨rfl,hb⟩
def truthsL (k : Nat) (l0 : List (List S82)) : List Int → Option (List Bool)
  | [] => some []
  |v::vs=>if 0≤v∧v<(l0.length:Int)then(Zct.f k (l0.getD v.toNat [])).bind fun t=>(truthsL k l0 vs).bind fun ts=>some (t::ts)else none
theorem Zhq (k : Nat) (l0 : List (List S82)) : ∀ (l : List Int) (ts : List Bool), truthsL k l0 l = some ts → ts.length = l.length ∧ ∀ i (h : i < l.length), 0 ≤ l[i] ∧ l[i] < (l0.length : Int) ∧ Zct.f k (l0.getD l[i].toNat []) = some (ts.getD i false)
  | [],ts,h=>by
    obtain rfl:=Option.some.inj h;exact⟨rfl,fun i h=>absurd h (Nat.not_lt_zero _)⟩
  |v::vs,ts,h=>by
    unfold truthsL at h
    split at h
    case isFalse=>cases h
    case isTrue h1=>
      obtain⟨m,hm,h⟩:=Option.bind_eq_some_iff.1 h;obtain⟨ms',hms,h⟩:=Option.bind_eq_some_iff.1 h;obtain rfl:=Option.some.inj h;obtain⟨e,hg⟩:=Zhq k l0 vs ms' hms;refine⟨by simp[e],fun i hi=> ?_⟩
      cases i with
      | zero => exact ⟨h1.1, h1.2, hm⟩
      |succ i=>exact hg i (by simpa using hi)
theorem truthPred (k : Nat) (W : World) (h : ConAt W bd bc A0 c0 l0 kd A1 c1 vars A2 c2 coefs op rhs A5 c5 rows b) (v : Int) (hv0 : 0 ≤ v) (hv1 : v < (l0.length : Int)) (t : Bool) (ht : Zct.f k (l0.getD v.toNat []) = some t) :
    Calls Tryz.prog 120 #[.int .i64 v,.pointer (some ⟨bd,0,none⟩)] W fun e w'=>e= .returned (.bool (!t))∧Below W.heap.size W w':=by
  have ed:=h.ed;obtain⟨ad,A6,c6,rfl,hx,hl,hi⟩:=Zfv h.rd v hv0 hv1;have cT:=fun(w:World) (hw:Below W.heap.size W w)=>Zct.calls k A6 c6 (Zdo l0 v) t w (Kd.Zac hi hw) hl ht
  have CT:=Za.mk cT;have p1:decide (0≤v)=true:=decide_eq_true hv0;have p2:decide (v<(l0.length:Int))=true:=decide_eq_true hv1;clear cT h hl hi ht;obtain⟨wo,rfl⟩:∃wo:World,wo=W:=⟨_,rfl⟩;go_enter Tryz.func120,Tryz.ntmps120
  go_wp2_with (go_at_call 121;go_loud (refine(CT.out _ ?hB).mono ?_;(case hB=>first|exact Below.refl _ _|exact Zcb (Below.refl _ _) _|exact Zd6 (Below.refl _ _));rintro e w' ⟨rfl,hb⟩))
  go_ret;exact⟨rfl,hb⟩
end
end Go.Proofs.YtdpieallpbllkaaGreat.P
/- Facts of a world, at a world that an alloc or a draw has moved: told by the class 'Mv', so that the texts stay short. -/
namespace Go.Proofs.YtdpieallpbllkaaGreat.P
open Go.RowKit Go.Proofs.YtdpieallpbllkaaGreatW.PrintWords Go.Proofs.YtdpieallpbllkaaGreatW.PrintLast Go.Proofs.YtdpieallpbllkaaGreatW.PrintMore
class Mv (w w' : World) : Prop where
  out:Below w.heap.size w w'
instance (w:World):Mv w w:=⟨Below.refl _ _⟩
instance (w w':World) [h:Mv w w']:Mv w w'.drew:=⟨Zae h.out (Zd6 (Below.refl _ _))⟩
instance (w w':World) (n:Nat) [h:Mv w w']:Mv w (w'.drewN n):=⟨Zae h.out (Zcb (Below.refl _ _) n)⟩
instance (w w':World) (o:Obj) [h:Mv w w']:Mv w (w'.alloc o):=⟨Zae h.out (Zbi (Below.refl _ _) o)⟩
section
variable {α:Type} {d:Kd α} {e base:Nat} {ok:Nat→Prop} {w w' W:World} {v:Value} {xs:List α}
theorem mvB [m:Mv w w'] (h:Below W.heap.size W w):Below W.heap.size W w':=Zae h m.out
theorem mvK {g:Nat} {o:Obj} [m:Mv w w'] (h:w.heap[g]? =some o):w'.heap[g]? =some o:=Zci h m.out
theorem fatR1 {g:Nat} {i0:Nat} {u0:Value} (hm:d.R e w base (fun k=>ok k∧k≠g) v xs):d.R e (w.setCell ⟨g,i0,none⟩ u0) base ok v xs:=Kd.Za6 (Kd.Zbv (p:=⟨g,i0,none⟩) hm (fun _ hk=>hk.2) u0) (fun _ h=>h.1)
theorem farR1 {g:Nat} {i0:Nat} {u0:Value} (h:d.R e w base ok v xs) (hok:∀k,ok k→k≠g):d.R e (w.setCell ⟨g,i0,none⟩ u0) base ok v xs:=fatR1 (Kd.Za6 h fun k hk=>⟨hk,hok k hk⟩)
end
end Go.Proofs.YtdpieallpbllkaaGreat.P
namespace Go.Proofs.YtdpieallpbllkaaGreat.P
open Go.RowKit Go.Proofs.YtdpieallpbllkaaGreatW.PrintWords Go.Proofs.YtdpieallpbllkaaGreatW.PrintLast Go.Proofs.YtdpieallpbllkaaGreatW.PrintMore
attribute [local go_sem] Zcw Zcy Zdg Zdh Zco Zcp Zcx Zcz
def slices_Index_int.l0 : Nat → List Int → Int → Int → Int → Option (Int)
 | 0, _, _, _, _ => none
 |k+1,x0,x1,x7,x8=>if x8<x7 then(if 0≤x8 then(if x8<(x0.length:Int)then(if x1=(rd x0 x8)then(some x8)else(slices_Index_int.l0 k x0 x1 x7 (wrap64 (x8+1))))else(none))else(none))else(some (-1))
def slices_Index_int.f (k:Nat) (l0:List Int) (a1:Int):Option (Int):=slices_Index_int.l0 k l0 a1 (l0.length:Int) 0
theorem slices_Index_int.Zc9 : ∀ k, (∀ y0 y1 y2 y3, LeO (slices_Index_int.l0 k y0 y1 y2 y3) (slices_Index_int.l0 (k + 1) y0 y1 y2 y3))
 | 0 => fun _ _ _ _ r h => by simp [slices_Index_int.l0] at h
 |k+1=>by
  have ih0:=slices_Index_int.Zc9 k;intro y0 y1 y2 y3;unfold slices_Index_int.l0
  repeat' first
  | (with_reducible exact ih0 _ _ _ _)
  | (with_reducible exact LeO.refl _)
  | (with_reducible exact LeO.none _)
  | (with_reducible refine LeO.ite ?_ ?_)
  |(with_reducible refine LeO.bind ?_ (fun _=> ?_))
theorem slices_Index_int.mono:∀a0 a1 k,LeO (slices_Index_int.f k a0 a1) (slices_Index_int.f (k+1) a0 a1):=by
 intro a0 a1 k;have ih0:=slices_Index_int.Zc9 k;unfold slices_Index_int.f
 repeat' first
   | (with_reducible exact ih0 _ _ _ _)
   | (with_reducible exact LeO.refl _)
   | (with_reducible exact LeO.none _)
   | (with_reducible refine LeO.ite ?_ ?_)
   |(with_reducible refine LeO.bind ?_ (fun _=> ?_))
set_option maxRecDepth 100000 in
theorem slices_Index_int.calls (k : Nat) (A0 : Option Addr) (c0 : Nat) (l0 : List Int) (a1 : Int) (r : Int) (w : World) (hr0 : Kd.C (Kd.int .i64) w A0 l0.length l0) (hc0 : l0.length ≤ c0) (h : slices_Index_int.f k l0 a1 = some r) :
  Calls Tryz.prog 136 #[.slice A0 l0.length c0,.int .i64 a1] w fun e w'=>e= .returned (.int .i64 r)∧Zav w w':=by
 have HR0:=Za.mk hr0;have HC0:=Za.mk hc0;clear hr0 hc0;have H:(slices_Index_int.l0 k l0 a1 (l0.length:Int) 0)=some r:=h;clear h;have H':=Za.mk H;clear H;go_enter Tryz.func136,Tryz.ntmps136;go_wp2
 go_loopg [8] k (fun kq v8 w'=>∃(fu:Int),v8= .int .i64 fu∧Za (slices_Index_int.l0 kq l0 a1 (l0.length:Int) fu=some r)∧Za (kq≤k)∧Zav w w')
 case atStart=>exact⟨(0),eS,H',⟨Nat.le_refl _⟩,by repeat(first|exact Zav.refl _|apply Zav.step)⟩
 case round=>
  clear H';try clear c1
  try clear p2
  obtain⟨fu,rfl,HA,HK1,⟨m1,rfl⟩⟩:=hrel
  cases gk with
  | zero => exact absurd HA.out (by simp [slices_Index_int.l0])
  |succ k1=>
   have H:=HA.out;clear HA;simp only[slices_Index_int.l0]at H;by_cases c3:fu<(l0.length:Int)
   case neg=>
    rw[if_neg c3]at H;have fB:decide (fu<(l0.length:Int))=false:=decide_eq_false c3;clear c3;obtain rfl:=sj H;go_wp2;go_ret;exact⟨eS,by repeat(first|exact Zav.refl _|apply Zav.step)⟩
   rw[if_pos c3]at H;have fB:decide (fu<(l0.length:Int))=true:=decide_eq_true c3;clear c3;obtain⟨dC,H⟩:=ifT H;obtain⟨dw,H⟩:=ifT H;by_cases c6:a1=(rd l0 fu)
   case pos=>
    rw[if_pos c6]at H;have iF:(a1==(rd l0 fu))=true:=beq_iff_eq.mpr c6;have sJ:(a1 !=(rd l0 fu))=false:=bne_eq_false_iff_eq.mpr c6;clear c6;obtain rfl:=sj H;have zY:0≤(fu:Int):=odt;have Aw:fu<(l0.length:Int):=odt;obtain⟨XL,rfl,Ue⟩:=Kd.Zb1 HR0.out fu zY Aw;replace zY:=eq_true zY;replace Aw:=eq_true Aw;go_wp2;go_ret;exact⟨eS,by repeat(first|exact Zav.refl _|apply Zav.step)⟩
   rw[if_neg c6]at H;have iF:(a1==(rd l0 fu))=false:=beq_eq_false_iff_ne.mpr c6;have sJ:(a1 !=(rd l0 fu))=true:=bne_iff_ne.mpr c6;have H':=Za.mk H;clear H;have zY:0≤(fu:Int):=odt;have Aw:fu<(l0.length:Int):=odt;obtain⟨XL,rfl,Ue⟩:=Kd.Zb1 HR0.out fu zY Aw;replace zY:=eq_true zY;replace Aw:=eq_true Aw;go_wp2
   go_roundg k1
   case measure=>have:=HK1.out;omega
   case rel=>exact⟨(wrap64 (fu+1)),eS,H',⟨by have:=HK1.out;omega⟩,by repeat(first|exact Zav.refl _|apply Zav.step)⟩
def slices_Contains_int.f (k:Nat) (l0:List Int) (a1:Int):Option (Bool):=(slices_Index_int.f k l0 a1).bind fun I1=>(some (decide (I1≥0)))
theorem slices_Contains_int.mono:∀a0 a1 k,LeO (slices_Contains_int.f k a0 a1) (slices_Contains_int.f (k+1) a0 a1):=by
 intro a0 a1 k;unfold slices_Contains_int.f
 repeat' first
   | (with_reducible exact slices_Index_int.mono _ _ _)
   | (with_reducible exact LeO.refl _)
   | (with_reducible exact LeO.none _)
   | (with_reducible refine LeO.ite ?_ ?_)
   |(with_reducible refine LeO.bind ?_ (fun _=> ?_))
set_option maxRecDepth 100000 in
theorem slices_Contains_int.calls (k : Nat) (A0 : Option Addr) (c0 : Nat) (l0 : List Int) (a1 : Int) (r : Bool) (w : World) (hr0 : Kd.C (Kd.int .i64) w A0 l0.length l0) (hc0 : l0.length ≤ c0) (h : slices_Contains_int.f k l0 a1 = some r) :
  Calls Tryz.prog 127 #[.slice A0 l0.length c0,.int .i64 a1] w fun e w'=>e= .returned (.bool r)∧Zav w w':=by
 have HR0:=Za.mk hr0;have HC0:=Za.mk hc0;clear hr0 hc0;have H:((slices_Index_int.f k l0 a1).bind fun I1=>(some (decide (I1≥0))))=some r:=h;clear h;obtain⟨I1,A3,H⟩:=bnd H;try dsimp only at H
 obtain rfl:=sj H;go_enter Tryz.func127,Tryz.ntmps127
 go_wp2_with (first|((with_reducible refine Zal (f:=136) rfl ?_);refine gl 7 Tryz.func136 #[.slice A0 l0.length c0,.int .i64 a1] ?_;(with_reducible refine(slices_Index_int.calls k _ _ l0 a1 I1 _ (cM HR0.out) HC0.out A3.out).mono ?_);rintro e w' ⟨rfl,⟨nd,rfl⟩⟩;refine⟨_,rfl,?_⟩))
 go_ret;exact⟨eS,by repeat(first|exact Zav.refl _|apply Zav.step)⟩
end Go.Proofs.YtdpieallpbllkaaGreat.P
/- slices.Sort and slices.Compact over whole numbers in a row of one's own: each once, rising. -/
namespace Go.Proofs.YtdpieallpbllkaaGreat.P
open Go.RowKit Go.Shelf Go.Lib Go.Proofs.YtdpieallpbllkaaGreatW.PrintWords Go.Proofs.YtdpieallpbllkaaGreatW.PrintLast Go.Proofs.YtdpieallpbllkaaGreatW.PrintMore
theorem compact_ss (d:Array Int) (hs:∀i j,i≤j→j<d.size→d[i]! ≤d[j]!):SS (compactUpTo d d.size):=by
  unfold compactUpTo;refine List.Pairwise.map _ (fun a b h=>h) ?_;have h1:List.Pairwise (fun a b:Nat=>a<b) ((List.range d.size).filter (keeps d)):=List.Pairwise.filter _ List.pairwise_lt_range;refine(List.pairwise_iff_forall_sublist.2 fun {a b} hab=> ?_);have hlt:a<b:=List.pairwise_iff_forall_sublist.1 h1 hab;have hb:b ∈ (List.range d.size).filter (keeps d):=hab.subset (by simp);obtain⟨hb1,hb2⟩:=List.mem_filter.1 hb;have hbs:b<d.size:=List.mem_range.1 hb1
  have hne:d[b]! ≠d[b - 1]! :=by
    unfold keeps at hb2;exact(of_decide_eq_true hb2).resolve_left (by omega)
  have h2:=hs (b - 1) b (by omega) hbs;have h3:=hs a (b - 1) (by omega) (by omega)
  show d[a]! <d[b]!
  omega
theorem compact_mem (d:Array Int) (x:Int):x ∈ compactUpTo d d.size↔∃j,j<d.size∧d[j]! =x:=by
  unfold compactUpTo
  constructor
  · intro h
    obtain⟨j,hj,rfl⟩:=List.mem_map.1 h;exact⟨j,List.mem_range.1 (List.mem_filter.1 hj).1,rfl⟩
  rintro⟨j,hj,rfl⟩
  induction j with
  | zero => exact List.mem_map.2 ⟨0, List.mem_filter.2 ⟨List.mem_range.2 hj, by simp [keeps]⟩, rfl⟩
  |succ j ih=>
    by_cases hk:keeps d (j+1)=true
    · exact List.mem_map.2 ⟨j+1,List.mem_filter.2 ⟨List.mem_range.2 hj,hk⟩,rfl⟩
    have e:d[j+1]! =d[j]! :=by
      unfold keeps at hk
      simpa using hk
    rw[e];exact ih (by omega)
theorem Zfz (l:List Int):compact (sortI l)=sd l:=by
  have hle:∀i j,i≤j→j<(sortI l).toArray.size→(sortI l).toArray[i]! ≤(sortI l).toArray[j]! :=fun i j hij hj=>by
    have hj':j<(sortI l).length:=by simpa using hj
    rw[getElem!_pos _ i (by simp;omega),getElem!_pos _ j (by simpa using hj)]
    rcases Nat.lt_or_eq_of_le hij with h|rfl
    · exact List.pairwise_iff_getElem.1 (sortI_le l) i j (by omega) hj' h
    exact Int.le_refl _
  have e:compact (sortI l)=compactUpTo (sortI l).toArray (sortI l).toArray.size:=by simp[compact]
  rw[e];refine(sd_eq (compact_ss _ hle) (fun x=>(compact_mem _ x).trans ?_)).symm;rw[←(Zfj l).mem_iff,List.mem_iff_getElem]
  constructor
  · rintro ⟨j, hj, rfl⟩
    exact⟨j,by simpa using hj,by rw[getElem!_pos _ j hj];simp⟩
  rintro⟨j,hj,rfl⟩;exact⟨j,by simpa using hj,by rw[getElem!_pos _ j (by simpa using hj)];simp⟩
theorem compact_len (xs:List Int):(compact xs).length≤xs.length:=by
  have:=List.length_filter_le (keeps xs.toArray) (List.range xs.length)
  simpa[compact,compactUpTo] using this
theorem compact_int (v : Value) (xs : List Int) (w0 w : World) (hS : w0.heap.size ≤ w.heap.size) (hlen : xs.length < 4611686018427387904) (hrow : w.ownsRow w0.heap.size 3 1 v xs.length (xs.map (Value.int .i64))) (hB : Below w0.heap.size w0 w) :
    Calls Tryz.prog 34 #[v] w fun e w'=>∃(A:Option Addr) (c:Nat),e= .returned (.slice A (compact xs).length c)∧(compact xs).length≤c∧Kd.C (Kd.int .i64) w' A (compact xs).length (compact xs)∧Below w0.heap.size w0 w':=by
  rcases hrow.2 with ⟨rfl,h0⟩|⟨g,cap,cur,rfl,hg,hb,hn,hcap,hsz,htk⟩
  · have hx : xs = [] := List.length_eq_zero_iff.1 h0
    subst hx;refine(AnyG.slices_Compact_int_empty lcompact none 0 w).mono ?_;rintro e w' ⟨rfl,rfl⟩;exact⟨none,0,rfl,Nat.le_refl _,Kd.Zgq _ _,hB⟩
  have hlt:g<w.heap.size:=(Array.getElem?_eq_some_iff.1 hb).1;have hH:Sort.Holds (Value.int .i64) w g 0 xs.toArray:=holds_of_blockI hb (by simpa using htk);refine(AnyG.slices_Compact_int lcompact g 0 cap xs w hH (by omega) hn).mono ?_;rintro e w' ⟨rfl,q,rfl⟩;have hcl:=compact_len xs;refine⟨_,_,rfl,by omega,⟨rfl,by omega,fun _=>⟨_,rfl,fun j p hj=>⟨[.int .i64 p],rfl,rfl,fun i u hi=> ?_⟩⟩⟩,?_⟩
  · have hj' : j < (compact xs).length := (List.getElem?_eq_some_iff.1 hj).1
    obtain⟨rfl,rfl⟩:i=0∧u= .int .i64 p:=by
      cases i with
      | zero => simpa using hi.symm
      |succ i=>simp at hi
    have:=(Sort.holds_putRow (Value.int .i64) (Sort.ahead w q) g 0 xs.toArray (compact xs++List.replicate (xs.length - (compact xs).length) 0).toArray (Sort.holds_ahead _ _ _ _ _ _ hH) (by simp;omega) j (by simp;omega)).1;rw[getElem!_pos _ j (by simp;omega)]at this;simp only[List.getElem_toArray]at this;rw[List.getElem_append_left hj',(List.getElem?_eq_some_iff.1 hj).2]at this;rw[Addr.add_lit,show(Kd.int .i64).sz=1 from rfl]
    simpa using this
  have hgr:w.grownBy (Sort.putRow (Value.int .i64) (Sort.ahead w q) g 0 (compact xs++List.replicate (xs.length - (compact xs).length) 0).toArray) (some g):=by
    refine⟨rfl,rfl,rfl,by simp[Sort.size_putRow,Sort.ahead],fun k hk hne=> ?_⟩;have:g≠k:=fun e=>hne (by rw[e])
    simp[Sort.putRow,Sort.mapBlock,Sort.ahead,Array.getElem?_modify,this]
  exact hB.grown hgr hS (fun k e=>by cases e;exact hg)
end Go.Proofs.YtdpieallpbllkaaGreat.P
/- model.all: are numbers all others? -/
namespace Go.Proofs.YtdpieallpbllkaaGreat.P
open Go.RowKit Go.Shelf Go.Proofs.YtdpieallpbllkaaGreatW.PrintWords Go.Proofs.YtdpieallpbllkaaGreatW.PrintLast Go.Proofs.YtdpieallpbllkaaGreatW.PrintMore
def Zdp.f (l0:List Int):Option Bool:=if 1000000<l0.length then none else some (decide (((sd l0).length:Int)=(l0.length:Int)))
theorem row_ofA (W:World) (base:Nat) (v:Value) (xs:List Int) {n:Nat} (hn:xs.length=n) (h:W.ownsRow base 3 1 v n (xs.map (Value.int .i64))):W.ownsRow base 3 1 v xs.length (xs.map (Value.int .i64)):=by
  subst hn;exact h
set_option maxRecDepth 100000 in
theorem Zdp.calls (A0 : Option Addr) (c0 : Nat) (l0 : List Int) (r : Bool) (w : World) (hr0 : Kd.C (Kd.int .i64) w A0 l0.length l0) (hc0 : l0.length ≤ c0) (h : Zdp.f l0 = some r) :
    Calls Tryz.prog 124 #[.slice A0 l0.length c0] w fun e w'=>e= .returned (.bool r)∧Below w.heap.size w w':=by
  have HR:=Za.mk hr0;clear hr0;have hlen:l0.length≤9223372036854775807:=HR.out.2.1;have cV:=fun(W:World)=>callsIn_wide.1 (values_in Fence.wide 9 trivial rfl A0 l0.length c0 W)
  unfold Zdp.f at h;by_cases hbig:1000000<l0.length
  · rw[if_pos hbig]at h;cases h
  rw[if_neg hbig]at h;obtain rfl:=Option.some.inj h;clear h;have hsz:∀q,(w.drewN q).heap.size=w.heap.size:=fun q=>by simp
  have cS := fun (q : Nat) => sorted_calls 139 #[.pointer (some ⟨w.heap.size, 0, none⟩)] (enters_of Tryz.func139 (by kernel_rfl) rfl) w.heap.size _ _ l0.length (by omega) (fun xs e => by rw [e]; exact Nat.le_refl _)
    ((w.drewN q).alloc (.cells #[.slice A0 l0.length c0] 24)) ((w.drewN q).alloc (.cells #[.slice A0 l0.length c0] 24)) (Below.refl _ _) (by simp)
    (values_stops Fence.wide 7 trivial rfl (by omega) w.heap.size w _ A0 c0 l0 HR.out (by simp) ((Zcb (Below.refl _ w) q).alloc (by simp) _) (by have:=(Boxed.new (w.drewN q) 24 (.slice A0 l0.length c0)).cell;rwa [hsz]at this))
  have cC:=fun(v:Value) (w0 W:World) (h1:w0.heap.size≤W.heap.size) (h2:W.ownsRow w0.heap.size 3 1 v (sortI l0).length ((sortI l0).map (Value.int .i64))) (h3:Below w0.heap.size w0 W)=>compact_int v (sortI l0) w0 W h1 (by rw[Zee];omega) h2 h3
  have hsl:=Za.mk (Zee l0);have hcs:=Za.mk (Zfz l0);go_enter Tryz.func124,Tryz.ntmps124
  go_wp2_with (first|(go_at_call 134;refine(cV _).mono ?_;rintro e w' ⟨rfl,rfl⟩)|(go_at_call 133;go_loud (refine(cS 0).mono ?_;rintro e W1 ⟨v,xs,rfl,rfl,hrow,hb⟩))|(go_at_call 34;go_loud (refine(cC _ _ _ hb.size (row_ofA _ _ _ _ hsl.out hrow) hb).mono ?_;rintro e W2 ⟨A1,c1,rfl,hcl,hC1,hb2⟩)))
  go_ret;refine⟨?_,((Zcb (Below.refl _ w) 0).alloc (by simp) _).trans (hb2.mono (by simp))⟩;rw[←hcs.out]
  rfl
end Go.Proofs.YtdpieallpbllkaaGreat.P
namespace Go.Proofs.YtdpieallpbllkaaGreat.P
open Go.RowKit Go.Proofs.YtdpieallpbllkaaGreatW.PrintWords Go.Proofs.YtdpieallpbllkaaGreatW.PrintLast Go.Proofs.YtdpieallpbllkaaGreatW.PrintMore
attribute [local go_sem] Zcw Zcy Zdg Zdh Zco Zcp Zcx Zcz
def Zdi.f (k:Nat) (aU:Int) (aa:List Int) (au:List Int) (aX:Int) (bn:Int) (aI:List (List Int)) (bv:Int):Option (Bool):=if(aa.length:Int)>0 then(if(aa.length:Int)=(au.length:Int)then((Zdp.f aa).bind fun I4=>(if I4=true then((slices_Contains_int.f k au 0).bind fun I5=>(some (!I5)))else(some false)))else(some false))else(some false)
theorem Zdi.mono:∀a0 a1 a2 a3 a4 a5 a6 k,LeO (Zdi.f k a0 a1 a2 a3 a4 a5 a6) (Zdi.f (k+1) a0 a1 a2 a3 a4 a5 a6):=by
 intro a0 a1 a2 a3 a4 a5 a6 k;unfold Zdi.f
 repeat' first
   | (with_reducible exact slices_Contains_int.mono _ _ _)
   | (with_reducible exact LeO.refl _)
   | (with_reducible exact LeO.none _)
   | (with_reducible refine LeO.ite ?_ ?_)
   |(with_reducible refine LeO.bind ?_ (fun _=> ?_))
set_option maxRecDepth 100000 in
theorem Zdi.calls (k : Nat) (aU : Int) (aV : Option Addr) (aQ : Nat) (aa : List Int) (dx : Option Addr) (dz : Nat) (au : List Int) (aX : Int) (bn : Int) (dR : Option Addr) (dP : Nat) (aI : List (List Int)) (bv : Int) (r : Bool) (w : World) (eu : Kd.C (Kd.int .i64) w aV aa.length aa) (ek : aa.length ≤ aQ) (ig : Kd.C (Kd.int .i64) w dx au.length au) (ic : au.length ≤ dz) (iY : Kd.C (Kd.slice 3 (Kd.int .i64)) w dR aI.length aI) (iX : aI.length ≤ dP) (h : Zdi.f k aU aa au aX bn aI bv = some r) :
  Calls Tryz.prog 129 #[.agg #[.int .i64 aU,.slice aV aa.length aQ,.slice dx au.length dz,.int .i64 aX,.int .i64 bn,.slice dR aI.length dP,.int .i64 bv]] w fun e w'=>e= .returned (.bool r)∧Below w.heap.size w w':=by
 have hu36:=Tryz.underlying36;have eO:=Za.mk eu;have fC:=Za.mk ek;clear eu ek;have j4:=Za.mk ig;have jL:=Za.mk ic;clear ig ic;have j5:=Za.mk iY;have pJ:=Za.mk iX;clear iY iX;have HB:=Za.mk (Below.refl w.heap.size w);have H:(if(aa.length:Int)>0 then(if(aa.length:Int)=(au.length:Int)then((Zdp.f aa).bind fun I4=>(if I4=true then((slices_Contains_int.f k au 0).bind fun I5=>(some (!I5)))else(some false)))else(some false))else(some false))=some r:=h;clear h;by_cases c2:(aa.length:Int)>0
 case neg=>
  rw[if_neg c2]at H;have jC:decide (0<(aa.length:Int))=false:=decide_eq_false c2;have Oi:decide (0<aa.length)=false:=decide_eq_false (by omega);clear c2;obtain rfl:=sj H;go_enter Tryz.func129,Tryz.ntmps129
  go_wp2_with (first|((with_reducible refine Zar (N:=1) rfl ?_);(try(refine Zb2 (by rfl) ?_;dsimp only));refine bx 1 #[.int .i64 aU,.slice aV aa.length aQ,.slice dx au.length dz,.int .i64 aX,.int .i64 bn,.slice dR aI.length dP,.int .i64 bv] 36 ?_;intro wY hg w16 hbox hb;have pG:=Za.mk (hbox);have Kr:=Za.mk ((gE hg HB.out:w.heap.size≤wY));replace HB:=Za.mk (bS HB.out hb);clear hb hbox hg;obtain⟨EB,EC,Na,Sw,Sy,Sz,S9,Es,Et,M3,R8,R9,RA,RB⟩:=cz7 pG.out))
  go_ret;exact⟨eR,bM HB.out⟩
 rw[if_pos c2]at H;have jC:decide (0<(aa.length:Int))=true:=decide_eq_true c2;have Oi:decide (0<aa.length)=true:=decide_eq_true (by omega);clear c2;by_cases c3:(aa.length:Int)=(au.length:Int)
 case neg=>
  rw[if_neg c3]at H;have fB:((aa.length:Int)==(au.length:Int))=false:=beq_eq_false_iff_ne.mpr c3;have jY:((aa.length:Int) !=(au.length:Int))=true:=bne_iff_ne.mpr c3;have qD:(aa.length==au.length)=false:=by first|simpa using c3|(simp at c3 ⊢;omega)
  obtain rfl:=sj H;go_enter Tryz.func129,Tryz.ntmps129
  go_wp2_with (first|((with_reducible refine Zar (N:=1) rfl ?_);(try(refine Zb2 (by rfl) ?_;dsimp only));refine bx 1 #[.int .i64 aU,.slice aV aa.length aQ,.slice dx au.length dz,.int .i64 aX,.int .i64 bn,.slice dR aI.length dP,.int .i64 bv] 36 ?_;intro wY hg w14 hbox hb;have pG:=Za.mk (hbox);have Kr:=Za.mk ((gE hg HB.out:w.heap.size≤wY));replace HB:=Za.mk (bS HB.out hb);clear hb hbox hg;obtain⟨rF,rG,rH,uC,uD,Ey,Ez,rC,rD,rE,uy,uz,El,Em⟩:=cz7 pG.out))
  go_ret;exact⟨eR,bM HB.out⟩
 rw[if_pos c3]at H;have fB:((aa.length:Int)==(au.length:Int))=true:=beq_iff_eq.mpr c3;have jY:((aa.length:Int) !=(au.length:Int))=false:=bne_eq_false_iff_eq.mpr c3;have qD:(aa.length==au.length)=true:=by first|simpa using c3|(simp at c3 ⊢;omega)
 clear c3;obtain⟨I4,A4,H⟩:=bnd H;try dsimp only at H
 by_cases c5:I4=true
 case neg=>
  replace c5:=Bool.eq_false_iff.mpr c5;subst c5;replace H:=ifF H;obtain rfl:=sj H;go_enter Tryz.func129,Tryz.ntmps129
  go_wp2_with (first|((with_reducible refine Zar (N:=1) rfl ?_);(try(refine Zb2 (by rfl) ?_;dsimp only));refine bx 1 #[.int .i64 aU,.slice aV aa.length aQ,.slice dx au.length dz,.int .i64 aX,.int .i64 bn,.slice dR aI.length dP,.int .i64 bv] 36 ?_;intro wY hg w11 hbox hb;have pG:=Za.mk (hbox);have Kr:=Za.mk ((gE hg HB.out:w.heap.size≤wY));replace HB:=Za.mk (bS HB.out hb);clear hb hbox hg;obtain⟨mV,mW,mX,mY,ng,uA,uB,mO,mP,mQ,mR,mU,uu,uw⟩:=cz7 pG.out)|(go_at_call 124;(with_reducible refine(Zdp.calls _ _ aa false _ (cM (Kd.Zac eO.out HB.out)) fC.out A4.out).mono ?_);rintro e w13 ⟨rfl,hb⟩;replace HB:=Za.mk (bS HB.out hb);clear pG;(try clear hb);(try clear hb2);(try clear hk);(try clear hi)))
  go_ret;exact⟨eR,bM HB.out⟩
 subst c5;rw[if_pos rfl]at H;obtain⟨I5,A6,H⟩:=bnd H;try dsimp only at H
 obtain rfl:=sj H;go_enter Tryz.func129,Tryz.ntmps129
 go_wp2_with (first|((with_reducible refine Zar (N:=1) rfl ?_);(try(refine Zb2 (by rfl) ?_;dsimp only));refine bx 1 #[.int .i64 aU,.slice aV aa.length aQ,.slice dx au.length dz,.int .i64 aX,.int .i64 bn,.slice dR aI.length dP,.int .i64 bv] 36 ?_;intro wY hg w7 hbox hb;have pG:=Za.mk (hbox);have Kr:=Za.mk ((gE hg HB.out:w.heap.size≤wY));replace HB:=Za.mk (bS HB.out hb);clear hb hbox hg;obtain⟨xX,xY,yc,yf,yg,yL,yM,xJ,xK,xL,xM,xN,yJ,yK⟩:=cz7 pG.out)|(go_at_call 124;(with_reducible refine(Zdp.calls _ _ aa true _ (cM (Kd.Zac eO.out HB.out)) fC.out A4.out).mono ?_);rintro e w9 ⟨rfl,hb⟩;replace pG:=Za.mk (kB pG.out hb);replace HB:=Za.mk (bS HB.out hb);(try clear hb);(try clear hb2);(try clear hk);(try clear hi);obtain⟨o9,oC,oD,qf,qg,zz,z8,o6,o7,o8,pY,qc,zo,zq⟩:=cz7 pG.out)|(go_at_call 127;(with_reducible refine(slices_Contains_int.calls k _ _ au 0 I5 _ (cM (Kd.Zac j4.out HB.out)) jL.out A6.out).mono ?_);rintro e w' ⟨rfl,⟨nd,rfl⟩⟩))
 go_ret;exact⟨eR,bM HB.out⟩
def Zdk.f (k:Nat) (aU:Int) (aa:List Int) (au:List Int) (aX:Int) (bn:Int) (aI:List (List Int)) (bv:Int):Option (Bool):=(Zdi.f k aU aa au aX bn aI bv).bind fun I6=>(if I6=true then(if aX≥0 then(some (decide (aX<3)))else(some false))else(some false))
theorem Zdk.mono:∀a0 a1 a2 a3 a4 a5 a6 k,LeO (Zdk.f k a0 a1 a2 a3 a4 a5 a6) (Zdk.f (k+1) a0 a1 a2 a3 a4 a5 a6):=by
 intro a0 a1 a2 a3 a4 a5 a6 k;unfold Zdk.f
 repeat' first
   | (with_reducible exact Zdi.mono _ _ _ _ _ _ _ _)
   | (with_reducible exact LeO.refl _)
   | (with_reducible exact LeO.none _)
   | (with_reducible refine LeO.ite ?_ ?_)
   |(with_reducible refine LeO.bind ?_ (fun _=> ?_))
set_option maxRecDepth 100000 in
theorem Zdk.calls (k : Nat) (aU : Int) (aV : Option Addr) (aQ : Nat) (aa : List Int) (dx : Option Addr) (dz : Nat) (au : List Int) (aX : Int) (bn : Int) (dR : Option Addr) (dP : Nat) (aI : List (List Int)) (bv : Int) (r : Bool) (w : World) (eu : Kd.C (Kd.int .i64) w aV aa.length aa) (ek : aa.length ≤ aQ) (ig : Kd.C (Kd.int .i64) w dx au.length au) (ic : au.length ≤ dz) (iY : Kd.C (Kd.slice 3 (Kd.int .i64)) w dR aI.length aI) (iX : aI.length ≤ dP) (h : Zdk.f k aU aa au aX bn aI bv = some r) :
  Calls Tryz.prog 122 #[.agg #[.int .i64 aU,.slice aV aa.length aQ,.slice dx au.length dz,.int .i64 aX,.int .i64 bn,.slice dR aI.length dP,.int .i64 bv]] w fun e w'=>e= .returned (.bool r)∧Below w.heap.size w w':=by
 have hu36:=Tryz.underlying36;have eO:=Za.mk eu;have fC:=Za.mk ek;clear eu ek;have j4:=Za.mk ig;have jL:=Za.mk ic;clear ig ic;have j5:=Za.mk iY;have pJ:=Za.mk iX;clear iY iX;have HB:=Za.mk (Below.refl w.heap.size w);have H:((Zdi.f k aU aa au aX bn aI bv).bind fun I6=>(if I6=true then(if aX≥0 then(some (decide (aX<3)))else(some false))else(some false)))=some r:=h;clear h;obtain⟨I6,A2,H⟩:=bnd H;try dsimp only at H
 by_cases c3:I6=true
 case neg=>
  replace c3:=Bool.eq_false_iff.mpr c3;subst c3;replace H:=ifF H;obtain rfl:=sj H;go_enter Tryz.func122,Tryz.ntmps122
  go_wp2_with (first|((with_reducible refine Zar (N:=1) rfl ?_);refine bx 1 #[.int .i64 aU,.slice aV aa.length aQ,.slice dx au.length dz,.int .i64 aX,.int .i64 bn,.slice dR aI.length dP,.int .i64 bv] 36 ?_;intro Ct hg w13 hbox hb;have ow:=Za.mk (hbox);have Qo:=Za.mk ((gE hg HB.out:w.heap.size≤Ct));replace HB:=Za.mk (bS HB.out hb);clear hb hbox hg;obtain⟨xO,xP,Ex,Gy,Gz,MW,MX,xz,xA,Ej,Gg,Gh,Mx,M0⟩:=cz7 ow.out)|((with_reducible refine Zal (f:=129) rfl ?_);refine gl 4 Tryz.func129 #[.agg #[.int .i64 aU,.slice aV aa.length aQ,.slice dx au.length dz,.int .i64 aX,.int .i64 bn,.slice dR aI.length dP,.int .i64 bv]] ?_;(with_reducible refine(Zdi.calls k aU _ _ aa _ _ au aX bn _ _ aI bv false _ (cM (Kd.Zac eO.out HB.out)) fC.out (cM (Kd.Zac j4.out HB.out)) jL.out (cM (Kd.Zac j5.out HB.out)) pJ.out A2.out).mono ?_);rintro e w15 ⟨rfl,hb⟩;refine⟨_,rfl,?_⟩;replace HB:=Za.mk (bS HB.out hb);clear ow;(try clear hb);(try clear hb2);(try clear hk);(try clear hi)))
  go_ret;exact⟨eR,bM HB.out⟩
 subst c3;rw[if_pos rfl]at H;by_cases c4:aX≥0
 case neg=>
  rw[if_neg c4]at H;have dC:decide (0≤aX)=false:=decide_eq_false c4;clear c4;obtain rfl:=sj H;go_enter Tryz.func122,Tryz.ntmps122
  go_wp2_with (first|((with_reducible refine Zar (N:=1) rfl ?_);refine bx 1 #[.int .i64 aU,.slice aV aa.length aQ,.slice dx au.length dz,.int .i64 aX,.int .i64 bn,.slice dR aI.length dP,.int .i64 bv] 36 ?_;intro Ct hg w9 hbox hb;have ow:=Za.mk (hbox);have Qo:=Za.mk ((gE hg HB.out:w.heap.size≤Ct));replace HB:=Za.mk (bS HB.out hb);clear hb hbox hg;obtain⟨o9,oC,oD,qf,qg,zz,z8,o6,o7,o8,pY,qc,zo,zq⟩:=cz7 ow.out)|((with_reducible refine Zal (f:=129) rfl ?_);refine gl 4 Tryz.func129 #[.agg #[.int .i64 aU,.slice aV aa.length aQ,.slice dx au.length dz,.int .i64 aX,.int .i64 bn,.slice dR aI.length dP,.int .i64 bv]] ?_;(with_reducible refine(Zdi.calls k aU _ _ aa _ _ au aX bn _ _ aI bv true _ (cM (Kd.Zac eO.out HB.out)) fC.out (cM (Kd.Zac j4.out HB.out)) jL.out (cM (Kd.Zac j5.out HB.out)) pJ.out A2.out).mono ?_);rintro e w11 ⟨rfl,hb⟩;refine⟨_,rfl,?_⟩;replace ow:=Za.mk (kB ow.out hb);replace HB:=Za.mk (bS HB.out hb);(try clear hb);(try clear hb2);(try clear hk);(try clear hi);obtain⟨mV,mW,mX,mY,ng,uA,uB,mO,mP,mQ,mR,mU,uu,uw⟩:=cz7 ow.out))
  go_ret;exact⟨eR,bM HB.out⟩
 rw[if_pos c4]at H;have dC:decide (0≤aX)=true:=decide_eq_true c4;clear c4;obtain rfl:=sj H;go_enter Tryz.func122,Tryz.ntmps122
 go_wp2_with (first|((with_reducible refine Zar (N:=1) rfl ?_);refine bx 1 #[.int .i64 aU,.slice aV aa.length aQ,.slice dx au.length dz,.int .i64 aX,.int .i64 bn,.slice dR aI.length dP,.int .i64 bv] 36 ?_;intro Ct hg w5 hbox hb;have ow:=Za.mk (hbox);have Qo:=Za.mk ((gE hg HB.out:w.heap.size≤Ct));replace HB:=Za.mk (bS HB.out hb);clear hb hbox hg;obtain⟨kY,lc,lG,oo,oq,Fy,Fz,kW,kX,lF,ol,om,Fw,Fx⟩:=cz7 ow.out)|((with_reducible refine Zal (f:=129) rfl ?_);refine gl 4 Tryz.func129 #[.agg #[.int .i64 aU,.slice aV aa.length aQ,.slice dx au.length dz,.int .i64 aX,.int .i64 bn,.slice dR aI.length dP,.int .i64 bv]] ?_;(with_reducible refine(Zdi.calls k aU _ _ aa _ _ au aX bn _ _ aI bv true _ (cM (Kd.Zac eO.out HB.out)) fC.out (cM (Kd.Zac j4.out HB.out)) jL.out (cM (Kd.Zac j5.out HB.out)) pJ.out A2.out).mono ?_);rintro e w7 ⟨rfl,hb⟩;refine⟨_,rfl,?_⟩;replace ow:=Za.mk (kB ow.out hb);replace HB:=Za.mk (bS HB.out hb);(try clear hb);(try clear hb2);(try clear hk);(try clear hi);obtain⟨xX,xY,yc,yf,yg,yL,yM,xJ,xK,xL,xM,xN,yJ,yK⟩:=cz7 ow.out))
 go_ret;exact⟨eR,bM HB.out⟩
def Zdn.f (aU:Int) (aa:List Int) (au:List Int) (aX:Int) (bn:Int) (aI:List (List Int)) (bv:Int):Option (Bool):=if(au.length:Int)=0 then(if aX=0 then(if bn=0 then(some (bv==0))else(some false))else(some false))else(some false)
set_option maxRecDepth 100000 in
theorem Zdn.calls (aU : Int) (aV : Option Addr) (aQ : Nat) (aa : List Int) (dx : Option Addr) (dz : Nat) (au : List Int) (aX : Int) (bn : Int) (dR : Option Addr) (dP : Nat) (aI : List (List Int)) (bv : Int) (r : Bool) (w : World) (eu : Kd.C (Kd.int .i64) w aV aa.length aa) (ek : aa.length ≤ aQ) (ig : Kd.C (Kd.int .i64) w dx au.length au) (ic : au.length ≤ dz) (iY : Kd.C (Kd.slice 3 (Kd.int .i64)) w dR aI.length aI) (iX : aI.length ≤ dP) (h : Zdn.f aU aa au aX bn aI bv = some r) :
  Calls Tryz.prog 123 #[.agg #[.int .i64 aU,.slice aV aa.length aQ,.slice dx au.length dz,.int .i64 aX,.int .i64 bn,.slice dR aI.length dP,.int .i64 bv]] w fun e w'=>e= .returned (.bool r)∧Below w.heap.size w w':=by
 have hu36:=Tryz.underlying36;have eO:=Za.mk eu;have fC:=Za.mk ek;clear eu ek;have j4:=Za.mk ig;have jL:=Za.mk ic;clear ig ic;have j5:=Za.mk iY;have pJ:=Za.mk iX;clear iY iX;have HB:=Za.mk (Below.refl w.heap.size w);have H:(if(au.length:Int)=0 then(if aX=0 then(if bn=0 then(some (bv==0))else(some false))else(some false))else(some false))=some r:=h;clear h;by_cases c2:(au.length:Int)=0
 case neg=>
  rw[if_neg c2]at H;have jC:((au.length:Int)==0)=false:=beq_eq_false_iff_ne.mpr c2;have Oi:((au.length:Int) !=0)=true:=bne_iff_ne.mpr c2;have oca:¬(au= []):=fun h_=>c2 (by rw[h_];rfl)
  obtain rfl:=sj H;go_enter Tryz.func123,Tryz.ntmps123
  go_wp2_with (first|((with_reducible refine Zar (N:=1) rfl ?_);refine bx 1 #[.int .i64 aU,.slice aV aa.length aQ,.slice dx au.length dz,.int .i64 aX,.int .i64 bn,.slice dR aI.length dP,.int .i64 bv] 36 ?_;intro xc hg w11 hbox hb;have wJ:=Za.mk (hbox);have Kt:=Za.mk ((gE hg HB.out:w.heap.size≤xc));replace HB:=Za.mk (bS HB.out hb);clear hb hbox hg;obtain⟨mV,mW,mX,mY,ng,uA,uB,mO,mP,mQ,mR,mU,uu,uw⟩:=cz7 wJ.out))
  go_ret;exact⟨eR,bM HB.out⟩
 rw[if_pos c2]at H;have jC:((au.length:Int)==0)=true:=beq_iff_eq.mpr c2;have Oi:((au.length:Int) !=0)=false:=bne_eq_false_iff_eq.mpr c2;clear c2;by_cases c3:aX=0
 case neg=>
  rw[if_neg c3]at H;have fB:(aX==0)=false:=beq_eq_false_iff_ne.mpr c3;have jY:(aX !=0)=true:=bne_iff_ne.mpr c3;obtain rfl:=sj H;go_enter Tryz.func123,Tryz.ntmps123
  go_wp2_with (first|((with_reducible refine Zar (N:=1) rfl ?_);refine bx 1 #[.int .i64 aU,.slice aV aa.length aQ,.slice dx au.length dz,.int .i64 aX,.int .i64 bn,.slice dR aI.length dP,.int .i64 bv] 36 ?_;intro xc hg w9 hbox hb;have wJ:=Za.mk (hbox);have Kt:=Za.mk ((gE hg HB.out:w.heap.size≤xc));replace HB:=Za.mk (bS HB.out hb);clear hb hbox hg;obtain⟨o9,oC,oD,qf,qg,zz,z8,o6,o7,o8,pY,qc,zo,zq⟩:=cz7 wJ.out))
  go_ret;exact⟨eR,bM HB.out⟩
 rw[if_pos c3]at H;have fB:(aX==0)=true:=beq_iff_eq.mpr c3;have jY:(aX !=0)=false:=bne_eq_false_iff_eq.mpr c3;clear c3;by_cases c4:bn=0
 case neg=>
  rw[if_neg c4]at H;have dC:(bn==0)=false:=beq_eq_false_iff_ne.mpr c4;have sI:(bn !=0)=true:=bne_iff_ne.mpr c4;obtain rfl:=sj H;go_enter Tryz.func123,Tryz.ntmps123
  go_wp2_with (first|((with_reducible refine Zar (N:=1) rfl ?_);refine bx 1 #[.int .i64 aU,.slice aV aa.length aQ,.slice dx au.length dz,.int .i64 aX,.int .i64 bn,.slice dR aI.length dP,.int .i64 bv] 36 ?_;intro xc hg w7 hbox hb;have wJ:=Za.mk (hbox);have Kt:=Za.mk ((gE hg HB.out:w.heap.size≤xc));replace HB:=Za.mk (bS HB.out hb);clear hb hbox hg;obtain⟨xX,xY,yc,yf,yg,yL,yM,xJ,xK,xL,xM,xN,yJ,yK⟩:=cz7 wJ.out))
  go_ret;exact⟨eR,bM HB.out⟩
 rw[if_pos c4]at H;have dC:(bn==0)=true:=beq_iff_eq.mpr c4;have sI:(bn !=0)=false:=bne_eq_false_iff_eq.mpr c4;clear c4;obtain rfl:=sj H;go_enter Tryz.func123,Tryz.ntmps123
 go_wp2_with (first|((with_reducible refine Zar (N:=1) rfl ?_);refine bx 1 #[.int .i64 aU,.slice aV aa.length aQ,.slice dx au.length dz,.int .i64 aX,.int .i64 bn,.slice dR aI.length dP,.int .i64 bv] 36 ?_;intro xc hg w5 hbox hb;have wJ:=Za.mk (hbox);have Kt:=Za.mk ((gE hg HB.out:w.heap.size≤xc));replace HB:=Za.mk (bS HB.out hb);clear hb hbox hg;obtain⟨kY,lc,lG,oo,oq,Fy,Fz,kW,kX,lF,ol,om,Fw,Fx⟩:=cz7 wJ.out))
 go_ret;exact⟨eR,bM HB.out⟩
end Go.Proofs.YtdpieallpbllkaaGreat.P
