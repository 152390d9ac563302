/- Proved: the statement ModelChecks. Conditions: none but those of the statement. -/
import Derived.Test.YtkgjaklnbgdmiaaGreatZ1
import Derived.Test.YtkgjaklnbgdmiaaGreatYModelChecks3
import Derived.Test.YtkgjaklnbgdmiaaGreatYModelChecks2
import Derived.Test.YtkgjaklnbgdmiaaGreatYModelChecks1
import Derived.Test.YtkgjaklnbgdmiaaGreatZ3
import Derived.Test.YtkgjaklnbgdmiaaGreatU1
import Derived.Deep.Slices
import Derived.ChangeArms
import Derived.DataReads
import Derived.SizedLaws
import Derived.Test.YtkgjaklnbgdmiaaGreatRows
import Derived.WalkKit
import Derived.ProofKit
import Derived.OpenShut
import Derived.ShutString
import Derived.ChangeOld
import Derived.Below
set_option linter.unusedSimpArgs false
set_option linter.unusedVariables false
set_option maxHeartbeats 8000000
namespace Go.Proofs.YtkgjaklnbgdmiaaGreat.P
open Go.RowKit Go.Proofs.YtkgjaklnbgdmiaaGreatW.PrintWords Go.Proofs.YtkgjaklnbgdmiaaGreatW.PrintLast Go.Proofs.YtkgjaklnbgdmiaaGreatW.PrintMore
attribute [local go_sem] Zci Zck Zc3 Zc4 Zcb Zcc Zcj Zcl
mutual
def Zai.j0 : Nat → Bool → List (S37) → List (S40) → Int → List Int → List Int → List (S37) → List (S40) → Int → List Int → List Int → Option (Bool)
 | 0, _, _, _, _, _, _, _, _, _, _, _ => none
 |k+1,x51,ql,lG,wy,wB,wC,qm,lH,wD,wE,wF=>if x51=true then(some false)else(Zai.l0 k 0 ql lG wy wB wC qm lH wD wE wF)
def Zai.l0 : Nat → Int → List (S37) → List (S40) → Int → List Int → List Int → List (S37) → List (S40) → Int → List Int → List Int → Option (Bool)
 | 0, _, _, _, _, _, _, _, _, _, _, _ => none
 |k+1,x5,ql,lG,wy,wB,wC,qm,lH,wD,wE,wF=>if x5<(ql.length:Int)then(if 0≤x5 then(if x5<(qm.length:Int)then(if((Zaq ql x5).f0).toList=((Zaq qm x5).f0).toList then((Zbr.f k ((Zaq ql x5).f1) ((Zaq qm x5).f1)).bind fun UX=>(if UX=true then(Zai.l0 k (wrap64 (x5+1)) ql lG wy wB wC qm lH wD wE wF)else(some false)))else(some false))else(none))else(none))else(Zai.l1 k 0 ql lG wy wB wC qm lH wD wE wF)
def Zai.l1 : Nat → Int → List (S37) → List (S40) → Int → List Int → List Int → List (S37) → List (S40) → Int → List Int → List Int → Option (Bool)
 | 0, _, _, _, _, _, _, _, _, _, _, _ => none
 |k+1,x6,ql,lG,wy,wB,wC,qm,lH,wD,wE,wF=>if x6<(lG.length:Int)then(if 0≤x6 then(if x6<(lH.length:Int)then((Zcn.f k ((Zac lG x6).f0) ((Zac lG x6).f1) ((Zac lG x6).f2) ((Zac lG x6).f3) ((Zac lG x6).f4) ((Zac lG x6).f5) ((Zac lG x6).f6) ((Zac lH x6).f0) ((Zac lH x6).f1) ((Zac lH x6).f2) ((Zac lH x6).f3) ((Zac lH x6).f4) ((Zac lH x6).f5) ((Zac lH x6).f6)).bind fun UY=>(if UY=true then(Zai.l1 k (wrap64 (x6+1)) ql lG wy wB wC qm lH wD wE wF)else(some false)))else(none))else(none))else(some true)
end
def Zai.f (k:Nat) (ae:List (S37)) (aa:List (S40)) (aj:Int) (ak:List Int) (ai:List Int) (dW:List (S37)) (ay:List (S40)) (jy:Int) (jB:List Int) (jH:List Int):Option (Bool):=if(ae.length:Int)=(dW.length:Int)then(if(aa.length:Int)=(ay.length:Int)then(if aj=jy then((Zau.f k ak jB).bind fun Nu=>(if Nu=true then((Zau.f k ai jH).bind fun Ku=>(Zai.j0 k (!Ku) ae aa aj ak ai dW ay jy jB jH))else(Zai.j0 k true ae aa aj ak ai dW ay jy jB jH)))else(Zai.j0 k true ae aa aj ak ai dW ay jy jB jH))else(Zai.j0 k true ae aa aj ak ai dW ay jy jB jH))else(Zai.j0 k true ae aa aj ak ai dW ay jy jB jH)
def Zai.T6:Bool × List (List Nat × List Nat):=(true,[([],[]),([0],[0]),([],[]),([1,2],[1,2]),([3],[3]),([4],[4]),([],[]),([6],[6]),([],[]),([7,8],[7,8]),([9],[9]),([10],[10]),([5,11],[5,11]),([12],[12]),([13],[13]),([14,13],[13,14]),([13],[13]),([15,16,13],[13,15,16]),([17,13],[13,17]),([18,13],[13,18]),([13],[13]),([20,13],[13,20]),([13],[13]),([21,22,13],[13,21,22]),([23,13],[13,23]),([24,13],[13,24]),([19,25,13,13],[13,19,25]),([26,13],[13,26]),([13,27],[13,27])])
def Zai.B6:List Nat:= [0,1,0,7,15,31,0,64,0,448,960,1984,4095,8191,16383,32767,16383,131071,262143,524287,16383,1064959,16383,7356415,15745023,32522239,67108863,134217727,268435455]
theorem Zai.tab6:rtab .any (opsOf Tryz.f8 6)=Zai.T6:=by kernel_rfl
theorem Zai.bits6:waitsOk Zai.T6.2 Zai.B6=true:=by kernel_rfl
def Zai.T11:Bool × List (List Nat × List Nat):=(true,[([],[]),([0],[0]),([],[]),([1,2],[1,2]),([3],[3]),([],[]),([5],[5]),([],[]),([6,7],[6,7]),([8],[8]),([4,9],[4,9]),([10],[10])])
def Zai.B11:List Nat:= [0,1,0,7,15,0,32,0,224,480,1023,2047]
theorem Zai.tab11:rtab .any (opsOf Tryz.f8 11)=Zai.T11:=by kernel_rfl
theorem Zai.bits11:waitsOk Zai.T11.2 Zai.B11=true:=by kernel_rfl
set_option maxRecDepth 100000 in
theorem Zai.calls (k : Nat) (bF : Option Addr) (bv : Nat) (ae : List (S37)) (aI : Option Addr) (aG : Nat) (aa : List (S40)) (aj : Int) (bi : Option Addr) (bn : Nat) (ak : List Int) (bf : Option Addr) (bg : Nat) (ai : List Int) (Dp : Option Addr) (wK : Nat) (dW : List (S37)) (eF : Option Addr) (dU : Nat) (ay : List (S40)) (jy : Int) (wH : Option Addr) (wM : Nat) (jB : List Int) (wI : Option Addr) (wO : Nat) (jH : List Int) (r : Bool) (w : World) (lC : Kd.C k37 w bF ae.length ae) (l8 : ae.length ≤ bv) (eO : Kd.C k40 w aI aa.length aa) (eH : aa.length ≤ aG) (kF : Kd.C (Kd.int .i64) w bi ak.length ak) (ky : ak.length ≤ bn) (kH : Kd.C (Kd.int .i64) w bf ai.length ai) (kz : ai.length ≤ bg) (Wu : Kd.C k37 w Dp dW.length dW) (Wi : dW.length ≤ wK) (lD : Kd.C k40 w eF ay.length ay) (l9 : ay.length ≤ dU) (Wv : Kd.C (Kd.int .i64) w wH jB.length jB) (Wj : jB.length ≤ wM) (Ww : Kd.C (Kd.int .i64) w wI jH.length jH) (Wl : jH.length ≤ wO) (h : Zai.f k ae aa aj ak ai dW ay jy jB jH = some r) :
  Calls Tryz.prog 8 #[.agg #[.slice bF ae.length bv,.slice aI aa.length aG,.int .i64 aj,.slice bi ak.length bn,.slice bf ai.length bg],.agg #[.slice Dp dW.length wK,.slice eF ay.length dU,.int .i64 jy,.slice wH jB.length wM,.slice wI jH.length wO]] w fun e w'=>e= .returned (.bool r)∧Below w.heap.size w w':=by
 have hu28:=Tryz.underlying28;have hu40:=Tryz.underlying40;have gV:=Za.mk lC;have uA:=Za.mk l8;clear lC l8;have fE:=Za.mk eO;have gU:=Za.mk eH;clear eO eH;have kr:=Za.mk kF;have lI:=Za.mk ky;clear kF ky;have lh:=Za.mk kH;have lJ:=Za.mk kz;clear kH kz;have Hm:=Za.mk Wu;have lba:=Za.mk Wi;clear Wu Wi;have gz:=Za.mk lD;have iE:=Za.mk l9;clear lD l9;have Vy:=Za.mk Wv;have Vk:=Za.mk Wj;clear Wv Wj;have cja:=Za.mk Ww;have bQa:=Za.mk Wl;clear Ww Wl;have HB:=Za.mk (Below.refl w.heap.size w);have H:(if(ae.length:Int)=(dW.length:Int)then(if(aa.length:Int)=(ay.length:Int)then(if aj=jy then((Zau.f k ak jB).bind fun Nu=>(if Nu=true then((Zau.f k ai jH).bind fun Ku=>(Zai.j0 k (!Ku) ae aa aj ak ai dW ay jy jB jH))else(Zai.j0 k true ae aa aj ak ai dW ay jy jB jH)))else(Zai.j0 k true ae aa aj ak ai dW ay jy jB jH))else(Zai.j0 k true ae aa aj ak ai dW ay jy jB jH))else(Zai.j0 k true ae aa aj ak ai dW ay jy jB jH))=some r:=h;clear h;have HC3:=Za.mk H;clear H;go_enter Tryz.func8,Tryz.ntmps8
 go_upto_region 1 with (first|((with_reducible refine Zap (N:=2) rfl ?_);(try(refine Zb9 (by rfl) ?_;dsimp only));refine bx 2 #[.slice bF ae.length bv,.slice aI aa.length aG,.int .i64 aj,.slice bi ak.length bn,.slice bf ai.length bg] 28 ?_;intro gX hg w4 hbox hb;have bK:=Za.mk (hbox);have kNa:=Za.mk ((gE hg HB.out:w.heap.size≤gX));replace HB:=Za.mk (bS HB.out hb);clear hb hbox hg)|((with_reducible refine Zap (N:=3) rfl ?_);(try(refine Zb9 (by rfl) ?_;dsimp only));refine bx 3 #[.slice Dp dW.length wK,.slice eF ay.length dU,.int .i64 jy,.slice wH jB.length wM,.slice wI jH.length wO] 28 ?_;intro gY hg w5 hbox hb;have bX:=Za.mk (hbox);have kOa:=Za.mk ((gE hg HB.out:w.heap.size≤gY));replace HB:=Za.mk (bS HB.out hb);have kP:=Za.mk ((by rw[hg];exact Nat.ne_of_lt (Zbj (kM bK.out)):gX≠gY));have kQ:=Za.mk ((by rw[hg];exact Nat.ne_of_gt (Zbj (kM bK.out)):gY≠gX));replace bK:=Za.mk (kB bK.out hb);clear hb hbox hg))
 (try simp only[Act.put,List.setIfInBounds_toArray,List.set_cons_zero,List.set_cons_succ])
 go_cut [51] (fun v51 wc=>∃(kq:Nat) (Lm:Bool),v51= .bool Lm∧Za (Zai.j0 kq Lm ae aa aj ak ai dW ay jy jB jH=some r)∧Za (kq≤k)∧Za (wc.heap[gX]? =some (.cells #[(.slice bF ae.length bv),(.slice aI aa.length aG),.int .i64 aj,(.slice bi ak.length bn),(.slice bf ai.length bg)] 28 (0,0)))∧Za (wc.heap[gY]? =some (.cells #[(.slice Dp dW.length wK),(.slice eF ay.length dU),.int .i64 jy,(.slice wH jB.length wM),(.slice wI jH.length wO)] 28 (0,0)))∧Za (Below w.heap.size w wc))
 case first=>
  have H:=HC3.out;clear HC3;by_cases c6:(ae.length:Int)=(dW.length:Int)
  case neg=>
   rw[if_neg c6]at H;have jh:((ae.length:Int)==(dW.length:Int))=false:=beq_eq_false_iff_ne.mpr c6;have qY:((ae.length:Int) !=(dW.length:Int))=true:=bne_iff_ne.mpr c6;have TJ:(ae.length==dW.length)=false:=by first|simpa using c6|(simp at c6 ⊢;omega)
   (first|rw[jh]|(simp only[Zdk,Zdn];rw[jh])|skip)
   have H':=Za.mk H;clear H;have dCa:=kP.out;have dQa:=kQ.out;obtain⟨Sc,Sd,Sg,Si,Sj,Ro,Rp,Rq,Rs,Rt⟩:=cz5 bK.out;obtain⟨J5,J6,Mh,Mi,Mj,Jr,Js,LB,LC,LD⟩:=cz5 bX.out;go_wp2
   go_meet
   case rel=>exact⟨_,(true),eS,H',⟨by first|omega|exact Nat.le_refl _⟩,⟨by(with_reducible repeat(first|refine Zab ?_ _|refine Zad ?_|refine Zaa ?_ _));exact bK.out⟩,⟨by(with_reducible repeat(first|refine Zab ?_ _|refine Zad ?_|refine Zaa ?_ _));exact bX.out⟩,⟨bM HB.out⟩⟩
  rw[if_pos c6]at H;have jh:((ae.length:Int)==(dW.length:Int))=true:=beq_iff_eq.mpr c6;have qY:((ae.length:Int) !=(dW.length:Int))=false:=bne_eq_false_iff_eq.mpr c6;have TJ:(ae.length==dW.length)=true:=by first|simpa using c6|(simp at c6 ⊢;omega)
  clear c6
  (first|rw[jh]|(simp only[Zdk,Zdn];rw[jh])|skip)
  by_cases c7:(aa.length:Int)=(ay.length:Int)
  case neg=>
   rw[if_neg c7]at H;have mV:((aa.length:Int)==(ay.length:Int))=false:=beq_eq_false_iff_ne.mpr c7;have FH:((aa.length:Int) !=(ay.length:Int))=true:=bne_iff_ne.mpr c7;have TK:(aa.length==ay.length)=false:=by first|simpa using c7|(simp at c7 ⊢;omega)
   have H':=Za.mk H;clear H;have Wp:=kP.out;have Ws:=kQ.out;obtain⟨yz,yA,yB,yC,yD,xW,xX,xY,yc,yf⟩:=cz5 bK.out;obtain⟨Me,Mf,Mg,Sa,Sb,L6,L9,LA,Rm,Rn⟩:=cz5 bX.out;go_wp2
   go_meet
   case rel=>exact⟨_,(true),eS,H',⟨by first|omega|exact Nat.le_refl _⟩,⟨by(with_reducible repeat(first|refine Zab ?_ _|refine Zad ?_|refine Zaa ?_ _));exact bK.out⟩,⟨by(with_reducible repeat(first|refine Zab ?_ _|refine Zad ?_|refine Zaa ?_ _));exact bX.out⟩,⟨bM HB.out⟩⟩
  rw[if_pos c7]at H;have mV:((aa.length:Int)==(ay.length:Int))=true:=beq_iff_eq.mpr c7;have FH:((aa.length:Int) !=(ay.length:Int))=false:=bne_eq_false_iff_eq.mpr c7;have TK:(aa.length==ay.length)=true:=by first|simpa using c7|(simp at c7 ⊢;omega)
  clear c7;by_cases c8:aj=jy
  case neg=>
   rw[if_neg c8]at H;have nP:(aj==jy)=false:=beq_eq_false_iff_ne.mpr c8;have BH:(aj !=jy)=true:=bne_iff_ne.mpr c8;have H':=Za.mk H;clear H;have lDa:=kP.out;have mna:=kQ.out;obtain⟨F4,F5,F6,F7,F8,Fe,Ff,Fg,Fh,Fj⟩:=cz5 bK.out;obtain⟨uO,uP,yx,CY,Da,uH,uI,xV,Cn,Co⟩:=cz5 bX.out;go_wp2
   go_meet
   case rel=>exact⟨_,(true),eS,H',⟨by first|omega|exact Nat.le_refl _⟩,⟨by(with_reducible repeat(first|refine Zab ?_ _|refine Zad ?_|refine Zaa ?_ _));exact bK.out⟩,⟨by(with_reducible repeat(first|refine Zab ?_ _|refine Zad ?_|refine Zaa ?_ _));exact bX.out⟩,⟨bM HB.out⟩⟩
  rw[if_pos c8]at H;have nP:(aj==jy)=true:=beq_iff_eq.mpr c8;have BH:(aj !=jy)=false:=bne_eq_false_iff_eq.mpr c8;clear c8;obtain⟨Nu,A9,H⟩:=bnd H;try dsimp only at H
  by_cases c10:Nu=true
  case neg=>
   replace c10:=Bool.eq_false_iff.mpr c10;subst c10;replace H:=ifF H;have H':=Za.mk H;clear H;have lBa:=kP.out;have mla:=kQ.out;obtain⟨uL,uM,uN,vG,vH,uE,uF,uG,vE,vF⟩:=cz5 bK.out;obtain⟨yu,yw,F3,Jz,J2,xS,xU,Fb,Jn,Jo⟩:=cz5 bX.out
   go_wp2_with (first|(go_at_call 21;(with_reducible refine(Zau.calls k _ _ ak _ _ jB false _ (cM (Kd.Zaf kr.out HB.out)) lI.out (cM (Kd.Zaf Vy.out HB.out)) Vk.out A9.out).mono ?_);rintro e w' ⟨rfl,⟨nd,rfl⟩⟩))
   go_meet
   case rel=>exact⟨_,(true),eS,H',⟨by first|omega|exact Nat.le_refl _⟩,⟨by(with_reducible repeat(first|refine Zab ?_ _|refine Zad ?_|refine Zaa ?_ _));exact bK.out⟩,⟨by(with_reducible repeat(first|refine Zab ?_ _|refine Zad ?_|refine Zaa ?_ _));exact bX.out⟩,⟨bM HB.out⟩⟩
  subst c10;rw[if_pos rfl]at H;obtain⟨Ku,A11,H⟩:=bnd H;try dsimp only at H
  have H':=Za.mk H;clear H;have l8a:=kP.out;have mia:=kQ.out;obtain⟨LX,LY,Ma,Mc,Md,Ls,Lt,Lu,Lv,Lx⟩:=cz5 bK.out;obtain⟨uJ,uK,ym,CK,CU,uC,uD,xO,Ci,Cj⟩:=cz5 bX.out
  go_wp2_with (first|(go_at_call 21;(with_reducible refine(Zau.calls k _ _ ak _ _ jB true _ (cM (Kd.Zaf kr.out HB.out)) lI.out (cM (Kd.Zaf Vy.out HB.out)) Vk.out A9.out).mono ?_);rintro e w' ⟨rfl,⟨nd,rfl⟩⟩)|(go_at_call 21;(with_reducible refine(Zau.calls k _ _ ai _ _ jH Ku _ (cM (Kd.Zaf lh.out (bM HB.out))) lJ.out (cM (Kd.Zaf cja.out (bM HB.out))) bQa.out A11.out).mono ?_);rintro e w' ⟨rfl,⟨nd,rfl⟩⟩))
  go_meet
  case rel=>exact⟨_,(!Ku),eS,H',⟨by first|omega|exact Nat.le_refl _⟩,⟨by(with_reducible repeat(first|refine Zab ?_ _|refine Zad ?_|refine Zaa ?_ _));exact bK.out⟩,⟨by(with_reducible repeat(first|refine Zab ?_ _|refine Zad ?_|refine Zaa ?_ _));exact bX.out⟩,⟨bM HB.out⟩⟩
 case rest=>
  clear HC3;try clear c1
  try clear c2
  try clear p2
  try clear c6
  try clear jh
  try clear qY
  try clear TJ
  try clear c7
  try clear mV
  try clear FH
  try clear TK
  try clear c8
  try clear nP
  try clear BH
  try clear c10
  try clear c12
  try clear c15
  try clear c18
  try clear c21
  try clear c24
  try clear LX LY Ma Mc Md Ls Lt Lu Lv Lx
  try clear uJ uK ym CK CU uC uD xO Ci Cj
  try clear uL uM uN vG vH uE uF uG vE vF
  try clear yu yw F3 Jz J2 xS xU Fb Jn Jo
  try clear F4 F5 F6 F7 F8 Fe Ff Fg Fh Fj
  try clear uO uP yx CY Da uH uI xV Cn Co
  try clear yz yA yB yC yD xW xX xY yc yf
  try clear Me Mf Mg Sa Sb L6 L9 LA Rm Rn
  try clear Sc Sd Sg Si Sj Ro Rp Rq Rs Rt
  try clear J5 J6 Mh Mi Mj Jr Js LB LC LD
  obtain⟨kq,Lm,rfl,HA,HJ2,bK,bX,HB⟩:=hcut
  cases kq with
  | zero => exact absurd HA.out (by simp [Zai.j0])
  |succ kj2=>
   have H:=HA.out;clear HA;simp only[Zai.j0]at H;by_cases c27:Lm=true
   case pos=>
    subst c27;rw[if_pos rfl]at H;obtain rfl:=sj H;go_wp2;go_ret;exact⟨eR,bM HB.out⟩
   replace c27:=Bool.eq_false_iff.mpr c27;subst c27;replace H:=ifF H;have H':=Za.mk H;clear H;go_wp2
   go_loopg [5] kj2 (fun kq v5 w'=>∃(aD:Int),v5= .int .i64 aD∧Za (Zai.l0 kq aD ae aa aj ak ai dW ay jy jB jH=some r)∧Za (kq≤kj2)∧Za (w'.heap[gX]? =some (.cells #[(.slice bF ae.length bv),(.slice aI aa.length aG),.int .i64 aj,(.slice bi ak.length bn),(.slice bf ai.length bg)] 28 (0,0)))∧Za (w'.heap[gY]? =some (.cells #[(.slice Dp dW.length wK),(.slice eF ay.length dU),.int .i64 jy,(.slice wH jB.length wM),(.slice wI jH.length wO)] 28 (0,0)))∧Za (Below w.heap.size w w'))
   case atStart=>exact⟨(0),eS,H',⟨Nat.le_refl _⟩,⟨by(with_reducible repeat(first|refine Zab ?_ _|refine Zad ?_|refine Zaa ?_ _));exact bK.out⟩,⟨by(with_reducible repeat(first|refine Zab ?_ _|refine Zad ?_|refine Zaa ?_ _));exact bX.out⟩,⟨bM HB.out⟩⟩
   case round=>
    clear H';try clear c1
    try clear c2
    try clear p2
    try clear c6
    try clear jh
    try clear qY
    try clear TJ
    try clear c7
    try clear mV
    try clear FH
    try clear TK
    try clear c8
    try clear nP
    try clear BH
    try clear c10
    try clear c12
    try clear c15
    try clear c18
    try clear c21
    try clear c24
    try clear c27
    try clear LX LY Ma Mc Md Ls Lt Lu Lv Lx
    try clear uJ uK ym CK CU uC uD xO Ci Cj
    try clear uL uM uN vG vH uE uF uG vE vF
    try clear yu yw F3 Jz J2 xS xU Fb Jn Jo
    try clear F4 F5 F6 F7 F8 Fe Ff Fg Fh Fj
    try clear uO uP yx CY Da uH uI xV Cn Co
    try clear yz yA yB yC yD xW xX xY yc yf
    try clear Me Mf Mg Sa Sb L6 L9 LA Rm Rn
    try clear Sc Sd Sg Si Sj Ro Rp Rq Rs Rt
    try clear J5 J6 Mh Mi Mj Jr Js LB LC LD
    try clear p2
    obtain⟨aD,rfl,HA,HK2,bK,bX,HB⟩:=hrel
    cases gk with
    | zero => exact absurd HA.out (by simp [Zai.l0])
    |succ k2=>
     have H:=HA.out;clear HA;simp only[Zai.l0]at H;by_cases c28:aD<(ae.length:Int)
     case neg=>
      rw[if_neg c28]at H;have VS:decide (aD<(ae.length:Int))=false:=decide_eq_false c28;clear c28;have H':=Za.mk H;clear H;have dIa:=kP.out;have dWa:=kQ.out;obtain⟨g2a,g3a,g4a,g5a,g6a,eJa,eKa,eLa,eMa,eNa⟩:=cz5 bK.out;go_wp2
      go_loopg [6] k2 (fun kq v6 w'=>∃(aC:Int),v6= .int .i64 aC∧Za (Zai.l1 kq aC ae aa aj ak ai dW ay jy jB jH=some r)∧Za (kq≤k2)∧Za (w'.heap[gX]? =some (.cells #[(.slice bF ae.length bv),(.slice aI aa.length aG),.int .i64 aj,(.slice bi ak.length bn),(.slice bf ai.length bg)] 28 (0,0)))∧Za (w'.heap[gY]? =some (.cells #[(.slice Dp dW.length wK),(.slice eF ay.length dU),.int .i64 jy,(.slice wH jB.length wM),(.slice wI jH.length wO)] 28 (0,0)))∧Za (Below w.heap.size w w'))
      case atStart=>exact⟨(0),eS,H',⟨Nat.le_refl _⟩,⟨by(with_reducible repeat(first|refine Zab ?_ _|refine Zad ?_|refine Zaa ?_ _));exact bK.out⟩,⟨by(with_reducible repeat(first|refine Zab ?_ _|refine Zad ?_|refine Zaa ?_ _));exact bX.out⟩,⟨bM HB.out⟩⟩
      case round=>
       clear H';try clear c1
       try clear c2
       try clear p2
       try clear c3
       try clear c4
       try clear p4
       try clear q4
       try clear hx4
       try clear p6
       try clear c22
       try clear c28
       try clear VS
       try clear c29
       try clear c30
       try clear c31
       try clear VT
       try clear VU
       try clear c33
       try clear c37
       try clear c40
       try clear c43
       try clear SB SC Xl Xm Xn RA RB WK WL WM
       try clear Mq Mr Ms Mt Mw LK LM LP LQ LU
       try clear g2a g3a g4a g5a g6a eJa eKa eLa eMa eNa
       try clear kX
       try clear jP
       try clear kY
       try clear jQ
       try clear oh
       try clear mD
       try clear ol
       try clear mE
       try clear Uz
       try clear U0
       try clear aOa
       try clear aPa
       try clear UE
       try clear UF
       try clear aYa
       try clear baa
       obtain⟨aC,rfl,HA,HK3,bK,bX,HB⟩:=hrel
       cases gk with
       | zero => exact absurd HA.out (by simp [Zai.l1])
       |succ k3=>
        have H:=HA.out;clear HA;simp only[Zai.l1]at H;by_cases c45:aC<(aa.length:Int)
        case neg=>
         rw[if_neg c45]at H;have QJ:decide (aC<(aa.length:Int))=false:=decide_eq_false c45;clear c45;obtain rfl:=sj H;have dNa:=kP.out;have eca:=kQ.out;obtain⟨hba,hca,hda,hea,hha,fta,fua,fva,fwa,fxa⟩:=cz5 bK.out;go_wp2;go_ret;exact⟨eR,bM HB.out⟩
        rw[if_pos c45]at H;have QJ:decide (aC<(aa.length:Int))=true:=decide_eq_true c45;clear c45;obtain⟨loa,H⟩:=ifT H;obtain⟨BG,H⟩:=ifT H;obtain⟨UY,A48,H⟩:=bnd H;try dsimp only at H
        by_cases c49:UY=true
        case pos=>
         subst c49;rw[if_pos rfl]at H;have H':=Za.mk H;clear H;have dLa:=kP.out;have eaa:=kQ.out;obtain⟨qFa,qGa,qHa,qIa,qJa,n1a,n2a,n3a,n4a,n5a⟩:=cz5 bK.out;try go_wp2
         replace bK:=Za.mk (Zad bK.out);replace bX:=Za.mk (Zad bX.out);replace HB:=Za.mk (Zb6 HB.out);have iLa:(0≤(aC:Int))=True:=teq;have jba:(aC<(aa.length:Int))=True:=teq;obtain⟨iF,Dq,DI,Dr,DJ,Dt,DK,Ud,pQ,pR,pU,pV,pW,pX,pY,zM,zo,zN,zq,zO,zt⟩:=Zeq fE.out aC odt odt;have Al:=pY;have Ak:=pX;have Aj:=pW;have Ai:=pV;have Ah:=pU;have Ag:=pR;have Af:=pQ;cases Ud;replace pQ:=hB HB.out pQ;replace pR:=hB HB.out pR;replace pU:=hB HB.out pU;replace pV:=hB HB.out pV;replace pW:=hB HB.out pW;replace pX:=hB HB.out pX;replace pY:=hB HB.out pY;have yP:=Za.mk zo;have JF:=Za.mk zM;clear zo zM;have yQ:=Za.mk zq;have JG:=Za.mk zN;clear zq zN;have yR:=Za.mk zt;have JH:=Za.mk zO;clear zt zO;have iMa:(0≤(aC:Int))=True:=teq;have jca:(aC<(ay.length:Int))=True:=teq;obtain⟨iG,Du,DL,Dv,DN,Dw,DR,Ue,qa,qb,qc,qd,qf,qg,qh,zP,zu,zQ,zw,zR,zx⟩:=Zeq gz.out aC odt odt;have Av:=qh;have Au:=qg;have Ar:=qf;have Aq:=qd;have Ap:=qc;have Ao:=qb;have Am:=qa;cases Ue;replace qa:=hB HB.out qa;replace qb:=hB HB.out qb;replace qc:=hB HB.out qc;replace qd:=hB HB.out qd;replace qf:=hB HB.out qf;replace qg:=hB HB.out qg;replace qh:=hB HB.out qh;have yS:=Za.mk zu;have JK:=Za.mk zP;clear zu zP;have yT:=Za.mk zw;have JL:=Za.mk zQ;clear zw zQ;have yU:=Za.mk zx;have JM:=Za.mk zR;clear zx zR;refine Zef (n:=12) (S:=fun w'=>w'.cell? ⟨gX,0,none⟩=some (.slice bF ae.length bv)∧w'.cell? ⟨gX,1,none⟩=some (.slice (some iF) aa.length aG)∧w'.cell? ⟨gX,2,none⟩=some (.int .i64 aj)∧w'.cell? ⟨gX,3,none⟩=some (.slice bi ak.length bn)∧w'.cell? ⟨gX,4,none⟩=some (.slice bf ai.length bg)∧w'.cell? ⟨gY,0,none⟩=some (.slice Dp dW.length wK)∧w'.cell? ⟨gY,1,none⟩=some (.slice (some iG) ay.length dU)∧w'.cell? ⟨gY,2,none⟩=some (.int .i64 jy)∧w'.cell? ⟨gY,3,none⟩=some (.slice wH jB.length wM)∧w'.cell? ⟨gY,4,none⟩=some (.slice wI jH.length wO)∧w'.cell? (iF.add ((aC).toNat*7))=some (.int .i64 ((Zac aa aC).f0))∧w'.cell? ⟨(iF.add ((aC).toNat*7)).block,(iF.add ((aC).toNat*7)).off+1,none⟩=some (.slice Dq ((Zac aa aC).f1).length DI)∧w'.cell? ⟨(iF.add ((aC).toNat*7)).block,(iF.add ((aC).toNat*7)).off+2,none⟩=some (.slice Dr ((Zac aa aC).f2).length DJ)∧w'.cell? ⟨(iF.add ((aC).toNat*7)).block,(iF.add ((aC).toNat*7)).off+3,none⟩=some (.int .i64 ((Zac aa aC).f3))∧w'.cell? ⟨(iF.add ((aC).toNat*7)).block,(iF.add ((aC).toNat*7)).off+4,none⟩=some (.int .i64 ((Zac aa aC).f4))∧w'.cell? ⟨(iF.add ((aC).toNat*7)).block,(iF.add ((aC).toNat*7)).off+5,none⟩=some (.slice Dt ((Zac aa aC).f5).length DK)∧w'.cell? ⟨(iF.add ((aC).toNat*7)).block,(iF.add ((aC).toNat*7)).off+6,none⟩=some (.int .i64 ((Zac aa aC).f6))∧w'.cell? (iG.add ((aC).toNat*7))=some (.int .i64 ((Zac ay aC).f0))∧w'.cell? ⟨(iG.add ((aC).toNat*7)).block,(iG.add ((aC).toNat*7)).off+1,none⟩=some (.slice Du ((Zac ay aC).f1).length DL)∧w'.cell? ⟨(iG.add ((aC).toNat*7)).block,(iG.add ((aC).toNat*7)).off+2,none⟩=some (.slice Dv ((Zac ay aC).f2).length DN)∧w'.cell? ⟨(iG.add ((aC).toNat*7)).block,(iG.add ((aC).toNat*7)).off+3,none⟩=some (.int .i64 ((Zac ay aC).f3))∧w'.cell? ⟨(iG.add ((aC).toNat*7)).block,(iG.add ((aC).toNat*7)).off+4,none⟩=some (.int .i64 ((Zac ay aC).f4))∧w'.cell? ⟨(iG.add ((aC).toNat*7)).block,(iG.add ((aC).toNat*7)).off+5,none⟩=some (.slice Dw ((Zac ay aC).f5).length DR)∧w'.cell? ⟨(iG.add ((aC).toNat*7)).block,(iG.add ((aC).toNat*7)).off+6,none⟩=some (.int .i64 ((Zac ay aC).f6))) (ds:= []) #[false,false,false,false,false,false,false,false,false,false,false,false] (by kernel_rfl) rfl rfl ⟨bc bK.out 0,bc bK.out 1,bc bK.out 2,bc bK.out 3,bc bK.out 4,bc bX.out 0,bc bX.out 1,bc bX.out 2,bc bX.out 3,bc bX.out 4,(hB (bM HB.out) Af),(hB (bM HB.out) Ag),(hB (bM HB.out) Ah),(hB (bM HB.out) Ai),(hB (bM HB.out) Aj),(hB (bM HB.out) Ak),(hB (bM HB.out) Al),(hB (bM HB.out) Am),(hB (bM HB.out) Ao),(hB (bM HB.out) Ap),(hB (bM HB.out) Aq),(hB (bM HB.out) Ar),(hB (bM HB.out) Au),(hB (bM HB.out) Av)⟩ (fun hHeld=> ?_);refine Zc6 Zai.tab11 Zai.bits11 (fun HT_ HW_=> ?_)
         generalize wr.drew=w52 at bK bX HB yP yQ yR yS yT yU pQ pR pU pV pW pX pY qa qb qc qd qf qg qh hHeld ⊢
         refine pu HT_ 0 95 ?_;refine pu HT_ 2 97 ?_;refine pu HT_ 5 100 ?_;refine pu HT_ 7 102 ?_;refine tk HT_ HW_ hHeld 1 96 ?_;refine pu HT_ 3 98 ?_;refine tk HT_ HW_ hHeld 4 99 ?_;refine tk HT_ HW_ hHeld 6 101 ?_;refine pu HT_ 8 103 ?_;refine tk HT_ HW_ hHeld 9 104 ?_;refine on1 HT_ 10 105 (fun K hK=> ?_);refine gs Tryz.func23 #[.agg #[.int .i64 ((Zac aa aC).f0),.slice Dq ((Zac aa aC).f1).length DI,.slice Dr ((Zac aa aC).f2).length DJ,.int .i64 ((Zac aa aC).f3),.int .i64 ((Zac aa aC).f4),.slice Dt ((Zac aa aC).f5).length DK,.int .i64 ((Zac aa aC).f6)],.agg #[.int .i64 ((Zac ay aC).f0),.slice Du ((Zac ay aC).f1).length DL,.slice Dv ((Zac ay aC).f2).length DN,.int .i64 ((Zac ay aC).f3),.int .i64 ((Zac ay aC).f4),.slice Dw ((Zac ay aC).f5).length DR,.int .i64 ((Zac ay aC).f6)]] ?_
         with_reducible refine(Zcn.calls k3 ((Zac aa aC).f0) _ _ ((Zac aa aC).f1) _ _ ((Zac aa aC).f2) ((Zac aa aC).f3) ((Zac aa aC).f4) _ _ ((Zac aa aC).f5) ((Zac aa aC).f6) ((Zac ay aC).f0) _ _ ((Zac ay aC).f1) _ _ ((Zac ay aC).f2) ((Zac ay aC).f3) ((Zac ay aC).f4) _ _ ((Zac ay aC).f5) ((Zac ay aC).f6) true _ (cM (Kd.Zaf yP.out HB.out)) JF.out (cM (Kd.Zaf yQ.out HB.out)) JG.out (cM (Kd.Zaf yR.out HB.out)) JH.out (cM (Kd.Zaf yS.out HB.out)) JK.out (cM (Kd.Zaf yT.out HB.out)) JL.out (cM (Kd.Zaf yU.out HB.out)) JM.out A48.out).mono ?_
         rintro e w53 ⟨rfl,hb⟩;refine⟨_,rfl,?_⟩;replace bK:=Za.mk (kB bK.out hb);replace bX:=Za.mk (kB bX.out hb);replace HB:=Za.mk (bS HB.out hb)
         (try clear hb)
         (try clear hb2)
         (try clear hk)
         (try clear hi)
         refine hK.out _ _ ⟨bc bK.out 0,bc bK.out 1,bc bK.out 2,bc bK.out 3,bc bK.out 4,bc bX.out 0,bc bX.out 1,bc bX.out 2,bc bX.out 3,bc bX.out 4,(hB (bM HB.out) Af),(hB (bM HB.out) Ag),(hB (bM HB.out) Ah),(hB (bM HB.out) Ai),(hB (bM HB.out) Aj),(hB (bM HB.out) Ak),(hB (bM HB.out) Al),(hB (bM HB.out) Am),(hB (bM HB.out) Ao),(hB (bM HB.out) Ap),(hB (bM HB.out) Aq),(hB (bM HB.out) Ar),(hB (bM HB.out) Au),(hB (bM HB.out) Av)⟩ (fun hHeld=> ?_);clear hK K;refine nmp 105 ?_;refine pu HT_ 11 106 ?_;refine Zfb (Zdw HT_.out (by kernel_rfl)) ?_;try go_wp2
         go_roundg k3
         case measure=>have:=HJ2.out;have:=HK2.out;have:=HK3.out;omega
         case rel=>exact⟨(wrap64 (aC+1)),eS,H',⟨by have:=HJ2.out;have:=HK2.out;have:=HK3.out;omega⟩,⟨by(with_reducible repeat(first|refine Zab ?_ _|refine Zad ?_|refine Zaa ?_ _));exact bK.out⟩,⟨by(with_reducible repeat(first|refine Zab ?_ _|refine Zad ?_|refine Zaa ?_ _));exact bX.out⟩,⟨bM HB.out⟩⟩
        replace c49:=Bool.eq_false_iff.mpr c49;subst c49;replace H:=ifF H;obtain rfl:=sj H;have lQa:=kP.out;have m1a:=kQ.out;obtain⟨gVa,gWa,gXa,gYa,haa,foa,fpa,fqa,fra,fsa⟩:=cz5 bK.out;try go_wp2
        replace bK:=Za.mk (Zad bK.out);replace bX:=Za.mk (Zad bX.out);replace HB:=Za.mk (Zb6 HB.out);have iLa:(0≤(aC:Int))=True:=teq;have jba:(aC<(aa.length:Int))=True:=teq;obtain⟨iF,Dq,DI,Dr,DJ,Dt,DK,Ud,pQ,pR,pU,pV,pW,pX,pY,zM,zo,zN,zq,zO,zt⟩:=Zeq fE.out aC odt odt;have Al:=pY;have Ak:=pX;have Aj:=pW;have Ai:=pV;have Ah:=pU;have Ag:=pR;have Af:=pQ;cases Ud;replace pQ:=hB HB.out pQ;replace pR:=hB HB.out pR;replace pU:=hB HB.out pU;replace pV:=hB HB.out pV;replace pW:=hB HB.out pW;replace pX:=hB HB.out pX;replace pY:=hB HB.out pY;have yP:=Za.mk zo;have JF:=Za.mk zM;clear zo zM;have yQ:=Za.mk zq;have JG:=Za.mk zN;clear zq zN;have yR:=Za.mk zt;have JH:=Za.mk zO;clear zt zO;have iMa:(0≤(aC:Int))=True:=teq;have jca:(aC<(ay.length:Int))=True:=teq;obtain⟨iG,Du,DL,Dv,DN,Dw,DR,Ue,qa,qb,qc,qd,qf,qg,qh,zP,zu,zQ,zw,zR,zx⟩:=Zeq gz.out aC odt odt;have Av:=qh;have Au:=qg;have Ar:=qf;have Aq:=qd;have Ap:=qc;have Ao:=qb;have Am:=qa;cases Ue;replace qa:=hB HB.out qa;replace qb:=hB HB.out qb;replace qc:=hB HB.out qc;replace qd:=hB HB.out qd;replace qf:=hB HB.out qf;replace qg:=hB HB.out qg;replace qh:=hB HB.out qh;have yS:=Za.mk zu;have JK:=Za.mk zP;clear zu zP;have yT:=Za.mk zw;have JL:=Za.mk zQ;clear zw zQ;have yU:=Za.mk zx;have JM:=Za.mk zR;clear zx zR;refine Zef (n:=12) (S:=fun w'=>w'.cell? ⟨gX,0,none⟩=some (.slice bF ae.length bv)∧w'.cell? ⟨gX,1,none⟩=some (.slice (some iF) aa.length aG)∧w'.cell? ⟨gX,2,none⟩=some (.int .i64 aj)∧w'.cell? ⟨gX,3,none⟩=some (.slice bi ak.length bn)∧w'.cell? ⟨gX,4,none⟩=some (.slice bf ai.length bg)∧w'.cell? ⟨gY,0,none⟩=some (.slice Dp dW.length wK)∧w'.cell? ⟨gY,1,none⟩=some (.slice (some iG) ay.length dU)∧w'.cell? ⟨gY,2,none⟩=some (.int .i64 jy)∧w'.cell? ⟨gY,3,none⟩=some (.slice wH jB.length wM)∧w'.cell? ⟨gY,4,none⟩=some (.slice wI jH.length wO)∧w'.cell? (iF.add ((aC).toNat*7))=some (.int .i64 ((Zac aa aC).f0))∧w'.cell? ⟨(iF.add ((aC).toNat*7)).block,(iF.add ((aC).toNat*7)).off+1,none⟩=some (.slice Dq ((Zac aa aC).f1).length DI)∧w'.cell? ⟨(iF.add ((aC).toNat*7)).block,(iF.add ((aC).toNat*7)).off+2,none⟩=some (.slice Dr ((Zac aa aC).f2).length DJ)∧w'.cell? ⟨(iF.add ((aC).toNat*7)).block,(iF.add ((aC).toNat*7)).off+3,none⟩=some (.int .i64 ((Zac aa aC).f3))∧w'.cell? ⟨(iF.add ((aC).toNat*7)).block,(iF.add ((aC).toNat*7)).off+4,none⟩=some (.int .i64 ((Zac aa aC).f4))∧w'.cell? ⟨(iF.add ((aC).toNat*7)).block,(iF.add ((aC).toNat*7)).off+5,none⟩=some (.slice Dt ((Zac aa aC).f5).length DK)∧w'.cell? ⟨(iF.add ((aC).toNat*7)).block,(iF.add ((aC).toNat*7)).off+6,none⟩=some (.int .i64 ((Zac aa aC).f6))∧w'.cell? (iG.add ((aC).toNat*7))=some (.int .i64 ((Zac ay aC).f0))∧w'.cell? ⟨(iG.add ((aC).toNat*7)).block,(iG.add ((aC).toNat*7)).off+1,none⟩=some (.slice Du ((Zac ay aC).f1).length DL)∧w'.cell? ⟨(iG.add ((aC).toNat*7)).block,(iG.add ((aC).toNat*7)).off+2,none⟩=some (.slice Dv ((Zac ay aC).f2).length DN)∧w'.cell? ⟨(iG.add ((aC).toNat*7)).block,(iG.add ((aC).toNat*7)).off+3,none⟩=some (.int .i64 ((Zac ay aC).f3))∧w'.cell? ⟨(iG.add ((aC).toNat*7)).block,(iG.add ((aC).toNat*7)).off+4,none⟩=some (.int .i64 ((Zac ay aC).f4))∧w'.cell? ⟨(iG.add ((aC).toNat*7)).block,(iG.add ((aC).toNat*7)).off+5,none⟩=some (.slice Dw ((Zac ay aC).f5).length DR)∧w'.cell? ⟨(iG.add ((aC).toNat*7)).block,(iG.add ((aC).toNat*7)).off+6,none⟩=some (.int .i64 ((Zac ay aC).f6))) (ds:= []) #[false,false,false,false,false,false,false,false,false,false,false,false] (by kernel_rfl) rfl rfl ⟨bc bK.out 0,bc bK.out 1,bc bK.out 2,bc bK.out 3,bc bK.out 4,bc bX.out 0,bc bX.out 1,bc bX.out 2,bc bX.out 3,bc bX.out 4,(hB (bM HB.out) Af),(hB (bM HB.out) Ag),(hB (bM HB.out) Ah),(hB (bM HB.out) Ai),(hB (bM HB.out) Aj),(hB (bM HB.out) Ak),(hB (bM HB.out) Al),(hB (bM HB.out) Am),(hB (bM HB.out) Ao),(hB (bM HB.out) Ap),(hB (bM HB.out) Aq),(hB (bM HB.out) Ar),(hB (bM HB.out) Au),(hB (bM HB.out) Av)⟩ (fun hHeld=> ?_);refine Zc6 Zai.tab11 Zai.bits11 (fun HT_ HW_=> ?_)
        generalize wr.drew=w56 at bK bX HB yP yQ yR yS yT yU pQ pR pU pV pW pX pY qa qb qc qd qf qg qh hHeld ⊢
        refine pu HT_ 0 95 ?_;refine pu HT_ 2 97 ?_;refine pu HT_ 5 100 ?_;refine pu HT_ 7 102 ?_;refine tk HT_ HW_ hHeld 1 96 ?_;refine pu HT_ 3 98 ?_;refine tk HT_ HW_ hHeld 4 99 ?_;refine tk HT_ HW_ hHeld 6 101 ?_;refine pu HT_ 8 103 ?_;refine tk HT_ HW_ hHeld 9 104 ?_;refine on1 HT_ 10 105 (fun K hK=> ?_);refine gs Tryz.func23 #[.agg #[.int .i64 ((Zac aa aC).f0),.slice Dq ((Zac aa aC).f1).length DI,.slice Dr ((Zac aa aC).f2).length DJ,.int .i64 ((Zac aa aC).f3),.int .i64 ((Zac aa aC).f4),.slice Dt ((Zac aa aC).f5).length DK,.int .i64 ((Zac aa aC).f6)],.agg #[.int .i64 ((Zac ay aC).f0),.slice Du ((Zac ay aC).f1).length DL,.slice Dv ((Zac ay aC).f2).length DN,.int .i64 ((Zac ay aC).f3),.int .i64 ((Zac ay aC).f4),.slice Dw ((Zac ay aC).f5).length DR,.int .i64 ((Zac ay aC).f6)]] ?_
        with_reducible refine(Zcn.calls k3 ((Zac aa aC).f0) _ _ ((Zac aa aC).f1) _ _ ((Zac aa aC).f2) ((Zac aa aC).f3) ((Zac aa aC).f4) _ _ ((Zac aa aC).f5) ((Zac aa aC).f6) ((Zac ay aC).f0) _ _ ((Zac ay aC).f1) _ _ ((Zac ay aC).f2) ((Zac ay aC).f3) ((Zac ay aC).f4) _ _ ((Zac ay aC).f5) ((Zac ay aC).f6) false _ (cM (Kd.Zaf yP.out HB.out)) JF.out (cM (Kd.Zaf yQ.out HB.out)) JG.out (cM (Kd.Zaf yR.out HB.out)) JH.out (cM (Kd.Zaf yS.out HB.out)) JK.out (cM (Kd.Zaf yT.out HB.out)) JL.out (cM (Kd.Zaf yU.out HB.out)) JM.out A48.out).mono ?_
        rintro e w57 ⟨rfl,hb⟩;refine⟨_,rfl,?_⟩;replace bK:=Za.mk (kB bK.out hb);replace bX:=Za.mk (kB bX.out hb);replace HB:=Za.mk (bS HB.out hb)
        (try clear hb)
        (try clear hb2)
        (try clear hk)
        (try clear hi)
        refine hK.out _ _ ⟨bc bK.out 0,bc bK.out 1,bc bK.out 2,bc bK.out 3,bc bK.out 4,bc bX.out 0,bc bX.out 1,bc bX.out 2,bc bX.out 3,bc bX.out 4,(hB (bM HB.out) Af),(hB (bM HB.out) Ag),(hB (bM HB.out) Ah),(hB (bM HB.out) Ai),(hB (bM HB.out) Aj),(hB (bM HB.out) Ak),(hB (bM HB.out) Al),(hB (bM HB.out) Am),(hB (bM HB.out) Ao),(hB (bM HB.out) Ap),(hB (bM HB.out) Aq),(hB (bM HB.out) Ar),(hB (bM HB.out) Au),(hB (bM HB.out) Av)⟩ (fun hHeld=> ?_);clear hK K;refine nmp 105 ?_;refine pu HT_ 11 106 ?_;refine Zfb (Zdw HT_.out (by kernel_rfl)) ?_;try go_wp2
        go_ret;exact⟨eR,bM HB.out⟩
     rw[if_pos c28]at H;have VS:decide (aD<(ae.length:Int))=true:=decide_eq_true c28;clear c28;obtain⟨lla,H⟩:=ifT H;obtain⟨lma,H⟩:=ifT H;by_cases c31:((Zaq ae aD).f0).toList=((Zaq dW aD).f0).toList
     case neg=>
      rw[if_neg c31]at H;have VT:(((Zaq ae aD).f0).toList==((Zaq dW aD).f0).toList)=false:=beq_eq_false_iff_ne.mpr c31;have VU:(((Zaq ae aD).f0).toList !=((Zaq dW aD).f0).toList)=true:=bne_iff_ne.mpr c31;obtain rfl:=sj H;have QP:=kP.out;have QQ:=kQ.out;obtain⟨Mq,Mr,Ms,Mt,Mw,LK,LM,LP,LQ,LU⟩:=cz5 bK.out;try go_wp2
      replace bK:=Za.mk (Zad bK.out);replace bX:=Za.mk (Zad bX.out);replace HB:=Za.mk (Zb6 HB.out);have Uz:(0≤(aD:Int))=True:=teq;have UE:(aD<(ae.length:Int))=True:=teq;obtain⟨kR,rY,sK,MI,kX,jP,rO,rF⟩:=Zdc gV.out aD odt odt;have uq:=jP;have uo:=kX;cases MI;replace kX:=hB HB.out kX;replace jP:=hB HB.out jP;have yL:=Za.mk rF;have NS:=Za.mk rO;clear rF rO;have U0:(0≤(aD:Int))=True:=teq;have UF:(aD<(dW.length:Int))=True:=teq;obtain⟨kS,si,sN,MJ,kY,jQ,rP,rG⟩:=Zdc Hm.out aD odt odt;have uu:=jQ;have ut:=kY;cases MJ;replace kY:=hB HB.out kY;replace jQ:=hB HB.out jQ;have yM:=Za.mk rG;have NT:=Za.mk rP;clear rG rP;refine Zef (n:=29) (S:=fun w'=>w'.cell? ⟨gX,0,none⟩=some (.slice (some kR) ae.length bv)∧w'.cell? ⟨gX,1,none⟩=some (.slice aI aa.length aG)∧w'.cell? ⟨gX,2,none⟩=some (.int .i64 aj)∧w'.cell? ⟨gX,3,none⟩=some (.slice bi ak.length bn)∧w'.cell? ⟨gX,4,none⟩=some (.slice bf ai.length bg)∧w'.cell? ⟨gY,0,none⟩=some (.slice (some kS) dW.length wK)∧w'.cell? ⟨gY,1,none⟩=some (.slice eF ay.length dU)∧w'.cell? ⟨gY,2,none⟩=some (.int .i64 jy)∧w'.cell? ⟨gY,3,none⟩=some (.slice wH jB.length wM)∧w'.cell? ⟨gY,4,none⟩=some (.slice wI jH.length wO)∧w'.cell? (kR.add ((aD).toNat*2))=some (.string ((Zaq ae aD).f0))∧w'.cell? ⟨(kR.add ((aD).toNat*2)).block,(kR.add ((aD).toNat*2)).off+1,none⟩=some (.slice rY ((Zaq ae aD).f1).length sK)∧w'.cell? (kS.add ((aD).toNat*2))=some (.string ((Zaq dW aD).f0))∧w'.cell? ⟨(kS.add ((aD).toNat*2)).block,(kS.add ((aD).toNat*2)).off+1,none⟩=some (.slice si ((Zaq dW aD).f1).length sN)) (ds:= []) #[false,false,false,false,false,false,false,false,false,false,false,false,false,false,false,false,false,false,false,false,false,false,false,false,false,false,false,false,false] (by kernel_rfl) rfl rfl ⟨bc bK.out 0,bc bK.out 1,bc bK.out 2,bc bK.out 3,bc bK.out 4,bc bX.out 0,bc bX.out 1,bc bX.out 2,bc bX.out 3,bc bX.out 4,(hB (bM HB.out) uo),(hB (bM HB.out) uq),(hB (bM HB.out) ut),(hB (bM HB.out) uu)⟩ (fun hHeld=> ?_);refine Zc6 Zai.tab6 Zai.bits6 (fun HT_ HW_=> ?_)
      generalize wr.drew=w42 at bK bX HB yL yM kX jP kY jQ hHeld ⊢
      refine pu HT_ 0 59 ?_;refine pu HT_ 2 61 ?_;refine pu HT_ 6 65 ?_;refine pu HT_ 8 67 ?_;refine tk HT_ HW_ hHeld 1 60 ?_;refine pu HT_ 3 62 ?_;refine pu HT_ 4 63 ?_;refine tk HT_ HW_ hHeld 5 64 ?_;refine tk HT_ HW_ hHeld 7 66 ?_;refine pu HT_ 9 68 ?_;refine pu HT_ 10 69 ?_;refine tk HT_ HW_ hHeld 11 70 ?_;refine pu HT_ 12 71 ?_;refine pu HT_ 13 72 ?_;refine un HT_ 14 73 ?_;refine un HT_ 15 74 ?_;refine un HT_ 16 75 ?_;refine un HT_ 17 76 ?_;refine un HT_ 18 77 ?_;refine un HT_ 19 78 ?_;refine un HT_ 20 79 ?_;refine un HT_ 21 80 ?_;refine un HT_ 22 81 ?_;refine un HT_ 23 82 ?_;refine un HT_ 24 83 ?_;refine un HT_ 25 84 ?_;refine un HT_ 26 85 ?_;refine un HT_ 27 86 ?_;refine pu HT_ 28 87 ?_;refine Zfb (Zdw HT_.out (by kernel_rfl)) ?_;try go_wp2
      go_ret;exact⟨eR,bM HB.out⟩
     rw[if_pos c31]at H;have VT:(((Zaq ae aD).f0).toList==((Zaq dW aD).f0).toList)=true:=beq_iff_eq.mpr c31;have VU:(((Zaq ae aD).f0).toList !=((Zaq dW aD).f0).toList)=false:=bne_eq_false_iff_eq.mpr c31;clear c31;obtain⟨UX,A32,H⟩:=bnd H;try dsimp only at H
     by_cases c33:UX=true
     case pos=>
      subst c33;rw[if_pos rfl]at H;have H':=Za.mk H;clear H;have dFa:=kP.out;have dTa:=kQ.out;obtain⟨gia,gja,gka,gla,gma,e0a,e1a,e2a,e3a,e4a⟩:=cz5 bK.out;try go_wp2
      replace bK:=Za.mk (Zad bK.out);replace bX:=Za.mk (Zad bX.out);replace HB:=Za.mk (Zb6 HB.out);have Uz:(0≤(aD:Int))=True:=teq;have UE:(aD<(ae.length:Int))=True:=teq;obtain⟨kR,rY,sK,MI,kX,jP,rO,rF⟩:=Zdc gV.out aD odt odt;have uq:=jP;have uo:=kX;cases MI;replace kX:=hB HB.out kX;replace jP:=hB HB.out jP;have yL:=Za.mk rF;have NS:=Za.mk rO;clear rF rO;have U0:(0≤(aD:Int))=True:=teq;have UF:(aD<(dW.length:Int))=True:=teq;obtain⟨kS,si,sN,MJ,kY,jQ,rP,rG⟩:=Zdc Hm.out aD odt odt;have uu:=jQ;have ut:=kY;cases MJ;replace kY:=hB HB.out kY;replace jQ:=hB HB.out jQ;have yM:=Za.mk rG;have NT:=Za.mk rP;clear rG rP;have aOa:(0≤(aD:Int))=True:=teq;have aYa:(aD<(ae.length:Int))=True:=teq;obtain⟨Q9,YN,aja,Ub,oh,mD,zK,zm⟩:=Zdc gV.out aD odt odt;have Ab:=mD;have Aa:=oh;obtain rfl:kR=Q9:=(by injection Ub);replace oh:=hB HB.out oh;replace mD:=hB HB.out mD;have yN:=Za.mk zm;have JD:=Za.mk zK;clear zm zK;have ea_:=Option.some.inj (jP.symm.trans mD)
      injection ea_ with ea_ en_ ec_
      subst ea_;subst ec_;clear en_;have aPa:(0≤(aD:Int))=True:=teq;have baa:(aD<(dW.length:Int))=True:=teq;obtain⟨QA,YO,aka,Uc,ol,mE,zL,zn⟩:=Zdc Hm.out aD odt odt;have Ae:=mE;have Ac:=ol;obtain rfl:kS=QA:=(by injection Uc);replace ol:=hB HB.out ol;replace mE:=hB HB.out mE;have yO:=Za.mk zn;have JE:=Za.mk zL;clear zn zL;have ea_:=Option.some.inj (jQ.symm.trans mE)
      injection ea_ with ea_ en_ ec_
      subst ea_;subst ec_;clear en_;refine Zef (n:=29) (S:=fun w'=>w'.cell? ⟨gX,0,none⟩=some (.slice (some kR) ae.length bv)∧w'.cell? ⟨gX,1,none⟩=some (.slice aI aa.length aG)∧w'.cell? ⟨gX,2,none⟩=some (.int .i64 aj)∧w'.cell? ⟨gX,3,none⟩=some (.slice bi ak.length bn)∧w'.cell? ⟨gX,4,none⟩=some (.slice bf ai.length bg)∧w'.cell? ⟨gY,0,none⟩=some (.slice (some kS) dW.length wK)∧w'.cell? ⟨gY,1,none⟩=some (.slice eF ay.length dU)∧w'.cell? ⟨gY,2,none⟩=some (.int .i64 jy)∧w'.cell? ⟨gY,3,none⟩=some (.slice wH jB.length wM)∧w'.cell? ⟨gY,4,none⟩=some (.slice wI jH.length wO)∧w'.cell? (kR.add ((aD).toNat*2))=some (.string ((Zaq ae aD).f0))∧w'.cell? ⟨(kR.add ((aD).toNat*2)).block,(kR.add ((aD).toNat*2)).off+1,none⟩=some (.slice rY ((Zaq ae aD).f1).length sK)∧w'.cell? (kS.add ((aD).toNat*2))=some (.string ((Zaq dW aD).f0))∧w'.cell? ⟨(kS.add ((aD).toNat*2)).block,(kS.add ((aD).toNat*2)).off+1,none⟩=some (.slice si ((Zaq dW aD).f1).length sN)∧w'.cell? (kR.add ((aD).toNat*2))=some (.string ((Zaq ae aD).f0))∧w'.cell? ⟨(kR.add ((aD).toNat*2)).block,(kR.add ((aD).toNat*2)).off+1,none⟩=some (.slice rY ((Zaq ae aD).f1).length sK)∧w'.cell? (kS.add ((aD).toNat*2))=some (.string ((Zaq dW aD).f0))∧w'.cell? ⟨(kS.add ((aD).toNat*2)).block,(kS.add ((aD).toNat*2)).off+1,none⟩=some (.slice si ((Zaq dW aD).f1).length sN)) (ds:= []) #[false,false,false,false,false,false,false,false,false,false,false,false,false,false,false,false,false,false,false,false,false,false,false,false,false,false,false,false,false] (by kernel_rfl) rfl rfl ⟨bc bK.out 0,bc bK.out 1,bc bK.out 2,bc bK.out 3,bc bK.out 4,bc bX.out 0,bc bX.out 1,bc bX.out 2,bc bX.out 3,bc bX.out 4,(hB (bM HB.out) uo),(hB (bM HB.out) uq),(hB (bM HB.out) ut),(hB (bM HB.out) uu),(hB (bM HB.out) Aa),(hB (bM HB.out) Ab),(hB (bM HB.out) Ac),(hB (bM HB.out) Ae)⟩ (fun hHeld=> ?_);refine Zc6 Zai.tab6 Zai.bits6 (fun HT_ HW_=> ?_)
      generalize wr.drew=w36 at bK bX HB yL yM yN yO kX jP kY jQ oh mD ol mE hHeld ⊢
      refine pu HT_ 0 59 ?_;refine pu HT_ 2 61 ?_;refine pu HT_ 6 65 ?_;refine pu HT_ 8 67 ?_;refine tk HT_ HW_ hHeld 1 60 ?_;refine pu HT_ 3 62 ?_;refine pu HT_ 4 63 ?_;refine tk HT_ HW_ hHeld 5 64 ?_;refine tk HT_ HW_ hHeld 7 66 ?_;refine pu HT_ 9 68 ?_;refine pu HT_ 10 69 ?_;refine tk HT_ HW_ hHeld 11 70 ?_;refine pu HT_ 12 71 ?_;refine pu HT_ 13 72 ?_;refine pu HT_ 14 73 ?_;refine pu HT_ 16 75 ?_;refine pu HT_ 20 79 ?_;refine pu HT_ 22 81 ?_;refine tk HT_ HW_ hHeld 15 74 ?_;refine pu HT_ 17 76 ?_;refine pu HT_ 18 77 ?_;refine tk HT_ HW_ hHeld 19 78 ?_;refine tk HT_ HW_ hHeld 21 80 ?_;refine pu HT_ 23 82 ?_;refine pu HT_ 24 83 ?_;refine tk HT_ HW_ hHeld 25 84 ?_;refine on1 HT_ 26 85 (fun K hK=> ?_);refine gs Tryz.func22 #[.slice rY ((Zaq ae aD).f1).length sK,.slice si ((Zaq dW aD).f1).length sN] ?_
      with_reducible refine(Zbr.calls k2 _ _ ((Zaq ae aD).f1) _ _ ((Zaq dW aD).f1) true _ (cM (Kd.Zaf yN.out HB.out)) JD.out (cM (Kd.Zaf yO.out HB.out)) JE.out A32.out).mono ?_
      rintro e w' ⟨rfl,⟨nd,rfl⟩⟩;refine⟨_,rfl,?_⟩;refine hK.out _ _ ⟨bc bK.out 0,bc bK.out 1,bc bK.out 2,bc bK.out 3,bc bK.out 4,bc bX.out 0,bc bX.out 1,bc bX.out 2,bc bX.out 3,bc bX.out 4,(hB (bM HB.out) uo),(hB (bM HB.out) uq),(hB (bM HB.out) ut),(hB (bM HB.out) uu),(hB (bM HB.out) Aa),(hB (bM HB.out) Ab),(hB (bM HB.out) Ac),(hB (bM HB.out) Ae)⟩ (fun hHeld=> ?_);clear hK K;refine nmp 85 ?_;refine pu HT_ 27 86 ?_;refine pu HT_ 28 87 ?_;refine Zfb (Zdw HT_.out (by kernel_rfl)) ?_;try go_wp2
      go_roundg k2
      case measure=>have:=HJ2.out;have:=HK2.out;omega
      case rel=>exact⟨(wrap64 (aD+1)),eS,H',⟨by have:=HJ2.out;have:=HK2.out;omega⟩,⟨by(with_reducible repeat(first|refine Zab ?_ _|refine Zad ?_|refine Zaa ?_ _));exact bK.out⟩,⟨by(with_reducible repeat(first|refine Zab ?_ _|refine Zad ?_|refine Zaa ?_ _));exact bX.out⟩,⟨bM HB.out⟩⟩
     replace c33:=Bool.eq_false_iff.mpr c33;subst c33;replace H:=ifF H;obtain rfl:=sj H;have lLa:=kP.out;have mva:=kQ.out;obtain⟨SB,SC,Xl,Xm,Xn,RA,RB,WK,WL,WM⟩:=cz5 bK.out;try go_wp2
     replace bK:=Za.mk (Zad bK.out);replace bX:=Za.mk (Zad bX.out);replace HB:=Za.mk (Zb6 HB.out);have Uz:(0≤(aD:Int))=True:=teq;have UE:(aD<(ae.length:Int))=True:=teq;obtain⟨kR,rY,sK,MI,kX,jP,rO,rF⟩:=Zdc gV.out aD odt odt;have uq:=jP;have uo:=kX;cases MI;replace kX:=hB HB.out kX;replace jP:=hB HB.out jP;have yL:=Za.mk rF;have NS:=Za.mk rO;clear rF rO;have U0:(0≤(aD:Int))=True:=teq;have UF:(aD<(dW.length:Int))=True:=teq;obtain⟨kS,si,sN,MJ,kY,jQ,rP,rG⟩:=Zdc Hm.out aD odt odt;have uu:=jQ;have ut:=kY;cases MJ;replace kY:=hB HB.out kY;replace jQ:=hB HB.out jQ;have yM:=Za.mk rG;have NT:=Za.mk rP;clear rG rP;have aOa:(0≤(aD:Int))=True:=teq;have aYa:(aD<(ae.length:Int))=True:=teq;obtain⟨Q9,YN,aja,Ub,oh,mD,zK,zm⟩:=Zdc gV.out aD odt odt;have Ab:=mD;have Aa:=oh;obtain rfl:kR=Q9:=(by injection Ub);replace oh:=hB HB.out oh;replace mD:=hB HB.out mD;have yN:=Za.mk zm;have JD:=Za.mk zK;clear zm zK;have ea_:=Option.some.inj (jP.symm.trans mD)
     injection ea_ with ea_ en_ ec_
     subst ea_;subst ec_;clear en_;have aPa:(0≤(aD:Int))=True:=teq;have baa:(aD<(dW.length:Int))=True:=teq;obtain⟨QA,YO,aka,Uc,ol,mE,zL,zn⟩:=Zdc Hm.out aD odt odt;have Ae:=mE;have Ac:=ol;obtain rfl:kS=QA:=(by injection Uc);replace ol:=hB HB.out ol;replace mE:=hB HB.out mE;have yO:=Za.mk zn;have JE:=Za.mk zL;clear zn zL;have ea_:=Option.some.inj (jQ.symm.trans mE)
     injection ea_ with ea_ en_ ec_
     subst ea_;subst ec_;clear en_;refine Zef (n:=29) (S:=fun w'=>w'.cell? ⟨gX,0,none⟩=some (.slice (some kR) ae.length bv)∧w'.cell? ⟨gX,1,none⟩=some (.slice aI aa.length aG)∧w'.cell? ⟨gX,2,none⟩=some (.int .i64 aj)∧w'.cell? ⟨gX,3,none⟩=some (.slice bi ak.length bn)∧w'.cell? ⟨gX,4,none⟩=some (.slice bf ai.length bg)∧w'.cell? ⟨gY,0,none⟩=some (.slice (some kS) dW.length wK)∧w'.cell? ⟨gY,1,none⟩=some (.slice eF ay.length dU)∧w'.cell? ⟨gY,2,none⟩=some (.int .i64 jy)∧w'.cell? ⟨gY,3,none⟩=some (.slice wH jB.length wM)∧w'.cell? ⟨gY,4,none⟩=some (.slice wI jH.length wO)∧w'.cell? (kR.add ((aD).toNat*2))=some (.string ((Zaq ae aD).f0))∧w'.cell? ⟨(kR.add ((aD).toNat*2)).block,(kR.add ((aD).toNat*2)).off+1,none⟩=some (.slice rY ((Zaq ae aD).f1).length sK)∧w'.cell? (kS.add ((aD).toNat*2))=some (.string ((Zaq dW aD).f0))∧w'.cell? ⟨(kS.add ((aD).toNat*2)).block,(kS.add ((aD).toNat*2)).off+1,none⟩=some (.slice si ((Zaq dW aD).f1).length sN)∧w'.cell? (kR.add ((aD).toNat*2))=some (.string ((Zaq ae aD).f0))∧w'.cell? ⟨(kR.add ((aD).toNat*2)).block,(kR.add ((aD).toNat*2)).off+1,none⟩=some (.slice rY ((Zaq ae aD).f1).length sK)∧w'.cell? (kS.add ((aD).toNat*2))=some (.string ((Zaq dW aD).f0))∧w'.cell? ⟨(kS.add ((aD).toNat*2)).block,(kS.add ((aD).toNat*2)).off+1,none⟩=some (.slice si ((Zaq dW aD).f1).length sN)) (ds:= []) #[false,false,false,false,false,false,false,false,false,false,false,false,false,false,false,false,false,false,false,false,false,false,false,false,false,false,false,false,false] (by kernel_rfl) rfl rfl ⟨bc bK.out 0,bc bK.out 1,bc bK.out 2,bc bK.out 3,bc bK.out 4,bc bX.out 0,bc bX.out 1,bc bX.out 2,bc bX.out 3,bc bX.out 4,(hB (bM HB.out) uo),(hB (bM HB.out) uq),(hB (bM HB.out) ut),(hB (bM HB.out) uu),(hB (bM HB.out) Aa),(hB (bM HB.out) Ab),(hB (bM HB.out) Ac),(hB (bM HB.out) Ae)⟩ (fun hHeld=> ?_);refine Zc6 Zai.tab6 Zai.bits6 (fun HT_ HW_=> ?_)
     generalize wr.drew=w39 at bK bX HB yL yM yN yO kX jP kY jQ oh mD ol mE hHeld ⊢
     refine pu HT_ 0 59 ?_;refine pu HT_ 2 61 ?_;refine pu HT_ 6 65 ?_;refine pu HT_ 8 67 ?_;refine tk HT_ HW_ hHeld 1 60 ?_;refine pu HT_ 3 62 ?_;refine pu HT_ 4 63 ?_;refine tk HT_ HW_ hHeld 5 64 ?_;refine tk HT_ HW_ hHeld 7 66 ?_;refine pu HT_ 9 68 ?_;refine pu HT_ 10 69 ?_;refine tk HT_ HW_ hHeld 11 70 ?_;refine pu HT_ 12 71 ?_;refine pu HT_ 13 72 ?_;refine pu HT_ 14 73 ?_;refine pu HT_ 16 75 ?_;refine pu HT_ 20 79 ?_;refine pu HT_ 22 81 ?_;refine tk HT_ HW_ hHeld 15 74 ?_;refine pu HT_ 17 76 ?_;refine pu HT_ 18 77 ?_;refine tk HT_ HW_ hHeld 19 78 ?_;refine tk HT_ HW_ hHeld 21 80 ?_;refine pu HT_ 23 82 ?_;refine pu HT_ 24 83 ?_;refine tk HT_ HW_ hHeld 25 84 ?_;refine on1 HT_ 26 85 (fun K hK=> ?_);refine gs Tryz.func22 #[.slice rY ((Zaq ae aD).f1).length sK,.slice si ((Zaq dW aD).f1).length sN] ?_
     with_reducible refine(Zbr.calls k2 _ _ ((Zaq ae aD).f1) _ _ ((Zaq dW aD).f1) false _ (cM (Kd.Zaf yN.out HB.out)) JD.out (cM (Kd.Zaf yO.out HB.out)) JE.out A32.out).mono ?_
     rintro e w' ⟨rfl,⟨nd,rfl⟩⟩;refine⟨_,rfl,?_⟩;refine hK.out _ _ ⟨bc bK.out 0,bc bK.out 1,bc bK.out 2,bc bK.out 3,bc bK.out 4,bc bX.out 0,bc bX.out 1,bc bX.out 2,bc bX.out 3,bc bX.out 4,(hB (bM HB.out) uo),(hB (bM HB.out) uq),(hB (bM HB.out) ut),(hB (bM HB.out) uu),(hB (bM HB.out) Aa),(hB (bM HB.out) Ab),(hB (bM HB.out) Ac),(hB (bM HB.out) Ae)⟩ (fun hHeld=> ?_);clear hK K;refine nmp 85 ?_;refine pu HT_ 27 86 ?_;refine pu HT_ 28 87 ?_;refine Zfb (Zdw HT_.out (by kernel_rfl)) ?_;try go_wp2
     go_ret;exact⟨eR,bM HB.out⟩
end Go.Proofs.YtkgjaklnbgdmiaaGreat.P
/- The document's copy of a model, and whether two models are the same. -/
namespace Go.Proofs.YtkgjaklnbgdmiaaGreat.P
open Go.RowKit Go.Proofs.YtkgjaklnbgdmiaaGreatW.PrintWords Go.Proofs.YtkgjaklnbgdmiaaGreatW.PrintLast Go.Proofs.YtkgjaklnbgdmiaaGreatW.PrintMore
section
variable (vars:List S37) (cons:List S40) (gk:Int) (gv gc:List Int)
theorem rcopy_l1 (hl : cons.length ≤ 1000000) (hc : ∀ c ∈ cons, c.f1.length ≤ 1000000 ∧ c.f2.length ≤ 1000000 ∧ c.f5.length ≤ 1000000 ∧ ∀ r ∈ c.f5, r.length ≤ 1000000) (V : List S37) (gk2 : Int) (gv2 gc2 : List Int) : ∀ (d n : Nat) (acc : List S40), n + d = cons.length → acc.length ≤ n →
    Ev (fun k=>Zak.l1 k (n:Int) vars cons gk gv gc V acc gk2 gv2 gc2) (V,acc++cons.drop n,gk2,gv2,gc2)
  |0,n,acc,h,ha=>by
    rw[List.drop_eq_nil_of_le (by omega),List.append_nil];exact Ev.step (G:=fun _=>some (V,acc,gk2,gv2,gc2)) (fun k=>by rw[Zak.l1,if_neg (by omega)]) (Ev.const rfl)
  |d+1,n,acc,h,ha=>by
    have hn:n<cons.length:=by omega
    have hrd:Zac cons (n:Int)=cons[n]:=by simp[Zac,List.getD_eq_getElem?_getD,List.getElem?_eq_getElem hn]
    obtain⟨c1,c2,c5,c6⟩:=hc _ (List.getElem_mem hn);have ih:=rcopy_l1 hl hc V gk2 gv2 gc2 d (n+1) (acc++ [cons[n]]) (by omega) (by simp;omega);rw[List.append_assoc,List.singleton_append,←List.drop_eq_getElem_cons hn]at ih;refine Ev.step (fun k=>by rw[Zak.l1,if_pos (by omega),if_pos (by omega),hrd]) (Ev.bind (ref_own4 _ _ _ _ _ _ _ c1 c2 c5 c6) ?_);rw[w1 (by omega)];exact Ev.Zan (show acc.length<1353245080339 by omega) ih
theorem rcopy_l0 (hvl : vars.length ≤ 1000000) (hv : ∀ v ∈ vars, v.f1.length ≤ 1000000) (hl : cons.length ≤ 1000000) (hc : ∀ c ∈ cons, c.f1.length ≤ 1000000 ∧ c.f2.length ≤ 1000000 ∧ c.f5.length ≤ 1000000 ∧ ∀ r ∈ c.f5, r.length ≤ 1000000) (gk2 : Int) (gv2 gc2 : List Int) : ∀ (d n : Nat) (acc : List S37), n + d = vars.length → acc.length ≤ n →
    Ev (fun k=>Zak.l0 k (n:Int) vars cons gk gv gc acc gk2 gv2 gc2) (acc++vars.drop n,cons,gk2,gv2,gc2)
  |0,n,acc,h,ha=>by
    rw[List.drop_eq_nil_of_le (by omega),List.append_nil];have:=rcopy_l1 vars cons gk gv gc hl hc acc gk2 gv2 gc2 cons.length 0 [] (by omega) (by simp);rw[List.drop_zero,List.nil_append]at this;exact Ev.step (fun k=>by rw[Zak.l0,if_neg (by omega)];rfl) this
  |d+1,n,acc,h,ha=>by
    have hn:n<vars.length:=by omega
    have hrd:Zaq vars (n:Int)=vars[n]:=by simp[Zaq,List.getD_eq_getElem?_getD,List.getElem?_eq_getElem hn]
    have hq:=hv _ (List.getElem_mem hn);have ih:=rcopy_l0 hvl hv hl hc gk2 gv2 gc2 d (n+1) (acc++ [vars[n]]) (by omega) (by simp;omega);rw[List.append_assoc,List.singleton_append,←List.drop_eq_getElem_cons hn]at ih;refine Ev.step (fun k=>by rw[Zak.l0,if_pos (by omega),if_pos (by omega),hrd]) (Ev.bind (a:=([]:List Rg)) (Ev.const rfl) ?_);refine Ev.Zan (by show 0+vars[n].f1.length<_;omega) (Ev.Zan (by omega) ?_);rw[w1 (by omega),List.nil_append];exact ih
theorem rcopy_ev (hvl : vars.length ≤ 1000000) (hv : ∀ v ∈ vars, v.f1.length ≤ 1000000) (hl : cons.length ≤ 1000000) (hc : ∀ c ∈ cons, c.f1.length ≤ 1000000 ∧ c.f2.length ≤ 1000000 ∧ c.f5.length ≤ 1000000 ∧ ∀ r ∈ c.f5, r.length ≤ 1000000) (h1 : gv.length ≤ 1000000) (h2 : gc.length ≤ 1000000) :
    Ev (fun k=>Zak.f k vars cons gk gv gc) (vars,cons,gk,gv,gc):=by
  unfold Zak.f;refine Ev.bind (a:=([]:List Int)) (Ev.const rfl) (Ev.Zan (by show 0+gv.length<_;omega) (Ev.bind (a:=([]:List Int)) (Ev.const rfl) (Ev.Zan (by show 0+gc.length<_;omega) ?_)));have:=rcopy_l0 vars cons gk gv gc hvl hv hl hc gk gv gc vars.length 0 [] (by omega) (by simp);rw[List.drop_zero,List.nil_append]at this;exact this
end
theorem dsame_l0 (a b : List Rg) (hl : a.length ≤ 3000000) (e : a.length = b.length) : ∀ (d n : Nat), n + d = a.length → ∃ q : Bool, Ev (fun k => Zbr.l0 k a b (n : Int)) q ∧ (q = true ↔ a.drop n = b.drop n)
  |0,n,h=>by
    refine⟨true,Ev.step (G:=fun _=>some true) (fun k=>by rw[Zbr.l0,if_neg (by omega)]) (Ev.const rfl),?_⟩;rw[List.drop_eq_nil_of_le (by omega),List.drop_eq_nil_of_le (by omega)]
    simp
  |d+1,n,h=>by
    have hn:n<a.length:=by omega
    have hn2:n<b.length:=by omega
    have h1:=show Zba a (n:Int)=a[n]from Zfe a n hn
    have h2:=show Zba b (n:Int)=b[n]from Zfe b n hn2
    obtain⟨q,hq,hq2⟩:=dsame_l0 a b hl e d (n+1) (by omega);rw[List.drop_eq_getElem_cons hn,List.drop_eq_getElem_cons hn2];by_cases e0:a[n]=b[n]
    · refine ⟨q, Ev.step (fun k => by rw [Zbr.l0, if_pos (by omega), if_pos (by omega), if_pos (by omega), h1, h2, if_neg (by simp [e0]), w1 (by omega)]) hq, ?_⟩
      rw[hq2,e0];exact⟨fun h=>by rw[h],fun h=>(List.cons.inj h).2⟩
    refine ⟨false, Ev.step (G := fun _ => some false) (fun k => by
      rw[Zbr.l0,if_pos (by omega),if_pos (by omega),if_pos (by omega),h1,h2,if_pos];by_cases e1:a[n].f0=b[n].f0
      · have e2 : a[n].f1 ≠ b[n].f1 := fun e2 => e0 (Rg.ext' e1 e2)
        simp[e2]
      simp [e1]) (Ev.const rfl), ⟨fun h => (by cases h), fun h => absurd (List.cons.inj h).1 e0⟩⟩
theorem dsame_ev (a b:List Rg) (hl:a.length≤3000000):∃q:Bool,Ev (fun k=>Zbr.f k a b) q∧(q=true↔a=b):=by
  unfold Zbr.f;by_cases e:a.length=b.length;rotate_left
  · exact⟨false,Ev.Za4 (by omega) (Ev.const rfl),⟨fun h=>(by cases h),fun h=>absurd (by rw[h]) e⟩⟩
  obtain⟨q,hq,hq2⟩:=dsame_l0 a b hl e a.length 0 (by omega);rw[List.drop_zero,List.drop_zero]at hq2;exact⟨q,Ev.Zan (by omega) hq,hq2⟩
theorem con_ext {c c':S40} (h0:c.f0=c'.f0) (h1:c.f1=c'.f1) (h2:c.f2=c'.f2) (h3:c.f3=c'.f3) (h4:c.f4=c'.f4) (h5:c.f5=c'.f5) (h6:c.f6=c'.f6):c=c':=by
  cases c;cases c';simp only at h0 h1 h2 h3 h4 h5 h6;subst h0 h1 h2 h3 h4 h5 h6
  rfl
theorem var_ext {v v':S37} (h0:v.f0.toList=v'.f0.toList) (h1:v.f1=v'.f1):v=v':=by
  have e:v.f0=v'.f0:=by
    rw[ByteArray.toList_eq,ByteArray.toList_eq]at h0;exact ByteArray.ext (Array.ext' h0)
  cases v;cases v';simp only at e h1;subst e h1
  rfl
theorem alike_ev (c c' : S40) (h1 : c.f1.length ≤ 1000000) (h2 : c.f2.length ≤ 1000000) (h5 : c.f5.length ≤ 1000000) (h6 : ∀ r ∈ c.f5, r.length ≤ 1000000) :
    ∃q:Bool,Ev (fun k=>Zcn.f k c.f0 c.f1 c.f2 c.f3 c.f4 c.f5 c.f6 c'.f0 c'.f1 c'.f2 c'.f3 c'.f4 c'.f5 c'.f6) q∧(q=true↔c=c'):=by
  have no:∀ {p:Prop},¬p→(c=c'→p)→(false=true↔c=c'):=fun hp hi=>⟨fun h=>(by cases h),fun h=>absurd (hi h) hp⟩
  unfold Zcn.f;by_cases e0:c.f0=c'.f0;case neg=>exact⟨false,Ev.Za4 e0 (Ev.const rfl),no e0 (fun h=>by rw[h])⟩
  by_cases e3:c.f3=c'.f3;case neg=>exact⟨false,Ev.Zan e0 (Ev.Za4 e3 (Ev.const rfl)),no e3 (fun h=>by rw[h])⟩
  by_cases e4:c.f4=c'.f4;case neg=>exact⟨false,Ev.Zan e0 (Ev.Zan e3 (Ev.Za4 e4 (Ev.const rfl))),no e4 (fun h=>by rw[h])⟩
  by_cases e6:c.f6=c'.f6;case neg=>exact⟨false,Ev.Zan e0 (Ev.Zan e3 (Ev.Zan e4 (Ev.Za4 e6 (Ev.const rfl)))),no e6 (fun h=>by rw[h])⟩
  have n1:=Zfp c.f1 c'.f1 (by omega);by_cases e1:c.f1=c'.f1
  case neg=>
    rw[decide_eq_false e1]at n1;exact⟨false,Ev.Zan e0 (Ev.Zan e3 (Ev.Zan e4 (Ev.Zan e6 (Ev.bind n1 (Ev.Za4 (by simp) (Ev.const rfl)))))),no e1 (fun h=>by rw[h])⟩
  rw[decide_eq_true e1]at n1;have n2:=Zfp c.f2 c'.f2 (by omega);by_cases e2:c.f2=c'.f2
  case neg=>
    rw[decide_eq_false e2]at n2;exact⟨false,Ev.Zan e0 (Ev.Zan e3 (Ev.Zan e4 (Ev.Zan e6 (Ev.bind n1 (Ev.Zan rfl (Ev.bind n2 (Ev.Za4 (by simp) (Ev.const rfl)))))))),no e2 (fun h=>by rw[h])⟩
  rw[decide_eq_true e2]at n2;have n5:=ref_Lists c.f5 c'.f5 (by omega) (fun x hx=>by have:=h6 x hx;omega);refine⟨decide (c.f5=c'.f5),Ev.Zan e0 (Ev.Zan e3 (Ev.Zan e4 (Ev.Zan e6 (Ev.bind n1 (Ev.Zan rfl (Ev.bind n2 (Ev.Zan rfl (Ev.bind n5 (Ev.const rfl))))))))),?_⟩;rw[decide_eq_true_iff];exact⟨fun e5=>con_ext e0 e1 e2 e3 e4 e5 e6,fun h=>by rw[h]⟩
section
variable (vars : List S37) (cons : List S40) (gk : Int) (gv gc : List Int) (vars' : List S37) (cons' : List S40) (gk' : Int) (gv' gc' : List Int)
  (hvl:vars.length≤1000000) (hv:∀v ∈ vars,v.f1.length≤1000000) (hl:cons.length≤1000000) (hc:∀c ∈ cons,c.f1.length≤1000000∧c.f2.length≤1000000∧c.f5.length≤1000000∧∀r ∈ c.f5,r.length≤1000000)
include hvl hv hl hc
theorem rsame_l1 (e : cons.length = cons'.length) : ∀ (d n : Nat), n + d = cons.length → ∃ q : Bool, Ev (fun k => Zai.l1 k (n : Int) vars cons gk gv gc vars' cons' gk' gv' gc') q ∧ (q = true ↔ cons.drop n = cons'.drop n)
  |0,n,h=>by
    have _:=hvl;have _:=hv;refine⟨true,Ev.step (G:=fun _=>some true) (fun k=>by rw[Zai.l1,if_neg (by omega)]) (Ev.const rfl),?_⟩;rw[List.drop_eq_nil_of_le (by omega),List.drop_eq_nil_of_le (by omega)]
    simp
  |d+1,n,h=>by
    have hn:n<cons.length:=by omega
    have hn2:n<cons'.length:=by omega
    have h1:Zac cons (n:Int)=cons[n]:=by simp[Zac,List.getD_eq_getElem?_getD,List.getElem?_eq_getElem hn]
    have h2:Zac cons' (n:Int)=cons'[n]:=by simp[Zac,List.getD_eq_getElem?_getD,List.getElem?_eq_getElem hn2]
    obtain⟨q,hq,hq2⟩:=rsame_l1 e d (n+1) (by omega);obtain⟨c1,c2,c5,c6⟩:=hc _ (List.getElem_mem hn);obtain⟨p,hp,hp2⟩:=alike_ev cons[n] cons'[n] c1 c2 c5 c6;rw[List.drop_eq_getElem_cons hn,List.drop_eq_getElem_cons hn2]
    cases p with
    |true=>
      refine⟨q,Ev.step (fun k=>by rw[Zai.l1,if_pos (by omega),if_pos (by omega),if_pos (by omega),h1,h2,w1 (by omega)]) (Ev.bind hp (Ev.Zan rfl hq)),?_⟩;rw[hq2,hp2.1 rfl];exact⟨fun h=>by rw[h],fun h=>(List.cons.inj h).2⟩
    |false=>
      refine⟨false,?_,⟨fun h=>(by cases h),fun h=> ?_⟩⟩
      · refine Ev.step (fun k => by rw [Zai.l1, if_pos (by omega), if_pos (by omega), if_pos (by omega), h1, h2]) ?_
        exact Ev.bind hp (Ev.Za4 Bool.false_ne_true (Ev.const rfl))
      exact absurd (hp2.2 (List.cons.inj h).1) (by simp)
theorem rsame_l0 (ev : vars.length = vars'.length) (e : cons.length = cons'.length) : ∀ (d n : Nat), n + d = vars.length → ∃ q : Bool, Ev (fun k => Zai.l0 k (n : Int) vars cons gk gv gc vars' cons' gk' gv' gc') q ∧ (q = true ↔ vars.drop n = vars'.drop n ∧ cons = cons')
  |0,n,h=>by
    obtain⟨q,hq,hq2⟩:=rsame_l1 vars cons gk gv gc vars' cons' gk' gv' gc' hvl hv hl hc e cons.length 0 (by omega);rw[List.drop_zero,List.drop_zero]at hq2;refine⟨q,Ev.step (fun k=>by rw[Zai.l0,if_neg (by omega)];rfl) hq,?_⟩;rw[List.drop_eq_nil_of_le (by omega),List.drop_eq_nil_of_le (by omega),hq2]
    simp
  |d+1,n,h=>by
    have hn:n<vars.length:=by omega
    have hn2:n<vars'.length:=by omega
    have h1:Zaq vars (n:Int)=vars[n]:=by simp[Zaq,List.getD_eq_getElem?_getD,List.getElem?_eq_getElem hn]
    have h2:Zaq vars' (n:Int)=vars'[n]:=by simp[Zaq,List.getD_eq_getElem?_getD,List.getElem?_eq_getElem hn2]
    obtain⟨q,hq,hq2⟩:=rsame_l0 ev e d (n+1) (by omega);obtain⟨p,hp,hp2⟩:=dsame_ev vars[n].f1 vars'[n].f1 (by have:=hv _ (List.getElem_mem hn);omega);rw[List.drop_eq_getElem_cons hn,List.drop_eq_getElem_cons hn2];by_cases en:vars[n].f0.toList=vars'[n].f0.toList;rotate_left
    · refine ⟨false, Ev.step (G := fun _ => some false) (fun k => by rw [Zai.l0, if_pos (by omega), if_pos (by omega), if_pos (by omega), h1, h2, if_neg en]) (Ev.const rfl), ⟨fun h => (by cases h), fun h => ?_⟩⟩
      have e9:=(List.cons.inj h.1).1;exact absurd (by rw[e9]) en
    cases p with
    |true=>
      refine⟨q,Ev.step (fun k=>by rw[Zai.l0,if_pos (by omega),if_pos (by omega),if_pos (by omega),h1,h2,if_pos en,w1 (by omega)]) (Ev.bind hp (Ev.Zan rfl hq)),?_⟩;rw[hq2,var_ext en (hp2.1 rfl)];exact⟨fun h=>⟨by rw[h.1],h.2⟩,fun h=>⟨(List.cons.inj h.1).2,h.2⟩⟩
    |false=>
      refine⟨false,?_,⟨fun h=>(by cases h),fun h=> ?_⟩⟩
      · refine Ev.step (fun k => by rw [Zai.l0, if_pos (by omega), if_pos (by omega), if_pos (by omega), h1, h2, if_pos en]) ?_
        exact Ev.bind hp (Ev.Za4 Bool.false_ne_true (Ev.const rfl))
      have e9:=(List.cons.inj h.1).1;exact absurd (hp2.2 (by rw[e9])) (by simp)
theorem rsame4_ev (h1:gv.length≤1000000) (h2:gc.length≤1000000):∃q:Bool,Ev (fun k=>Zai.f k vars cons gk gv gc vars' cons' gk' gv' gc') q∧(q=true↔vars=vars'∧cons=cons'∧gk=gk'∧gv=gv'∧gc=gc'):=by
  have jt:Ev (fun k=>Zai.j0 k true vars cons gk gv gc vars' cons' gk' gv' gc') false:=Ev.step (G:=fun _=>some false) (fun k=>by rw[Zai.j0,if_pos rfl]) (Ev.const rfl);unfold Zai.f;by_cases ev:vars.length=vars'.length;case neg=>exact⟨false,Ev.Za4 (by omega) jt,⟨fun h=>(by cases h),fun h=>absurd (by rw[h.1]) ev⟩⟩
  by_cases ec:cons.length=cons'.length;case neg=>exact⟨false,Ev.Zan (by omega) (Ev.Za4 (by omega) jt),⟨fun h=>(by cases h),fun h=>absurd (by rw[h.2.1]) ec⟩⟩
  by_cases eg:gk=gk';case neg=>exact⟨false,Ev.Zan (by omega) (Ev.Zan (by omega) (Ev.Za4 eg jt)),⟨fun h=>(by cases h),fun h=>absurd h.2.2.1 eg⟩⟩
  have n1:=Zfp gv gv' (by omega);by_cases e1:gv=gv'
  case neg=>
    rw[decide_eq_false e1]at n1;exact⟨false,Ev.Zan (by omega) (Ev.Zan (by omega) (Ev.Zan eg (Ev.bind n1 (Ev.Za4 (by simp) jt)))),⟨fun h=>(by cases h),fun h=>absurd h.2.2.2.1 e1⟩⟩
  rw[decide_eq_true e1]at n1;have n2:=Zfp gc gc' (by omega);by_cases e2:gc=gc'
  case neg=>
    rw[decide_eq_false e2]at n2;exact⟨false,Ev.Zan (by omega) (Ev.Zan (by omega) (Ev.Zan eg (Ev.bind n1 (Ev.Zan rfl (Ev.bind n2 jt))))),⟨fun h=>(by cases h),fun h=>absurd h.2.2.2.2 e2⟩⟩
  rw[decide_eq_true e2]at n2;obtain⟨q,hq,hq2⟩:=rsame_l0 vars cons gk gv gc vars' cons' gk' gv' gc' hvl hv hl hc ev ec vars.length 0 (by omega);rw[List.drop_zero,List.drop_zero]at hq2;refine⟨q,Ev.Zan (by omega) (Ev.Zan (by omega) (Ev.Zan eg (Ev.bind n1 (Ev.Zan rfl (Ev.bind n2 (Ev.step (fun k=>by rw[Zai.j0,if_neg (by simp)];rfl) hq)))))),?_⟩;rw[hq2];exact⟨fun h=>⟨h.1,h.2,eg,e1,e2⟩,fun h=>⟨h.1,h.2.1⟩⟩
end
end Go.Proofs.YtkgjaklnbgdmiaaGreat.P
namespace Go.Proofs.YtkgjaklnbgdmiaaGreat.P
open Go.RowKit Go.Proofs.YtkgjaklnbgdmiaaGreatW.PrintWords Go.Proofs.YtkgjaklnbgdmiaaGreatW.PrintLast Go.Proofs.YtkgjaklnbgdmiaaGreatW.PrintMore
attribute [local go_sem] Zci Zck Zc3 Zc4 Zcb Zcc Zcj Zcl
def Zbi.f (k:Nat) (ae:List (S37)) (aa:List (S40)) (aj:Int) (ak:List Int) (ai:List Int):Option (Bool):=(Zag.f k ae aa aj ak ai).bind fun fF=>((Zak.f k fF.1 fF.2.1 fF.2.2.1 fF.2.2.2.1 fF.2.2.2.2).bind fun sJ=>((Zb1.f k fF.1 fF.2.1 fF.2.2.1 fF.2.2.2.1 fF.2.2.2.2).bind fun yJ=>((Zao.f k fF.1 fF.2.1 fF.2.2.1 fF.2.2.2.1 fF.2.2.2.2).bind fun yK=>(if yJ=yK then((Zai.f k fF.1 fF.2.1 fF.2.2.1 fF.2.2.2.1 fF.2.2.2.2 sJ.1 sJ.2.1 sJ.2.2.1 sJ.2.2.2.1 sJ.2.2.2.2).bind fun N7=>(if N7=true then((Zbu.f k).bind fun N8=>(some N8))else(none)))else(none)))))
def Zbi.T3:Bool × List (List Nat × List Nat):=(true,[([],[]),([0],[0]),([],[]),([2,1],[2]),([1,3],[1,3]),([4,3],[4]),([5],[5]),([5],[5]),([6,7,5,5],[5,6,7]),([5,8],[5,8]),([9,8],[9]),([10,10],[10]),([10,11],[10,11]),([12,11,0,1,2,3,4,5,6,7,8,9,10,11,12],[12])])
def Zbi.B3:List Nat:= [0,1,0,7,15,31,63,63,255,511,1023,2047,4095,8191]
theorem Zbi.tab3:rtab .any (opsOf Tryz.f3 3)=Zbi.T3:=by kernel_rfl
theorem Zbi.bits3:waitsOk Zbi.T3.2 Zbi.B3=true:=by kernel_rfl
set_option maxRecDepth 100000 in
theorem Zbi.calls (k : Nat) (bF : Option Addr) (bv : Nat) (ae : List (S37)) (aI : Option Addr) (aG : Nat) (aa : List (S40)) (aj : Int) (bi : Option Addr) (bn : Nat) (ak : List Int) (bf : Option Addr) (bg : Nat) (ai : List Int) (r : Bool) (w : World) (lC : Kd.C k37 w bF ae.length ae) (l8 : ae.length ≤ bv) (eO : Kd.C k40 w aI aa.length aa) (eH : aa.length ≤ aG) (kF : Kd.C (Kd.int .i64) w bi ak.length ak) (ky : ak.length ≤ bn) (kH : Kd.C (Kd.int .i64) w bf ai.length ai) (kz : ai.length ≤ bg) (h : Zbi.f k ae aa aj ak ai = some r) :
  Calls Tryz.prog 3 #[.agg #[.slice bF ae.length bv,.slice aI aa.length aG,.int .i64 aj,.slice bi ak.length bn,.slice bf ai.length bg]] w fun e w'=>e= .returned (.bool r)∧Below w.heap.size w w':=by
 have hu28:=Tryz.underlying28;have gV:=Za.mk lC;have uA:=Za.mk l8;clear lC l8;have fE:=Za.mk eO;have gU:=Za.mk eH;clear eO eH;have kr:=Za.mk kF;have lI:=Za.mk ky;clear kF ky;have lh:=Za.mk kH;have lJ:=Za.mk kz;clear kH kz;have HB:=Za.mk (Below.refl w.heap.size w);have H:((Zag.f k ae aa aj ak ai).bind fun fF=>((Zak.f k fF.1 fF.2.1 fF.2.2.1 fF.2.2.2.1 fF.2.2.2.2).bind fun sJ=>((Zb1.f k fF.1 fF.2.1 fF.2.2.1 fF.2.2.2.1 fF.2.2.2.2).bind fun yJ=>((Zao.f k fF.1 fF.2.1 fF.2.2.1 fF.2.2.2.1 fF.2.2.2.2).bind fun yK=>(if yJ=yK then((Zai.f k fF.1 fF.2.1 fF.2.2.1 fF.2.2.2.1 fF.2.2.2.2 sJ.1 sJ.2.1 sJ.2.2.1 sJ.2.2.2.1 sJ.2.2.2.2).bind fun N7=>(if N7=true then((Zbu.f k).bind fun N8=>(some N8))else(none)))else(none))))))=some r:=h;clear h;obtain⟨⟨iL,iT,jW,ib,ic⟩,A2,H⟩:=bnd H;try dsimp only at H
 obtain⟨⟨jC,jJ,lc,ji,jD⟩,A3,H⟩:=bnd H;try dsimp only at H
 obtain⟨yJ,A4,H⟩:=bnd H;try dsimp only at H
 obtain⟨yK,A5,H⟩:=bnd H;try dsimp only at H
 by_cases c6:yJ=yK
 case neg=>
  rw[if_neg c6]at H;have jh:(yJ==yK)=false:=beq_eq_false_iff_ne.mpr c6;have qY:(yJ !=yK)=true:=bne_iff_ne.mpr c6;exact absurd H (by simp)
 rw[if_pos c6]at H;have jh:(yJ==yK)=true:=beq_iff_eq.mpr c6;have qY:(yJ !=yK)=false:=bne_eq_false_iff_eq.mpr c6;clear c6;obtain⟨N7,A7,H⟩:=bnd H;try dsimp only at H
 by_cases c8:N7=true
 case neg=>
  replace c8:=Bool.eq_false_iff.mpr c8;subst c8;replace H:=ifF H;exact absurd H (by simp)
 subst c8;rw[if_pos rfl]at H;obtain⟨N8,A9,H⟩:=bnd H;try dsimp only at H
 obtain rfl:=sj H;go_enter Tryz.func3,Tryz.ntmps3;try go_wp2_with (first|((with_reducible refine Zap (N:=1) rfl ?_);refine bx 1 #[.slice bF ae.length bv,.slice aI aa.length aG,.int .i64 aj,.slice bi ak.length bn,.slice bf ai.length bg] 28 ?_;intro bN hg w10 hbox hb;have dB:=Za.mk (hbox);have kVa:=Za.mk ((gE hg HB.out:w.heap.size≤bN));replace HB:=Za.mk (bS HB.out hb);clear hb hbox hg;obtain⟨LV,LW,RN,WX,WY,Lp,Lr,Rb,Wx,Wy⟩:=cz5 dB.out)|((with_reducible refine Zat (f:=4) rfl ?_);refine gl 5 Tryz.func4 #[.agg #[.slice bF ae.length bv,.slice aI aa.length aG,.int .i64 aj,.slice bi ak.length bn,.slice bf ai.length bg]] ?_;(with_reducible refine(Zag.calls k _ _ ae _ _ aa aj _ _ ak _ _ ai iL iT jW ib ic _ (cM (Kd.Zaf gV.out HB.out)) uA.out (cM (Kd.Zaf fE.out HB.out)) gU.out (cM (Kd.Zaf kr.out HB.out)) lI.out (cM (Kd.Zaf lh.out HB.out)) lJ.out A2.out).mono ?_);rintro e w12 ⟨uva,uwa,uxa,uya,rfl,ho0,ho1,ho2,ho3,hb⟩;refine⟨_,rfl,?_⟩;have iQ:=Za.mk (Kd.Zfg ho0 (Zaj (bM HB.out)));have iR:=Za.mk (Kd.Zbp ho1 (Zaj (bM HB.out)));have il:=Za.mk (Kd.Zbp ho2 (Zaj (bM HB.out)));have iq:=Za.mk (Kd.Zbp ho3 (Zaj (bM HB.out)));replace dB:=Za.mk (kB dB.out hb);replace HB:=Za.mk (bS HB.out hb);(try clear hb);(try clear hb2);(try clear hk);(try clear hi);(try clear ho0);(try clear ho1);(try clear ho2);(try clear ho3);obtain⟨dA,dz,DX⟩:=Kd.Zd7 iQ.out;subst DX;obtain⟨uJ,uK,ym,CK,CU,uC,uD,xO,Ci,Cj⟩:=cz5 dB.out;obtain⟨jg,iX,BN⟩:=Kd.Za9 iR.out;subst BN;obtain⟨iJ,iA,FJ⟩:=Kd.Za9 il.out;subst FJ;obtain⟨fe,eQ,wR⟩:=Kd.Za9 iq.out;subst wR)|((with_reducible refine Zat (f:=5) rfl ?_);refine gl 7 Tryz.func5 #[.agg #[.slice dA iL.length dz,.slice jg iT.length iX,.int .i64 jW,.slice iJ ib.length iA,.slice fe ic.length eQ]] ?_;(with_reducible refine(Zak.calls k _ _ iL _ _ iT jW _ _ ib _ _ ic jC jJ lc ji jD _ ?side1 ?side2 ?side3 ?side4 ?side5 ?side6 ?side7 ?side8 A3.out).mono ?_);(case side1=>refine(Kd.Zeb (e:=37) (base:=w.heap.size) (ok:=fun k_=>True) (n:=iL.length) (c:=dz) ?_).2.2;exact(sM (Kd.Zcu (Kd.Zb2 (p:=⟨bN,4,none⟩) (Kd.Zb2 (p:=⟨bN,3,none⟩) (Kd.Zb2 (p:=⟨bN,2,none⟩) (Kd.Zb2 (p:=⟨bN,1,none⟩) (Kd.Zb2 (p:=⟨bN,0,none⟩) (Kd.Zcy iQ.out dB.out (by decide)) (fun _ hk=>hk.2) (.slice dA iL.length dz)) (fun _ hk=>hk.2) (.slice jg iT.length iX)) (fun _ hk=>hk.2) (.int .i64 jW)) (fun _ hk=>hk.2) (.slice iJ ib.length iA)) (fun _ hk=>hk.2) (.slice fe ic.length eQ)) (fun _ h_=>h_.1))));(case side2=>exact(Kd.Zeb iQ.out).2.1);(case side3=>refine(Kd.Za3 (e:=40) (base:=w.heap.size) (ok:=fun k_=>(some k_≠(.slice iJ ib.length iA:Value).ownBlock∧some k_≠(.slice fe ic.length eQ:Value).ownBlock)) (n:=iT.length) (c:=iX) ?_).2.2;exact(rM (Kd.Zaw (Kd.Za2 (p:=⟨bN,4,none⟩) (Kd.Za2 (p:=⟨bN,3,none⟩) (Kd.Za2 (p:=⟨bN,2,none⟩) (Kd.Za2 (p:=⟨bN,1,none⟩) (Kd.Za2 (p:=⟨bN,0,none⟩) (Kd.Zbh iR.out dB.out (by decide)) (fun _ hk=>hk.2) (.slice dA iL.length dz)) (fun _ hk=>hk.2) (.slice jg iT.length iX)) (fun _ hk=>hk.2) (.int .i64 jW)) (fun _ hk=>hk.2) (.slice iJ ib.length iA)) (fun _ hk=>hk.2) (.slice fe ic.length eQ)) (fun _ h_=>h_.1))));(case side4=>exact(Kd.Za3 iR.out).2.1);(case side5=>refine(Kd.Za3 (e:=3) (base:=w.heap.size) (ok:=fun k_=>some k_≠(.slice fe ic.length eQ:Value).ownBlock) (n:=ib.length) (c:=iA) ?_).2.2;exact(rM (Kd.Zaw (Kd.Za2 (p:=⟨bN,4,none⟩) (Kd.Za2 (p:=⟨bN,3,none⟩) (Kd.Za2 (p:=⟨bN,2,none⟩) (Kd.Za2 (p:=⟨bN,1,none⟩) (Kd.Za2 (p:=⟨bN,0,none⟩) (Kd.Zbh il.out dB.out (by decide)) (fun _ hk=>hk.2) (.slice dA iL.length dz)) (fun _ hk=>hk.2) (.slice jg iT.length iX)) (fun _ hk=>hk.2) (.int .i64 jW)) (fun _ hk=>hk.2) (.slice iJ ib.length iA)) (fun _ hk=>hk.2) (.slice fe ic.length eQ)) (fun _ h_=>h_.1))));(case side6=>exact(Kd.Za3 il.out).2.1);(case side7=>refine(Kd.Za3 (e:=3) (base:=w.heap.size) (ok:=fun k_=>some k_≠(.slice iJ ib.length iA:Value).ownBlock) (n:=ic.length) (c:=eQ) ?_).2.2;exact(rM (Kd.Zaw (Kd.Za2 (p:=⟨bN,4,none⟩) (Kd.Za2 (p:=⟨bN,3,none⟩) (Kd.Za2 (p:=⟨bN,2,none⟩) (Kd.Za2 (p:=⟨bN,1,none⟩) (Kd.Za2 (p:=⟨bN,0,none⟩) (Kd.Zbh iq.out dB.out (by decide)) (fun _ hk=>hk.2) (.slice dA iL.length dz)) (fun _ hk=>hk.2) (.slice jg iT.length iX)) (fun _ hk=>hk.2) (.int .i64 jW)) (fun _ hk=>hk.2) (.slice iJ ib.length iA)) (fun _ hk=>hk.2) (.slice fe ic.length eQ)) (fun _ h_=>h_.1))));(case side8=>exact(Kd.Za3 iq.out).2.1);rintro e w18 ⟨uza,u0a,u1a,u2a,rfl,ho0,ho1,ho2,ho3,hb⟩;refine⟨_,rfl,?_⟩;have lL:=Za.mk (Kd.Zfg (Kd.S_new' ho0 (Kd.S_lt (sM (Kd.Zcu (Kd.Zb2 (p:=⟨bN,4,none⟩) (Kd.Zb2 (p:=⟨bN,3,none⟩) (Kd.Zb2 (p:=⟨bN,2,none⟩) (Kd.Zb2 (p:=⟨bN,1,none⟩) (Kd.Zb2 (p:=⟨bN,0,none⟩) (Kd.Zcy iQ.out dB.out (by decide)) (fun _ hk=>hk.2) (.slice dA iL.length dz)) (fun _ hk=>hk.2) (.slice jg iT.length iX)) (fun _ hk=>hk.2) (.int .i64 jW)) (fun _ hk=>hk.2) (.slice iJ ib.length iA)) (fun _ hk=>hk.2) (.slice fe ic.length eQ)) (fun _ h_=>h_.1))))) (Zaj (bM HB.out)));replace iQ:=Za.mk (Kd.Zek (sM (Kd.Zcu (Kd.Zb2 (p:=⟨bN,4,none⟩) (Kd.Zb2 (p:=⟨bN,3,none⟩) (Kd.Zb2 (p:=⟨bN,2,none⟩) (Kd.Zb2 (p:=⟨bN,1,none⟩) (Kd.Zb2 (p:=⟨bN,0,none⟩) (Kd.Zcy iQ.out dB.out (by decide)) (fun _ hk=>hk.2) (.slice dA iL.length dz)) (fun _ hk=>hk.2) (.slice jg iT.length iX)) (fun _ hk=>hk.2) (.int .i64 jW)) (fun _ hk=>hk.2) (.slice iJ ib.length iA)) (fun _ hk=>hk.2) (.slice fe ic.length eQ)) (fun _ h_=>h_.1))) (Kd.S_base ho0) hb);have lM:=Za.mk (Kd.Zbp (Kd.Zcs (Kd.Zcs (Kd.Zcs ho1 (Kd.R_lt (rM (Kd.Zaw (Kd.Za2 (p:=⟨bN,4,none⟩) (Kd.Za2 (p:=⟨bN,3,none⟩) (Kd.Za2 (p:=⟨bN,2,none⟩) (Kd.Za2 (p:=⟨bN,1,none⟩) (Kd.Za2 (p:=⟨bN,0,none⟩) (Kd.Zbh iR.out dB.out (by decide)) (fun _ hk=>hk.2) (.slice dA iL.length dz)) (fun _ hk=>hk.2) (.slice jg iT.length iX)) (fun _ hk=>hk.2) (.int .i64 jW)) (fun _ hk=>hk.2) (.slice iJ ib.length iA)) (fun _ hk=>hk.2) (.slice fe ic.length eQ)) (fun _ h_=>h_.1))))) (Kd.R_lt (rM (Kd.Zaw (Kd.Za2 (p:=⟨bN,4,none⟩) (Kd.Za2 (p:=⟨bN,3,none⟩) (Kd.Za2 (p:=⟨bN,2,none⟩) (Kd.Za2 (p:=⟨bN,1,none⟩) (Kd.Za2 (p:=⟨bN,0,none⟩) (Kd.Zbh il.out dB.out (by decide)) (fun _ hk=>hk.2) (.slice dA iL.length dz)) (fun _ hk=>hk.2) (.slice jg iT.length iX)) (fun _ hk=>hk.2) (.int .i64 jW)) (fun _ hk=>hk.2) (.slice iJ ib.length iA)) (fun _ hk=>hk.2) (.slice fe ic.length eQ)) (fun _ h_=>h_.1))))) (Kd.R_lt (rM (Kd.Zaw (Kd.Za2 (p:=⟨bN,4,none⟩) (Kd.Za2 (p:=⟨bN,3,none⟩) (Kd.Za2 (p:=⟨bN,2,none⟩) (Kd.Za2 (p:=⟨bN,1,none⟩) (Kd.Za2 (p:=⟨bN,0,none⟩) (Kd.Zbh iq.out dB.out (by decide)) (fun _ hk=>hk.2) (.slice dA iL.length dz)) (fun _ hk=>hk.2) (.slice jg iT.length iX)) (fun _ hk=>hk.2) (.int .i64 jW)) (fun _ hk=>hk.2) (.slice iJ ib.length iA)) (fun _ hk=>hk.2) (.slice fe ic.length eQ)) (fun _ h_=>h_.1))))) (Zaj (bM HB.out)));replace iR:=Za.mk (Kd.Zaw (Kd.Zed (Kd.Zed (Kd.Zed (Kd.R_old (rM (Kd.Zaw (Kd.Za2 (p:=⟨bN,4,none⟩) (Kd.Za2 (p:=⟨bN,3,none⟩) (Kd.Za2 (p:=⟨bN,2,none⟩) (Kd.Za2 (p:=⟨bN,1,none⟩) (Kd.Za2 (p:=⟨bN,0,none⟩) (Kd.Zbh iR.out dB.out (by decide)) (fun _ hk=>hk.2) (.slice dA iL.length dz)) (fun _ hk=>hk.2) (.slice jg iT.length iX)) (fun _ hk=>hk.2) (.int .i64 jW)) (fun _ hk=>hk.2) (.slice iJ ib.length iA)) (fun _ hk=>hk.2) (.slice fe ic.length eQ)) (fun _ h_=>h_.1))) hb) (Kd.Zb4 ho1)) (Kd.Zb4 ho2)) (Kd.Zb4 ho3)) (fun _ h_=>h_.1));have lN:=Za.mk (Kd.Zbp (Kd.Zcs (Kd.Zcs ho2 (Kd.R_lt (rM (Kd.Zaw (Kd.Za2 (p:=⟨bN,4,none⟩) (Kd.Za2 (p:=⟨bN,3,none⟩) (Kd.Za2 (p:=⟨bN,2,none⟩) (Kd.Za2 (p:=⟨bN,1,none⟩) (Kd.Za2 (p:=⟨bN,0,none⟩) (Kd.Zbh il.out dB.out (by decide)) (fun _ hk=>hk.2) (.slice dA iL.length dz)) (fun _ hk=>hk.2) (.slice jg iT.length iX)) (fun _ hk=>hk.2) (.int .i64 jW)) (fun _ hk=>hk.2) (.slice iJ ib.length iA)) (fun _ hk=>hk.2) (.slice fe ic.length eQ)) (fun _ h_=>h_.1))))) (Kd.R_lt (rM (Kd.Zaw (Kd.Za2 (p:=⟨bN,4,none⟩) (Kd.Za2 (p:=⟨bN,3,none⟩) (Kd.Za2 (p:=⟨bN,2,none⟩) (Kd.Za2 (p:=⟨bN,1,none⟩) (Kd.Za2 (p:=⟨bN,0,none⟩) (Kd.Zbh iq.out dB.out (by decide)) (fun _ hk=>hk.2) (.slice dA iL.length dz)) (fun _ hk=>hk.2) (.slice jg iT.length iX)) (fun _ hk=>hk.2) (.int .i64 jW)) (fun _ hk=>hk.2) (.slice iJ ib.length iA)) (fun _ hk=>hk.2) (.slice fe ic.length eQ)) (fun _ h_=>h_.1))))) (Zaj (bM HB.out)));have lQ:=Za.mk (Kd.Zbp (Kd.Zcs (Kd.Zcs ho3 (Kd.R_lt (rM (Kd.Zaw (Kd.Za2 (p:=⟨bN,4,none⟩) (Kd.Za2 (p:=⟨bN,3,none⟩) (Kd.Za2 (p:=⟨bN,2,none⟩) (Kd.Za2 (p:=⟨bN,1,none⟩) (Kd.Za2 (p:=⟨bN,0,none⟩) (Kd.Zbh il.out dB.out (by decide)) (fun _ hk=>hk.2) (.slice dA iL.length dz)) (fun _ hk=>hk.2) (.slice jg iT.length iX)) (fun _ hk=>hk.2) (.int .i64 jW)) (fun _ hk=>hk.2) (.slice iJ ib.length iA)) (fun _ hk=>hk.2) (.slice fe ic.length eQ)) (fun _ h_=>h_.1))))) (Kd.R_lt (rM (Kd.Zaw (Kd.Za2 (p:=⟨bN,4,none⟩) (Kd.Za2 (p:=⟨bN,3,none⟩) (Kd.Za2 (p:=⟨bN,2,none⟩) (Kd.Za2 (p:=⟨bN,1,none⟩) (Kd.Za2 (p:=⟨bN,0,none⟩) (Kd.Zbh iq.out dB.out (by decide)) (fun _ hk=>hk.2) (.slice dA iL.length dz)) (fun _ hk=>hk.2) (.slice jg iT.length iX)) (fun _ hk=>hk.2) (.int .i64 jW)) (fun _ hk=>hk.2) (.slice iJ ib.length iA)) (fun _ hk=>hk.2) (.slice fe ic.length eQ)) (fun _ h_=>h_.1))))) (Zaj (bM HB.out)));replace il:=Za.mk (Kd.Zaw (Kd.Zed (Kd.Zed (Kd.R_old (rM (Kd.Zaw (Kd.Za2 (p:=⟨bN,4,none⟩) (Kd.Za2 (p:=⟨bN,3,none⟩) (Kd.Za2 (p:=⟨bN,2,none⟩) (Kd.Za2 (p:=⟨bN,1,none⟩) (Kd.Za2 (p:=⟨bN,0,none⟩) (Kd.Zbh il.out dB.out (by decide)) (fun _ hk=>hk.2) (.slice dA iL.length dz)) (fun _ hk=>hk.2) (.slice jg iT.length iX)) (fun _ hk=>hk.2) (.int .i64 jW)) (fun _ hk=>hk.2) (.slice iJ ib.length iA)) (fun _ hk=>hk.2) (.slice fe ic.length eQ)) (fun _ h_=>h_.1))) hb) (Kd.Zb4 ho2)) (Kd.Zb4 ho3)) (fun _ h_=>h_.1));replace iq:=Za.mk (Kd.Zaw (Kd.Zed (Kd.Zed (Kd.R_old (rM (Kd.Zaw (Kd.Za2 (p:=⟨bN,4,none⟩) (Kd.Za2 (p:=⟨bN,3,none⟩) (Kd.Za2 (p:=⟨bN,2,none⟩) (Kd.Za2 (p:=⟨bN,1,none⟩) (Kd.Za2 (p:=⟨bN,0,none⟩) (Kd.Zbh iq.out dB.out (by decide)) (fun _ hk=>hk.2) (.slice dA iL.length dz)) (fun _ hk=>hk.2) (.slice jg iT.length iX)) (fun _ hk=>hk.2) (.int .i64 jW)) (fun _ hk=>hk.2) (.slice iJ ib.length iA)) (fun _ hk=>hk.2) (.slice fe ic.length eQ)) (fun _ h_=>h_.1))) hb) (Kd.Zb4 ho2)) (Kd.Zb4 ho3)) (fun _ h_=>h_.1));replace dB:=Za.mk (Zbz (g:=bN) (o:= .cells #[.slice dA iL.length dz,.slice jg iT.length iX,.int .i64 jW,.slice iJ ib.length iA,.slice fe ic.length eQ] 28 (0,0)) (by(with_reducible repeat(first|refine Zab ?_ _|refine Zad ?_|refine Zaa ?_ _));refine Zas (cs:=#[.slice dA iL.length dz,.slice jg iT.length iX,.int .i64 jW,.slice iJ ib.length iA,.slice bf ai.length bg]) ?_ 4 _ rfl;(with_reducible repeat(first|refine Zab ?_ _|refine Zad ?_|refine Zaa ?_ _));refine Zas (cs:=#[.slice dA iL.length dz,.slice jg iT.length iX,.int .i64 jW,.slice bi ak.length bn,.slice bf ai.length bg]) ?_ 3 _ rfl;(with_reducible repeat(first|refine Zab ?_ _|refine Zad ?_|refine Zaa ?_ _));refine Zas (cs:=#[.slice dA iL.length dz,.slice jg iT.length iX,.int .i64 aj,.slice bi ak.length bn,.slice bf ai.length bg]) ?_ 2 _ rfl;(with_reducible repeat(first|refine Zab ?_ _|refine Zad ?_|refine Zaa ?_ _));refine Zas (cs:=#[.slice dA iL.length dz,.slice aI aa.length aG,.int .i64 aj,.slice bi ak.length bn,.slice bf ai.length bg]) ?_ 1 _ rfl;(with_reducible repeat(first|refine Zab ?_ _|refine Zad ?_|refine Zaa ?_ _));refine Zas (cs:=#[.slice bF ae.length bv,.slice aI aa.length aG,.int .i64 aj,.slice bi ak.length bn,.slice bf ai.length bg]) ?_ 0 _ rfl;(with_reducible repeat(first|refine Zab ?_ _|refine Zad ?_|refine Zaa ?_ _));exact dB.out) hb);replace HB:=Za.mk (bS HB.out hb);(try clear hb);(try clear hb2);(try clear hk);(try clear hi);(try clear ho0);(try clear ho1);(try clear ho2);(try clear ho3))|((with_reducible refine Zap (N:=3) rfl ?_);refine bx 3 #[.slice none 0 0,.slice none 0 0,.int .i64 0,.slice none 0 0,.slice none 0 0] 28 ?_;intro bq hg w19 hbox hb;replace iQ:=Za.mk (Kd.Zc9 (sM iQ.out) hb);replace iR:=Za.mk (Kd.Zbt (rM iR.out) hb);replace il:=Za.mk (Kd.Zbt (rM il.out) hb);replace iq:=Za.mk (Kd.Zbt (rM iq.out) hb);replace lL:=Za.mk (Kd.Zc9 (sM lL.out) hb);replace lM:=Za.mk (Kd.Zbt (rM lM.out) hb);replace lN:=Za.mk (Kd.Zbt (rM lN.out) hb);replace lQ:=Za.mk (Kd.Zbt (rM lQ.out) hb);have dY:=Za.mk (hbox);have kWa:=Za.mk ((gE hg HB.out:w.heap.size≤bq));replace HB:=Za.mk (bS HB.out hb);have rC:=Za.mk ((by rw[hg];exact Nat.ne_of_lt (Zbj (kM dB.out)):bN≠bq));have Tn:=Za.mk ((by rw[hg];exact Nat.ne_of_gt (Zbj (kM dB.out)):bq≠bN));replace dB:=Za.mk (kB dB.out hb);clear hb hbox hg;obtain⟨jX,ku,ija⟩:=Kd.Zd7 lL.out;subst ija;have Wp:=Tn.out;have Ws:=rC.out;obtain⟨yz,yA,yB,yC,yD,xW,xX,xY,yc,yf⟩:=cz5 dY.out;obtain⟨jF,jG,MK⟩:=Kd.Za9 lM.out;subst MK;obtain⟨jU,jV,ima⟩:=Kd.Za9 lN.out;subst ima;obtain⟨jY,kv,ina⟩:=Kd.Za9 lQ.out;subst ina))
 have n0_:Za (Kd.S k37 37 (((((w19.setCell ⟨bq,0,none⟩ (.slice jX jC.length ku)).setCell ⟨bq,1,none⟩ (.slice jF jJ.length jG)).setCell ⟨bq,2,none⟩ (.int .i64 lc)).setCell ⟨bq,3,none⟩ (.slice jU ji.length jV)).setCell ⟨bq,4,none⟩ (.slice jY jD.length kv)) w.heap.size (fun k_=>some k_≠(.slice jX jC.length ku:Value).ownBlock) (.slice dA iL.length dz) iL):=⟨sM (Kd.Zcu (Kd.Zb2 (p:=⟨bq,4,none⟩) (Kd.Zb2 (p:=⟨bq,3,none⟩) (Kd.Zb2 (p:=⟨bq,2,none⟩) (Kd.Zb2 (p:=⟨bq,1,none⟩) (Kd.Zb2 (p:=⟨bq,0,none⟩) (Kd.Zcy iQ.out dY.out (by decide)) (fun _ hk=>hk.2) (.slice jX jC.length ku)) (fun _ hk=>hk.2) (.slice jF jJ.length jG)) (fun _ hk=>hk.2) (.int .i64 lc)) (fun _ hk=>hk.2) (.slice jU ji.length jV)) (fun _ hk=>hk.2) (.slice jY jD.length kv)) (fun _ hk=>hk.1.2))⟩;have n1_:Za (Kd.R k40 40 (((((w19.setCell ⟨bq,0,none⟩ (.slice jX jC.length ku)).setCell ⟨bq,1,none⟩ (.slice jF jJ.length jG)).setCell ⟨bq,2,none⟩ (.int .i64 lc)).setCell ⟨bq,3,none⟩ (.slice jU ji.length jV)).setCell ⟨bq,4,none⟩ (.slice jY jD.length kv)) w.heap.size (fun k_=>some k_≠(.slice iJ ib.length iA:Value).ownBlock∧some k_≠(.slice fe ic.length eQ:Value).ownBlock∧some k_≠(.slice jF jJ.length jG:Value).ownBlock∧some k_≠(.slice jU ji.length jV:Value).ownBlock∧some k_≠(.slice jY jD.length kv:Value).ownBlock) (.slice jg iT.length iX) iT):=⟨rM (Kd.Zaw (Kd.Za2 (p:=⟨bq,4,none⟩) (Kd.Za2 (p:=⟨bq,3,none⟩) (Kd.Za2 (p:=⟨bq,2,none⟩) (Kd.Za2 (p:=⟨bq,1,none⟩) (Kd.Za2 (p:=⟨bq,0,none⟩) (Kd.Zbh iR.out dY.out (by decide)) (fun _ hk=>hk.2) (.slice jX jC.length ku)) (fun _ hk=>hk.2) (.slice jF jJ.length jG)) (fun _ hk=>hk.2) (.int .i64 lc)) (fun _ hk=>hk.2) (.slice jU ji.length jV)) (fun _ hk=>hk.2) (.slice jY jD.length kv)) (fun _ hk=>⟨hk.1.1.1.1.1,⟨hk.1.1.1.1.2,⟨hk.1.1.1.2,⟨hk.1.1.2,hk.1.2⟩⟩⟩⟩))⟩;have n2_:Za (Kd.R (Kd.int .i64) 3 (((((w19.setCell ⟨bq,0,none⟩ (.slice jX jC.length ku)).setCell ⟨bq,1,none⟩ (.slice jF jJ.length jG)).setCell ⟨bq,2,none⟩ (.int .i64 lc)).setCell ⟨bq,3,none⟩ (.slice jU ji.length jV)).setCell ⟨bq,4,none⟩ (.slice jY jD.length kv)) w.heap.size (fun k_=>some k_≠(.slice fe ic.length eQ:Value).ownBlock∧some k_≠(.slice jU ji.length jV:Value).ownBlock∧some k_≠(.slice jY jD.length kv:Value).ownBlock) (.slice iJ ib.length iA) ib):=⟨rM (Kd.Zaw (Kd.Za2 (p:=⟨bq,4,none⟩) (Kd.Za2 (p:=⟨bq,3,none⟩) (Kd.Za2 (p:=⟨bq,2,none⟩) (Kd.Za2 (p:=⟨bq,1,none⟩) (Kd.Za2 (p:=⟨bq,0,none⟩) (Kd.Zbh il.out dY.out (by decide)) (fun _ hk=>hk.2) (.slice jX jC.length ku)) (fun _ hk=>hk.2) (.slice jF jJ.length jG)) (fun _ hk=>hk.2) (.int .i64 lc)) (fun _ hk=>hk.2) (.slice jU ji.length jV)) (fun _ hk=>hk.2) (.slice jY jD.length kv)) (fun _ hk=>⟨hk.1.1.1,⟨hk.1.1.2,hk.1.2⟩⟩))⟩;have n3_:Za (Kd.R (Kd.int .i64) 3 (((((w19.setCell ⟨bq,0,none⟩ (.slice jX jC.length ku)).setCell ⟨bq,1,none⟩ (.slice jF jJ.length jG)).setCell ⟨bq,2,none⟩ (.int .i64 lc)).setCell ⟨bq,3,none⟩ (.slice jU ji.length jV)).setCell ⟨bq,4,none⟩ (.slice jY jD.length kv)) w.heap.size (fun k_=>some k_≠(.slice iJ ib.length iA:Value).ownBlock∧some k_≠(.slice jU ji.length jV:Value).ownBlock∧some k_≠(.slice jY jD.length kv:Value).ownBlock) (.slice fe ic.length eQ) ic):=⟨rM (Kd.Zaw (Kd.Za2 (p:=⟨bq,4,none⟩) (Kd.Za2 (p:=⟨bq,3,none⟩) (Kd.Za2 (p:=⟨bq,2,none⟩) (Kd.Za2 (p:=⟨bq,1,none⟩) (Kd.Za2 (p:=⟨bq,0,none⟩) (Kd.Zbh iq.out dY.out (by decide)) (fun _ hk=>hk.2) (.slice jX jC.length ku)) (fun _ hk=>hk.2) (.slice jF jJ.length jG)) (fun _ hk=>hk.2) (.int .i64 lc)) (fun _ hk=>hk.2) (.slice jU ji.length jV)) (fun _ hk=>hk.2) (.slice jY jD.length kv)) (fun _ hk=>⟨hk.1.1.1,⟨hk.1.1.2,hk.1.2⟩⟩))⟩;have n4_:Za (Kd.S k37 37 (((((w19.setCell ⟨bq,0,none⟩ (.slice jX jC.length ku)).setCell ⟨bq,1,none⟩ (.slice jF jJ.length jG)).setCell ⟨bq,2,none⟩ (.int .i64 lc)).setCell ⟨bq,3,none⟩ (.slice jU ji.length jV)).setCell ⟨bq,4,none⟩ (.slice jY jD.length kv)) w.heap.size (fun k_=>some k_≠(.slice dA iL.length dz:Value).ownBlock) (.slice jX jC.length ku) jC):=⟨sM (Kd.Zcu (Kd.Zb2 (p:=⟨bq,4,none⟩) (Kd.Zb2 (p:=⟨bq,3,none⟩) (Kd.Zb2 (p:=⟨bq,2,none⟩) (Kd.Zb2 (p:=⟨bq,1,none⟩) (Kd.Zb2 (p:=⟨bq,0,none⟩) (Kd.Zcy lL.out dY.out (by decide)) (fun _ hk=>hk.2) (.slice jX jC.length ku)) (fun _ hk=>hk.2) (.slice jF jJ.length jG)) (fun _ hk=>hk.2) (.int .i64 lc)) (fun _ hk=>hk.2) (.slice jU ji.length jV)) (fun _ hk=>hk.2) (.slice jY jD.length kv)) (fun _ hk=>hk.1.2))⟩;have n5_:Za (Kd.R k40 40 (((((w19.setCell ⟨bq,0,none⟩ (.slice jX jC.length ku)).setCell ⟨bq,1,none⟩ (.slice jF jJ.length jG)).setCell ⟨bq,2,none⟩ (.int .i64 lc)).setCell ⟨bq,3,none⟩ (.slice jU ji.length jV)).setCell ⟨bq,4,none⟩ (.slice jY jD.length kv)) w.heap.size (fun k_=>some k_≠(.slice jg iT.length iX:Value).ownBlock∧some k_≠(.slice iJ ib.length iA:Value).ownBlock∧some k_≠(.slice fe ic.length eQ:Value).ownBlock∧some k_≠(.slice jU ji.length jV:Value).ownBlock∧some k_≠(.slice jY jD.length kv:Value).ownBlock) (.slice jF jJ.length jG) jJ):=⟨rM (Kd.Zaw (Kd.Za2 (p:=⟨bq,4,none⟩) (Kd.Za2 (p:=⟨bq,3,none⟩) (Kd.Za2 (p:=⟨bq,2,none⟩) (Kd.Za2 (p:=⟨bq,1,none⟩) (Kd.Za2 (p:=⟨bq,0,none⟩) (Kd.Zbh lM.out dY.out (by decide)) (fun _ hk=>hk.2) (.slice jX jC.length ku)) (fun _ hk=>hk.2) (.slice jF jJ.length jG)) (fun _ hk=>hk.2) (.int .i64 lc)) (fun _ hk=>hk.2) (.slice jU ji.length jV)) (fun _ hk=>hk.2) (.slice jY jD.length kv)) (fun _ hk=>⟨hk.1.1.1.2,⟨hk.1.1.2,⟨hk.1.2,⟨hk.1.1.1.1.1,hk.1.1.1.1.2⟩⟩⟩⟩))⟩;have n6_:Za (Kd.R (Kd.int .i64) 3 (((((w19.setCell ⟨bq,0,none⟩ (.slice jX jC.length ku)).setCell ⟨bq,1,none⟩ (.slice jF jJ.length jG)).setCell ⟨bq,2,none⟩ (.int .i64 lc)).setCell ⟨bq,3,none⟩ (.slice jU ji.length jV)).setCell ⟨bq,4,none⟩ (.slice jY jD.length kv)) w.heap.size (fun k_=>some k_≠(.slice iJ ib.length iA:Value).ownBlock∧some k_≠(.slice fe ic.length eQ:Value).ownBlock∧some k_≠(.slice jY jD.length kv:Value).ownBlock) (.slice jU ji.length jV) ji):=⟨rM (Kd.Zaw (Kd.Za2 (p:=⟨bq,4,none⟩) (Kd.Za2 (p:=⟨bq,3,none⟩) (Kd.Za2 (p:=⟨bq,2,none⟩) (Kd.Za2 (p:=⟨bq,1,none⟩) (Kd.Za2 (p:=⟨bq,0,none⟩) (Kd.Zbh lN.out dY.out (by decide)) (fun _ hk=>hk.2) (.slice jX jC.length ku)) (fun _ hk=>hk.2) (.slice jF jJ.length jG)) (fun _ hk=>hk.2) (.int .i64 lc)) (fun _ hk=>hk.2) (.slice jU ji.length jV)) (fun _ hk=>hk.2) (.slice jY jD.length kv)) (fun _ hk=>⟨hk.1.1.2,⟨hk.1.2,hk.1.1.1⟩⟩))⟩;have n7_:Za (Kd.R (Kd.int .i64) 3 (((((w19.setCell ⟨bq,0,none⟩ (.slice jX jC.length ku)).setCell ⟨bq,1,none⟩ (.slice jF jJ.length jG)).setCell ⟨bq,2,none⟩ (.int .i64 lc)).setCell ⟨bq,3,none⟩ (.slice jU ji.length jV)).setCell ⟨bq,4,none⟩ (.slice jY jD.length kv)) w.heap.size (fun k_=>some k_≠(.slice iJ ib.length iA:Value).ownBlock∧some k_≠(.slice fe ic.length eQ:Value).ownBlock∧some k_≠(.slice jU ji.length jV:Value).ownBlock) (.slice jY jD.length kv) jD):=⟨rM (Kd.Zaw (Kd.Za2 (p:=⟨bq,4,none⟩) (Kd.Za2 (p:=⟨bq,3,none⟩) (Kd.Za2 (p:=⟨bq,2,none⟩) (Kd.Za2 (p:=⟨bq,1,none⟩) (Kd.Za2 (p:=⟨bq,0,none⟩) (Kd.Zbh lQ.out dY.out (by decide)) (fun _ hk=>hk.2) (.slice jX jC.length ku)) (fun _ hk=>hk.2) (.slice jF jJ.length jG)) (fun _ hk=>hk.2) (.int .i64 lc)) (fun _ hk=>hk.2) (.slice jU ji.length jV)) (fun _ hk=>hk.2) (.slice jY jD.length kv)) (fun _ hk=>⟨hk.1.1.2,⟨hk.1.2,hk.1.1.1⟩⟩))⟩;have n8_:Za ((((((w19.setCell ⟨bq,0,none⟩ (.slice jX jC.length ku)).setCell ⟨bq,1,none⟩ (.slice jF jJ.length jG)).setCell ⟨bq,2,none⟩ (.int .i64 lc)).setCell ⟨bq,3,none⟩ (.slice jU ji.length jV)).setCell ⟨bq,4,none⟩ (.slice jY jD.length kv)).heap[bN]? =some (.cells #[.slice dA iL.length dz,.slice jg iT.length iX,.int .i64 jW,.slice iJ ib.length iA,.slice fe ic.length eQ] 28 (0,0))):=⟨by(with_reducible repeat(first|refine Zab ?_ _|refine Zad ?_|refine Zaa ?_ _));refine Zav ?_ rC.out _;(with_reducible repeat(first|refine Zab ?_ _|refine Zad ?_|refine Zaa ?_ _));refine Zav ?_ rC.out _;(with_reducible repeat(first|refine Zab ?_ _|refine Zad ?_|refine Zaa ?_ _));refine Zav ?_ rC.out _;(with_reducible repeat(first|refine Zab ?_ _|refine Zad ?_|refine Zaa ?_ _));refine Zav ?_ rC.out _;(with_reducible repeat(first|refine Zab ?_ _|refine Zad ?_|refine Zaa ?_ _));refine Zav ?_ rC.out _;(with_reducible repeat(first|refine Zab ?_ _|refine Zad ?_|refine Zaa ?_ _));exact dB.out⟩;have n9_:Za ((((((w19.setCell ⟨bq,0,none⟩ (.slice jX jC.length ku)).setCell ⟨bq,1,none⟩ (.slice jF jJ.length jG)).setCell ⟨bq,2,none⟩ (.int .i64 lc)).setCell ⟨bq,3,none⟩ (.slice jU ji.length jV)).setCell ⟨bq,4,none⟩ (.slice jY jD.length kv)).heap[bq]? =some (.cells #[.slice jX jC.length ku,.slice jF jJ.length jG,.int .i64 lc,.slice jU ji.length jV,.slice jY jD.length kv] 28 (0,0))):=⟨by(with_reducible repeat(first|refine Zab ?_ _|refine Zad ?_|refine Zaa ?_ _));refine Zas (cs:=#[.slice jX jC.length ku,.slice jF jJ.length jG,.int .i64 lc,.slice jU ji.length jV,.slice none 0 0]) ?_ 4 _ rfl;(with_reducible repeat(first|refine Zab ?_ _|refine Zad ?_|refine Zaa ?_ _));refine Zas (cs:=#[.slice jX jC.length ku,.slice jF jJ.length jG,.int .i64 lc,.slice none 0 0,.slice none 0 0]) ?_ 3 _ rfl;(with_reducible repeat(first|refine Zab ?_ _|refine Zad ?_|refine Zaa ?_ _));refine Zas (cs:=#[.slice jX jC.length ku,.slice jF jJ.length jG,.int .i64 0,.slice none 0 0,.slice none 0 0]) ?_ 2 _ rfl;(with_reducible repeat(first|refine Zab ?_ _|refine Zad ?_|refine Zaa ?_ _));refine Zas (cs:=#[.slice jX jC.length ku,.slice none 0 0,.int .i64 0,.slice none 0 0,.slice none 0 0]) ?_ 1 _ rfl;(with_reducible repeat(first|refine Zab ?_ _|refine Zad ?_|refine Zaa ?_ _));refine Zas (cs:=#[.slice none 0 0,.slice none 0 0,.int .i64 0,.slice none 0 0,.slice none 0 0]) ?_ 0 _ rfl;(with_reducible repeat(first|refine Zab ?_ _|refine Zad ?_|refine Zaa ?_ _));exact dY.out⟩;have Un:Za (Below w.heap.size w (((((w19.setCell ⟨bq,0,none⟩ (.slice jX jC.length ku)).setCell ⟨bq,1,none⟩ (.slice jF jJ.length jG)).setCell ⟨bq,2,none⟩ (.int .i64 lc)).setCell ⟨bq,3,none⟩ (.slice jU ji.length jV)).setCell ⟨bq,4,none⟩ (.slice jY jD.length kv))):=⟨bM HB.out⟩
 (try clear iQ)
 (try clear iR)
 (try clear il)
 (try clear iq)
 (try clear lL)
 (try clear lM)
 (try clear lN)
 (try clear lQ)
 (try clear dB)
 (try clear dY)
 (try clear HB)
 generalize (((((w19.setCell ⟨bq,0,none⟩ (.slice jX jC.length ku)).setCell ⟨bq,1,none⟩ (.slice jF jJ.length jG)).setCell ⟨bq,2,none⟩ (.int .i64 lc)).setCell ⟨bq,3,none⟩ (.slice jU ji.length jV)).setCell ⟨bq,4,none⟩ (.slice jY jD.length kv))=w26 at n0_ n1_ n2_ n3_ n4_ n5_ n6_ n7_ n8_ n9_ Un ⊢
 have iQ:=n0_;have iR:=n1_;have il:=n2_;have iq:=n3_;have lL:=n4_;have lM:=n5_;have lN:=n6_;have lQ:=n7_;have dB:=n8_;have dY:=n9_;have HB:=Un;clear n0_ n1_ n2_ n3_ n4_ n5_ n6_ n7_ n8_ n9_ Un;replace iQ:=Za.mk (Kd.Zfl iQ.out);replace iR:=Za.mk (Kd.Zd6 iR.out);replace il:=Za.mk (Kd.Zd6 il.out);replace iq:=Za.mk (Kd.Zd6 iq.out);replace lL:=Za.mk (Kd.Zfl lL.out);replace lM:=Za.mk (Kd.Zd6 lM.out);replace lN:=Za.mk (Kd.Zd6 lN.out);replace lQ:=Za.mk (Kd.Zd6 lQ.out);replace dB:=Za.mk (Zad dB.out);replace dY:=Za.mk (Zad dY.out);replace HB:=Za.mk (Zb6 HB.out);refine Zef (n:=14) (S:=fun w'=>w'.cell? ⟨bN,0,none⟩=some (.slice dA iL.length dz)∧w'.cell? ⟨bN,1,none⟩=some (.slice jg iT.length iX)∧w'.cell? ⟨bN,2,none⟩=some (.int .i64 jW)∧w'.cell? ⟨bN,3,none⟩=some (.slice iJ ib.length iA)∧w'.cell? ⟨bN,4,none⟩=some (.slice fe ic.length eQ)∧w'.cell? ⟨bq,0,none⟩=some (.slice jX jC.length ku)∧w'.cell? ⟨bq,1,none⟩=some (.slice jF jJ.length jG)∧w'.cell? ⟨bq,2,none⟩=some (.int .i64 lc)∧w'.cell? ⟨bq,3,none⟩=some (.slice jU ji.length jV)∧w'.cell? ⟨bq,4,none⟩=some (.slice jY jD.length kv)) (ds:= []) #[false,false,false,false,false,false,false,false,false,false,false,false,false,false] (by kernel_rfl) rfl rfl ⟨bc dB.out 0,bc dB.out 1,bc dB.out 2,bc dB.out 3,bc dB.out 4,bc dY.out 0,bc dY.out 1,bc dY.out 2,bc dY.out 3,bc dY.out 4⟩ (fun hHeld=> ?_);refine Zc6 Zbi.tab3 Zbi.bits3 (fun HT_ HW_=> ?_)
 generalize w26.drew=w27 at iQ iR il iq lL lM lN lQ dB dY HB hHeld ⊢
 refine tk HT_ HW_ hHeld 0 8 ?_;refine tk HT_ HW_ hHeld 2 10 ?_;refine on1 HT_ 1 9 (fun K hK=> ?_);refine gs Tryz.func6 #[.agg #[.slice dA iL.length dz,.slice jg iT.length iX,.int .i64 jW,.slice iJ ib.length iA,.slice fe ic.length eQ]] ?_
 with_reducible refine(Zb1.calls k _ _ iL _ _ iT jW _ _ ib _ _ ic yJ _ (cM ((Kd.Zeb iQ.out).2.2)) ((Kd.Zeb iQ.out).2.1) (cM ((Kd.Za3 iR.out).2.2)) ((Kd.Za3 iR.out).2.1) (cM ((Kd.Za3 il.out).2.2)) ((Kd.Za3 il.out).2.1) (cM ((Kd.Za3 iq.out).2.2)) ((Kd.Za3 iq.out).2.1) A4.out).mono ?_
 rintro e w28 ⟨rfl,hb⟩;refine⟨_,rfl,?_⟩;replace iQ:=Za.mk (Kd.Zc9 (sM iQ.out) hb);replace iR:=Za.mk (Kd.Zbt (rM iR.out) hb);replace il:=Za.mk (Kd.Zbt (rM il.out) hb);replace iq:=Za.mk (Kd.Zbt (rM iq.out) hb);replace lL:=Za.mk (Kd.Zc9 (sM lL.out) hb);replace lM:=Za.mk (Kd.Zbt (rM lM.out) hb);replace lN:=Za.mk (Kd.Zbt (rM lN.out) hb);replace lQ:=Za.mk (Kd.Zbt (rM lQ.out) hb);replace dB:=Za.mk (kB dB.out hb);replace dY:=Za.mk (kB dY.out hb);replace HB:=Za.mk (bS HB.out hb)
 (try clear hb)
 (try clear hb2)
 (try clear hk)
 (try clear hi)
 refine hK.out _ _ ⟨bc dB.out 0,bc dB.out 1,bc dB.out 2,bc dB.out 3,bc dB.out 4,bc dY.out 0,bc dY.out 1,bc dY.out 2,bc dY.out 3,bc dY.out 4⟩ (fun hHeld=> ?_);clear hK K;refine nmp 9 ?_;refine on1 HT_ 3 11 (fun K hK=> ?_);refine gs Tryz.func7 #[.agg #[.slice dA iL.length dz,.slice jg iT.length iX,.int .i64 jW,.slice iJ ib.length iA,.slice fe ic.length eQ]] ?_
 with_reducible refine(Zao.calls k _ _ iL _ _ iT jW _ _ ib _ _ ic yK _ (cM ((Kd.Zeb iQ.out).2.2)) ((Kd.Zeb iQ.out).2.1) (cM ((Kd.Za3 iR.out).2.2)) ((Kd.Za3 iR.out).2.1) (cM ((Kd.Za3 il.out).2.2)) ((Kd.Za3 il.out).2.1) (cM ((Kd.Za3 iq.out).2.2)) ((Kd.Za3 iq.out).2.1) A5.out).mono ?_
 rintro e w29 ⟨rfl,hb⟩;refine⟨_,rfl,?_⟩;replace iQ:=Za.mk (Kd.Zc9 (sM iQ.out) hb);replace iR:=Za.mk (Kd.Zbt (rM iR.out) hb);replace il:=Za.mk (Kd.Zbt (rM il.out) hb);replace iq:=Za.mk (Kd.Zbt (rM iq.out) hb);replace lL:=Za.mk (Kd.Zc9 (sM lL.out) hb);replace lM:=Za.mk (Kd.Zbt (rM lM.out) hb);replace lN:=Za.mk (Kd.Zbt (rM lN.out) hb);replace lQ:=Za.mk (Kd.Zbt (rM lQ.out) hb);replace dB:=Za.mk (kB dB.out hb);replace dY:=Za.mk (kB dY.out hb);replace HB:=Za.mk (bS HB.out hb)
 (try clear hb)
 (try clear hb2)
 (try clear hk)
 (try clear hi)
 refine hK.out _ _ ⟨bc dB.out 0,bc dB.out 1,bc dB.out 2,bc dB.out 3,bc dB.out 4,bc dY.out 0,bc dY.out 1,bc dY.out 2,bc dY.out 3,bc dY.out 4⟩ (fun hHeld=> ?_);clear hK K;refine nmp 11 ?_;refine pu HT_ 4 12 ?_;refine pu HT_ 5 13 ?_;refine tk HT_ HW_ hHeld 6 14 ?_;refine tk HT_ HW_ hHeld 7 15 ?_;refine on1 HT_ 8 16 (fun K hK=> ?_);refine gs Tryz.func8 #[.agg #[.slice dA iL.length dz,.slice jg iT.length iX,.int .i64 jW,.slice iJ ib.length iA,.slice fe ic.length eQ],.agg #[.slice jX jC.length ku,.slice jF jJ.length jG,.int .i64 lc,.slice jU ji.length jV,.slice jY jD.length kv]] ?_
 with_reducible refine(Zai.calls k _ _ iL _ _ iT jW _ _ ib _ _ ic _ _ jC _ _ jJ lc _ _ ji _ _ jD true _ (cM ((Kd.Zeb iQ.out).2.2)) ((Kd.Zeb iQ.out).2.1) (cM ((Kd.Za3 iR.out).2.2)) ((Kd.Za3 iR.out).2.1) (cM ((Kd.Za3 il.out).2.2)) ((Kd.Za3 il.out).2.1) (cM ((Kd.Za3 iq.out).2.2)) ((Kd.Za3 iq.out).2.1) (cM ((Kd.Zeb lL.out).2.2)) ((Kd.Zeb lL.out).2.1) (cM ((Kd.Za3 lM.out).2.2)) ((Kd.Za3 lM.out).2.1) (cM ((Kd.Za3 lN.out).2.2)) ((Kd.Za3 lN.out).2.1) (cM ((Kd.Za3 lQ.out).2.2)) ((Kd.Za3 lQ.out).2.1) A7.out).mono ?_
 rintro e w30 ⟨rfl,hb⟩;refine⟨_,rfl,?_⟩;replace iQ:=Za.mk (Kd.Zc9 (sM iQ.out) hb);replace iR:=Za.mk (Kd.Zbt (rM iR.out) hb);replace il:=Za.mk (Kd.Zbt (rM il.out) hb);replace iq:=Za.mk (Kd.Zbt (rM iq.out) hb);replace lL:=Za.mk (Kd.Zc9 (sM lL.out) hb);replace lM:=Za.mk (Kd.Zbt (rM lM.out) hb);replace lN:=Za.mk (Kd.Zbt (rM lN.out) hb);replace lQ:=Za.mk (Kd.Zbt (rM lQ.out) hb);replace dB:=Za.mk (kB dB.out hb);replace dY:=Za.mk (kB dY.out hb);replace HB:=Za.mk (bS HB.out hb)
 (try clear hb)
 (try clear hb2)
 (try clear hk)
 (try clear hi)
 refine hK.out _ _ ⟨bc dB.out 0,bc dB.out 1,bc dB.out 2,bc dB.out 3,bc dB.out 4,bc dY.out 0,bc dY.out 1,bc dY.out 2,bc dY.out 3,bc dY.out 4⟩ (fun hHeld=> ?_);clear hK K;refine nmp 16 ?_;refine pu HT_ 9 17 ?_;refine pu HT_ 10 18 ?_;refine on1 HT_ 11 19 (fun K hK=> ?_);refine gs Tryz.func9 #[] ?_
 with_reducible refine(Zbu.calls k N8 _ A9.out).mono ?_
 rintro e w31 ⟨rfl,hb⟩;refine⟨_,rfl,?_⟩;replace iQ:=Za.mk (Kd.Zc9 (sM iQ.out) hb);replace iR:=Za.mk (Kd.Zbt (rM iR.out) hb);replace il:=Za.mk (Kd.Zbt (rM il.out) hb);replace iq:=Za.mk (Kd.Zbt (rM iq.out) hb);replace lL:=Za.mk (Kd.Zc9 (sM lL.out) hb);replace lM:=Za.mk (Kd.Zbt (rM lM.out) hb);replace lN:=Za.mk (Kd.Zbt (rM lN.out) hb);replace lQ:=Za.mk (Kd.Zbt (rM lQ.out) hb);replace dB:=Za.mk (kB dB.out hb);replace dY:=Za.mk (kB dY.out hb);replace HB:=Za.mk (bS HB.out hb)
 (try clear hb)
 (try clear hb2)
 (try clear hk)
 (try clear hi)
 refine hK.out _ _ ⟨bc dB.out 0,bc dB.out 1,bc dB.out 2,bc dB.out 3,bc dB.out 4,bc dY.out 0,bc dY.out 1,bc dY.out 2,bc dY.out 3,bc dY.out 4⟩ (fun hHeld=> ?_);clear hK K;refine nmp 19 ?_;refine pu HT_ 12 20 ?_;refine pu HT_ 13 2 ?_;refine Zfb (Zdw HT_.out (by kernel_rfl)) ?_;try go_wp2
 go_ret;exact⟨eR,bM HB.out⟩
end Go.Proofs.YtkgjaklnbgdmiaaGreat.P
/- secateurlaw04.ModelChecks: whether any model may be is as the document says; what was handed in stays. -/
namespace Go.Proofs.YtkgjaklnbgdmiaaGreat.P
open Go.RowKit Go.Proofs.YtkgjaklnbgdmiaaGreatW.PrintWords Go.Proofs.YtkgjaklnbgdmiaaGreatW.PrintLast Go.Proofs.YtkgjaklnbgdmiaaGreatW.PrintMore
theorem bV_name {vars:List S37} :∀v ∈ bV vars,v.f0.size≤20:=by
  intro v h;obtain⟨x,_,rfl⟩:=bV_mem h
  show(x.f0.extract 0 (min x.f0.size 20)).size≤20
  rw[ByteArray.size_extract]
  omega
theorem small_bound (x0 : List S37) (x1 : List S40) (x3 x4 : List Int) : SmallM (bV x0) (bC x1) (x3.take 14) (x4.take 14) where
  vs:=by have:=bV_length x0;omega
  nm:=fun v hv=>by have:=bV_name v hv;omega
  dm:=bV_dom6
  cl:=by have:=bC_length x1;omega
  cs:=fun c hc=>by
    obtain⟨h1,h2,h5,h6⟩:=bC_small c hc;exact⟨by omega,by omega,by omega,fun r hr=>by have:=h6 r hr;omega⟩
  gv:=take14 x3
  gc:=take14 x4
theorem Zgp (A0 : Option Addr) (c0 : Nat) (x0 : List S37) (A1 : Option Addr) (c1 : Nat) (x1 : List S40) (x2 : Int) (A3 : Option Addr) (c3 : Nat) (x3 : List Int) (A4 : Option Addr) (c4 : Nat) (x4 : List Int) (W : World)
    (hC0:Kd.C k37 W A0 x0.length x0) (hc0:x0.length≤c0) (ok0:List.length x0*40≤140737488351232∧∀v ∈ x0,VarOk v) (hC1:Kd.C k40 W A1 x1.length x1) (hc1:x1.length≤c1) (ok1:List.length x1*104≤140737488351232∧∀c ∈ x1,ConOk c) (ok2:(Lit.int .i64 x2).wf=true)
    (hC3:Kd.C (Kd.int .i64) W A3 x3.length x3) (hc3:x3.length≤c3) (ok3:List.length x3*8≤140737488351232∧∀y ∈ x3,(Lit.int .i64 y).wf=true) (hC4:Kd.C (Kd.int .i64) W A4 x4.length x4) (hc4:x4.length≤c4) (ok4:List.length x4*8≤140737488351232∧∀y ∈ x4,(Lit.int .i64 y).wf=true):
    Calls Tryz.prog 3 #[.agg #[.slice A0 x0.length c0,.slice A1 x1.length c1,.int .i64 x2,.slice A3 x3.length c3,.slice A4 x4.length c4]] W fun e W'=>e= .returned (.bool true)∧Below W.heap.size W W':=by
  have hs:=small_bound x0 x1 x3 x4
  have hE:Ev (fun k=>Zbi.f k x0 x1 x2 x3 x4) true:=by
    unfold Zbi.f;obtain⟨q,hq,hq2⟩:=rsame4_ev (bV x0) (bC x1) x2 (x3.take 14) (x4.take 14) (bV x0) (bC x1) x2 (x3.take 14) (x4.take 14) hs.vs hs.dm hs.cl hs.cs hs.gv hs.gc;obtain rfl:=hq2.2 ⟨rfl,rfl,rfl,rfl,rfl⟩;refine Ev.bind (bound_ev x0 x1 x2 x3 x4) (Ev.bind (rcopy_ev (bV x0) (bC x1) x2 (x3.take 14) (x4.take 14) hs.vs hs.dm hs.cl hs.cs hs.gv hs.gc) ?_);refine Ev.bind (check_evB (bV x0) (bC x1) x2 (x3.take 14) (x4.take 14) bV_dom6 (okC_bC ok1.2) (take14 x3) (take14 x4) (take14w ok4.2)) (Ev.bind (rcheck_ev (bV x0) (bC x1) x2 (x3.take 14) (x4.take 14) hs) ?_);exact Ev.Zan rfl (Ev.bind hq (Ev.Zan rfl (Ev.bind (a:=true) (Ev.const rfl) (Ev.const rfl))))
  obtain⟨k,hk⟩:=hE.out;exact Zbi.calls k A0 c0 x0 A1 c1 x1 x2 A3 c3 x3 A4 c4 x4 true W hC0 hc0 hC1 hc1 hC3 hc3 hC4 hc4 hk
end Go.Proofs.YtkgjaklnbgdmiaaGreat.P
/- What a datum of a statement's arguments holds: a number, a text, a row, a struct, whatever is nested: its cells read as a value of the kind; and how long its rows are at most (by the weight of the whole). -/
namespace Go.Proofs.YtkgjaklnbgdmiaaGreat.P
open Go.RowKit Go.ChangeShapes Go.WideShapes Go.Proofs.YtkgjaklnbgdmiaaGreatW.PrintWords
structure OpensZ {α : Type} (P : Program) (d : Kd α) (ok : α → Prop) (t : TypeId) : Prop where
  out : ∀ {H : Type} (enc : TypeId × Value → H) (w : World) (base : Nat) (sp : Nat → Bool) (held : Bool) (fuel : Nat) (cs : List Value) (x : DataW H × List MemPlace),
    DataW.trod enc P w base sp held fuel t cs=some x→(∀n ∈ x.1.weights P t,n≤reachBytes)→∃v:α,d.K w v cs∧ok v
theorem OpensZ.int {P:Program} {t:TypeId} {k:IntKind} (ht:P.underlying t=some (.int k)):OpensZ P (Kd.int k) (fun n=>(Lit.int k n).wf=true) t:=by
  refine⟨?_⟩;intro H enc w base sp held fuel cs x h hz;obtain⟨n,rfl,rfl,hw⟩:=DataW.trod_int ht h;exact⟨n,rfl,hw⟩
theorem OpensZ.bool {P:Program} {t:TypeId} (ht:P.underlying t=some .bool):OpensZ P Kd.bool (fun _=>True) t:=by
  refine⟨?_⟩;intro H enc w base sp held fuel cs x h hz;obtain⟨b,rfl,rfl⟩:=DataW.trod_bool ht h;exact⟨b,rfl,trivial⟩
theorem OpensZ.string {P:Program} {t:TypeId} (ht:P.underlying t=some .string):OpensZ P Kd.string (fun s=>s.size≤maxLen) t:=by
  refine⟨?_⟩;intro H enc w base sp held fuel cs x h hz;obtain⟨s,rfl,rfl,hs⟩:=DataW.trod_string ht h;exact⟨s,rfl,hs⟩
theorem OpensZ.iso {α β:Type} {P:Program} {d:Kd α} {ok:α→Prop} {t:TypeId} (h:OpensZ P d ok t) (f:β→α) (g:α→β) (hfg:∀a,f (g a)=a):OpensZ P (Kd.iso d f) (fun b=>ok (f b)) t:=by
  refine⟨?_⟩;intro H enc w base sp held fuel cs x hx hz;obtain⟨v,hK,hok⟩:=h.out enc w base sp held fuel cs x hx hz;exact⟨g v,by show d.K w (f (g v)) cs;rw[hfg];exact hK,by show ok (f (g v));rw[hfg];exact hok⟩
theorem Zft {H:Type} {P:Program} {t e:TypeId} (ht:P.underlying t=some (.slice e)) {el sp:List (DataW H)} :(DataW.slice el sp:DataW H).weights P t=(el.length+sp.length)*P.bytesOf e::(DataW.weightsAll P e el++DataW.weightsAll P e sp):=by simp[DataW.weights,ht]
theorem weights_agg {H:Type} {P:Program} {t:TypeId} {fs:Array Field} (ht:P.underlying t=some (.struct fs)) {ps:List (DataW H)} :(DataW.agg ps:DataW H).weights P t=DataW.weightsEach P (fs.toList.map (·.type)) ps:=by simp[DataW.weights,ht]
theorem Zfc {H : Type} {P : Program} {e : TypeId} {d : DataW H} : ∀ {l : List (DataW H)}, d ∈ l → ∀ {n : Nat}, n ∈ d.weights P e → n ∈ DataW.weightsAll P e l
  |x::l,hd,n,hn=>by
    simp only[DataW.weightsAll,List.mem_append]
    rcases List.mem_cons.1 hd with rfl|hd
    · exact .inl hn
    exact .inr (Zfc hd hn)
theorem choose_list {α:Type} {n:Nat} {R:Nat→α→Prop} (h:∀i,i<n→∃a,R i a):∃l:List α,l.length=n∧∀i (hi:i<l.length),R i l[i]:=by
  induction n with
  | zero => exact ⟨[], rfl, fun i hi => absurd hi (by simp)⟩
  |succ n ih=>
    obtain⟨l,hl,hR⟩:=ih (fun i hi=>h i (by omega));obtain⟨a,ha⟩:=h n (by omega);refine⟨l++ [a],by simp[hl],fun i hi=> ?_⟩
    rcases Nat.lt_or_ge i l.length with hlt|hge
    · rw [List.getElem_append_left hlt]
      exact hR i hlt
    have:i=l.length:=by simp at hi;omega
    subst this;rw[List.getElem_append_right (by omega)]
    simpa[hl] using ha
theorem addr_add (a:Addr) (i j:Nat):(a.add i).add j=a.add (i+j):=by
  by_cases h:i=0
  · subst h;simp[Addr.add]
  by_cases h2:j=0
  · subst h2;simp[Addr.add]
  simp[Addr.add,h,h2,Nat.add_assoc]
theorem OpensZ.row {α : Type} {P : Program} {d : Kd α} {ok : α → Prop} {t e : TypeId} {B : Nat} (ht : P.underlying t = some (.slice e)) (hc : P.cellsOf e = d.sz) (hB : P.bytesOf e = B) (h : OpensZ P d ok e) :
    OpensZ P (Kd.slice e d) (fun l=>l.length*B≤140737488351232∧∀x ∈ l,ok x) t:=by
  refine⟨?_⟩;intro H enc w base sp held fuel cs x hx hz
  rcases Go.Deep.open_slice ht hx with ⟨rfl,rfl⟩|⟨a,len,cap,m,n,D,Pl,rfl,hb,hl,hm,hmm,rfl,he⟩
  · exact⟨[],⟨none,0,rfl,Nat.le_refl _,rfl,by simp,fun h=>absurd h (by simp)⟩,by simp,fun x hx=>by simp at hx⟩
  have hlm:len≤m:=by rw[hmm];split<;>omega
  have each:∀i,i<len→∃v:α,ok v∧∃c,c.length=d.sz∧d.K w v c∧∀j u,c[j]? =some u→w.cell? (a.add (i*d.sz+j))=some u:=fun i hi=>by
    obtain⟨cs',h1,h2⟩:=he i (by omega)
    obtain ⟨v, hK, hok⟩ := h.out enc w base sp held n cs' _ h2 (fun q hq => hz q (by
      rw[Zft ht]
      refine List.mem_cons_of_mem _ (List.mem_append_left _ (Zfc (d := D i) (List.mem_map.2 ⟨i, List.mem_range.2 hi, rfl⟩) hq))))
    obtain⟨_,hlen,hcell⟩:=World.cells?_some h1;rw[hc]at hlen hcell;refine⟨v,hok,cs',hlen,hK,fun j u hu=> ?_⟩;have hj:j<d.sz:=by rw[←hlen];exact(List.getElem?_eq_some_iff.1 hu).1
    have:=hcell j hj;rw[hu]at this;rw[←this,addr_add]
  obtain⟨l,hll,hR⟩:=choose_list each;have hmax:cap≤9223372036854775807:=by unfold maxLen at hm;exact hm
  refine⟨l,⟨some a,cap,by rw[hll],by omega,rfl,by omega,fun _=>⟨a,rfl,fun j p hp=> ?_⟩⟩,?_,fun x hx=> ?_⟩
  · obtain ⟨hj, rfl⟩ := List.getElem?_eq_some_iff.1 hp
    obtain⟨_,c,h1,h2,h3⟩:=hR j hj;exact⟨c,h1,h2,h3⟩
  · have h3 := hz ((len + (m - len)) * P.bytesOf e) (by rw [Zft ht]; simp)
    rw[hB]at h3;rw[hll];exact Nat.le_trans (Nat.mul_le_mul_right _ (by omega)) h3
  obtain⟨i,hi,rfl⟩:=List.mem_iff_getElem.1 hx;exact(hR i hi).1
structure OpensZF {α : Type} (P : Program) (d : Kd α) (ok : α → Prop) (fs : List Field) (off : Nat) : Prop where
  out : ∀ {H : Type} (enc : TypeId × Value → H) (w : World) (base : Nat) (sp : Nat → Bool) (held : Bool) (fuel : Nat) (cs : List Value), cs.length = off + d.sz →
    (∀f ∈ fs,∃x,DataW.trod enc P w base sp held fuel f.type ((cs.drop f.offset).take (P.cellsOf f.type))=some x∧∀n ∈ x.1.weights P f.type,n≤reachBytes)→∃v:α,d.K w v (cs.drop off)∧ok v
theorem OpensZF.last {α:Type} {P:Program} {d:Kd α} {ok:α→Prop} {f:Field} {off:Nat} (ho:f.offset=off) (hc:P.cellsOf f.type=d.sz) (h:OpensZ P d ok f.type):OpensZF P d ok [f] off:=by
  refine⟨?_⟩;intro H enc w base sp held fuel cs hl hf;obtain⟨x,hx,hz⟩:=hf f (by simp);rw[ho,hc,List.take_of_length_le (by simp;omega)]at hx;exact h.out enc w base sp held fuel _ x hx hz
theorem OpensZF.cons {α β : Type} {P : Program} {d : Kd α} {ok : α → Prop} {d' : Kd β} {ok' : β → Prop} {f : Field} {fs : List Field} {off : Nat} (ho : f.offset = off) (hc : P.cellsOf f.type = d.sz) (h : OpensZ P d ok f.type) (h' : OpensZF P d' ok' fs (off + d.sz)) :
    OpensZF P (Kd.pair d d') (fun z=>ok z.1∧ok' z.2) (f::fs) off:=by
  refine⟨?_⟩;intro H enc w base sp held fuel cs hl hf;have hl':cs.length=off+(d.sz+d'.sz):=hl;obtain⟨x,hx,hz⟩:=hf f (by simp);obtain⟨v,hK,hok⟩:=h.out enc w base sp held fuel _ x hx hz;obtain⟨v',hK',hok'⟩:=h'.out enc w base sp held fuel cs (by omega) (fun g hg=>hf g (List.mem_cons_of_mem _ hg));rw[ho,hc]at hK;refine⟨(v,v'),⟨(cs.drop off).take d.sz,cs.drop (off+d.sz),?_,hK,hK'⟩,hok,hok'⟩;rw[←List.drop_drop,List.take_append_drop]
theorem OpensZ.struct {α:Type} {P:Program} {d:Kd α} {ok:α→Prop} {t:TypeId} {fs:List Field} (ht:P.underlying t=some (.struct fs.toArray)) (hc:P.cellsOf t=d.sz) (h:OpensZF P d ok fs 0):OpensZ P d ok t:=by
  refine⟨?_⟩;intro H enc w base sp held fuel cs x hx hz;obtain⟨xs,n,rfl,rfl,hl,hxl,hf⟩:=DataW.trod_struct ht hx
  have := h.out enc w base sp held n cs (by omega) (fun f hf' => by
    obtain⟨i,hi,rfl⟩:=List.mem_iff_getElem.1 hf';have:=hf i fs[i] (by simp[hi]);have hix:i<xs.length:=by simp at hxl;omega
    rw[List.getElem?_eq_getElem hix]at this;refine⟨xs[i],by simpa using this,fun q hq=>hz q ?_⟩;rw[weights_agg ht]
    exact DataW.weights_mem_each (j := i) (t := fs[i].type) (d := xs[i].1) (by simp [hi]) (by simp [hix]) q hq)
  simpa using this
theorem OpensZ.arg {α H : Type} {P : Program} {d : Kd α} {ok : List α → Prop} {e t : TypeId} (h : OpensZ P (Kd.slice e d) ok t) {enc : TypeId × Value → H} {w : World} {base : Nat} {sp : Nat → Bool} {held : Bool} {A : Option Addr} {len cap : Nat} {dt : DataW H} {ps : List MemPlace}
    (hT:DataW.Trod enc P w base sp held t (.slice A len cap) dt ps) (hz:∀n ∈ dt.weights P t,n≤reachBytes):∃l:List α,l.length=len∧l.length≤cap∧d.C w A l.length l∧ok l:=by
  obtain⟨fuel,hf⟩:=hT;obtain⟨l,⟨A',c,hcs,hl,hC⟩,hok⟩:=h.out enc w base sp held fuel _ _ hf hz
  simp[Value.cells]at hcs
  obtain⟨rfl,rfl,rfl⟩:=hcs;exact⟨l,rfl,hl,hC,hok⟩
theorem each_weights {H:Type} {P:Program} {ts:List TypeId} {ds:List (DataW H)} (h:(DataW.weightsEach P ts ds).all (· ≤reachBytes)=true) {j:Nat} {t:TypeId} {d:DataW H} (ht:ts[j]? =some t) (hd:ds[j]? =some d):∀n ∈ d.weights P t,n≤reachBytes:=fun n hn=>by
  have:=List.all_eq_true.1 h n (DataW.weights_mem_each ht hd n hn)
  simpa using this
end Go.Proofs.YtkgjaklnbgdmiaaGreat.P
namespace Go.Proofs.YtkgjaklnbgdmiaaGreat.modelChecks
open Go.ChangeShapes Go.WideShapes Go.ChangeAt Go.RowKit
open Go.ChangeMaps (open_string shut_string)
open Go.Proofs.YtkgjaklnbgdmiaaGreat.P
open Go.Proofs.YtkgjaklnbgdmiaaGreatW.PrintWords
theorem own:ownKnob Tryz.prog.godebug=none:=by kernel_rfl
theorem laidOut:laidOutB Tryz.prog=true:=by kernel_rfl
theorem o_string:OpensZ Tryz.prog Kd.string (fun s=>ByteArray.size s≤maxLen) 9:=OpensZ.string Tryz.underlying9
theorem o_int:OpensZ Tryz.prog (Kd.int .i64) (fun n=>(Lit.int .i64 n).wf=true) 3:=OpensZ.int Tryz.underlying3
theorem p_api_Range:OpensZ Tryz.prog (Kd.pair (Kd.int .i64) (Kd.int .i64)) (fun z=>((Lit.int .i64 (z).1).wf=true∧(Lit.int .i64 (z).2).wf=true)) 59:=by
 refine OpensZ.struct (d:=(Kd.pair (Kd.int .i64) (Kd.int .i64))) Tryz.underlying59 (by kernel_rfl) ?_;refine OpensZF.cons (d:=(Kd.int .i64)) (ok:=fun v_:Int=>(Lit.int .i64 v_).wf=true) (ok':=fun z_:(Int)=>(Lit.int .i64 z_).wf=true) (by kernel_rfl) (by kernel_rfl) o_int ?_;exact OpensZF.last (d:=(Kd.int .i64)) (ok:=fun v_:Int=>(Lit.int .i64 v_).wf=true) (by kernel_rfl) (by kernel_rfl) o_int
theorem o_api_Range:OpensZ Tryz.prog k59 (fun b:S59=>((Lit.int .i64 (b).f0).wf=true∧(Lit.int .i64 (b).f1).wf=true)) 59:=OpensZ.iso p_api_Range (fun x:S59=>(x.f0,x.f1)) (fun z=>⟨z.1,z.2⟩) (fun _=>rfl)
theorem o_Lapi_Range:OpensZ Tryz.prog (Kd.slice 59 k59) (fun l=>(List.length l*16≤140737488351232∧∀y1_ ∈ l,((Lit.int .i64 (y1_).f0).wf=true∧(Lit.int .i64 (y1_).f1).wf=true))) 35:=OpensZ.row Tryz.underlying35 (by kernel_rfl) (by kernel_rfl) o_api_Range
theorem p_api_Var:OpensZ Tryz.prog (Kd.pair Kd.string (Kd.slice 59 k59)) (fun z=>(ByteArray.size (z).1≤maxLen∧(List.length (z).2*16≤140737488351232∧∀y1_ ∈ (z).2,((Lit.int .i64 (y1_).f0).wf=true∧(Lit.int .i64 (y1_).f1).wf=true)))) 37:=by
 refine OpensZ.struct (d:=(Kd.pair Kd.string (Kd.slice 59 k59))) Tryz.underlying37 (by kernel_rfl) ?_;refine OpensZF.cons (d:=Kd.string) (ok:=fun v_:ByteArray=>ByteArray.size v_≤maxLen) (ok':=fun z_:((List S59))=>(List.length z_*16≤140737488351232∧∀y1_ ∈ z_,((Lit.int .i64 (y1_).f0).wf=true∧(Lit.int .i64 (y1_).f1).wf=true))) (by kernel_rfl) (by kernel_rfl) o_string ?_;exact OpensZF.last (d:=(Kd.slice 59 k59)) (ok:=fun v_:(List S59)=>(List.length v_*16≤140737488351232∧∀y1_ ∈ v_,((Lit.int .i64 (y1_).f0).wf=true∧(Lit.int .i64 (y1_).f1).wf=true))) (by kernel_rfl) (by kernel_rfl) o_Lapi_Range
theorem o_api_Var:OpensZ Tryz.prog k37 (fun b:S37=>(ByteArray.size (b).f0≤maxLen∧(List.length (b).f1*16≤140737488351232∧∀y1_ ∈ (b).f1,((Lit.int .i64 (y1_).f0).wf=true∧(Lit.int .i64 (y1_).f1).wf=true)))) 37:=OpensZ.iso p_api_Var (fun x:S37=>(x.f0,x.f1)) (fun z=>⟨z.1,z.2⟩) (fun _=>rfl)
theorem o_Lapi_Var:OpensZ Tryz.prog (Kd.slice 37 k37) (fun l=>(List.length l*40≤140737488351232∧∀y1_ ∈ l,(ByteArray.size (y1_).f0≤maxLen∧(List.length (y1_).f1*16≤140737488351232∧∀y2_ ∈ (y1_).f1,((Lit.int .i64 (y2_).f0).wf=true∧(Lit.int .i64 (y2_).f1).wf=true))))) 22:=OpensZ.row Tryz.underlying22 (by kernel_rfl) (by kernel_rfl) o_api_Var
theorem o_Lint:OpensZ Tryz.prog (Kd.slice 3 (Kd.int .i64)) (fun l=>(List.length l*8≤140737488351232∧∀y1_ ∈ l,(Lit.int .i64 y1_).wf=true)) 24:=OpensZ.row Tryz.underlying24 (by kernel_rfl) (by kernel_rfl) o_int
theorem o_LLint:OpensZ Tryz.prog (Kd.slice 24 (Kd.slice 3 (Kd.int .i64))) (fun l=>(List.length l*24≤140737488351232∧∀y1_ ∈ l,(List.length y1_*8≤140737488351232∧∀y2_ ∈ y1_,(Lit.int .i64 y2_).wf=true))) 38:=OpensZ.row Tryz.underlying38 (by kernel_rfl) (by kernel_rfl) o_Lint
theorem p_api_Con:OpensZ Tryz.prog (Kd.pair (Kd.int .i64) (Kd.pair (Kd.slice 3 (Kd.int .i64)) (Kd.pair (Kd.slice 3 (Kd.int .i64)) (Kd.pair (Kd.int .i64) (Kd.pair (Kd.int .i64) (Kd.pair (Kd.slice 24 (Kd.slice 3 (Kd.int .i64))) (Kd.int .i64))))))) (fun z=>((Lit.int .i64 (z).1).wf=true∧((List.length ((z).2).1*8≤140737488351232∧∀y1_ ∈ ((z).2).1,(Lit.int .i64 y1_).wf=true)∧((List.length (((z).2).2).1*8≤140737488351232∧∀y1_ ∈ (((z).2).2).1,(Lit.int .i64 y1_).wf=true)∧((Lit.int .i64 ((((z).2).2).2).1).wf=true∧((Lit.int .i64 (((((z).2).2).2).2).1).wf=true∧((List.length ((((((z).2).2).2).2).2).1*24≤140737488351232∧∀y1_ ∈ ((((((z).2).2).2).2).2).1,(List.length y1_*8≤140737488351232∧∀y2_ ∈ y1_,(Lit.int .i64 y2_).wf=true))∧(Lit.int .i64 ((((((z).2).2).2).2).2).2).wf=true))))))) 40:=by
 refine OpensZ.struct (d:=(Kd.pair (Kd.int .i64) (Kd.pair (Kd.slice 3 (Kd.int .i64)) (Kd.pair (Kd.slice 3 (Kd.int .i64)) (Kd.pair (Kd.int .i64) (Kd.pair (Kd.int .i64) (Kd.pair (Kd.slice 24 (Kd.slice 3 (Kd.int .i64))) (Kd.int .i64)))))))) Tryz.underlying40 (by kernel_rfl) ?_;refine OpensZF.cons (d:=(Kd.int .i64)) (ok:=fun v_:Int=>(Lit.int .i64 v_).wf=true) (ok':=fun z_:((List Int) × (List Int) × Int × Int × (List (List Int)) × Int)=>((List.length (z_).1*8≤140737488351232∧∀y1_ ∈ (z_).1,(Lit.int .i64 y1_).wf=true)∧((List.length ((z_).2).1*8≤140737488351232∧∀y1_ ∈ ((z_).2).1,(Lit.int .i64 y1_).wf=true)∧((Lit.int .i64 (((z_).2).2).1).wf=true∧((Lit.int .i64 ((((z_).2).2).2).1).wf=true∧((List.length (((((z_).2).2).2).2).1*24≤140737488351232∧∀y1_ ∈ (((((z_).2).2).2).2).1,(List.length y1_*8≤140737488351232∧∀y2_ ∈ y1_,(Lit.int .i64 y2_).wf=true))∧(Lit.int .i64 (((((z_).2).2).2).2).2).wf=true)))))) (by kernel_rfl) (by kernel_rfl) o_int ?_;refine OpensZF.cons (d:=(Kd.slice 3 (Kd.int .i64))) (ok:=fun v_:(List Int)=>(List.length v_*8≤140737488351232∧∀y1_ ∈ v_,(Lit.int .i64 y1_).wf=true)) (ok':=fun z_:((List Int) × Int × Int × (List (List Int)) × Int)=>((List.length (z_).1*8≤140737488351232∧∀y1_ ∈ (z_).1,(Lit.int .i64 y1_).wf=true)∧((Lit.int .i64 ((z_).2).1).wf=true∧((Lit.int .i64 (((z_).2).2).1).wf=true∧((List.length ((((z_).2).2).2).1*24≤140737488351232∧∀y1_ ∈ ((((z_).2).2).2).1,(List.length y1_*8≤140737488351232∧∀y2_ ∈ y1_,(Lit.int .i64 y2_).wf=true))∧(Lit.int .i64 ((((z_).2).2).2).2).wf=true))))) (by kernel_rfl) (by kernel_rfl) o_Lint ?_;refine OpensZF.cons (d:=(Kd.slice 3 (Kd.int .i64))) (ok:=fun v_:(List Int)=>(List.length v_*8≤140737488351232∧∀y1_ ∈ v_,(Lit.int .i64 y1_).wf=true)) (ok':=fun z_:(Int × Int × (List (List Int)) × Int)=>((Lit.int .i64 (z_).1).wf=true∧((Lit.int .i64 ((z_).2).1).wf=true∧((List.length (((z_).2).2).1*24≤140737488351232∧∀y1_ ∈ (((z_).2).2).1,(List.length y1_*8≤140737488351232∧∀y2_ ∈ y1_,(Lit.int .i64 y2_).wf=true))∧(Lit.int .i64 (((z_).2).2).2).wf=true)))) (by kernel_rfl) (by kernel_rfl) o_Lint ?_;refine OpensZF.cons (d:=(Kd.int .i64)) (ok:=fun v_:Int=>(Lit.int .i64 v_).wf=true) (ok':=fun z_:(Int × (List (List Int)) × Int)=>((Lit.int .i64 (z_).1).wf=true∧((List.length ((z_).2).1*24≤140737488351232∧∀y1_ ∈ ((z_).2).1,(List.length y1_*8≤140737488351232∧∀y2_ ∈ y1_,(Lit.int .i64 y2_).wf=true))∧(Lit.int .i64 ((z_).2).2).wf=true))) (by kernel_rfl) (by kernel_rfl) o_int ?_;refine OpensZF.cons (d:=(Kd.int .i64)) (ok:=fun v_:Int=>(Lit.int .i64 v_).wf=true) (ok':=fun z_:((List (List Int)) × Int)=>((List.length (z_).1*24≤140737488351232∧∀y1_ ∈ (z_).1,(List.length y1_*8≤140737488351232∧∀y2_ ∈ y1_,(Lit.int .i64 y2_).wf=true))∧(Lit.int .i64 (z_).2).wf=true)) (by kernel_rfl) (by kernel_rfl) o_int ?_;refine OpensZF.cons (d:=(Kd.slice 24 (Kd.slice 3 (Kd.int .i64)))) (ok:=fun v_:(List (List Int))=>(List.length v_*24≤140737488351232∧∀y1_ ∈ v_,(List.length y1_*8≤140737488351232∧∀y2_ ∈ y1_,(Lit.int .i64 y2_).wf=true))) (ok':=fun z_:(Int)=>(Lit.int .i64 z_).wf=true) (by kernel_rfl) (by kernel_rfl) o_LLint ?_;exact OpensZF.last (d:=(Kd.int .i64)) (ok:=fun v_:Int=>(Lit.int .i64 v_).wf=true) (by kernel_rfl) (by kernel_rfl) o_int
theorem o_api_Con:OpensZ Tryz.prog k40 (fun b:S40=>((Lit.int .i64 (b).f0).wf=true∧(List.length (b).f1*8≤140737488351232∧∀y1_ ∈ (b).f1,(Lit.int .i64 y1_).wf=true)∧(List.length (b).f2*8≤140737488351232∧∀y1_ ∈ (b).f2,(Lit.int .i64 y1_).wf=true)∧(Lit.int .i64 (b).f3).wf=true∧(Lit.int .i64 (b).f4).wf=true∧(List.length (b).f5*24≤140737488351232∧∀y1_ ∈ (b).f5,(List.length y1_*8≤140737488351232∧∀y2_ ∈ y1_,(Lit.int .i64 y2_).wf=true))∧(Lit.int .i64 (b).f6).wf=true)) 40:=OpensZ.iso p_api_Con (fun x:S40=>(x.f0,x.f1,x.f2,x.f3,x.f4,x.f5,x.f6)) (fun z=>⟨z.1,z.2.1,z.2.2.1,z.2.2.2.1,z.2.2.2.2.1,z.2.2.2.2.2.1,z.2.2.2.2.2.2⟩) (fun _=>rfl)
theorem o_Lapi_Con:OpensZ Tryz.prog (Kd.slice 40 k40) (fun l=>(List.length l*104≤140737488351232∧∀y1_ ∈ l,((Lit.int .i64 (y1_).f0).wf=true∧(List.length (y1_).f1*8≤140737488351232∧∀y2_ ∈ (y1_).f1,(Lit.int .i64 y2_).wf=true)∧(List.length (y1_).f2*8≤140737488351232∧∀y2_ ∈ (y1_).f2,(Lit.int .i64 y2_).wf=true)∧(Lit.int .i64 (y1_).f3).wf=true∧(Lit.int .i64 (y1_).f4).wf=true∧(List.length (y1_).f5*24≤140737488351232∧∀y2_ ∈ (y1_).f5,(List.length y2_*8≤140737488351232∧∀y3_ ∈ y2_,(Lit.int .i64 y3_).wf=true))∧(Lit.int .i64 (y1_).f6).wf=true))) 23:=OpensZ.row Tryz.underlying23 (by kernel_rfl) (by kernel_rfl) o_api_Con
theorem p_api_Goal:OpensZ Tryz.prog (Kd.pair (Kd.int .i64) (Kd.pair (Kd.slice 3 (Kd.int .i64)) (Kd.slice 3 (Kd.int .i64)))) (fun z=>((Lit.int .i64 (z).1).wf=true∧((List.length ((z).2).1*8≤140737488351232∧∀y1_ ∈ ((z).2).1,(Lit.int .i64 y1_).wf=true)∧(List.length ((z).2).2*8≤140737488351232∧∀y1_ ∈ ((z).2).2,(Lit.int .i64 y1_).wf=true)))) 26:=by
 refine OpensZ.struct (d:=(Kd.pair (Kd.int .i64) (Kd.pair (Kd.slice 3 (Kd.int .i64)) (Kd.slice 3 (Kd.int .i64))))) Tryz.underlying26 (by kernel_rfl) ?_;refine OpensZF.cons (d:=(Kd.int .i64)) (ok:=fun v_:Int=>(Lit.int .i64 v_).wf=true) (ok':=fun z_:((List Int) × (List Int))=>((List.length (z_).1*8≤140737488351232∧∀y1_ ∈ (z_).1,(Lit.int .i64 y1_).wf=true)∧(List.length (z_).2*8≤140737488351232∧∀y1_ ∈ (z_).2,(Lit.int .i64 y1_).wf=true))) (by kernel_rfl) (by kernel_rfl) o_int ?_;refine OpensZF.cons (d:=(Kd.slice 3 (Kd.int .i64))) (ok:=fun v_:(List Int)=>(List.length v_*8≤140737488351232∧∀y1_ ∈ v_,(Lit.int .i64 y1_).wf=true)) (ok':=fun z_:((List Int))=>(List.length z_*8≤140737488351232∧∀y1_ ∈ z_,(Lit.int .i64 y1_).wf=true)) (by kernel_rfl) (by kernel_rfl) o_Lint ?_;exact OpensZF.last (d:=(Kd.slice 3 (Kd.int .i64))) (ok:=fun v_:(List Int)=>(List.length v_*8≤140737488351232∧∀y1_ ∈ v_,(Lit.int .i64 y1_).wf=true)) (by kernel_rfl) (by kernel_rfl) o_Lint
theorem p_api_Model:OpensZ Tryz.prog (Kd.pair (Kd.slice 37 k37) (Kd.pair (Kd.slice 40 k40) (Kd.pair (Kd.int .i64) (Kd.pair (Kd.slice 3 (Kd.int .i64)) (Kd.slice 3 (Kd.int .i64)))))) (fun z=>((List.length (z).1*40≤140737488351232∧∀y1_ ∈ (z).1,(ByteArray.size (y1_).f0≤maxLen∧(List.length (y1_).f1*16≤140737488351232∧∀y2_ ∈ (y1_).f1,((Lit.int .i64 (y2_).f0).wf=true∧(Lit.int .i64 (y2_).f1).wf=true))))∧((List.length ((z).2).1*104≤140737488351232∧∀y1_ ∈ ((z).2).1,((Lit.int .i64 (y1_).f0).wf=true∧(List.length (y1_).f1*8≤140737488351232∧∀y2_ ∈ (y1_).f1,(Lit.int .i64 y2_).wf=true)∧(List.length (y1_).f2*8≤140737488351232∧∀y2_ ∈ (y1_).f2,(Lit.int .i64 y2_).wf=true)∧(Lit.int .i64 (y1_).f3).wf=true∧(Lit.int .i64 (y1_).f4).wf=true∧(List.length (y1_).f5*24≤140737488351232∧∀y2_ ∈ (y1_).f5,(List.length y2_*8≤140737488351232∧∀y3_ ∈ y2_,(Lit.int .i64 y3_).wf=true))∧(Lit.int .i64 (y1_).f6).wf=true))∧((Lit.int .i64 (((z).2).2).1).wf=true∧((List.length ((((z).2).2).2).1*8≤140737488351232∧∀y1_ ∈ ((((z).2).2).2).1,(Lit.int .i64 y1_).wf=true)∧(List.length ((((z).2).2).2).2*8≤140737488351232∧∀y1_ ∈ ((((z).2).2).2).2,(Lit.int .i64 y1_).wf=true)))))) 28:=by
 refine OpensZ.struct (d:=(Kd.pair (Kd.slice 37 k37) (Kd.pair (Kd.slice 40 k40) (Kd.pair (Kd.int .i64) (Kd.pair (Kd.slice 3 (Kd.int .i64)) (Kd.slice 3 (Kd.int .i64))))))) Tryz.underlying28 (by kernel_rfl) ?_;refine OpensZF.cons (d:=(Kd.slice 37 k37)) (ok:=fun v_:(List S37)=>(List.length v_*40≤140737488351232∧∀y1_ ∈ v_,(ByteArray.size (y1_).f0≤maxLen∧(List.length (y1_).f1*16≤140737488351232∧∀y2_ ∈ (y1_).f1,((Lit.int .i64 (y2_).f0).wf=true∧(Lit.int .i64 (y2_).f1).wf=true))))) (ok':=fun z_:((List S40) × (Int × (List Int) × (List Int)))=>((List.length (z_).1*104≤140737488351232∧∀y1_ ∈ (z_).1,((Lit.int .i64 (y1_).f0).wf=true∧(List.length (y1_).f1*8≤140737488351232∧∀y2_ ∈ (y1_).f1,(Lit.int .i64 y2_).wf=true)∧(List.length (y1_).f2*8≤140737488351232∧∀y2_ ∈ (y1_).f2,(Lit.int .i64 y2_).wf=true)∧(Lit.int .i64 (y1_).f3).wf=true∧(Lit.int .i64 (y1_).f4).wf=true∧(List.length (y1_).f5*24≤140737488351232∧∀y2_ ∈ (y1_).f5,(List.length y2_*8≤140737488351232∧∀y3_ ∈ y2_,(Lit.int .i64 y3_).wf=true))∧(Lit.int .i64 (y1_).f6).wf=true))∧((Lit.int .i64 ((z_).2).1).wf=true∧((List.length (((z_).2).2).1*8≤140737488351232∧∀y1_ ∈ (((z_).2).2).1,(Lit.int .i64 y1_).wf=true)∧(List.length (((z_).2).2).2*8≤140737488351232∧∀y1_ ∈ (((z_).2).2).2,(Lit.int .i64 y1_).wf=true))))) (by kernel_rfl) (by kernel_rfl) o_Lapi_Var ?_;refine OpensZF.cons (d:=(Kd.slice 40 k40)) (ok:=fun v_:(List S40)=>(List.length v_*104≤140737488351232∧∀y1_ ∈ v_,((Lit.int .i64 (y1_).f0).wf=true∧(List.length (y1_).f1*8≤140737488351232∧∀y2_ ∈ (y1_).f1,(Lit.int .i64 y2_).wf=true)∧(List.length (y1_).f2*8≤140737488351232∧∀y2_ ∈ (y1_).f2,(Lit.int .i64 y2_).wf=true)∧(Lit.int .i64 (y1_).f3).wf=true∧(Lit.int .i64 (y1_).f4).wf=true∧(List.length (y1_).f5*24≤140737488351232∧∀y2_ ∈ (y1_).f5,(List.length y2_*8≤140737488351232∧∀y3_ ∈ y2_,(Lit.int .i64 y3_).wf=true))∧(Lit.int .i64 (y1_).f6).wf=true))) (ok':=fun z_:((Int × (List Int) × (List Int)))=>((Lit.int .i64 (z_).1).wf=true∧((List.length ((z_).2).1*8≤140737488351232∧∀y1_ ∈ ((z_).2).1,(Lit.int .i64 y1_).wf=true)∧(List.length ((z_).2).2*8≤140737488351232∧∀y1_ ∈ ((z_).2).2,(Lit.int .i64 y1_).wf=true)))) (by kernel_rfl) (by kernel_rfl) o_Lapi_Con ?_;exact OpensZF.last (d:=(Kd.pair (Kd.int .i64) (Kd.pair (Kd.slice 3 (Kd.int .i64)) (Kd.slice 3 (Kd.int .i64))))) (ok:=fun v_:(Int × (List Int) × (List Int))=>((Lit.int .i64 (v_).1).wf=true∧((List.length ((v_).2).1*8≤140737488351232∧∀y1_ ∈ ((v_).2).1,(Lit.int .i64 y1_).wf=true)∧(List.length ((v_).2).2*8≤140737488351232∧∀y1_ ∈ ((v_).2).2,(Lit.int .i64 y1_).wf=true)))) (by kernel_rfl) (by kernel_rfl) p_api_Goal
set_option maxRecDepth 100000 in
theorem lifted (os : Os) (started : os.Started) (H : Type) (enc : TypeId × Value → H) :
  ReturnsInHanded {} Tryz.checked os 3 .any (Rows.modelChecksSpec.pre6 enc Tryz.prog Tryz.f3 Rows.modelChecksRow.domain false) (Rows.modelChecksSpec.post enc Tryz.prog Tryz.f3 false true false false):=by
 refine returnsInHanded_of_change_sized (C := Tryz.checked) own started (by kernel_rfl) Tryz.func3
  (ChangeSpec.witness6 (enc:=enc) (C:=Tryz.checked) false ⟨#[],#[.agg #[.slice none 0 0,.slice none 0 0,.int .i64 0,.slice none 0 0,.slice none 0 0]],[]⟩ 8 (by kernel_rfl) (by kernel_rfl) (by kernel_rfl) (by kernel_rfl)) ?_
 intro W base args ds gs before hval0 hW hcnd hsz0 _;have hsz:(DataW.weightsEach Tryz.prog (Tryz.f3.params.toList++Rows.modelChecksSpec.plain.varTypes Tryz.prog) (ds++gs)).all (· ≤reachBytes)=true:=hsz0;have hval:∀(j:Nat) t v,Tryz.f3.params[j]? =some t→args[j]? =some v→Value.okWide Tryz.prog W .any base t v:=hval0;have hW':=hW;obtain⟨p,q,hA0,hV,rfl,hfz,hnd⟩:=hW;have hA:DataW.TrodAll enc Tryz.prog W 0 (fun _=>true) true Tryz.f3.params.toList args.toList ds p:=hA0;rw[Tryz.params3]at hA hval hsz;obtain⟨v0,vs0,d0,ds0,p0,q0,hargs,rfl,rfl,h0,r0⟩:=trodAll_cons hA;obtain⟨rfl,rfl,rfl⟩:=trodAll_nil r0;obtain rfl:args=#[v0]:=by cases args;simp_all
 obtain⟨rfl,rfl⟩:=trodVars_none hV;have k0:=h0;have lt0:∀x ∈ p0,x.block<W.heap.size:=by obtain⟨m,hm⟩:=k0;exact DataW.trod_lt m _ _ _ hm
 obtain⟨cs0,rfl,_⟩:=okWide_struct Tryz.underlying28 (hval 0 28 v0 rfl rfl);obtain⟨fu0,hf0⟩:=h0;obtain⟨⟨x0,⟨x1,⟨x2,⟨x3,x4⟩⟩⟩⟩,hK0,⟨ok0,⟨ok1,⟨ok2,⟨ok3,ok4⟩⟩⟩⟩⟩:=p_api_Model.out _ _ _ _ _ _ _ _ hf0 (each_weights hsz (j:=0) (t:=28) rfl rfl);obtain⟨_,_,e,⟨A0,c0,rfl,hc0,hC0⟩,⟨_,_,rfl,⟨A1,c1,rfl,hc1,hC1⟩,⟨_,_,rfl,rfl,⟨_,_,rfl,⟨A3,c3,rfl,hc3,hC3⟩,⟨A4,c4,rfl,hc4,hC4⟩⟩⟩⟩⟩:=hK0
 obtain rfl:cs0=#[.slice A0 x0.length c0,.slice A1 x1.length c1,.int .i64 x2,.slice A3 x3.length c3,.slice A4 x4.length c4]:=by
  apply Array.ext'
  simpa[Value.cells] using e
 clear hA0 hval0 hsz0 hsz;refine(P.Zgp A0 c0 x0 A1 c1 x1 x2 A3 c3 x3 A4 c4 x4 W hC0 hc0 ok0 hC1 hc1 ok1 ok2 hC3 hc3 ok3 hC4 hc4 ok4).mono fun e W' ⟨he,bel⟩=> ?_
 subst he;exact⟨_,rfl,_,_,_,[],_,[],hW',trodAll_mk1 (shut_bool Tryz.underlying4 _),(trodAll_cons_mk (Below.trod laidOut (by kernel_rfl) (of_decide_eq_true (by kernel_rfl)) k0 bel lt0) trodAll_mk0),rfl,bel.frame _,fun h=>by cases h⟩
theorem over:Rows.modelChecksRow.holds Tryz.pinned (OpenSpec.ofChange Rows.modelChecksSpec):=
 OpenClaim.holds_of_wide 3 Tryz.f3 rfl rfl rfl rfl rfl rfl rfl ⟨rfl, rfl, rfl, rfl, rfl⟩ rfl rfl rfl rfl rfl (by kernel_rfl) Tryz.func3 (by kernel_rfl)
  (of_decide_eq_true (by kernel_rfl)) (by unfold Func.isWrapper;first|(rw[if_pos (by decide+kernel)];kernel_rfl)|(rw[if_neg (by decide+kernel)];exact⟨rfl,rfl⟩))
  (fun os started H enc _=>lifted os started H enc)
theorem proved:Rows.ModelChecksSaid:=over
end Go.Proofs.YtkgjaklnbgdmiaaGreat.modelChecks
namespace Go.Proofs.YtkgjaklnbgdmiaaGreat
theorem modelChecks_holds:Rows.ModelChecksSaid:=modelChecks.proved
end Go.Proofs.YtkgjaklnbgdmiaaGreat
