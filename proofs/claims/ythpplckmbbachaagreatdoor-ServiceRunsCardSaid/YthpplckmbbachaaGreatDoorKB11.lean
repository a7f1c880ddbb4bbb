/- Lemmas, no conditions. -/
import Derived.Test.YthpplckmbbachaaGreatDoorKB7
import Derived.Test.YthpplckmbbachaaGreatDoorKB10
set_option linter.unusedVariables false
set_option linter.unusedSimpArgs false
set_option maxHeartbeats 400000
set_option maxRecDepth 100000
namespace Go.Proofs.YthpplckmbbachaaGreatDoor
open Go.aI Go.bI Go.Proofs.Tryz
variable (σ : List aZ)
theorem Ns{y m}(h:((y<1600\/4470<y)\/m<1)\/12<m):sD y m=0:=by grind [sD]
theorem lC{y m}(h:((1600<=y/\y<=4470)/\1<=m)/\m<=12):sD y m=iA y m:=by grind [sD]
theorem Nr{y m}(h1:1<=m)(h2:m<=12)(h:m=2->kz y=false):loaded false (((([31,28,31,30,31,30,31,31,30,31,30,31]:List Int).map fun n=>AV.d (I n)).drop ((m-1).toNat*1)).take 1)= .d (I (iA y m)):=by
 have hc:m=1\/m=2\/m=3\/m=4\/m=5\/m=6\/m=7\/m=8\/m=9\/m=10\/m=11\/m=12:=aa;rcases hc with rfl|rfl|rfl|rfl|rfl|rfl|rfl|rfl|rfl|rfl|rfl|rfl<;>first|rfl|(simp[h,iA];rfl)
theorem Np{y}(h:kz y=true):iA y 2=29:=by simp[iA,h]
theorem Ot(y)(hy:0<=y):ak prog 543 [.d (I y)] σ (.d (B (kz y))):=by
 refine ak.bd true func543 fun hwf=> ?_;simp(disch:=first|omega|simp) [go_sem,mu];refine af ?_;simp[go_sem,kz]<;>omega
def cv(d:Int):Prop:=0<=d/\d<=1048575
instance(d:Int):Decidable (cv d):=inferInstanceAs (Decidable (_/\_))
theorem HX(d):decide (cv d)=(decide (0<=d)&&decide (d<=1048575)):=by
 grind [cv]
theorem UO(d):ak prog 542 [.d (I d)] σ (.d (B (decide (cv d)))):=by
 refine ak.bt func542 ?_;refine af ?_;simp[go_sem,HX]<;>omega
theorem mK(y)(h1:1600<=y)(h2:y<=4700):ak prog 536 [.d (I y)] σ (.d (I (jw y))):=by
 refine ak.bd true func536 fun hwf=> ?_;simp(disch:=first|omega|simp) [go_sem,wo,aS];refine af ?_;simp[go_sem,jw]<;>omega
theorem Ft:ak prog 544 [] σ (.agg ([31,28,31,30,31,30,31,31,30,31,30,31].map fun n=> .d (I n))):=by
 refine ak.bt func544 ?_;exact af so
theorem iI(y m):ak prog 535 [.d (I y),.d (I m)] σ (.d (I (sD y m))):=by
 refine ak.bt func535 ?_;refine dH [0,1] ?_ ?_<;>intro d0
 ·exact sx (Ns d0)
 ·simp[go_sem];refine cE.mk (Ot _ y aa) (gc [1] ?_ ?_)<;>intro d1
  ·obtain⟨rfl,d1⟩:=d1;simp[go_sem];rw[lC aa,Np d1];exact af sc
  ·refine wI ?_;refine az.mk (Ft _) ?_;refine wC ?_;have hL:=Nr (y:=y) (m:=m) aa aa d1;simp[go_sem] at hL;simp[go_sem,hL];repeat refine⟨aa,?_⟩
   rw[lC aa];exact af sc
def Pg(y m k:Int):Int×Int:=if k<1\/sD y m<k then(0,2) else if 1048575<MK y m k then(0,2) else(MK y m k,0)
theorem Sd{y m k}(h1:1<=k)(h2:k<=sD y m):(1600<=y/\y<=4470)/\1<=m/\m<=12/\sD y m=iA y m:=by
 grind [sD]
theorem vO{y}(h1:1600<=y)(h2:y<=4700):0<=jw y/\jw y<=2000000:=by grind [jw]
theorem Fx(y){m}(h1:1<=m)(h2:m<=13):0<=rF y m/\rF y m<=400:=by
 have h3:=yc (y:=y) h1;have h4:=yc (y:=y) h2;grind [yb,SN]
theorem tq{y m k}(h:1<=k/\k<=sD y m):Pg y m k=if 1048575<MK y m k then(0,2) else(MK y m k,0):=by grind [Pg]
theorem UP(y m k):ak prog 534 [.d (I y),.d (I m),.d (I k)] σ (.cj [.d (I (Pg y m k).1),.d (I (Pg y m k).2)]):=by
 refine ak.bd true func534 fun hwf=> ?_;simp[go_sem];refine az.mk (iI _ _ _) ?_;refine gc [0,1,2] ?_ ?_<;>intro d0
 ·refine wA ?_;have hz:Pg y m k=(0,2):=by grind [Pg]
  rw[hz];simp[go_sem]
 ·obtain⟨hy,hm1,hm2,hl⟩:=Sd d0.1 d0.2;have hb:=vO hy.1 aa;have hlm:=tv y m;refine wI ?_;refine az.mk (mK _ y aa aa) ?_;refine wC ?_;refine mA (α:=Nat) true [0,1,9,10] (fun q=>[(9,.d (I (jw y+k-1+rF y (q+1)))),(10,.d (I ((q+1:Nat):Int)))]) (fun q=>_) (fun q=>(q:Int)+1<=m) (fun q=>12-q) 0 Q7 (rfl) aa ?_;rintro q hq;have hcb:=Fx y (m:=q+1) aa aa;refine gc [0,1,9,10] ?_ ?_<;>intro d1
  ·have hlq:sD y (q+1)=iA y (q+1):=lC aa;have hcs:=pM (y:=y) (m:=(q:Int)+1) aa aa;have hlb:=tv y (q+1);have hlp:=xQ y (q+1);refine wI ?_;refine az.mk (iI _ _ _) ?_;refine wC ?_;refine bF (q+1) aa (h:=aR)
  ·obtain rfl:m=q+1:=by omega
   have ho:MK y (q+1) k=jw y+k-1+rF y (q+1):=by grind [MK]
   refine wR ?_;refine gc [9] ?_ ?_<;>intro d2
   ·simp[go_sem];rw[tq d0,ho,if_pos aa];exact af sc
   ·simp[go_sem];rw[tq d0,ho,if_neg aa];exact af sc
def iJ(d:Int):Int×Int×Int×Int:=if cv d then(aV d,iz d,nQ d,0) else(0,0,0,2)
theorem X4{d}(h:cv d):1600<=1600+400*(d/146097)+d%146097/366/\jw (1600+400*(d/146097)+d%146097/366)<=d:=by
 obtain⟨h1,h2⟩:=h;grind [jw]
theorem pb{d y}(h:cv d)(hb:jw y<=d):y<=4470:=by
 apply Classical.byContradiction;intro hn;have:=nZ (a:=4471) (b:=y) aa;grind [OT,cv]
theorem Bq(d):ak prog 533 [.d (I d)] σ (.cj [.d (I (iJ d).1),.d (I (iJ d).2.1),.d (I (iJ d).2.2.1),.d (I (iJ d).2.2.2)]):=by
 refine ak.bd true func533 fun hwf=> ?_;simp[go_sem];refine az.mk (UO _ _) ?_;refine gc [0] ?_ ?_<;>intro d0
 ·refine wA ?_;have hz:iJ d=(0,0,0,2):=by grind [iJ]
  rw[hz];simp[go_sem]
 ·have hd:cv d:=d0;have hgu:=X4 hd;have hgt:=pb hd hgu.2;simp(disch:=first|omega|simp) [go_sem,wo,mu,aS];refine mA (α:=Int) true [0,2] (fun y=>[(2,.d (I y))]) (fun y=>_) (fun y=>1600<=y/\jw y<=d) (fun y=>(4471-y).toNat) (1600+400*(d/146097)+d%146097/366) au (rfl) (hgu) ?_;rintro y ⟨hy1,hy2⟩;have hy3:=pb hd hy2;refine wC ?_;refine az.mk (mK _ (y+1) aa aa) ?_;refine wI ?_;refine dH [0,2] ?_ ?_<;>intro d1
  ·have hy4:=pb hd d1;refine wC ?_;refine bF (y+1) ⟨aa,d1⟩ (h:=aR)
  ·obtain rfl:aV d=y:=Hi hd.1 hd.2 hy2 aa;have hbb:=vO hy1 aa;have hdi:=hd;unfold cv at hdi;refine wR ?_;refine wI ?_;refine az.mk (mK _ (aV d) aa aa) ?_;refine wC ?_;refine mA (α:=Int) true [0,2,3] (fun m=>[(0,.d (I (d-jw (aV d)-rF (aV d) m))),(3,.d (I m))]) (fun m=>_) (fun m=>1<=m/\m<=12/\rF (aV d) m<=d-jw (aV d)) (fun m=>(12-m).toNat) 1 Q7 (rfl) (⟨aa,aa,by grind [yb]⟩) ?_;rintro m ⟨hm1,hm2,hm3⟩;have hlf:sD (aV d) m=iA (aV d) m:=lC aa;have hcs:=pM (y:=aV d) hm1 hm2;have hlb:=tv (aV d) m;have hlp:=xQ (aV d) m;have hcb:=Fx (aV d) hm1 aa;simp[go_sem];refine az.mk (iI _ _ _) ?_;refine gc [0,2,3] ?_ ?_<;>intro d2
   ·have hm4:m≠12:=by
     grind [tH]
    refine wI ?_;refine az.mk (iI _ _ _) ?_;refine wC ?_;refine bF (m+1) ⟨aa,aa,aa⟩ (h:=aR)
   ·obtain rfl:iz d=m:=by
     unfold iz;have:=(je hd.1 hd.2).2;rw[tH] at this;have hs:=vt (y:=aV d) (r:=d-jw (aV d)) aa aa;exact xL hs.2.2.1 hs.2.2.2 hm3 aa
    refine wT ?_;refine af ?_;have hz:iJ d=(aV d,iz d,nQ d,0):=by grind [iJ]
    rw[hz];simp[go_sem,nQ]
def cN(d n:Int):Int×Int:=if cv d/\0<=n/\n<=200 then(l6 d n,0) else(0,2)
theorem Fw{d}(h: ¬cv d):iJ d=(0,0,0,2):=by grind [iJ]
theorem pK{d}(h:cv d):iJ d=(aV d,iz d,nQ d,0):=by grind [iJ]
theorem sQ{d} :(iJ d).2.2.2=0↔cv d:=by
 grind [pK,Fw]
theorem K6{d n}(h:cv d)(h0:0<=n)(hn:aV d+n<=4470):Pg (aV d+n) (iz d) (min (nQ d) (sD (aV d+n) (iz d)))=if 1048575<MK (aV d+n) (iz d) (min (nQ d) (iA (aV d+n) (iz d))) then(0,2) else(MK (aV d+n) (iz d) (min (nQ d) (iA (aV d+n) (iz d))),0):=by
 have hs:=tF h.1 h.2;have hr:=eT h.1 h.2;grind [iA,lC,tq]
theorem x8(d n):ak prog 528 [.d (I d),.d (I n)] σ (.cj [.d (I (cN d n).1),.d (I (cN d n).2)]):=by
 refine ak.bt func528 ?_;refine az.mk (Bq _ _) (sm ?_);refine km [1,6,7,8] ?_ ?_<;>intro c0 d0
 ·have hz:cN d n=(0,2):=by
   grind [cN,pK]
  exact sx hz
 ·have hd:cv d:=sQ.1 d0.1.1;have hr:=eT hd.1 hd.2;have hz:cN d n=(l6 d n,0):=by grind [cN]
  simp only[pK hd] at c0 d0⊢;refine wC ?_;refine dH [6,7,8] ?_ ?_<;>intro d1
  ·have hz2:l6 d n=1048575:=by grind [l6]
   simp[go_sem];rw[hz,hz2];exact af sc
  ·have ho:=K6 hd (n:=n) aa aa;have hz2:l6 d n=if 1048575<MK (aV d+n) (iz d) (min (nQ d) (iA (aV d+n) (iz d))) then 1048575 else MK (aV d+n) (iz d) (min (nQ d) (iA (aV d+n) (iz d))):=by grind [l6]
   generalize MK (aV d+n) (iz d) (min (nQ d) (iA (aV d+n) (iz d)))=g at ho hz2
   simp[go_sem];refine az.mk (iI _ _ _) (sm ?_);refine az.mk (UP _ _ _ _) (sm ?_);simp only[ho];refine dH [10] ?_ ?_<;>intro d2
   ·have hz3:l6 d n=1048575:=ai;simp[go_sem];rw[hz,hz3];exact af sc
   ·refine wA ?_;by_cases h3:1048575<g
    ·simp[h3] at d2
    ·rw[hz,hz2];simp[go_sem,h3]
def dI(d:Int):Int×Int:=if cv d then(lH d,0) else(0,2)
theorem Fu(d):ak prog 529 [.d (I d)] σ (.cj [.d (I (dI d).1),.d (I (dI d).2)]):=by
 refine ak.bt func529 ?_;refine az.mk (Bq _ _) (sm ?_);refine km [4,7] ?_ ?_<;>intro c0 d0
 ·have hn: ¬cv d:=fun h=>d0 (sQ.2 h);have hz:dI d=(0,2):=by grind [dI]
  refine wA ?_;rw[hz];simp[go_sem,Fw hn]
 ·have hd:cv d:=sQ.1 d0;have hr:=eT hd.1 hd.2;have hb:=vO (y:=aV d+1) aa aa;have hz:dI d=(lH d,0):=by grind [dI]
  simp only[pK hd] at c0 d0⊢;refine wC ?_;refine az.mk (mK _ _ ai ai) ?_;refine wC ?_;refine af ?_;rw[hz];simp[go_sem,lH]
end Go.Proofs.YthpplckmbbachaaGreatDoor
namespace Go.Proofs.YthpplckmbbachaaGreatDoor
open Go.aI Go.bI
theorem Uq{d}(h:cv d):1600<=1600+d/366/\jw (1600+d/366)<=d:=by
 obtain⟨h1,h2⟩:=h;grind [jw]
theorem Uh{y y' m}(h:m≠2):iA y m=iA y' m:=by grind [iA]
theorem Xy{y} :iA y 2=if kz y=true then 29 else 28:=by grind [iA]
theorem Tg{d n}(h:cv d):min (nQ d) (iA (aV d+n) (iz d))=if(iz d=2/\nQ d=29)/\kz (aV d+n)=false then 28 else nQ d:=by
 have hs:=tF h.1 h.2;grind [Xy,Uh]
theorem Hh{d n}(h:cv d)(h0:0<=n)(h1:n<=200){k}(hk:k=if(iz d=2/\nQ d=29)/\kz (aV d+n)=false then 28 else nQ d):l6 d n=if(Pg (aV d+n) (iz d) k).2=0 then(Pg (aV d+n) (iz d) k).1 else 1048575:=by
 have hs:=tF h.1 h.2;have hr:=eT h.1 h.2;rw[←Tg h] at hk;grind [Pg,l6,sD,K6]
theorem K8{d}(h:cv d):lH d=if(Pg (aV d) 12 31).2=0 then(Pg (aV d) 12 31).1 else 1048575:=by
 have hr:=eT h.1 h.2;grind [lC,iA,tq,pM,tH,lH,MK]
open Go.Proofs.Tryz
variable (σ : List aZ)
structure dV where
 First:Int
 Last:Int
def dV.enc(m:dV):List D:=[I m.First,I m.Last]
structure Ground where
 Kind:Int
 Source:Int
 Unit:Int
 Until:Int
def Ground.enc(m:Ground):List D:=[I m.Kind,I m.Source,I m.Unit,I m.Until]
def Ground.zero:Ground:=⟨0,0,0,0⟩
def Rule.zero:Rule:=⟨0,0,0,false,⟨0,0⟩⟩
attribute [go_sem] dV.enc Ground.enc
def Ou(m:dV):Bool:=decide (0<=m.First)&&decide (m.First<=m.Last)&&decide (m.Last<=1048575)
def cy(m:dV):Int:=if Ou m=true then 0 else 1
theorem UR{m}(h:(m.First<0\/m.Last<m.First)\/1048575<m.Last):cy m=1:=by
 grind [cy,Ou]
theorem UQ{m}(h:(0<=m.First/\m.First<=m.Last)/\m.Last<=1048575):cy m=0:=by
 grind [cy,Ou]
theorem adp{y m k}(h1:1600<=y)(h2:y<=4700)(h3:1<=m)(h4:m<=12)(h5:1<=k):0<=MK y m k:=by
 have:=vO h1 h2;have:=Fx y h3 aa;grind [MK]
theorem Th{d n}(h:cv d)(h0:0<=n):cv (l6 d n):=by
 have hs:=tF h.1 h.2;have hr:=eT h.1 h.2;grind [l6,cv,adp,iA]
theorem kF(d n):cv (cN d n).1:=by
 grind [cN,Th,cv]
theorem Lb{d}(h:cv d):cv (lH d):=by
 have hr:=eT h.1 h.2;have hb:=vO (y:=aV d) aa aa;have hs:=QP (a:=aV d) (b:=aV d+1) aa;grind [lH,cv]
theorem K9(d):cv (dI d).1:=by
 grind [dI,Lb,cv]
def kC(r:Rule)(m:dV):Int:=if r.C7=true then(dI (cN m.Last r.dE).1).1 else(cN m.Last r.dE).1
theorem xR(r m):cv (kC r m):=by
 grind [kC,K9,kF]
theorem cZ(m):ak prog 265 [.agg (m.enc.map .d)] σ (.d (I (cy m))):=by
 refine ak.bt func265 ?_;refine dH [] ?_ ?_<;>intro d0
 ·exact sx (UR d0)
 ·exact sx (UQ d0)
theorem pN(r m):ak prog 519 [.agg (r.enc.map .d),.agg (m.enc.map .d)] σ (.d (I (kC r m+1))):=by
 refine ak.bt func519 ?_;refine az.mk (x8 _ m.Last r.dE) (gc [5] ?_ ?_)<;>intro d0
 ·have hl:kC r m=(dI (cN m.Last r.dE).1).1:=by grind [kC]
  have hb:=xR r m;rw[hl] at hb⊢;unfold cv at hb;refine wI ?_;refine az.mk (Fu _ (cN m.Last r.dE).1) ?_;refine wC ?_;exact af so
 ·have hl:kC r m=(cN m.Last r.dE).1:=by grind [kC]
  have hb:=xR r m;rw[hl] at hb⊢;unfold cv at hb;refine wC ?_;exact af so
def oL(r:Rule)(m:dV):Int×Int:=if formed r=false then(0,2) else if cy m≠0 then(0,1) else(kC r m+1,0)
def inB(k d:Int)(r:Rule):Bool:=(r.Class==k)&&decide (r.In.From<=d)&&decide (d<r.In.Until)
theorem sT(τ r k d):ak prog 527 [.agg (r.enc.map .d),.ptr σ.length 0,.ptr (σ.length+1) 0] (σ++ .var [.d (I k)]:: .var [.d (I d)]::τ) (.d (B (inB k d r))):=by
 refine ak.bt func527 ?_;refine af ?_;simp[go_sem,inB]<;>omega
def nH(n:Nat)(g:Nat->Rule)(k d:Int):Int:=idxFrom (inB k d) (lst n g) 0
theorem A4(n g k d):nH n g k d<n:=by
 grind [fT,nH,cd]
def bT(n:Nat)(g:Nat->Rule)(k d:Int):Rule×Bool:=if nH n g k d<0\/check n g≠0 then(Rule.zero,false) else(g (nH n g k d).toNat,true)
theorem vL(c n g k d)(hn:n<1000000000):ak prog 518 [.d (SL c 6 Rule.enc n g),.d (I k),.d (I d)] σ (.cj [.agg ((bT n g k d).1.enc.map .d),.d (B (bT n g k d).2)]):=by
 have hlt:=A4 n g k d;refine ak.bt func518 ?_;refine az.mk ((show ak prog 347 _ _ (.d (I (nH n g k d))) from qy _ c n g _ _ (inB k d) hn (fun i hi=>sT σ _ (g i) k d))) (sm ?_);refine cE.mk (il _ c n g hn) (gc [0,6,8] ?_ ?_)<;>intro d0
 ·refine wA ?_;have hz:bT n g k d=(Rule.zero,false):=by grind [bT]
  rw[hz];simp[go_sem,Rule.zero]
 ·refine wB ?_;refine af ?_;have hz:bT n g k d=(g (nH n g k d).toNat,true):=by grind [bT]
  rw[hz];simp[go_sem]
def du(n:Nat)(g:Nat->Rule)(k:Int)(m:dV)(d:Int):Ground×Bool:=
 if(bT n g k d).2=false\/cy m≠0\/kC (bT n g k d).1 m+1<=d then(Ground.zero,false) else(⟨1,(bT n g k d).1.ID,0,kC (bT n g k d).1 m+1⟩,true)
theorem yh(c n g k m d)(hn:n<1000000000):ak prog 499 [.d (SL c 6 Rule.enc n g),.d (I k),.agg (m.enc.map .d),.d (I d)] σ (.cj [.agg ((du n g k m d).1.enc.map .d),.d (B (du n g k m d).2)]):=by
 refine ak.bt func499 ?_;refine az.mk (vL _ c n g k d hn) (sm ?_);refine cE.mk (cZ _ m) (sm ?_);refine cE.mk (pN _ (bT n g k d).1 m) (gc [6,8,10] ?_ ?_)<;>intro d0
 ·have hz:du n g k m d=(Ground.zero,false):=by grind [du]
  refine wA ?_;rw[hz];simp[go_sem,Ground.zero]
 ·have hz:du n g k m d=(⟨1,(bT n g k d).1.ID,0,kC (bT n g k d).1 m+1⟩,true):=by grind [du]
  simp[go_sem];refine T.dr 6 fun K hK=>sm ?_;refine bK.mk (pN _ (bT n g k d).1 m) (sm ?_);refine hK _ ?_;refine go true (sm ?_);exact sy hz
theorem zK(τ)(r:Rule)(k):ak prog 364 [.agg (r.enc.map .d),.ptr σ.length 0] (σ++ .var [.d (I k)]::τ) (.d (B (r.ID==k))):=by
 refine ak.bt func364 ?_;exact af so
theorem aa9(c n g)(hn:n<1000000000):ak prog 107 [.d (SL c 6 Rule.enc n g)] σ (.d (SL none 6 Rule.enc n g)):=by
 refine ak.bd true func107 fun hwf=> ?_;simp[go_sem,-Bool.forall_bool];try intro b1 hb1
 refine fX ?_ ?_<;>intro c0 d0
 ·refine wA ?_;have:=hb1 c0;simp[go_sem,this]
 ·refine wB ?_;refine bg (σ.length) bj aN eS ?_;exact af so
theorem G6(c n g)(hn:n<1000000000):CS prog 107 [.d (SL c 6 Rule.enc n g)] σ (fun r σ' X=>r= .ms σ.length 6 0 n/\σ'=σ++[.arr 6 n fun i=>Rule.enc (g i)]/\X=[]):=by
 refine CS.Ik true func107 fun hwf=> ?_;simp[go_sem,-Bool.forall_bool];try intro b1 hb1
 refine fX ?_ ?_<;>intro c0 d0
 ·simp[go_sem];refine bq 2 6 (fun i=>Rule.enc (g i)) au aN ?_;refine af ?_;obtain rfl:=hb1 c0;simp[go_sem]
 ·refine wB ?_;exact af so
def kj(n:Nat)(g:Nat->Rule)(id d:Int):(Nat×(Nat->Rule))×Int:=
 if check n g≠0 then((0,g),1) else if idxFrom (fun r=>r.ID==id) (lst n g) 0<0 then((0,g),7)
 else if d<=(g (idxFrom (fun r=>r.ID==id) (lst n g) 0).toNat).In.From\/(g (idxFrom (fun r=>r.ID==id) (lst n g) 0).toNat).In.Until<d then((0,g),2)
 else((n,fun q=>if q=(idxFrom (fun r=>r.ID==id) (lst n g) 0).toNat then { g q with In:=⟨(g q).In.From,d⟩ } else g q),0)
theorem iR{α}(p n)(g:Nat->α):idxFrom p (lst n g) 0<n:=by
 grind [fT,cd]
theorem FG(c n g id d)(hn:n<1000000000):ak prog 295 [.d (SL c 6 Rule.enc n g),.d (I id),.d (I d)] σ (.cj [.d (SL none 6 Rule.enc (kj n g id d).1.1 (kj n g id d).1.2),.d (I (kj n g id d).2)]):=by
 have hlt:=iR (fun r:Rule=>r.ID==id) n g;refine ak.bs true func295 fun hwf=> ?_;refine az.mk (il _ c n g hn) (gc [0,2,4] ?_ ?_)<;>intro d0
 ·have hz:kj n g id d=((0,g),1):=zZ;exact sx hz
 ·simp[go_sem];refine az.mk (qy _ c n g _ _ (fun r=>r.ID==id) hn (fun i hi=>zK σ _ (g i) id)) (gc [0,2,8] ?_ ?_)<;>intro d1
  ·have hz:kj n g id d=((0,g),7):=zZ;exact sx hz
  ·refine wB ?_;refine dH [0,2,8] ?_ ?_<;>intro d2
   ·have hz:kj n g id d=((0,g),2):=zZ;exact sx hz
   ·have hz:kj n g id d=((n,fun q=>if q=(idxFrom (fun r=>r.ID==id) (lst n g) 0).toNat then { g q with In:=⟨(g q).In.From,d⟩ } else g q),0):=zZ;simp[go_sem];refine az.gen (G6 _ c n g hn) ?_;rintro r σ' X ⟨rfl,rfl,rfl⟩;refine wB ?_;refine aF hwf (σ.length+1) ?_;refine af ?_;rw[hz];simp[go_sem];grind
theorem Ic{g} : ∀{k i},vN g i k=0->∀q,i<=q->q<i+k->formed (g q)=true/\(0<q->(g (q-1)).ID<(g q).ID)/\(lst q g).any (clash (g q))=false
 |0,i,h,q,h1,h2=>by omega
 |k+1,i,h,q,h1,h2=>by
  rw[vN] at h;split at h
  ·omega
  ·rename_i hf;split at h
   ·omega
   ·rename_i ho;split at h
    ·omega
    ·rename_i hc;by_cases e:q=i
     ·grind
     ·exact Ic h q aa aa
theorem QG{n g}(h:check n g=0):n<=64/\∀q,q<n->formed (g q)=true/\(0<q->(g (q-1)).ID<(g q).ID)/\(lst q g).any (clash (g q))=false:=by
 unfold check at h;split at h
 ·omega
 ·exact⟨aa,fun q hq=>Ic h q aa aa⟩
theorem Fc{n g k d}(h:(bT n g k d).2=true):formed (bT n g k d).1=true:=by
 unfold bT at h⊢;split at h
 ·grind
 ·rename_i hc;rw[if_neg hc];have hlt:=A4 n g k d;have h0:check n g=0:=aa;exact((QG h0).2 _ aa).1
theorem Jv(c n g):ak prog 55 [.d (SL c 6 Rule.enc n g)] σ (.d (B (decide ((n:Int)<=20)))):=by
 refine ak.bt func55 ?_;exact af so
def ab6(a b:Span):Bool:=decide (a.From<b.Until)&&decide (b.From<a.Until)
theorem Rule.NZ{a b:Rule} :a=b↔(((((a.ID=b.ID/\a.Class=b.Class)/\a.dE=b.dE)/\a.C7=b.C7)/\a.In.From=b.In.From)/\a.In.Until=b.In.Until):=by
 obtain⟨a1,a2,a3,a4,⟨a5,a6⟩⟩:=a;obtain⟨b1,b2,b3,b4,⟨b5,b6⟩⟩:=b;grind
theorem Span.NZ{a b:Span} :a=b↔a.From=b.From/\a.Until=b.Until:=by
 obtain⟨a5,a6⟩:=a;obtain⟨b5,b6⟩:=b;simp
theorem qw{α n}{f g:Nat->α} :lst n f=lst n g↔∀i,i<n->f i=g i:=by
 simp_all [lst]
theorem GI(c n g c' n' g')(dd:Decidable (lst n g=lst n' g'))(hn:n<1000000000):ak prog 102 [.d (SL c 6 Rule.enc n g),.d (SL c' 6 Rule.enc n' g')] σ (.d (B (decide (lst n g=lst n' g')))):=by
 refine ak.bt func102 ?_;refine dH [0,1] ?_ ?_<;>intro d0
 ·have hz: ¬lst n g=lst n' g':=fun h=>d0 (by grind [cd]);refine wA ?_;simp[go_sem,hz]
 ·obtain rfl:n=n':=by omega
  simp[go_sem];refine dm (α:=Nat) true [0,1,12,13] (fun i=>[(13,.d (I i))]) (fun i=>_) (fun i=>i<=n/\∀q,q<i->g q=g' q) (fun i=>n-i) 0 ?_;rintro i ⟨hi,hx⟩;refine gc [0,1,12,13] ?_ ?_<;>intro d1
  ·simp[go_sem];refine T.dr 9 fun K hK=>sm ?_;refine wG hK ?_;refine go true (gc [0,1,12,13] ?_ ?_)<;>intro d2
   ·have hne:g i≠g' i:=ai;have hz: ¬lst n g=lst n g':=fun h=>hne (qw.1 h i d1);refine wA ?_;simp[go_sem,hz]
   ·have he:g i=g' i:=by grind [Rule.NZ]
    refine wC ?_;refine bF (i+1) ⟨aa,fun q hq=>ai⟩ (h:=aR)
  ·have hz:lst n g=lst n g':=qw.2 fun q hq=>hx q aa;refine wN ?_;simp[go_sem,hz]
end Go.Proofs.YthpplckmbbachaaGreatDoor
namespace Go.Proofs.YthpplckmbbachaaGreatDoor
open Go.aI Go.bI
instance:Inhabited Span:=⟨⟨0,0⟩⟩
open Go.Proofs.Tryz
variable (σ : List aZ)
theorem iE{α}(n)(f:Nat->α):lst (n+1) f=lst n f++[f n]:=by simp[lst,List.range_succ]
theorem JN{α:Type}[Inhabited α]{n:Nat}{g:Nat->α}{i:Nat}(h:i<n):nth (lst n g) i=g i:=by simp[nth,qv h]
end Go.Proofs.YthpplckmbbachaaGreatDoor
