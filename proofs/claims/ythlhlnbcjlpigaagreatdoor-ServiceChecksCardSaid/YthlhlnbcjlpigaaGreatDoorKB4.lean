/- Contracts and lemmas, joined out of smaller texts by a program; no conditions. -/
import Derived.Test.YthlhlnbcjlpigaaGreatDoorKB2
import Derived.Test.YthlhlnbcjlpigaaGreatDoorKB3
set_option linter.unusedVariables false
set_option linter.unusedSimpArgs false
set_option maxHeartbeats 400000
set_option maxRecDepth 100000
namespace Go.Proofs.YthlhlnbcjlpigaaGreatDoor
open Go.aU Go.bY Go.Proofs.Tryz
variable (σ : List aC)
theorem lenF_out{y m:Int}(h:((y<1600\/4470<y)\/m<1)\/12<m):Gf y m=0:=by unfold Gf;rw[if_pos (by omega)]
theorem F9{y m:Int}(h:((1600<=y/\y<=4470)/\1<=m)/\m<=12):Gf y m=qy y m:=by unfold Gf;rw[if_neg (by omega)]
theorem lenM_arr{y m:Int}(h1:1<=m)(h2:m<=12)(h:m=2->yD y=false):loaded false (((([31,28,31,30,31,30,31,31,30,31,30,31]:List Int).map fun n=>AV.d (I n)).drop ((m-1).toNat*1)).take 1)= .d (I (qy y m)):=by
 have hc:m=1\/m=2\/m=3\/m=4\/m=5\/m=6\/m=7\/m=8\/m=9\/m=10\/m=11\/m=12:=by omega
 rcases hc with rfl|rfl|rfl|rfl|rfl|rfl|rfl|rfl|rfl|rfl|rfl|rfl<;>first|rfl|(simp[h,qy];rfl)
theorem lenM_feb{y:Int}(h:yD y=true):qy y 2=29:=by simp[qy,h]
theorem YO(y:Int)(hy:0<=y):ay prog 478 [.d (I y)] σ (.d (B (yD y))):=by
 refine ay.bd true func478 fun hwf=> ?_;simp(disch:=first|omega|simp) [go_sem,sU];refine aj ?_;simp[go_sem,yD]<;>omega
def fM(d:Int):Prop:=0<=d/\d<=1048575
instance(d:Int):Decidable (fM d):=inferInstanceAs (Decidable (_/\_))
theorem isDay_dec(d:Int):decide (fM d)=(decide (0<=d)&&decide (d<=1048575)):=by
 unfold fM;exact Bool.decide_and ..
theorem day_is_cs(d:Int):ay prog 477 [.d (I d)] σ (.d (B (decide (fM d)))):=by
 refine ay.bs true func477 fun hwf=> ?_;refine aj ?_;simp[go_sem,isDay_dec]<;>omega
theorem qE(y:Int)(h1:1600<=y)(h2:y<=4700):ay prog 471 [.d (I y)] σ (.d (I (pY y))):=by
 refine ay.bd true func471 fun hwf=> ?_;simp(disch:=first|omega|simp) [go_sem,Rj,aA];refine aj ?_;simp[go_sem,pY]<;>omega
theorem O9:ay prog 479 [] σ (.agg ([31,28,31,30,31,30,31,31,30,31,30,31].map fun n=> .d (I n))):=by
 refine ay.bs true func479 fun hwf=> ?_;exact aj so
theorem kZ(y m:Int):ay prog 470 [.d (I y),.d (I m)] σ (.d (I (Gf y m))):=by
 refine ay.bs true func470 fun hwf=> ?_;refine aH [0,1] ?_ ?_<;>intro c0 d0
 ·simp[go_sem];rw[lenF_out d0];exact aj sc
 ·simp[go_sem];refine fA.mk (YO _ y (by omega)) (sm ?_);refine aH [1] ?_ ?_<;>intro c1 d1
  ·obtain⟨rfl,d1⟩:=d1;simp[go_sem];rw[F9 (by omega),lenM_feb d1];exact aj sc
  ·simp(disch:=first|omega|simp) [go_sem];refine aW.mk (O9 _) ?_;simp(disch:=first|omega|simp) [go_sem,aA];have hL:=lenM_arr (y:=y) (m:=m) (by omega) (by omega) d1;simp[go_sem] at hL;simp[go_sem,hL];repeat refine⟨by omega,?_⟩
   rw[F9 (by omega)];exact aj sc
def ofF(y m k:Int):Int×Int:=if k<1\/Gf y m<k then(0,2) else if 1048575<ofD y m k then(0,2) else(ofD y m k,0)
theorem lenF_ne{y m k:Int}(h1:1<=k)(h2:k<=Gf y m):(1600<=y/\y<=4470)/\1<=m/\m<=12/\Gf y m=qy y m:=by
 unfold Gf at h2⊢;split at h2
 ·omega
 ·rename_i h;rw[if_neg h];exact⟨by omega,by omega,by omega,rfl⟩
theorem PX{y:Int}(h1:1600<=y)(h2:y<=4700):0<=pY y/\pY y<=2000000:=by unfold pY;omega
theorem cum_bd(y:Int){m:Int}(h1:1<=m)(h2:m<=13):0<=DX y m/\DX y m<=400:=by
 have h3:=GK (y:=y) h1;have h4:=GK (y:=y) h2;rw[GI] at h3;rw[cum_end] at h4;split at h4<;>omega
theorem UM{y m k:Int}(h:1<=k/\k<=Gf y m):ofF y m k=if 1048575<ofD y m k then(0,2) else(ofD y m k,0):=by unfold ofF;rw[if_neg (by omega)]
theorem day_Of_cs(y m k:Int):ay prog 469 [.d (I y),.d (I m),.d (I k)] σ (.eX [.d (I (ofF y m k).1),.d (I (ofF y m k).2)]):=by
 refine ay.bd true func469 fun hwf=> ?_;simp[go_sem];refine aW.mk (kZ _ _ _) ?_;simp[go_sem];refine aH [0,1,2] ?_ ?_<;>intro c0 d0
 ·simp[go_sem];refine aj ?_;have hz:ofF y m k=(0,2):=by unfold ofF;rw[if_pos (by omega)]
  rw[hz];simp[go_sem]
 ·obtain⟨hy,hm1,hm2,hl⟩:=lenF_ne d0.1 d0.2;have hb:=PX hy.1 (by omega);have hlm:=UU y m;simp(disch:=first|omega|simp) [go_sem];refine aW.mk (qE _ y (by omega) (by omega)) ?_;simp(disch:=first|omega|simp) [go_sem,aA];refine zJ (α:=Nat) true [0,1,9,10] (fun q=>[(9,.d (I (pY y+k-1+DX y (q+1)))),(10,.d (I ((q+1:Nat):Int)))]) (fun q=>_) (fun q=>(q:Int)+1<=m) (fun q=>12-q) 0 (by simp[go_sem,GI]) (rfl) (by omega) ?_;rintro q hq;have hcb:=cum_bd y (m:=q+1) (by omega) (by omega);simp[go_sem];refine aH [0,1,9,10] ?_ ?_<;>intro c1 d1
  ·have hlq:Gf y (q+1)=qy y (q+1):=F9 (by omega);have hcs:=Pj (y:=y) (m:=(q:Int)+1) (by omega) (by omega);have hlb:=UU y (q+1);have hlp:=F8 y (q+1);simp(disch:=first|omega|simp) [go_sem];refine aW.mk (kZ _ _ _) ?_;simp(disch:=first|omega|simp) [go_sem,aA];refine dB (q+1) (by omega) (h:=by simp[go_sem]<;>omega)
  ·obtain rfl:m=q+1:=by omega
   have ho:ofD y (q+1) k=pY y+k-1+DX y (q+1):=by unfold ofD;omega
   simp[go_sem];refine go true ?_;simp[go_sem];refine aH [9] ?_ ?_<;>intro c2 d2
   ·simp[go_sem];rw[UM d0,ho,if_pos (by omega)];exact aj sc
   ·simp[go_sem];rw[UM d0,ho,if_neg (by omega)];exact aj sc
def vX(d:Int):Int×Int×Int×Int:=if fM d then(bn d,lN d,Dk d,0) else(0,0,0,2)
theorem guess_le{d:Int}(h:fM d):1600<=1600+400*(d/146097)+d%146097/366/\pY (1600+400*(d/146097)+d%146097/366)<=d:=by
 obtain⟨h1,h2⟩:=h;have hc:d%146097/366=0\/d%146097/366=1\/d%146097/366=2\/3<=d%146097/366:=by omega
 unfold pY;rcases hc with h|h|h|h<;>omega
theorem LX{d y:Int}(h:fM d)(hb:pY y<=d):y<=4470:=by
 apply Classical.byContradiction;intro hn;have:=rY (a:=4471) (b:=y) (by omega);rw[Zg] at this;unfold fM at h;omega
theorem JV(d:Int):ay prog 468 [.d (I d)] σ (.eX [.d (I (vX d).1),.d (I (vX d).2.1),.d (I (vX d).2.2.1),.d (I (vX d).2.2.2)]):=by
 refine ay.bd true func468 fun hwf=> ?_;simp[go_sem];refine aW.mk (day_is_cs _ _) ?_;simp[go_sem];refine aH [0] ?_ ?_<;>intro c0 d0
 ·simp[go_sem];refine aj ?_;have hz:vX d=(0,0,0,2):=by unfold vX;rw[if_neg d0]
  rw[hz];simp[go_sem]
 ·have hd:fM d:=d0;have hgu:=guess_le hd;have hgt:=LX hd hgu.2;simp(disch:=first|omega|simp) [go_sem,Rj,sU,aA];refine zJ (α:=Int) true [0,2] (fun y=>[(2,.d (I y))]) (fun y=>_) (fun y=>1600<=y/\pY y<=d) (fun y=>(4471-y).toNat) (1600+400*(d/146097)+d%146097/366) (by simp[go_sem]) (rfl) (hgu) ?_;rintro y ⟨hy1,hy2⟩;have hy3:=LX hd hy2;simp(disch:=first|omega|simp) [go_sem,aA];refine aW.mk (qE _ (y+1) (by omega) (by omega)) ?_;simp(disch:=first|omega|simp) [go_sem];refine aH [0,2] ?_ ?_<;>intro c1 d1
  ·have hy4:=LX hd d1;simp(disch:=first|omega|simp) [go_sem,aA];refine dB (y+1) ⟨by omega,d1⟩ (h:=by simp[go_sem]<;>omega)
  ·obtain rfl:bn d=y:=yearOf_eq hd.1 hd.2 hy2 (by omega);have hbb:=PX hy1 (by omega);have hdi:=hd;unfold fM at hdi;simp[go_sem];refine go true ?_;simp(disch:=first|omega|simp) [go_sem];refine aW.mk (qE _ (bn d) (by omega) (by omega)) ?_;simp(disch:=first|omega|simp) [go_sem,aA];refine zJ (α:=Int) true [0,2,3] (fun m=>[(0,.d (I (d-pY (bn d)-DX (bn d) m))),(3,.d (I m))]) (fun m=>_) (fun m=>1<=m/\m<=12/\DX (bn d) m<=d-pY (bn d)) (fun m=>(12-m).toNat) 1 (by simp[go_sem,GI]) (rfl) (⟨by omega,by omega,by rw[GI];omega⟩) ?_;rintro m ⟨hm1,hm2,hm3⟩;have hlf:Gf (bn d) m=qy (bn d) m:=F9 (by omega);have hcs:=Pj (y:=bn d) hm1 hm2;have hlb:=UU (bn d) m;have hlp:=F8 (bn d) m;have hcb:=cum_bd (bn d) hm1 (by omega);simp[go_sem];refine aW.mk (kZ _ _ _) ?_;simp[go_sem];refine aH [0,2,3] ?_ ?_<;>intro c2 d2
   ·have hm4:m≠12:=by
     rintro rfl;have:=(lX hd.1 hd.2).2;rw[VX] at this;simp only[Int.reduceAdd] at hcs;omega
    simp(disch:=first|omega|simp) [go_sem];refine aW.mk (kZ _ _ _) ?_;simp(disch:=first|omega|simp) [go_sem,aA];refine dB (m+1) ⟨by omega,by omega,by omega⟩ (h:=by simp[go_sem]<;>omega)
   ·obtain rfl:lN d=m:=by
     unfold lN;have:=(lX hd.1 hd.2).2;rw[VX] at this;have hs:=Ox (y:=bn d) (r:=d-pY (bn d)) (by omega) (by omega);exact UQ hs.2.2.1 hs.2.2.2 hm3 (by omega)
    simp[go_sem];refine go true ?_;simp(disch:=first|omega|simp) [go_sem,aA];refine aj ?_;have hz:vX d=(bn d,lN d,Dk d,0):=by unfold vX;rw[if_pos hd]
    rw[hz];simp[go_sem,Dk]
def iQ(d n:Int):Int×Int:=if fM d/\0<=n/\n<=200 then(wE d n,0) else(0,2)
theorem YP{d:Int}(h: ¬fM d):vX d=(0,0,0,2):=by unfold vX;rw[if_neg h]
theorem Gz{d:Int}(h:fM d):vX d=(bn d,lN d,Dk d,0):=by unfold vX;rw[if_pos h]
theorem Ph{d:Int} :(vX d).2.2.2=0↔fM d:=by
 by_cases h:fM d
 ·simp[Gz h,h]
 ·simp[YP h,h]
theorem years_of{d n:Int}(h:fM d)(h0:0<=n)(hn:bn d+n<=4470):ofF (bn d+n) (lN d) (min (Dk d) (Gf (bn d+n) (lN d)))=if 1048575<ofD (bn d+n) (lN d) (min (Dk d) (qy (bn d+n) (lN d))) then(0,2) else(ofD (bn d+n) (lN d) (min (Dk d) (qy (bn d+n) (lN d))),0):=by
 have hs:=SY h.1 h.2;have hr:=mF h.1 h.2;have hl:Gf (bn d+n) (lN d)=qy (bn d+n) (lN d):=F9 (by omega);have hp:=F8 (bn d+n) (lN d);rw[hl,UM (by rw[hl];omega)]
theorem Gy(d n:Int):ay prog 463 [.d (I d),.d (I n)] σ (.eX [.d (I (iQ d n).1),.d (I (iQ d n).2)]):=by
 refine ay.bs true func463 fun hwf=> ?_;refine aW.mk (JV _ _) (sm ?_);refine aH [1,6,7,8] ?_ ?_<;>intro c0 d0
 ·have hz:iQ d n=(0,2):=by
   unfold iQ;rw[if_neg];rintro⟨h1,h2,h3⟩;rw[Gz h1] at d0;simp at d0;omega
  simp[go_sem];rw[hz];exact aj sc
 ·have hd:fM d:=Ph.1 d0.1.1;have hr:=mF hd.1 hd.2;have hz:iQ d n=(wE d n,0):=by unfold iQ;rw[if_pos ⟨hd,by omega,by omega⟩]
  simp only[Gz hd] at c0 d0⊢;simp(disch:=first|omega|simp) [go_sem,aA];refine aH [6,7,8] ?_ ?_<;>intro c1 d1
  ·have hz2:wE d n=1048575:=by unfold wE;rw[if_pos (by omega)]
   simp[go_sem];rw[hz,hz2];exact aj sc
  ·have ho:=years_of hd (n:=n) (by omega) (by omega);have hz2:wE d n=if 1048575<ofD (bn d+n) (lN d) (min (Dk d) (qy (bn d+n) (lN d))) then 1048575 else ofD (bn d+n) (lN d) (min (Dk d) (qy (bn d+n) (lN d))):=by unfold wE;rw[if_neg (by omega)]
   generalize ofD (bn d+n) (lN d) (min (Dk d) (qy (bn d+n) (lN d)))=g at ho hz2
   simp[go_sem];refine aW.mk (kZ _ _ _) (sm ?_);refine aW.mk (day_Of_cs _ _ _ _) (sm ?_);simp only[ho];refine aH [10] ?_ ?_<;>intro c2 d2
   ·have hz3:wE d n=1048575:=by rw[hz2];split at d2<;>simp_all
    simp[go_sem];rw[hz,hz3];exact aj sc
   ·simp[go_sem];refine aj ?_;by_cases h3:1048575<g
    ·simp[h3] at d2
    ·rw[hz,hz2];simp[go_sem,h3]
def kT(d:Int):Int×Int:=if fM d then(yQ d,0) else(0,2)
theorem Pg(d:Int):ay prog 464 [.d (I d)] σ (.eX [.d (I (kT d).1),.d (I (kT d).2)]):=by
 refine ay.bs true func464 fun hwf=> ?_;refine aW.mk (JV _ _) (sm ?_);refine aH [4,7] ?_ ?_<;>intro c0 d0
 ·have hn: ¬fM d:=fun h=>d0 (Ph.2 h);have hz:kT d=(0,2):=by unfold kT;rw[if_neg hn]
  simp[go_sem];refine aj ?_;rw[hz];simp[go_sem,YP hn]
 ·have hd:fM d:=Ph.1 d0;have hr:=mF hd.1 hd.2;have hb:=PX (y:=bn d+1) (by omega) (by omega);have hz:kT d=(yQ d,0):=by unfold kT;rw[if_pos hd]
  simp only[Gz hd] at c0 d0⊢;simp(disch:=first|omega|simp) [go_sem,aA];refine aW.mk (qE _ _ (by first|assumption|exact aO (by assumption)|omega|simp_all) (by first|assumption|exact aO (by assumption)|omega|simp_all)) ?_;simp(disch:=first|omega|simp) [go_sem,aA];refine aj ?_;rw[hz];simp[go_sem,yQ]
end Go.Proofs.YthlhlnbcjlpigaaGreatDoor
namespace Go.Proofs.YthlhlnbcjlpigaaGreatDoor
open Go.aU Go.bY
open Go.Proofs.Tryz
variable (σ : List aC)
structure fU where
 First:Int
 Last:Int
def fU.enc(m:fU):List D:=[I m.First,I m.Last]
structure Ground where
 Kind:Int
 Source:Int
 Unit:Int
 Until:Int
def Ground.enc(m:Ground):List D:=[I m.Kind,I m.Source,I m.Unit,I m.Until]
def Ground.zero:Ground:=⟨0,0,0,0⟩
def Rule.zero:Rule:=⟨0,0,0,false,⟨0,0⟩⟩
attribute [go_sem] fU.enc Ground.enc
def YQ(m:fU):Bool:=decide (0<=m.First)&&decide (m.First<=m.Last)&&decide (m.Last<=1048575)
def oI(m:fU):Int:=if YQ m=true then 0 else 1
theorem datChk_no{m:fU}(h:(m.First<0\/m.Last<m.First)\/1048575<m.Last):oI m=1:=by
 unfold oI YQ;rw[if_neg];simp;omega
theorem datChk_ok{m:fU}(h:(0<=m.First/\m.First<=m.Last)/\m.Last<=1048575):oI m=0:=by
 unfold oI YQ;rw[if_pos];simpa using h
theorem ofD_nn{y m k:Int}(h1:1600<=y)(h2:y<=4700)(h3:1<=m)(h4:m<=12)(h5:1<=k):0<=ofD y m k:=by
 have:=PX h1 h2;have:=cum_bd y h3 (by omega);unfold ofD;omega
theorem yearsF_bd{d n:Int}(h:fM d)(h0:0<=n):fM (wE d n):=by
 have hs:=SY h.1 h.2;have hr:=mF h.1 h.2;unfold wE fM;dsimp only;split
 ·omega
 ·have hp:=F8 (bn d+n) (lN d);have:=ofD_nn (y:=bn d+n) (m:=lN d) (k:=min (Dk d) (qy (bn d+n) (lN d))) (by omega) (by omega) hs.1 hs.2.1 (by omega);split<;>omega
theorem BF(d n:Int):fM (iQ d n).1:=by
 unfold iQ;split
 ·rename_i h;exact yearsF_bd h.1 h.2.1
 ·unfold fM;simp
theorem Ws{d:Int}(h:fM d):fM (yQ d):=by
 have hr:=mF h.1 h.2;have hb:=PX (y:=bn d) (by omega) (by omega);have hs:=beg_strict (a:=bn d) (b:=bn d+1) (by omega);unfold yQ fM;omega
theorem Wq(d:Int):fM (kT d).1:=by
 unfold kT;split
 ·rename_i h;exact Ws h
 ·unfold fM;simp
def DT(r:Rule)(m:fU):Int:=if r.LW=true then(kT (iQ m.Last r.jg).1).1 else(iQ m.Last r.jg).1
theorem XY(r:Rule)(m:fU):fM (DT r m):=by
 unfold DT;split
 ·exact Wq _
 ·exact BF _ _
theorem jH(m:fU):ay prog 220 [.agg (m.enc.map .d)] σ (.d (I (oI m))):=by
 refine ay.bs true func220 fun hwf=> ?_;refine aH [] ?_ ?_<;>intro c0 d0
 ·simp[go_sem];rw[datChk_no d0];exact aj sc
 ·simp[go_sem];rw[datChk_ok d0];exact aj sc
theorem vZ(r:Rule)(m:fU):ay prog 454 [.agg (r.enc.map .d),.agg (m.enc.map .d)] σ (.d (I (DT r m+1))):=by
 refine ay.bs true func454 fun hwf=> ?_;refine aW.mk (Gy _ m.Last r.jg) (sm ?_);refine aH [5] ?_ ?_<;>intro c0 d0
 ·have hl:DT r m=(kT (iQ m.Last r.jg).1).1:=by unfold DT;rw[if_pos c0]
  have hb:=XY r m;rw[hl] at hb⊢;unfold fM at hb;simp(disch:=first|omega|simp) [go_sem];refine aW.mk (Pg _ (iQ m.Last r.jg).1) ?_;simp(disch:=first|omega|simp) [go_sem,aA];exact aj so
 ·have hl:DT r m=(iQ m.Last r.jg).1:=by unfold DT;rw[if_neg (by simp[c0])]
  have hb:=XY r m;rw[hl] at hb⊢;unfold fM at hb;simp(disch:=first|omega|simp) [go_sem,aA];exact aj so
def inB(k d:Int)(r:Rule):Bool:=(r.Class==k)&&decide (r.In.From<=d)&&decide (d<r.In.Until)
theorem AB(τ:List aC)(r:Rule)(k d:Int):ay prog 462 [.agg (r.enc.map .d),.ptr σ.length 0,.ptr (σ.length+1) 0] (σ++ .var [.d (I k)]:: .var [.d (I d)]::τ) (.d (B (inB k d r))):=by
 refine ay.bs true func462 fun hwf=> ?_;refine aj ?_;simp[go_sem,inB]<;>omega
def rH(n:Nat)(g:Nat->Rule)(k d:Int):Int:=idxFrom (inB k d) (lst n g) 0
theorem Yc(n:Nat)(g:Nat->Rule)(k d:Int):rH n g k d<n:=by
 rcases o7 (inB k d) (lst n g) 0 with⟨h,_⟩|⟨q,h1,h2,_⟩
 ·unfold rH;omega
 ·unfold rH;rw[bP] at h1;omega
def iK(n:Nat)(g:Nat->Rule)(k d:Int):Rule×Bool:=if rH n g k d<0\/check n g≠0 then(Rule.zero,false) else(g (rH n g k d).toNat,true)
theorem EI(c:Option Nat)(n:Nat)(g:Nat->Rule)(k d:Int)(hn:n<1000000000):ay prog 453 [.d (SL c 6 Rule.enc n g),.d (I k),.d (I d)] σ (.eX [.agg ((iK n g k d).1.enc.map .d),.d (B (iK n g k d).2)]):=by
 have hlt:=Yc n g k d;refine ay.bs true func453 fun hwf=> ?_;refine aW.mk ((show ay prog 299 _ _ (.d (I (rH n g k d))) from Gj _ c n g _ _ (inB k d) hn (fun i hi=>AB σ _ (g i) k d))) (sm ?_);refine fA.mk (wo _ c n g hn) (sm ?_);refine aH [0,6,8] ?_ ?_<;>intro c0 d0
 ·simp[go_sem];refine aj ?_;have hz:iK n g k d=(Rule.zero,false):=by unfold iK;rw[if_pos d0]
  rw[hz];simp[go_sem,Rule.zero]
 ·simp[go_sem];repeat refine⟨by omega,?_⟩
  refine aj ?_;have hz:iK n g k d=(g (rH n g k d).toNat,true):=by unfold iK;rw[if_neg (by omega)]
  rw[hz];simp[go_sem]
def ni(n:Nat)(g:Nat->Rule)(k:Int)(m:fU)(d:Int):Ground×Bool:=
 if(iK n g k d).2=false\/oI m≠0\/DT (iK n g k d).1 m+1<=d then(Ground.zero,false) else(⟨1,(iK n g k d).1.ID,0,DT (iK n g k d).1 m+1⟩,true)
theorem GR(c:Option Nat)(n:Nat)(g:Nat->Rule)(k:Int)(m:fU)(d:Int)(hn:n<1000000000):ay prog 436 [.d (SL c 6 Rule.enc n g),.d (I k),.agg (m.enc.map .d),.d (I d)] σ (.eX [.agg ((ni n g k m d).1.enc.map .d),.d (B (ni n g k m d).2)]):=by
 refine ay.bs true func436 fun hwf=> ?_;refine aW.mk (EI _ c n g k d hn) (sm ?_);refine fA.mk (jH _ m) (sm ?_);refine fA.mk (vZ _ (iK n g k d).1 m) (sm ?_);refine aH [6,8,10] ?_ ?_<;>intro c0 d0
 ·have hz:ni n g k m d=(Ground.zero,false):=by unfold ni;rw[if_pos (by rcases d0 with(h|h)|h<;>simp[h])]
  simp[go_sem];refine aj ?_;rw[hz];simp[go_sem,Ground.zero]
 ·have hz:ni n g k m d=(⟨1,(iK n g k d).1.ID,0,DT (iK n g k d).1 m+1⟩,true):=by unfold ni;rw[if_neg (by simp[d0])]
  simp[go_sem];refine T.dr 6 fun K hK=>sm ?_;refine dS.mk (vZ _ (iK n g k d).1 m) (sm ?_);refine hK _ ?_;refine go true (sm ?_);rw[hz];exact aj sc
theorem qB{α:Type}(p:α->Bool)(n:Nat)(g:Nat->α):idxFrom p (lst n g) 0<n:=by
 rcases o7 p (lst n g) 0 with⟨h,_⟩|⟨q,h1,h2,_⟩
 ·omega
 ·rw[bP] at h1;omega
theorem Ux(c:Option Nat)(n:Nat)(g:Nat->Rule):ay prog 57 [.d (SL c 6 Rule.enc n g)] σ (.d (B (decide ((n:Int)<=20)))):=by
 refine ay.bs true func57 fun hwf=> ?_;exact aj so
def meetB(a b:Span):Bool:=decide (a.From<b.Until)&&decide (b.From<a.Until)
theorem Rule.Yt{a b:Rule} :a=b↔(((((a.ID=b.ID/\a.Class=b.Class)/\a.jg=b.jg)/\a.LW=b.LW)/\a.In.From=b.In.From)/\a.In.Until=b.In.Until):=by
 obtain⟨a1,a2,a3,a4,⟨a5,a6⟩⟩:=a;obtain⟨b1,b2,b3,b4,⟨b5,b6⟩⟩:=b;simp[and_assoc]
theorem Span.Yt{a b:Span} :a=b↔a.From=b.From/\a.Until=b.Until:=by
 obtain⟨a5,a6⟩:=a;obtain⟨b5,b6⟩:=b;simp
theorem lst_ext{α:Type}{n:Nat}{f g:Nat->α} :lst n f=lst n g↔∀i,i<n->f i=g i:=by
 constructor
 ·intro h i hi;have:=congrArg (fun l=>l[i]?) h;simpa[xg hi] using this
 ·intro h;unfold lst;exact List.map_congr_left fun i hi=>h i (by simpa using hi)
theorem QD(c:Option Nat)(n:Nat)(g:Nat->Rule)(c':Option Nat)(n':Nat)(g':Nat->Rule)(dd:Decidable (lst n g=lst n' g'))(hn:n<1000000000):ay prog 88 [.d (SL c 6 Rule.enc n g),.d (SL c' 6 Rule.enc n' g')] σ (.d (B (decide (lst n g=lst n' g')))):=by
 refine ay.bs true func88 fun hwf=> ?_;refine aH [0,1] ?_ ?_<;>intro c0 d0
 ·have hz: ¬lst n g=lst n' g':=fun h=>d0 (by have:=congrArg List.length h;simp only[bP] at this;omega);simp[go_sem];refine aj ?_;simp[go_sem,hz]
 ·obtain rfl:n=n':=by omega
  simp[go_sem];refine gy (α:=Nat) true [0,1,12,13] (fun i=>[(13,.d (I i))]) (fun i=>_) (fun i=>i<=n/\∀q,q<i->g q=g' q) (fun i=>n-i) 0 ?_;rintro i ⟨hi,hx⟩;simp[go_sem];refine aH [0,1,12,13] ?_ ?_<;>intro c1 d1
  ·simp[go_sem];refine T.dr 9 fun K hK=>sm ?_;repeat refine⟨by omega,?_⟩
   refine hK _ ?_;refine go true (sm ?_);refine aH [0,1,12,13] ?_ ?_<;>intro c2 d2
   ·have hne:g i≠g' i:=by intro h;rw[h] at c2;simp at c2
    have hz: ¬lst n g=lst n g':=fun h=>hne (lst_ext.1 h i d1);simp[go_sem];refine aj ?_;simp[go_sem,hz]
   ·have he:g i=g' i:=by rw[Rule.Yt];simpa[and_assoc] using d2
    simp(disch:=first|omega|simp) [go_sem,aA];refine dB (i+1) ⟨by omega,fun q hq=>by by_cases e:q=i;(rw[e];exact he);exact hx q (by omega)⟩ (h:=by simp[go_sem]<;>omega)
  ·have hz:lst n g=lst n g':=lst_ext.2 fun q hq=>hx q (by omega);simp[go_sem];refine go true (sm ?_);refine aj ?_;simp[go_sem,hz]
end Go.Proofs.YthlhlnbcjlpigaaGreatDoor
namespace Go.Proofs.YthlhlnbcjlpigaaGreatDoor
open Go.aU Go.bY
instance:Inhabited Span:=⟨⟨0,0⟩⟩
open Go.Proofs.Tryz
variable (σ : List aC)
theorem lst_succ{α:Type}(n:Nat)(f:Nat->α):lst (n+1) f=lst n f++[f n]:=by simp[lst,List.range_succ]
end Go.Proofs.YthlhlnbcjlpigaaGreatDoor
