/- Contracts and lemmas, joined out of smaller texts by a program; no conditions. -/
import Derived.Test.YtmahphgjkpgidaaGreatDoorKB3
import Derived.Test.YtmahphgjkpgidaaGreatDoorKB4
set_option linter.unusedVariables false
set_option linter.unusedSimpArgs false
set_option maxHeartbeats 400000
set_option maxRecDepth 100000
namespace Go.Proofs.YtmahphgjkpgidaaGreatDoor
open Go.aU Go.dh Go.Proofs.Tryz
variable (σ : List aG)
theorem lenF_out{y m:Int}(h:((y<1600\/4470<y)\/m<1)\/12<m):IL y m=0:=by unfold IL;rw[if_pos (by omega)]
theorem IK{y m:Int}(h:((1600<=y/\y<=4470)/\1<=m)/\m<=12):IL y m=tJ y m:=by unfold IL;rw[if_neg (by omega)]
theorem lenM_arr{y m:Int}(h1:1<=m)(h2:m<=12)(h:m=2->Ai y=false):loaded false (((([31,28,31,30,31,30,31,31,30,31,30,31]:List Int).map fun n=>AV.d (I n)).drop ((m-1).toNat*1)).take 1)= .d (I (tJ y m)):=by
 have hc:m=1\/m=2\/m=3\/m=4\/m=5\/m=6\/m=7\/m=8\/m=9\/m=10\/m=11\/m=12:=by omega
 rcases hc with rfl|rfl|rfl|rfl|rfl|rfl|rfl|rfl|rfl|rfl|rfl|rfl<;>first|rfl|(simp[h,tJ];rfl)
theorem lenM_feb{y:Int}(h:Ai y=true):tJ y 2=29:=by simp[tJ,h]
theorem day_leap_cs(y:Int)(hy:0<=y):aA prog 403 [.d (I y)] σ (.d (B (Ai y))):=by
 refine aA.bd true func403 fun hwf=> ?_;simp(disch:=first|omega|simp) [go_sem,GV];refine aj ?_;simp[go_sem,Ai]<;>omega
def fQ(d:Int):Prop:=0<=d/\d<=1048575
instance(d:Int):Decidable (fQ d):=inferInstanceAs (Decidable (_/\_))
theorem isDay_dec(d:Int):decide (fQ d)=(decide (0<=d)&&decide (d<=1048575)):=by
 unfold fQ;exact Bool.decide_and ..
theorem day_is_cs(d:Int):aA prog 402 [.d (I d)] σ (.d (B (decide (fQ d)))):=by
 refine aA.bs true func402 fun hwf=> ?_;refine aj ?_;simp[go_sem,isDay_dec]<;>omega
theorem tZ(y:Int)(h1:1600<=y)(h2:y<=4700):aA prog 375 [.d (I y)] σ (.d (I (sK y))):=by
 refine aA.bd true func375 fun hwf=> ?_;simp(disch:=first|omega|simp) [go_sem,Yw,aH];refine aj ?_;simp[go_sem,sK]<;>omega
theorem Sj:aA prog 404 [] σ (.agg ([31,28,31,30,31,30,31,31,30,31,30,31].map fun n=> .d (I n))):=by
 refine aA.bs true func404 fun hwf=> ?_;exact aj so
theorem mJ(y m:Int):aA prog 374 [.d (I y),.d (I m)] σ (.d (I (IL y m))):=by
 refine aA.bs true func374 fun hwf=> ?_;refine aJ [0,1] ?_ ?_<;>intro c0 d0
 ·simp[go_sem];rw[lenF_out d0];exact aj sc
 ·simp[go_sem];refine fM.mk (day_leap_cs _ y (by omega)) (sm ?_);refine aJ [1] ?_ ?_<;>intro c1 d1
  ·obtain⟨rfl,d1⟩:=d1;simp[go_sem];rw[IK (by omega),lenM_feb d1];exact aj sc
  ·simp(disch:=first|omega|simp) [go_sem];refine aO.mk (Sj _) ?_;simp(disch:=first|omega|simp) [go_sem,aH];have hL:=lenM_arr (y:=y) (m:=m) (by omega) (by omega) d1;simp[go_sem] at hL;simp[go_sem,hL];repeat refine⟨by omega,?_⟩
   rw[IK (by omega)];exact aj sc
def ofF(y m k:Int):Int×Int:=if k<1\/IL y m<k then(0,2) else if 1048575<ofD y m k then(0,2) else(ofD y m k,0)
theorem lenF_ne{y m k:Int}(h1:1<=k)(h2:k<=IL y m):(1600<=y/\y<=4470)/\1<=m/\m<=12/\IL y m=tJ y m:=by
 unfold IL at h2⊢;split at h2
 ·omega
 ·rename_i h;rw[if_neg h];exact⟨by omega,by omega,by omega,rfl⟩
theorem Ti{y:Int}(h1:1600<=y)(h2:y<=4700):0<=sK y/\sK y<=2000000:=by unfold sK;omega
theorem cum_bd(y:Int){m:Int}(h1:1<=m)(h2:m<=13):0<=Fq y m/\Fq y m<=400:=by
 have h3:=Ju (y:=y) h1;have h4:=Ju (y:=y) h2;rw[Jt] at h3;rw[cum_end] at h4;split at h4<;>omega
theorem W9{y m k:Int}(h:1<=k/\k<=IL y m):ofF y m k=if 1048575<ofD y m k then(0,2) else(ofD y m k,0):=by unfold ofF;rw[if_neg (by omega)]
theorem day_Of_cs(y m k:Int):aA prog 373 [.d (I y),.d (I m),.d (I k)] σ (.eU [.d (I (ofF y m k).1),.d (I (ofF y m k).2)]):=by
 refine aA.bd true func373 fun hwf=> ?_;simp[go_sem];refine aO.mk (mJ _ _ _) ?_;simp[go_sem];refine aJ [0,1,2] ?_ ?_<;>intro c0 d0
 ·simp[go_sem];refine aj ?_;have hz:ofF y m k=(0,2):=by unfold ofF;rw[if_pos (by omega)]
  rw[hz];simp[go_sem]
 ·obtain⟨hy,hm1,hm2,hl⟩:=lenF_ne d0.1 d0.2;have hb:=Ti hy.1 (by omega);have hlm:=Xd y m;simp(disch:=first|omega|simp) [go_sem];refine aO.mk (tZ _ y (by omega) (by omega)) ?_;simp(disch:=first|omega|simp) [go_sem,aH];refine Pz (α:=Nat) true [0,1,9,10] (fun q=>[(9,.d (I (sK y+k-1+Fq y (q+1)))),(10,.d (I ((q+1:Nat):Int)))]) (fun q=>_) (fun q=>(q:Int)+1<=m) (fun q=>12-q) 0 (by simp[go_sem,Jt]) (rfl) (by omega) ?_;rintro q hq;have hcb:=cum_bd y (m:=q+1) (by omega) (by omega);simp[go_sem];refine aJ [0,1,9,10] ?_ ?_<;>intro c1 d1
  ·have hlq:IL y (q+1)=tJ y (q+1):=IK (by omega);have hcs:=Sz (y:=y) (m:=(q:Int)+1) (by omega) (by omega);have hlb:=Xd y (q+1);have hlp:=IJ y (q+1);simp(disch:=first|omega|simp) [go_sem];refine aO.mk (mJ _ _ _) ?_;simp(disch:=first|omega|simp) [go_sem,aH];refine gB (q+1) (by omega) (h:=by simp[go_sem]<;>omega)
  ·obtain rfl:m=q+1:=by omega
   have ho:ofD y (q+1) k=sK y+k-1+Fq y (q+1):=by unfold ofD;omega
   simp[go_sem];refine go true ?_;simp[go_sem];refine aJ [9] ?_ ?_<;>intro c2 d2
   ·simp[go_sem];rw[W9 d0,ho,if_pos (by omega)];exact aj sc
   ·simp[go_sem];rw[W9 d0,ho,if_neg (by omega)];exact aj sc
def x8(d:Int):Int×Int×Int×Int:=if fQ d then(bn d,nH d,EM d,0) else(0,0,0,2)
theorem guess_le{d:Int}(h:fQ d):1600<=1600+400*(d/146097)+d%146097/366/\sK (1600+400*(d/146097)+d%146097/366)<=d:=by
 obtain⟨h1,h2⟩:=h;have hc:d%146097/366=0\/d%146097/366=1\/d%146097/366=2\/3<=d%146097/366:=by omega
 unfold sK;rcases hc with h|h|h|h<;>omega
theorem PX{d y:Int}(h:fQ d)(hb:sK y<=d):y<=4470:=by
 apply Classical.byContradiction;intro hn;have:=vF (a:=4471) (b:=y) (by omega);rw[beg_4471] at this;unfold fQ at h;omega
theorem NI(d:Int):aA prog 372 [.d (I d)] σ (.eU [.d (I (x8 d).1),.d (I (x8 d).2.1),.d (I (x8 d).2.2.1),.d (I (x8 d).2.2.2)]):=by
 refine aA.bd true func372 fun hwf=> ?_;simp[go_sem];refine aO.mk (day_is_cs _ _) ?_;simp[go_sem];refine aJ [0] ?_ ?_<;>intro c0 d0
 ·simp[go_sem];refine aj ?_;have hz:x8 d=(0,0,0,2):=by unfold x8;rw[if_neg d0]
  rw[hz];simp[go_sem]
 ·have hd:fQ d:=d0;have hgu:=guess_le hd;have hgt:=PX hd hgu.2;simp(disch:=first|omega|simp) [go_sem,Yw,GV,aH];refine Pz (α:=Int) true [0,2] (fun y=>[(2,.d (I y))]) (fun y=>_) (fun y=>1600<=y/\sK y<=d) (fun y=>(4471-y).toNat) (1600+400*(d/146097)+d%146097/366) (by simp[go_sem]) (rfl) (hgu) ?_;rintro y ⟨hy1,hy2⟩;have hy3:=PX hd hy2;simp(disch:=first|omega|simp) [go_sem,aH];refine aO.mk (tZ _ (y+1) (by omega) (by omega)) ?_;simp(disch:=first|omega|simp) [go_sem];refine aJ [0,2] ?_ ?_<;>intro c1 d1
  ·have hy4:=PX hd d1;simp(disch:=first|omega|simp) [go_sem,aH];refine gB (y+1) ⟨by omega,d1⟩ (h:=by simp[go_sem]<;>omega)
  ·obtain rfl:bn d=y:=yearOf_eq hd.1 hd.2 hy2 (by omega);have hbb:=Ti hy1 (by omega);have hdi:=hd;unfold fQ at hdi;simp[go_sem];refine go true ?_;simp(disch:=first|omega|simp) [go_sem];refine aO.mk (tZ _ (bn d) (by omega) (by omega)) ?_;simp(disch:=first|omega|simp) [go_sem,aH];refine Pz (α:=Int) true [0,2,3] (fun m=>[(0,.d (I (d-sK (bn d)-Fq (bn d) m))),(3,.d (I m))]) (fun m=>_) (fun m=>1<=m/\m<=12/\Fq (bn d) m<=d-sK (bn d)) (fun m=>(12-m).toNat) 1 (by simp[go_sem,Jt]) (rfl) (⟨by omega,by omega,by rw[Jt];omega⟩) ?_;rintro m ⟨hm1,hm2,hm3⟩;have hlf:IL (bn d) m=tJ (bn d) m:=IK (by omega);have hcs:=Sz (y:=bn d) hm1 hm2;have hlb:=Xd (bn d) m;have hlp:=IJ (bn d) m;have hcb:=cum_bd (bn d) hm1 (by omega);simp[go_sem];refine aO.mk (mJ _ _ _) ?_;simp[go_sem];refine aJ [0,2,3] ?_ ?_<;>intro c2 d2
   ·have hm4:m≠12:=by
     rintro rfl;have:=(nN hd.1 hd.2).2;rw[X5] at this;simp only[Int.reduceAdd] at hcs;omega
    simp(disch:=first|omega|simp) [go_sem];refine aO.mk (mJ _ _ _) ?_;simp(disch:=first|omega|simp) [go_sem,aH];refine gB (m+1) ⟨by omega,by omega,by omega⟩ (h:=by simp[go_sem]<;>omega)
   ·obtain rfl:nH d=m:=by
     unfold nH;have:=(nN hd.1 hd.2).2;rw[X5] at this;have hs:=Rh (y:=bn d) (r:=d-sK (bn d)) (by omega) (by omega);exact Xb hs.2.2.1 hs.2.2.2 hm3 (by omega)
    simp[go_sem];refine go true ?_;simp(disch:=first|omega|simp) [go_sem,aH];refine aj ?_;have hz:x8 d=(bn d,nH d,EM d,0):=by unfold x8;rw[if_pos hd]
    rw[hz];simp[go_sem,EM]
def jl(d n:Int):Int×Int:=if fQ d/\0<=n/\n<=200 then(yD d n,0) else(0,2)
theorem dateF_no{d:Int}(h: ¬fQ d):x8 d=(0,0,0,2):=by unfold x8;rw[if_neg h]
theorem Jq{d:Int}(h:fQ d):x8 d=(bn d,nH d,EM d,0):=by unfold x8;rw[if_pos h]
theorem Sv{d:Int} :(x8 d).2.2.2=0↔fQ d:=by
 by_cases h:fQ d
 ·simp[Jq h,h]
 ·simp[dateF_no h,h]
theorem years_of{d n:Int}(h:fQ d)(h0:0<=n)(hn:bn d+n<=4470):ofF (bn d+n) (nH d) (min (EM d) (IL (bn d+n) (nH d)))=if 1048575<ofD (bn d+n) (nH d) (min (EM d) (tJ (bn d+n) (nH d))) then(0,2) else(ofD (bn d+n) (nH d) (min (EM d) (tJ (bn d+n) (nH d))),0):=by
 have hs:=Vx h.1 h.2;have hr:=oG h.1 h.2;have hl:IL (bn d+n) (nH d)=tJ (bn d+n) (nH d):=IK (by omega);have hp:=IJ (bn d+n) (nH d);rw[hl,W9 (by rw[hl];omega)]
theorem Jp(d n:Int):aA prog 343 [.d (I d),.d (I n)] σ (.eU [.d (I (jl d n).1),.d (I (jl d n).2)]):=by
 refine aA.bs true func343 fun hwf=> ?_;refine aO.mk (NI _ _) (sm ?_);refine aJ [1,6,7,8] ?_ ?_<;>intro c0 d0
 ·have hz:jl d n=(0,2):=by
   unfold jl;rw[if_neg];rintro⟨h1,h2,h3⟩;rw[Jq h1] at d0;simp at d0;omega
  simp[go_sem];rw[hz];exact aj sc
 ·have hd:fQ d:=Sv.1 d0.1.1;have hr:=oG hd.1 hd.2;have hz:jl d n=(yD d n,0):=by unfold jl;rw[if_pos ⟨hd,by omega,by omega⟩]
  simp only[Jq hd] at c0 d0⊢;simp(disch:=first|omega|simp) [go_sem,aH];refine aJ [6,7,8] ?_ ?_<;>intro c1 d1
  ·have hz2:yD d n=1048575:=by unfold yD;rw[if_pos (by omega)]
   simp[go_sem];rw[hz,hz2];exact aj sc
  ·have ho:=years_of hd (n:=n) (by omega) (by omega);have hz2:yD d n=if 1048575<ofD (bn d+n) (nH d) (min (EM d) (tJ (bn d+n) (nH d))) then 1048575 else ofD (bn d+n) (nH d) (min (EM d) (tJ (bn d+n) (nH d))):=by unfold yD;rw[if_neg (by omega)]
   generalize ofD (bn d+n) (nH d) (min (EM d) (tJ (bn d+n) (nH d)))=g at ho hz2
   simp[go_sem];refine aO.mk (mJ _ _ _) (sm ?_);refine aO.mk (day_Of_cs _ _ _ _) (sm ?_);simp only[ho];refine aJ [10] ?_ ?_<;>intro c2 d2
   ·have hz3:yD d n=1048575:=by rw[hz2];split at d2<;>simp_all
    simp[go_sem];rw[hz,hz3];exact aj sc
   ·simp[go_sem];refine aj ?_;by_cases h3:1048575<g
    ·simp[h3] at d2
    ·rw[hz,hz2];simp[go_sem,h3]
def lW(d:Int):Int×Int:=if fQ d then(AZ d,0) else(0,2)
theorem Sl(d:Int):aA prog 344 [.d (I d)] σ (.eU [.d (I (lW d).1),.d (I (lW d).2)]):=by
 refine aA.bs true func344 fun hwf=> ?_;refine aO.mk (NI _ _) (sm ?_);refine aJ [4,7] ?_ ?_<;>intro c0 d0
 ·have hn: ¬fQ d:=fun h=>d0 (Sv.2 h);have hz:lW d=(0,2):=by unfold lW;rw[if_neg hn]
  simp[go_sem];refine aj ?_;rw[hz];simp[go_sem,dateF_no hn]
 ·have hd:fQ d:=Sv.1 d0;have hr:=oG hd.1 hd.2;have hb:=Ti (y:=bn d+1) (by omega) (by omega);have hz:lW d=(AZ d,0):=by unfold lW;rw[if_pos hd]
  simp only[Jq hd] at c0 d0⊢;simp(disch:=first|omega|simp) [go_sem,aH];refine aO.mk (tZ _ _ (by first|assumption|exact aC (by assumption)|omega|simp_all) (by first|assumption|exact aC (by assumption)|omega|simp_all)) ?_;simp(disch:=first|omega|simp) [go_sem,aH];refine aj ?_;rw[hz];simp[go_sem,AZ]
end Go.Proofs.YtmahphgjkpgidaaGreatDoor
namespace Go.Proofs.YtmahphgjkpgidaaGreatDoor
open Go.aU Go.dh
open Go.Proofs.Tryz
variable (σ : List aG)
structure eF where
 First:Int
 Last:Int
def eF.enc(m:eF):List D:=[I m.First,I m.Last]
structure Ground where
 Kind:Int
 Source:Int
 Unit:Int
 Until:Int
def Ground.enc(m:Ground):List D:=[I m.Kind,I m.Source,I m.Unit,I m.Until]
def Ground.zero:Ground:=⟨0,0,0,0⟩
def Rule.zero:Rule:=⟨0,0,0,false,⟨0,0⟩⟩
attribute [go_sem] eF.enc Ground.enc
def datOk(m:eF):Bool:=decide (0<=m.First)&&decide (m.First<=m.Last)&&decide (m.Last<=1048575)
def kH(m:eF):Int:=if datOk m=true then 0 else 1
theorem datChk_no{m:eF}(h:(m.First<0\/m.Last<m.First)\/1048575<m.Last):kH m=1:=by
 unfold kH datOk;rw[if_neg];simp;omega
theorem datChk_ok{m:eF}(h:(0<=m.First/\m.First<=m.Last)/\m.Last<=1048575):kH m=0:=by
 unfold kH datOk;rw[if_pos];simpa using h
theorem ofD_nn{y m k:Int}(h1:1600<=y)(h2:y<=4700)(h3:1<=m)(h4:m<=12)(h5:1<=k):0<=ofD y m k:=by
 have:=Ti h1 h2;have:=cum_bd y h3 (by omega);unfold ofD;omega
theorem yearsF_bd{d n:Int}(h:fQ d)(h0:0<=n):fQ (yD d n):=by
 have hs:=Vx h.1 h.2;have hr:=oG h.1 h.2;unfold yD fQ;dsimp only;split
 ·omega
 ·have hp:=IJ (bn d+n) (nH d);have:=ofD_nn (y:=bn d+n) (m:=nH d) (k:=min (EM d) (tJ (bn d+n) (nH d))) (by omega) (by omega) hs.1 hs.2.1 (by omega);split<;>omega
theorem DR(d n:Int):fQ (jl d n).1:=by
 unfold jl;split
 ·rename_i h;exact yearsF_bd h.1 h.2.1
 ·unfold fQ;simp
theorem Yn{d:Int}(h:fQ d):fQ (AZ d):=by
 have hr:=oG h.1 h.2;have hb:=Ti (y:=bn d) (by omega) (by omega);have hs:=beg_strict (a:=bn d) (b:=bn d+1) (by omega);unfold AZ fQ;omega
theorem Ym(d:Int):fQ (lW d).1:=by
 unfold lW;split
 ·rename_i h;exact Yn h
 ·unfold fQ;simp
def Fg(r:Rule)(m:eF):Int:=if r.PW=true then(lW (jl m.Last r.jI).1).1 else(jl m.Last r.jI).1
theorem ZK(r:Rule)(m:eF):fQ (Fg r m):=by
 unfold Fg;split
 ·exact Ym _
 ·exact DR _ _
theorem eX(m:eF):aA prog 190 [.agg (m.enc.map .d)] σ (.d (I (kH m))):=by
 refine aA.bs true func190 fun hwf=> ?_;refine aJ [] ?_ ?_<;>intro c0 d0
 ·simp[go_sem];rw[datChk_no d0];exact aj sc
 ·simp[go_sem];rw[datChk_ok d0];exact aj sc
theorem yc(r:Rule)(m:eF):aA prog 289 [.agg (r.enc.map .d),.agg (m.enc.map .d)] σ (.d (I (Fg r m+1))):=by
 refine aA.bs true func289 fun hwf=> ?_;refine aO.mk (Jp _ m.Last r.jI) (sm ?_);refine aJ [5] ?_ ?_<;>intro c0 d0
 ·have hl:Fg r m=(lW (jl m.Last r.jI).1).1:=by unfold Fg;rw[if_pos c0]
  have hb:=ZK r m;rw[hl] at hb⊢;unfold fQ at hb;simp(disch:=first|omega|simp) [go_sem];refine aO.mk (Sl _ (jl m.Last r.jI).1) ?_;simp(disch:=first|omega|simp) [go_sem,aH];exact aj so
 ·have hl:Fg r m=(jl m.Last r.jI).1:=by unfold Fg;rw[if_neg (by simp[c0])]
  have hb:=ZK r m;rw[hl] at hb⊢;unfold fQ at hb;simp(disch:=first|omega|simp) [go_sem,aH];exact aj so
def inB(k d:Int)(r:Rule):Bool:=(r.Class==k)&&decide (r.In.From<=d)&&decide (d<r.In.Until)
theorem Du(τ:List aG)(r:Rule)(k d:Int):aA prog 342 [.agg (r.enc.map .d),.ptr σ.length 0,.ptr (σ.length+1) 0] (σ++ .var [.d (I k)]:: .var [.d (I d)]::τ) (.d (B (inB k d r))):=by
 refine aA.bs true func342 fun hwf=> ?_;refine aj ?_;simp[go_sem,inB]<;>omega
def uP(n:Nat)(g:Nat->Rule)(k d:Int):Int:=idxFrom (inB k d) (lst n g) 0
theorem ZX(n:Nat)(g:Nat->Rule)(k d:Int):uP n g k d<n:=by
 rcases mg (inB k d) (lst n g) 0 with⟨h,_⟩|⟨q,h1,h2,_⟩
 ·unfold uP;omega
 ·unfold uP;rw[bT] at h1;omega
def jd(n:Nat)(g:Nat->Rule)(k d:Int):Rule×Bool:=if uP n g k d<0\/check n g≠0 then(Rule.zero,false) else(g (uP n g k d).toNat,true)
theorem Gu(c:Option Nat)(n:Nat)(g:Nat->Rule)(k d:Int)(hn:n<1000000000):aA prog 288 [.d (SL c 6 Rule.enc n g),.d (I k),.d (I d)] σ (.eU [.agg ((jd n g k d).1.enc.map .d),.d (B (jd n g k d).2)]):=by
 have hlt:=ZX n g k d;refine aA.bs true func288 fun hwf=> ?_;refine aO.mk ((show aA prog 282 _ _ (.d (I (uP n g k d))) from zi _ c n g _ _ (inB k d) hn (fun i hi=>Du σ _ (g i) k d))) (sm ?_);refine fM.mk (lJ _ c n g hn) (sm ?_);refine aJ [0,6,8] ?_ ?_<;>intro c0 d0
 ·simp[go_sem];refine aj ?_;have hz:jd n g k d=(Rule.zero,false):=by unfold jd;rw[if_pos d0]
  rw[hz];simp[go_sem,Rule.zero]
 ·simp[go_sem];repeat refine⟨by omega,?_⟩
  refine aj ?_;have hz:jd n g k d=(g (uP n g k d).toNat,true):=by unfold jd;rw[if_neg (by omega)]
  rw[hz];simp[go_sem]
def pK(n:Nat)(g:Nat->Rule)(k:Int)(m:eF)(d:Int):Ground×Bool:=
 if(jd n g k d).2=false\/kH m≠0\/Fg (jd n g k d).1 m+1<=d then(Ground.zero,false) else(⟨1,(jd n g k d).1.ID,0,Fg (jd n g k d).1 m+1⟩,true)
theorem JA(c:Option Nat)(n:Nat)(g:Nat->Rule)(k:Int)(m:eF)(d:Int)(hn:n<1000000000):aA prog 196 [.d (SL c 6 Rule.enc n g),.d (I k),.agg (m.enc.map .d),.d (I d)] σ (.eU [.agg ((pK n g k m d).1.enc.map .d),.d (B (pK n g k m d).2)]):=by
 refine aA.bs true func196 fun hwf=> ?_;refine aO.mk (Gu _ c n g k d hn) (sm ?_);refine fM.mk (eX _ m) (sm ?_);refine fM.mk (yc _ (jd n g k d).1 m) (sm ?_);refine aJ [6,8,10] ?_ ?_<;>intro c0 d0
 ·have hz:pK n g k m d=(Ground.zero,false):=by unfold pK;rw[if_pos (by rcases d0 with(h|h)|h<;>simp[h])]
  simp[go_sem];refine aj ?_;rw[hz];simp[go_sem,Ground.zero]
 ·have hz:pK n g k m d=(⟨1,(jd n g k d).1.ID,0,Fg (jd n g k d).1 m+1⟩,true):=by unfold pK;rw[if_neg (by simp[d0])]
  simp[go_sem];refine T.dr 6 fun K hK=>sm ?_;refine dF.mk (yc _ (jd n g k d).1 m) (sm ?_);refine hK _ ?_;refine go true (sm ?_);rw[hz];exact aj sc
theorem LC(τ:List aG)(r:Rule)(k:Int):aA prog 312 [.agg (r.enc.map .d),.ptr σ.length 0] (σ++ .var [.d (I k)]::τ) (.d (B (r.ID==k))):=by
 refine aA.bs true func312 fun hwf=> ?_;exact aj so
theorem cloneRule_cs(c:Option Nat)(n:Nat)(g:Nat->Rule)(hn:n<1000000000):aA prog 77 [.d (SL c 6 Rule.enc n g)] σ (.d (SL none 6 Rule.enc n g)):=by
 refine aA.bd true func77 fun hwf=> ?_;simp[go_sem,-Bool.forall_bool];try intro b1 hb1
 refine fZ ?_ ?_<;>intro c0 d0
 ·simp[go_sem];refine aj ?_;have:=hb1 c0;simp[go_sem,this]
 ·simp[go_sem];repeat refine⟨by omega,?_⟩
  refine bK (σ.length) (by simp[go_sem];exact⟨rfl,rfl,rfl⟩) (by simp[go_sem];rfl) (by simp[go_sem,hwf.sZ,hwf.qH];rfl) ?_;exact aj so
theorem Un(c:Option Nat)(n:Nat)(g:Nat->Rule)(hn:n<1000000000):CS prog 77 [.d (SL c 6 Rule.enc n g)] σ (fun r σ' X=>r= .ms σ.length 6 0 n/\σ'=σ++[.arr 6 n fun i=>Rule.enc (g i)]/\X=[]):=by
 refine CS.VD true func77 fun hwf=> ?_;simp[go_sem,-Bool.forall_bool];try intro b1 hb1
 refine fZ ?_ ?_<;>intro c0 d0
 ·simp[go_sem];refine dG 2 6 (fun i=>Rule.enc (g i)) (by simp[go_sem]) (by simp[go_sem];rfl) ?_;refine aj ?_;obtain rfl:=hb1 c0;simp[go_sem]
 ·simp[go_sem];repeat refine⟨by omega,?_⟩
  exact aj so
def xX(n:Nat)(g:Nat->Rule)(id d:Int):(Nat×(Nat->Rule))×Int:=
 if check n g≠0 then((0,g),1) else if idxFrom (fun r=>r.ID==id) (lst n g) 0<0 then((0,g),7)
 else if d<=(g (idxFrom (fun r=>r.ID==id) (lst n g) 0).toNat).In.From\/(g (idxFrom (fun r=>r.ID==id) (lst n g) 0).toNat).In.Until<d then((0,g),2)
 else((n,fun q=>if q=(idxFrom (fun r=>r.ID==id) (lst n g) 0).toNat then { g q with In:=⟨(g q).In.From,d⟩ } else g q),0)
theorem mX{α:Type}(p:α->Bool)(n:Nat)(g:Nat->α):idxFrom p (lst n g) 0<n:=by
 rcases mg p (lst n g) 0 with⟨h,_⟩|⟨q,h1,h2,_⟩
 ·omega
 ·rw[bT] at h1;omega
theorem SN(c:Option Nat)(n:Nat)(g:Nat->Rule)(id d:Int)(hn:n<1000000000):aA prog 236 [.d (SL c 6 Rule.enc n g),.d (I id),.d (I d)] σ (.eU [.d (SL none 6 Rule.enc (xX n g id d).1.1 (xX n g id d).1.2),.d (I (xX n g id d).2)]):=by
 have hlt:=mX (fun r:Rule=>r.ID==id) n g;refine aA.bs true func236 fun hwf=> ?_;refine aO.mk (lJ _ c n g hn) (sm ?_);refine aJ [0,2,4] ?_ ?_<;>intro c0 d0
 ·have hz:xX n g id d=((0,g),1):=by unfold xX;rw[if_pos d0]
  simp[go_sem];rw[hz];exact aj sc
 ·simp[go_sem];refine aO.mk (zi _ c n g _ _ (fun r=>r.ID==id) hn (fun i hi=>LC σ _ (g i) id)) (sm ?_);refine aJ [0,2,8] ?_ ?_<;>intro c1 d1
  ·have hz:xX n g id d=((0,g),7):=by unfold xX;rw[if_neg (by simp[d0]),if_pos d1]
   simp[go_sem];rw[hz];exact aj sc
  ·simp[go_sem];repeat refine⟨by omega,?_⟩
   refine aJ [0,2,8] ?_ ?_<;>intro c2 d2
   ·have hz:xX n g id d=((0,g),2):=by unfold xX;rw[if_neg (by simp[d0]),if_neg (by omega),if_pos d2]
    simp[go_sem];rw[hz];exact aj sc
   ·have hz:xX n g id d=((n,fun q=>if q=(idxFrom (fun r=>r.ID==id) (lst n g) 0).toNat then { g q with In:=⟨(g q).In.From,d⟩ } else g q),0):=by unfold xX;rw[if_neg (by simp[d0]),if_neg (by omega),if_neg (by omega)]
    simp[go_sem];refine aO.gen (Un _ c n g hn) ?_;rintro r σ' X ⟨rfl,rfl,rfl⟩;simp[go_sem];repeat refine⟨by omega,?_⟩
    refine aF hwf (σ.length+1) ?_;refine aj ?_;rw[hz];simp[go_sem];intro i hi;split<;>simp_all
theorem WM(c:Option Nat)(n:Nat)(g:Nat->Rule):aA prog 59 [.d (SL c 6 Rule.enc n g)] σ (.d (B (decide ((n:Int)<=20)))):=by
 refine aA.bs true func59 fun hwf=> ?_;exact aj so
theorem Rule.aaq{a b:Rule} :a=b↔(((((a.ID=b.ID/\a.Class=b.Class)/\a.jI=b.jI)/\a.PW=b.PW)/\a.In.From=b.In.From)/\a.In.Until=b.In.Until):=by
 obtain⟨a1,a2,a3,a4,⟨a5,a6⟩⟩:=a;obtain⟨b1,b2,b3,b4,⟨b5,b6⟩⟩:=b;simp[and_assoc]
theorem Span.aaq{a b:Span} :a=b↔a.From=b.From/\a.Until=b.Until:=by
 obtain⟨a5,a6⟩:=a;obtain⟨b5,b6⟩:=b;simp
theorem lst_ext{α:Type}{n:Nat}{f g:Nat->α} :lst n f=lst n g↔∀i,i<n->f i=g i:=by
 constructor
 ·intro h i hi;have:=congrArg (fun l=>l[i]?) h;simpa[yY hi] using this
 ·intro h;unfold lst;exact List.map_congr_left fun i hi=>h i (by simpa using hi)
theorem EZ(c:Option Nat)(n:Nat)(g:Nat->Rule)(c':Option Nat)(n':Nat)(g':Nat->Rule)(dd:Decidable (lst n g=lst n' g'))(hn:n<1000000000):aA prog 72 [.d (SL c 6 Rule.enc n g),.d (SL c' 6 Rule.enc n' g')] σ (.d (B (decide (lst n g=lst n' g')))):=by
 refine aA.bs true func72 fun hwf=> ?_;refine aJ [0,1] ?_ ?_<;>intro c0 d0
 ·have hz: ¬lst n g=lst n' g':=fun h=>d0 (by have:=congrArg List.length h;simp only[bT] at this;omega);simp[go_sem];refine aj ?_;simp[go_sem,hz]
 ·obtain rfl:n=n':=by omega
  simp[go_sem];refine kQ (α:=Nat) true [0,1,12,13] (fun i=>[(13,.d (I i))]) (fun i=>_) (fun i=>i<=n/\∀q,q<i->g q=g' q) (fun i=>n-i) 0 ?_;rintro i ⟨hi,hx⟩;simp[go_sem];refine aJ [0,1,12,13] ?_ ?_<;>intro c1 d1
  ·simp[go_sem];refine T.dr 9 fun K hK=>sm ?_;repeat refine⟨by omega,?_⟩
   refine hK _ ?_;refine go true (sm ?_);refine aJ [0,1,12,13] ?_ ?_<;>intro c2 d2
   ·have hne:g i≠g' i:=by intro h;rw[h] at c2;simp at c2
    have hz: ¬lst n g=lst n g':=fun h=>hne (lst_ext.1 h i d1);simp[go_sem];refine aj ?_;simp[go_sem,hz]
   ·have he:g i=g' i:=by rw[Rule.aaq];simpa[and_assoc] using d2
    simp(disch:=first|omega|simp) [go_sem,aH];refine gB (i+1) ⟨by omega,fun q hq=>by by_cases e:q=i;(rw[e];exact he);exact hx q (by omega)⟩ (h:=by simp[go_sem]<;>omega)
  ·have hz:lst n g=lst n g':=lst_ext.2 fun q hq=>hx q (by omega);simp[go_sem];refine go true (sm ?_);refine aj ?_;simp[go_sem,hz]
end Go.Proofs.YtmahphgjkpgidaaGreatDoor
namespace Go.Proofs.YtmahphgjkpgidaaGreatDoor
open Go.aU Go.dh
instance:Inhabited Span:=⟨⟨0,0⟩⟩
open Go.Proofs.Tryz
variable (σ : List aG)
theorem lst_succ{α:Type}(n:Nat)(f:Nat->α):lst (n+1) f=lst n f++[f n]:=by simp[lst,List.range_succ]
end Go.Proofs.YtmahphgjkpgidaaGreatDoor
