/- Contracts and lemmas, joined out of smaller texts by a program; no conditions. -/
import Derived.Test.YthlhlnbcjlpigaaGreatDoorKB38
set_option linter.unusedVariables false
set_option linter.unusedSimpArgs false
set_option maxHeartbeats 1000000
set_option maxRecDepth 100000
namespace Go.Proofs.YthlhlnbcjlpigaaGreatDoor
open Go.aU Go.bY Go.Proofs.Tryz
variable (σ : List aC)
theorem cntBad_of{b:Bx}(h: ∀k,k<b.nc->jX (b.gc k)=true):uH b=false:=by
 unfold uH;exact any_no.2 fun i hi=>by simp[h i hi]
theorem cntBad_at{b:Bx}{k:Nat}(hk:k<b.nc)(h:jX (b.gc k)=false):uH b=true:=by
 unfold uH;exact jC.2 ⟨k,hk,by simp[h]⟩
def J4(b:Bx):Bool:=jy b.ID 1 1073741824&&jy b.Width 1 10000&&jy b.Room 1 b.Width&&jy b.dU 0 7
theorem bxF_fld{b:Bx}(h:J4 b=false):Dn b=2:=by
 have:yM b=false:=by unfold yM;unfold J4 at h;rw[h];rfl
 unfold Dn;rw[if_pos this]
theorem bxF_bad{b:Bx}{k:Nat}(hk:k<b.nc)(h:jX (b.gc k)=false):Dn b=2:=by
 have:yM b=false:=by unfold yM;rw[cntBad_at hk h];simp
 unfold Dn;rw[if_pos this]
theorem bxOk_of{b:Bx}(h:J4 b=true)(hc: ∀k,k<b.nc->jX (b.gc k)=true):yM b=true:=by
 unfold yM;unfold J4 at h;rw[h,cntBad_of hc];rfl
theorem Kw(c:Cnt):ay prog 138 [.agg (c.enc.map .d)] σ (.d (B (jX c))):=by
 refine ay.bs true func138 fun hwf=> ?_;refine aj ?_;simp[go_sem,jX,jy,Bool.and_assoc]<;>omega
theorem Ur(b:Bx)(hn:b.nc<=1000000)(hg: ∀i,i<b.nc->jX (b.gc i)=true):ay prog 139 [.agg (b.enc.map .d)] σ (.d (I (Ri b.gc b.nc))):=by
 have hb:=ZM hg;refine ay.bs true func139 fun hwf=> ?_;refine zJ (α:=Nat) true [3,7,8,9] (fun i=>[(9,.d (I i)),(3,.d (I (Ri b.gc i)))]) (fun i=>σ++[.var (b.enc.map .d)]) (fun i=>i<=b.nc) (fun i=>b.nc-i) 0 (by simp[go_sem,Ri]) (rfl) (by simp) ?_;rintro i hi;have hb1:=hb i (by omega);simp[go_sem];refine aH [3,7,8,9] ?_ ?_<;>intro c0 d0
 ·have hb2:=hb (i+1) (by omega);rw[Ri] at hb2;simp(disch:=first|omega|simp) [go_sem,aA];repeat refine⟨by omega,?_⟩
  refine dB (i+1) (by omega) (h:=by simp[go_sem,Ri]<;>omega) (hσ:=by simp[go_sem]) (hb:=au (by simp[go_sem]))
 ·obtain rfl:i=b.nc:=by omega
  simp[go_sem];refine go true (sm ?_);exact aj so
theorem Qw(b:Bx)(hn:b.nc<=1000000):ay prog 78 [.agg (b.enc.map .d)] σ (.d (I (Dn b))):=by
 refine ay.bs true func78 fun hwf=> ?_;refine aH [1] ?_ ?_<;>intro c0 d0
 ·have hz:Dn b=2:=bxF_fld (by
   cases h:J4 b with
   |false=>rfl
   |true=>simp only[J4,Bool.and_eq_true,eH] at h;omega)
  simp[go_sem];rw[hz];exact aj sc
 ·have hfl:J4 b=true:=by simp only[J4,Bool.and_eq_true,eH];omega
  simp[go_sem];refine gy (α:=Nat) true [1,46,47,48] (fun i=>[(48,.d (I i))]) (fun i=>σ++[.var (b.enc.map .d)]) (fun i=>i<=b.nc/\∀k,k<i->jX (b.gc k)=true) (fun i=>b.nc-i) 0 ?_ (hx:=⟨by omega,fun k hk=>absurd hk (Nat.not_lt_zero _)⟩);rintro i ⟨hi,hx⟩;simp[go_sem];refine aH [1,46,47,48] ?_ ?_<;>intro c1 d1
  ·simp[go_sem];repeat refine⟨by omega,?_⟩
   refine aW.mk (Kw _ (b.gc i)) (sm ?_);refine aH [1,46,47,48] ?_ ?_<;>intro c2 d2
   ·have hz:Dn b=2:=bxF_bad (k:=i) d1 (by simpa using d2);simp[go_sem];rw[hz];exact aj sc
   ·simp(disch:=first|omega|simp) [go_sem,aA];refine dB (i+1) ⟨by omega,fun k hk=>by by_cases h:k=i;(subst h;simpa using d2);exact hx k (by omega)⟩ (h:=by simp[go_sem]<;>omega) (hσ:=by simp[go_sem]) (hb:=au (by simp[go_sem]))
  ·obtain rfl:i=b.nc:=by omega
   have hk:=bxOk_of hfl hx;simp[go_sem];refine go true (sm ?_);refine aH [1] ?_ ?_<;>intro c3 d3
   ·have hz:Dn b=8:=by unfold Dn;rw[if_neg (by simp[hk]),if_pos (by omega)]
    simp[go_sem];rw[hz];exact aj sc
   ·simp[go_sem];refine T.dr 5 fun K hK=>sm ?_;refine dS.mk (Ur _ b hn hx) (sm ?_);refine hK _ ?_;refine go true (sm ?_);refine aH [] ?_ ?_<;>intro c4 d4
    ·have hz:Dn b=12:=by unfold Dn;rw[if_neg (by simp[hk]),if_neg (by omega),if_pos (by omega)]
     simp[go_sem];rw[hz];exact aj sc
    ·have hz:Dn b=0:=by unfold Dn;rw[if_neg (by simp[hk]),if_neg (by omega),if_neg (by omega)]
     simp[go_sem];rw[hz];exact aj sc
theorem yt(b:Bx)(u:Int)(hn:b.nc<1000000000):ay prog 79 [.agg (b.enc.map .d),.d (I u)] σ (.d (I (oD b.gc u b.nc))):=by
 refine ay.bs true func79 fun hwf=> ?_;refine zJ (α:=Nat) true [1,5,9,10,11] (fun i=>[(11,.d (I i)),(5,.d (I (oD b.gc u i)))]) (fun i=>σ++[.var (b.enc.map .d)]) (fun i=>i<=b.nc) (fun i=>b.nc-i) 0 (by simp[go_sem,oD]) (rfl) (by simp) ?_;rintro i hi;simp[go_sem];refine aH [1,5,9,10,11] ?_ ?_<;>intro c0 d0
 ·simp[go_sem];repeat refine⟨by omega,?_⟩
  refine aH [1,5,9,10,11] ?_ ?_<;>intro c1 d1
  ·have hs:oD b.gc u (i+1)=oD b.gc u i+1:=by rw[oD,if_pos d1]
   have hw1:=wrap_succ (i:=oD b.gc u i) (by have:=insN_le b.gc u i;omega);simp(disch:=first|omega|simp) [go_sem,hw1,aA];refine dB (i+1) (by omega) (h:=by simp[go_sem,hs]<;>omega) (hσ:=by simp[go_sem]) (hb:=au (by simp[go_sem]))
  ·have hs:oD b.gc u (i+1)=oD b.gc u i:=by rw[oD,if_neg d1]
   simp(disch:=first|omega|simp) [go_sem,aA];refine dB (i+1) (by omega) (h:=by simp[go_sem,hs]<;>omega) (hσ:=by simp[go_sem]) (hb:=au (by simp[go_sem]))
 ·obtain rfl:i=b.nc:=by omega
  simp[go_sem];refine go true (sm ?_);exact aj so
theorem NJ(c:Option Nat)(n:Nat)(g:Nat->Bx)(hn:n<1000000000)(hN: ∀i,i<n->(g i).nc<=1000000):ay prog 38 [.d (SL c 5 Bx.enc n g)] σ (.d (I (dQ n g))):=by
 refine ay.bs true func38 fun hwf=> ?_;refine aH [0] ?_ ?_<;>intro c0 d0
 ·have hz:dQ n g=8:=by unfold dQ;rw[if_pos (by omega)]
  simp[go_sem];rw[hz];exact aj sc
 ·have hz:dQ n g=Dl g 0 [] (n-0):=by unfold dQ;rw[if_neg (by omega)];rfl
  simp[go_sem];refine gy (α:=Nat) true [0,13,14,15] (fun i=>[(15,.d (I i))]) (fun i=>_) (fun i=>i<=n/\∃ks,Seen g i ks/\dQ n g=Dl g i ks (n-i)) (fun i=>n-i) 0 ?_ (hx:=⟨by simp,[],seen_0 g,by simpa using hz⟩);rintro i ⟨hi,ks,hS,hx⟩;simp[go_sem];refine aH [0,13,14,15] ?_ ?_<;>intro c1 d1
  ·have hst:=Ti (g:=g) (ks:=ks) d1;simp[go_sem];repeat refine⟨by omega,?_⟩
   refine aW.mk (Qw _ (g i) (hN i d1)) ?_;simp[go_sem];refine aH [0,3,4,5,13,14,15] ?_ ?_<;>intro c2 d2
   ·have hz:dQ n g=Dn (g i):=by rw[hx,hst,if_pos (by simpa using d2)]
    simp[go_sem];rw[hz];exact aj sc
   ·simp[go_sem];refine T.dr 13 fun K hK=> ?_;simp[go_sem,aZ (i:=i) (by omega)];repeat refine⟨by omega,?_⟩
    refine hK _ ?_;refine go true ?_;simp[go_sem];refine aH [0,3,4,13,14,15] ?_ ?_<;>intro c3 d3
    ·have hz:dQ n g=5:=by rw[hx,hst,if_neg (by simp[d2]),if_pos (by omega)]
     simp[go_sem];rw[hz];exact aj sc
    ·simp[go_sem];refine gy (α:=Nat) true [0,3,4,13,14,15,39,40,41] (fun q=>[(41,.d (I q))]) (fun q=>σ++[.var ((g i).enc.map .d)]) (fun q=>q<=(g i).nc/\∀k,k<q->oD (g i).gc ((g i).gc k).Unit (g i).nc<=1/\∀x,x<i->oD (g x).gc ((g i).gc k).Unit (g x).nc=0) (fun q=>(g i).nc-q) 0 ?_ (hx:=⟨by simp,fun k hk=>absurd hk (Nat.not_lt_zero _)⟩);rintro q ⟨hq,hy⟩;simp[go_sem];refine aH [0,3,4,13,14,15,39,40,41] ?_ ?_<;>intro c4 d4
     ·simp[go_sem];repeat refine⟨by omega,?_⟩
      refine aW.mk (yt _ (g i) ((g i).gc q).Unit (by have:=hN i d1;omega)) ?_;simp[go_sem];refine aH [0,3,4,7,13,14,15,39,40,41] ?_ ?_<;>intro c5 d5
      ·have hz:dQ n g=6:=by rw[hx,hst,if_neg (by simp[d2]),if_neg (by omega),Rh hS d4 (.inl (by omega))]
       simp[go_sem];rw[hz];exact aj sc
      ·simp[go_sem];repeat refine⟨by omega,?_⟩
       refine gy (α:=Nat) true [0,3,4,7,13,14,15,39,40,41,52,53,54] (fun y=>[(54,.d (I y))]) (fun y=>σ++[.var ((g i).enc.map .d),.var (((g i).gc q).enc.map .d)]) (fun y=>y<=i/\∀x,x<y->oD (g x).gc ((g i).gc q).Unit (g x).nc=0) (fun y=>i-y) 0 ?_ (hx:=⟨by simp,fun x hx=>absurd hx (Nat.not_lt_zero _)⟩);rintro y ⟨hyi,hv⟩;simp[go_sem];refine aH [0,3,4,7,13,14,15,39,40,41,52,53,54] ?_ ?_<;>intro c6 d6
       ·simp[go_sem];repeat refine⟨by omega,?_⟩
        refine aW.mk (yt _ (g y) ((g i).gc q).Unit (by have:=hN y (by omega);omega)) ?_;simp[go_sem];refine aH [0,3,4,7,13,14,15,39,40,41,52,53,54] ?_ ?_<;>intro c7 d7
        ·have hz:dQ n g=6:=by rw[hx,hst,if_neg (by simp[d2]),if_neg (by omega),Rh hS d4 (.inr ⟨y,d6,by omega⟩)]
         simp[go_sem];rw[hz];exact aj sc
        ·simp(disch:=first|omega|simp) [go_sem,aA];refine dB (y+1) ⟨by omega,fun x hx=>by by_cases h:x=y;(subst h;omega);exact hv x (by omega)⟩ (h:=by simp[go_sem]<;>omega) (hσ:=by simp[go_sem]) (hb:=au (by simp[go_sem]))
       ·simp[go_sem];refine go true ?_;simp(disch:=first|omega|simp) [go_sem];refine dB (q+1) ⟨by omega,fun k hk=>by by_cases h:k=q;(subst h;exact⟨by omega,fun x hx=>hv x (by omega)⟩);exact hy k (by omega)⟩ (h:=by simp[go_sem,wS q (by have:=hN i d1;omega)]<;>omega) (hσ:=by simp[go_sem]) (hb:=au (by simp[go_sem]))
     ·obtain⟨XZ,hcg,hS2⟩:=twice_no hS (fun k hk=>hy k (by omega));simp[go_sem];refine go true ?_;simp(disch:=first|omega|simp) [go_sem,aA];refine dB (i+1) ⟨by omega,XZ,hS2,by rw[hx,hst,if_neg (by simp[d2]),if_neg (by omega),hcg]⟩ (h:=by simp[go_sem]<;>omega)
  ·have hz:dQ n g=0:=by rw[hx,show n-i=0 by omega,Dl]
   simp[go_sem];refine go true ?_;simp[go_sem];rw[hz];exact aj sc
theorem zx(c:Option Nat)(n:Nat)(g:Nat->Bx)(k:Int)(hn:n<1000000000):ay prog 33 [.d (SL c 5 Bx.enc n g),.d (I k)] σ (.d (I (qc n g k))):=by
 refine ay.bs true func33 fun hwf=> ?_;refine gy (α:=Nat) true [1,7,8,9] (fun i=>[(9,.d (I i))]) (fun i=>_) (fun i=>i<=n/\qc n g k=idxFrom (fun b:Bx=>b.ID==k) ((lst n g).drop i) i) (fun i=>n-i) 0 ?_ (hx:=⟨by omega,rfl⟩);rintro i ⟨hi,hx⟩;simp[go_sem];refine aH [1,7,8,9] ?_ ?_<;>intro c0 d0
 ·rw[fE d0,idxFrom] at hx;simp[go_sem];repeat refine⟨by omega,?_⟩
  refine aH [1,5,7,8,9] ?_ ?_<;>intro c1 d1
  ·rw[if_pos (by simpa using d1)] at hx;simp[go_sem];rw[hx];exact aj sc
  ·simp(disch:=first|omega|simp) [go_sem,aA];refine dB (i+1) ⟨by omega,by rw[hx,if_neg (by simpa using d1)]⟩ (h:=by simp[go_sem]<;>omega)
 ·rw[fF d0,idxFrom] at hx;simp[go_sem];refine go true (sm ?_);rw[hx];exact aj sc
theorem NI(c:Option Nat)(n:Nat)(g:Nat->nU)(k:Int)(hn:n<1000000000):ay prog 86 [.d (SL c 4 nU.enc n g),.d (I k)] σ (.d (I (uU n g k))):=by
 refine ay.bs true func86 fun hwf=> ?_;refine gy (α:=Nat) true [1,7,8,9] (fun i=>[(9,.d (I i))]) (fun i=>_) (fun i=>i<=n/\uU n g k=idxFrom (fun s:nU=>s.ID==k) ((lst n g).drop i) i) (fun i=>n-i) 0 ?_ (hx:=⟨by omega,rfl⟩);rintro i ⟨hi,hx⟩;simp[go_sem];refine aH [1,7,8,9] ?_ ?_<;>intro c0 d0
 ·rw[fE d0,idxFrom] at hx;simp[go_sem];repeat refine⟨by omega,?_⟩
  refine aH [1,5,7,8,9] ?_ ?_<;>intro c1 d1
  ·rw[if_pos (by simpa using d1)] at hx;simp[go_sem];rw[hx];exact aj sc
  ·simp(disch:=first|omega|simp) [go_sem,aA];refine dB (i+1) ⟨by omega,by rw[hx,if_neg (by simpa using d1)]⟩ (h:=by simp[go_sem]<;>omega)
 ·rw[fF d0,idxFrom] at hx;simp[go_sem];refine go true (sm ?_);rw[hx];exact aj sc
theorem Il(c:Option Nat)(n:Nat)(g:Nat->nU)(hn:n<1000000000):ay prog 39 [.d (SL c 4 nU.enc n g)] σ (.d (I (eF n g))):=by
 refine ay.bs true func39 fun hwf=> ?_;refine aH [0] ?_ ?_<;>intro c0 d0
 ·have hz:eF n g=8:=by unfold eF;rw[if_pos (by omega)]
  simp[go_sem];rw[hz];exact aj sc
 ·have hz:eF n g=aI (qx g) 0 (n-0):=by unfold eF;rw[if_neg (by omega)];rfl
  simp[go_sem];refine gy (α:=Nat) true [0,8,9,10] (fun i=>[(10,.d (I i))]) (fun i=>_) (fun i=>i<=n/\eF n g=aI (qx g) i (n-i)) (fun i=>n-i) 0 ?_ (hx:=⟨by simp,by simpa using hz⟩);rintro i ⟨hi,hx⟩;simp[go_sem];refine aH [0,8,9,10] ?_ ?_<;>intro c1 d1
  ·have hst:=l9 (e:=qx g) d1;simp[go_sem];repeat refine⟨by omega,?_⟩
   refine aH [0,3,4,8,9,10] ?_ ?_<;>intro c2 d2
   ·have hk:sW (g i)=false:=by
     cases h:sW (g i) with
     |false=>rfl
     |true=>simp only[sW,Bool.and_eq_true,eH] at h;omega
    have he:qx g i=2:=by unfold qx;rw[if_pos hk]
    simp[go_sem];rw[hx,hst,he];exact aj sc
   ·have hk:sW (g i)=true:=by simp only[sW,Bool.and_eq_true,eH];omega
    simp[go_sem];refine T.dr 13 fun K hK=> ?_;simp[go_sem,aZ (i:=i) (by omega)];repeat refine⟨by omega,?_⟩
    refine hK _ ?_;refine go true ?_;simp[go_sem];refine aH [0,8,9,10] ?_ ?_<;>intro c3 d3
    ·have he:qx g i=5:=by unfold qx;rw[if_neg (by simp[hk]),if_pos (by omega)]
     simp[go_sem];rw[hx,hst,he];exact aj sc
    ·have he:qx g i=0:=by unfold qx;rw[if_neg (by simp[hk]),if_neg (by omega)]
     simp(disch:=first|omega|simp) [go_sem,aA];refine dB (i+1) ⟨by omega,by rw[hx,hst,if_neg (by simp[he])]⟩ (h:=by simp[go_sem]<;>omega)
  ·have hz:eF n g=0:=by rw[hx,oG (by omega)]
   simp[go_sem];refine go true ?_;simp[go_sem];rw[hz];exact aj sc
theorem yj(p:sH):ay prog 140 [.agg (p.enc.map .d)] σ (.d (B (dI p))):=by
 refine ay.bs true func140 fun hwf=> ?_;refine aH [1] ?_ ?_<;>intro c0 d0
 ·simp[go_sem];refine aj (sm ?_);unfold dI jS jy
  (repeat' split)<;>simp_all<;>omega
 ·simp[go_sem];refine aj (sm ?_);unfold dI jS jy
  (repeat' split)<;>simp_all<;>omega
theorem Qu(c:Option Nat)(n:Nat)(g:Nat->fJ)(b:Int)(hn:n<1000000000):ay prog 141 [.d (SL c 6 fJ.enc n g),.d (I b)] σ (.agg ((iw g b n).enc.map .d)):=by
 refine ay.bs true func141 fun hwf=> ?_;refine zJ (α:=Nat) true [1,4,5,9,10,11] (fun i=>[(11,.d (I i))]) (fun i=>σ++[.var [.d (I 0),.d (I 0)],.var ((iw g b i).enc.map .d)]) (fun i=>i<=n) (fun i=>n-i) 0 (by simp[go_sem]) (rfl) (by simp) ?_;rintro i hi;simp[go_sem];refine aH [1,4,5,9,10,11] ?_ ?_<;>intro c0 d0
 ·simp[go_sem];repeat refine⟨by omega,?_⟩
  refine aH [1,4,5,7,9,10,11] ?_ ?_<;>intro c1 d1
  ·have hs:iw g b (i+1)=(g i).To:=by rw[iw,if_pos d1]
   simp(disch:=first|omega|simp) [go_sem,aA];refine dB (i+1) (by omega) (h:=by simp[go_sem]<;>omega) (hσ:=by simp[go_sem,hs]) (hb:=au (by simp[go_sem]))
  ·have hs:iw g b (i+1)=iw g b i:=by rw[iw,if_neg d1]
   simp(disch:=first|omega|simp) [go_sem,aA];refine dB (i+1) (by omega) (h:=by simp[go_sem]<;>omega) (hσ:=by simp[go_sem,hs]) (hb:=au (by simp[go_sem]))
 ·obtain rfl:i=n:=by omega
  simp[go_sem];refine go true (sm ?_);exact aj so
theorem Qv(c:Option Nat)(n:Nat)(g:Nat->fJ)(m:fJ)(hn:n<1000000000):ay prog 80 [.d (SL c 6 fJ.enc n g),.agg (m.enc.map .d)] σ (.d (I (tu n g m))):=by
 have hwp:=aZ (i:=n) (by omega);refine ay.bd true func80 fun hwf=> ?_;simp[go_sem];refine fA.mk' (.d (B (dI m.From))) (fun _=>yj _ m.From) ?_;simp[go_sem];refine fA.mk' (.d (B (dI m.To))) (fun _=>yj _ m.To) ?_;simp[go_sem];refine aH [0,3] ?_ ?_<;>intro c0 d0
 ·have hz:tu n g m=2:=by
   unfold tu kJ jS jy;rw[if_pos];cases h3:dI m.From<;>cases h4:dI m.To<;>simp_all<;>omega
  simp[go_sem];rw[hz];exact aj sc
 ·have hf:(kJ m.Day&&jS m.Box&&dI m.From&&dI m.To)=true:=by
   unfold kJ jS jy;cases h3:dI m.From<;>cases h4:dI m.To<;>simp_all<;>omega
  simp[go_sem];refine aH [0,3] ?_ ?_<;>intro c1 d1
  ·have hz:tu n g m=1:=by unfold tu;rw[if_neg (by simp[hf]),if_pos (by rcases h1:m.From with⟨a,b⟩;rcases h2:m.To with⟨a',b'⟩;simp_all)]
   simp[go_sem];rw[hz];exact aj sc
  ·have hne:m.From≠m.To:=fun h=>by rw[h] at d1;simp at d1
   simp[go_sem];refine T.dr 15 fun K hK=> ?_;simp[go_sem,hwp];repeat refine⟨by omega,?_⟩
   refine hK _ ?_;refine go true ?_;simp[go_sem];refine aH [0,3] ?_ ?_<;>intro c2 d2
   ·have hz:tu n g m=5:=by unfold tu;rw[if_neg (by simp[hf]),if_neg hne,if_pos (by omega)]
    simp[go_sem];rw[hz];exact aj sc
   ·simp[go_sem];refine T.dr 7 fun K hK=> ?_;simp[go_sem];refine dS.mk (Qu _ c n g m.Box hn) ?_;simp[go_sem];refine hK _ ?_;refine go true ?_;simp[go_sem];refine aH [] ?_ ?_<;>intro c3 d3
    ·have hz:tu n g m=10:=by unfold tu;rw[if_neg (by simp[hf]),if_neg hne,if_neg (by omega),if_pos (by intro h;rw[h] at d3;simp at d3)]
     simp[go_sem];rw[hz];exact aj sc
    ·have hpl:iw g m.Box n=m.From:=by rcases h1:m.From with⟨a,b⟩;rcases h2:iw g m.Box n with⟨a',b'⟩;simp_all
     have hz:tu n g m=0:=by unfold tu;rw[if_neg (by simp[hf]),if_neg hne,if_neg (by omega),if_neg (by simp[hpl])]
     simp[go_sem];rw[hz];exact aj sc
theorem NH(c:Option Nat)(n:Nat)(g:Nat->fJ)(hn:n<1000000000):ay prog 40 [.d (SL c 6 fJ.enc n g)] σ (.d (I (dL n g))):=by
 refine ay.bs true func40 fun hwf=> ?_;refine aH [0] ?_ ?_<;>intro c0 d0
 ·have hz:dL n g=8:=by unfold dL bD;rw[if_pos (by omega)]
  simp[go_sem];rw[hz];exact aj sc
 ·have hz:dL n g=(dP g 0 xq (n-0)).1:=by unfold dL bD;rw[if_neg (by omega)];rfl
  simp[go_sem];refine gy (α:=Nat) true [0,9,10,11] (fun i=>[(11,.d (I i))]) (fun i=>_) (fun i=>i<=n/\∃s,J7 g i s/\dL n g=(dP g i s (n-i)).1) (fun i=>n-i) 0 ?_ (hx:=⟨by simp,xq,ledAt_0 g,by simpa using hz⟩);rintro i ⟨hi,s,hS,hx⟩;simp[go_sem];refine aH [0,9,10,11] ?_ ?_<;>intro c1 d1
  ·have hst:=Oq (g:=g) (s:=s) d1;simp[go_sem];repeat refine⟨by omega,?_⟩
   refine T.dr 5 fun K hK=>sm ?_;repeat refine⟨by omega,?_⟩
   refine dS.mk (Qv _ _ i g (g i) (by omega)) (sm ?_);refine hK _ ?_;refine go true (sm ?_);refine aH [0,5,9,10,11] ?_ ?_<;>intro c2 d2
   ·have hz:dL n g=tu i g (g i):=by rw[hx,hst,if_pos (by rw[Lp hS];simpa using d2),Lp hS]
    simp[go_sem];rw[hz];exact aj sc
   ·simp(disch:=first|omega|simp) [go_sem,aA];refine dB (i+1) ⟨by omega,oz s (g i),OD hS (by rw[Lp hS];simpa using d2),by rw[hx,hst,if_neg (by rw[Lp hS];simpa using d2)]⟩ (h:=by simp[go_sem]<;>omega)
  ·have hz:dL n g=0:=by rw[hx,show n-i=0 by omega,dP]
   simp[go_sem];refine go true (sm ?_);rw[hz];exact aj sc
end Go.Proofs.YthlhlnbcjlpigaaGreatDoor
