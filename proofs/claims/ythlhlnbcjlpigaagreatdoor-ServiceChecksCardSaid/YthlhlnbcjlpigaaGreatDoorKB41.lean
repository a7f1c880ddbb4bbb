/- Contracts and lemmas, joined out of smaller texts by a program; no conditions. -/
import Derived.Test.YthlhlnbcjlpigaaGreatDoorKB39
import Derived.Test.YthlhlnbcjlpigaaGreatDoorKB40
set_option linter.unusedVariables false
set_option linter.unusedSimpArgs false
set_option maxHeartbeats 1000000
set_option maxRecDepth 100000
namespace Go.Proofs.YthlhlnbcjlpigaaGreatDoor
open Go.aU Go.bY Go.Proofs.Tryz
variable (σ : List aC)
theorem rForm_eq(r:eU):(jS r.ID&&jS r.Reader&&jS r.Unit&&jS r.Box&&kJ r.Day&&decide (1<=r.State)&&decide (r.State<=5)&&decide (r.Day<=r.Changed)&&decide (r.Changed<=1048575)&&(r.State !=1||r.Changed==r.Day))=wP r:=by
 unfold wP;cases h:kJ r.Day
 ·simp
 ·have h1:0<=r.Day:=by unfold kJ at h;rw[eH] at h;exact h.1
  by_cases h2:r.Day<=r.Changed
  ·have:kJ r.Changed=decide (r.Changed<=1048575):=by unfold kJ jy;rw[Bool.eq_iff_iff];simp;omega
   rw[this]
  ·simp[h2]
theorem tq(n:Int):ay prog 142 [.d (I n)] σ (.d (B (jS n))):=by
 refine ay.bs true func142 fun hwf=> ?_;refine aj ?_;simp[go_sem,jS,jy]<;>omega
theorem Um(n:Int):ay prog 143 [.d (I n)] σ (.d (B (kJ n))):=by
 refine ay.bs true func143 fun hwf=> ?_;refine aj ?_;simp[go_sem,kJ,jy]<;>omega
theorem Dz(r:eU):ay prog 82 [.agg (r.enc.map .d)] σ (.d (B (mQ r))):=by
 refine ay.bs true func82 fun hwf=> ?_;refine aj ?_;simp[go_sem,mQ]<;>omega
theorem Qs(r:eU):ay prog 81 [.agg (r.enc.map .d)] σ (.d (B (wP r))):=by
 refine ay.bs true func81 fun hwf=> ?_;refine aW.mk (tq _ _) (sm ?_);refine fA.mk (tq _ _) (sm ?_);refine fA.mk (tq _ _) (sm ?_);refine fA.mk (tq _ _) (sm ?_);refine fA.mk (Um _ _) (sm ?_);refine aj (sm ?_);exact rForm_eq r
theorem NG(c:Option Nat)(n:Nat)(g:Nat->eU)(hn:n<1000000000):ay prog 41 [.d (SL c 7 eU.enc n g)] σ (.d (I (fO n g))):=by
 refine ay.bs true func41 fun hwf=> ?_;refine aH [0] ?_ ?_<;>intro c0 d0
 ·have hz:fO n g=8:=by unfold fO;rw[if_pos (by omega)]
  simp[go_sem];rw[hz];exact aj sc
 ·have hz:fO n g=aI (mD g) 0 (n-0):=by unfold fO;rw[if_neg (by omega)];rfl
  simp[go_sem];refine gy (α:=Nat) true [0,12,13,14] (fun i=>[(14,.d (I i))]) (fun i=>_) (fun i=>i<=n/\fO n g=aI (mD g) i (n-i)) (fun i=>n-i) 0 ?_ (hx:=⟨by simp,by simpa using hz⟩);rintro i ⟨hi,hx⟩;simp[go_sem];refine aH [0,12,13,14] ?_ ?_<;>intro c1 d1
  ·have hst:=l9 (e:=mD g) d1;simp[go_sem];repeat refine⟨by omega,?_⟩
   refine aW.mk (Qs _ (g i)) ?_;simp[go_sem];refine aH [0,3,4,12,13,14] ?_ ?_<;>intro c2 d2
   ·have he:mD g i=2:=by unfold mD;rw[if_pos (by simpa using d2)]
    simp[go_sem];rw[hx,hst,he];exact aj sc
   ·simp[go_sem];refine T.dr 24 fun K hK=> ?_;simp[go_sem,aZ (i:=i) (by omega)];repeat refine⟨by omega,?_⟩
    refine hK _ ?_;refine go true ?_;simp[go_sem];refine aH [0,3,4,12,13,14] ?_ ?_<;>intro c3 d3
    ·have he:mD g i=5:=by unfold mD;rw[if_neg (by simpa using d2),if_pos (by omega)]
     simp[go_sem];rw[hx,hst,he];exact aj sc
    ·simp[go_sem];repeat refine⟨by omega,?_⟩
     refine gy (α:=Nat) true [0,3,4,12,13,14,48,49,50] (fun q=>[(50,.d (I q))]) (fun q=>_) (fun q=>q<=i/\∀k,k<q->(g i).State=2->F7 (g i).Box (g k)=false) (fun q=>i-q) 0 ?_ (hx:=⟨by omega,fun k hk=>absurd hk (Nat.not_lt_zero _)⟩);rintro q ⟨hq,hy⟩;simp[go_sem];refine aH [0,3,4,12,13,14,48,49,50] ?_ ?_<;>intro c4 d4
     ·simp[go_sem];repeat refine⟨by omega,?_⟩
      refine aH [0,3,4,12,13,14,48,49,50] ?_ ?_<;>intro c5 d5
      ·have he:mD g i=11:=by unfold mD;rw[if_neg (by simpa using d2),if_neg (by omega),if_pos ⟨by omega,jC.2 ⟨q,d4,by simp[F7];omega⟩⟩]
       simp[go_sem];rw[hx,hst,he];exact aj sc
      ·simp(disch:=first|omega|simp) [go_sem,aA];refine dB (q+1) ⟨by omega,fun k hk h9=>by by_cases h:k=q;(subst h;simp[F7];omega);exact hy k (by omega) h9⟩ (h:=by simp[go_sem]<;>omega)
     ·simp[go_sem];refine go true ?_;simp[go_sem];repeat refine⟨by omega,?_⟩
      refine gy (α:=Nat) true [0,4,12,13,14,72,73,74] (fun y=>[(74,.d (I y))]) (fun y=>_) (fun y=>y<=i/\∀k,k<y->mQ (g i)=true->Vq (g i).Reader (g i).Unit (g k)=false) (fun y=>i-y) 0 ?_ (hx:=⟨by omega,fun k hk=>absurd hk (Nat.not_lt_zero _)⟩);rintro y ⟨hyi,hv⟩;simp[go_sem];refine aH [0,4,12,13,14,72,73,74] ?_ ?_<;>intro c6 d6
      ·simp[go_sem];repeat refine⟨by omega,?_⟩
       refine aW.mk (Dz _ (g y)) ?_;simp[go_sem];refine fA.mk' (.d (B (mQ (g i)))) (fun _=>Dz _ (g i)) ?_;simp[go_sem];refine aH [0,4,12,13,14,72,73,74] ?_ ?_<;>intro c7 d7
       ·have he:mD g i=6:=by unfold mD;rw[if_neg (by simpa using d2),if_neg (by omega),if_neg (by rintro⟨h1,h2⟩;obtain⟨k,h3,h4⟩:=jC.1 h2;exact absurd h4 (by rw[hy k (by omega) h1];simp)),if_pos (by simp_all;exact jC.2 ⟨y,d6,by simp_all [Vq]⟩)]
        simp[go_sem];rw[hx,hst,he];exact aj sc
       ·simp(disch:=first|omega|simp) [go_sem,aA];refine dB (y+1) ⟨by omega,fun k hk h9=>by by_cases h:k=y;(subst h;simp_all [Vq]);exact hv k (by omega) h9⟩ (h:=by simp[go_sem]<;>omega)
      ·have he:mD g i=0:=by
        unfold mD;rw[if_neg (by simpa using d2),if_neg (by omega),if_neg (by rintro⟨h1,h2⟩;obtain⟨k,h3,h4⟩:=jC.1 h2;exact absurd h4 (by rw[hy k (by omega) h1];simp)),if_neg (by rintro⟨h1,h2⟩;obtain⟨k,h3,h4⟩:=jC.1 h2;exact absurd h4 (by rw[hv k (by omega) h1];simp))]
       simp[go_sem];refine go true ?_;simp(disch:=first|omega|simp) [go_sem,aA];refine dB (i+1) ⟨by omega,by rw[hx,hst,if_neg (by simp[he])]⟩ (h:=by simp[go_sem]<;>omega)
  ·have hz:fO n g=0:=by rw[hx,oG (by omega)]
   simp[go_sem];refine go true ?_;simp[go_sem];rw[hz];exact aj sc
theorem Dy(c:Option Nat)(n:Nat)(g:Nat->iy)(d:Int)(hn:n<1000000000):ay prog 146 [.d (SL c 4 iy.enc n g),.d (I d)] σ (.d (I (gq g d n))):=by
 refine ay.bs true func146 fun hwf=> ?_;refine zJ (α:=Nat) true [1,5,8,9,10] (fun i=>[(10,.d (I i)),(5,.d (I (gq g d i)))]) (fun i=>_) (fun i=>i<=n) (fun i=>n-i) 0 (by simp[go_sem,gq]) (rfl) (by simp) ?_;rintro i hi;simp[go_sem];refine aH [1,5,8,9,10] ?_ ?_<;>intro c0 d0
 ·simp[go_sem];repeat refine⟨by omega,?_⟩
  refine aW.mk (iZ _ (g i).In) (sm ?_);refine aH [1,5,8,9,10] ?_ ?_<;>intro c1 d1
  ·have hs:gq g d (i+1)=gq g d i+1:=by rw[gq,if_pos (by simpa[XM,show nN=qW from rfl] using c1)]
   have hw1:=wrap_succ (i:=gq g d i) (by have:=zK g d i;omega);simp(disch:=first|omega|simp) [go_sem,hw1,aA];refine dB (i+1) (by omega) (h:=by simp[go_sem,hs]<;>omega)
  ·have hs:gq g d (i+1)=gq g d i:=by rw[gq,if_neg (by simpa[XM,show nN=qW from rfl] using c1)]
   simp(disch:=first|omega|simp) [go_sem,aA];refine dB (i+1) (by omega) (h:=by simp[go_sem,hs]<;>omega)
 ·obtain rfl:i=n:=by omega
  simp[go_sem];refine go true (sm ?_);exact aj so
theorem Qq(a b:Span):ay prog 145 [.agg (a.enc.map .d),.agg (b.enc.map .d)] σ (.d (B (DL a b))):=by
 refine ay.bs true func145 fun hwf=> ?_;refine aj ?_;simp[go_sem,DL]<;>omega
theorem Qr(k:Int)(c:Option Nat)(n:Nat)(g:Nat->iy)(b:iy)(hn:n<100000000)(hs: ∀i,i<n->nN (g i).In=true):ay prog 83 [.d (I k),.d (SL c 4 iy.enc n g),.agg (b.enc.map .d)] σ (.d (I (yN k n g b))):=by
 have hwp:=aZ (i:=n) (by omega);have hfe:=full_eq (k:=k) (s:=b.In) hs;have hw0:=wrap_succ (i:=gq g b.In.From n) (by have:=zK g b.In.From n;omega);refine ay.bd true func83 fun hwf=> ?_;simp[go_sem];refine fA.mk' (.d (B (nN b.In))) (fun _=>iZ _ b.In) ?_;simp[go_sem];refine aH [0,1,5] ?_ ?_<;>intro c0 d0
 ·have hz:yN k n g b=2:=by unfold yN jS jy;rw[if_pos (by cases h:nN b.In<;>simp_all<;>omega)]
  simp[go_sem];rw[hz];exact aj sc
 ·have hz0: ¬(jS b.ID=false\/jS b.Reader=false\/nN b.In=false):=by unfold jS jy;cases h:nN b.In<;>simp_all<;>omega
  simp[go_sem];refine T.dr 15 fun K hK=> ?_;simp[go_sem,hwp];repeat refine⟨by omega,?_⟩
  refine hK _ ?_;refine go true ?_;simp[go_sem];refine aH [0,1,5] ?_ ?_<;>intro c1 d1
  ·have hz:yN k n g b=5:=by unfold yN;rw[if_neg hz0,if_pos (by omega)]
   simp[go_sem];rw[hz];exact aj sc
  ·simp[go_sem];refine zJ (α:=Nat) true [0,1,5,50,51,52] (fun q=>[(52,.d (I q))]) (fun q=>_) (fun q=>q<=n/\∀j,j<q->(g j).Reader=b.Reader->DL (g j).In b.In=false) (fun q=>n-q) 0 (by simp[go_sem]) (rfl) (⟨by omega,fun k hk=>absurd hk (Nat.not_lt_zero _)⟩) ?_;rintro q ⟨hq,hy⟩;simp[go_sem];refine aH [0,1,5,50,51,52] ?_ ?_<;>intro c2 d2
   ·simp[go_sem];repeat refine⟨by omega,?_⟩
    refine fA.mk' (.d (B (DL (g q).In b.In))) (fun _=>Qq _ (g q).In b.In) ?_;simp[go_sem];refine aH [0,1,5,50,51,52] ?_ ?_<;>intro c3 d3
    ·have hz:yN k n g b=6:=by unfold yN;rw[if_neg hz0,if_neg (by omega),if_pos (by unfold Tj;exact jC.2 ⟨q,d2,by simpa using d3⟩)]
     simp[go_sem];rw[hz];exact aj sc
    ·simp(disch:=first|omega|simp) [go_sem,aA];refine dB (q+1) ⟨by omega,fun j hj h9=>by by_cases h:j=q;(subst h;simpa[h9] using d3);exact hy j (by omega) h9⟩ (h:=by simp[go_sem]<;>omega)
   ·have hbz: ¬Tj n g b.Reader b.In=true:=by unfold Tj;rw[Bool.not_eq_true];exact any_no.2 fun j hj=>by by_cases h:(g j).Reader=b.Reader;(simp[h,hy j (by omega) h]);(simp[h])
    simp[go_sem];refine go true ?_;simp(disch:=first|omega|simp) [go_sem];refine aW.mk (Dy _ c n g b.In.From (by omega)) ?_;simp(disch:=first|omega|simp) [go_sem,hw0];refine aH [0,1,5] ?_ ?_<;>intro c4 d4
    ·have hz:yN k n g b=12:=by unfold yN;rw[if_neg hz0,if_neg (by omega),if_neg hbz,if_pos (by rw[hfe];unfold Xl;rw[Bool.or_eq_true];left;simp;omega)]
     simp[go_sem];rw[hz];exact aj sc
    ·simp[go_sem];refine zJ (α:=Nat) true [0,1,5,77,78,79] (fun y=>[(79,.d (I y))]) (fun y=>_) (fun y=>y<=n/\∀j,j<y->b.In.From<=(g j).In.From->(g j).In.From<b.In.Until->(gq g (g j).In.From n:Int)<k) (fun y=>n-y) 0 (by simp[go_sem]) (rfl) (⟨by omega,fun k hk=>absurd hk (Nat.not_lt_zero _)⟩) ?_;rintro y ⟨hyn,hv⟩;simp[go_sem];refine aH [0,1,5,77,78,79] ?_ ?_<;>intro c5 d5
     ·have hw2:=wrap_succ (i:=gq g (g y).In.From n) (by have:=zK g (g y).In.From n;omega);simp(disch:=first|omega|simp) [go_sem];repeat refine⟨by omega,?_⟩
      refine fA.mk' (.d (I (gq g (g y).In.From n))) (fun _=>Dy _ c n g (g y).In.From (by omega)) ?_;simp(disch:=first|omega|simp) [go_sem,hw2];refine aH [0,1,5,77,78,79] ?_ ?_<;>intro c6 d6
      ·have hz:yN k n g b=12:=by unfold yN;rw[if_neg hz0,if_neg (by omega),if_neg hbz,if_pos (by rw[hfe];unfold Xl;rw[Bool.or_eq_true];right;exact jC.2 ⟨y,d5,by simp;omega⟩)]
       simp[go_sem];rw[hz];exact aj sc
      ·simp(disch:=first|omega|simp) [go_sem,aA];refine dB (y+1) ⟨by omega,fun j hj h1 h2=>by by_cases h:j=y;(subst h;have:=d6 h1 h2;omega);exact hv j (by omega) h1 h2⟩ (h:=by simp[go_sem]<;>omega)
     ·have hz:yN k n g b=0:=by
       unfold yN;rw[if_neg hz0,if_neg (by omega),if_neg hbz,if_neg];rw[hfe];unfold Xl;rw[Bool.or_eq_true];rintro(h|h)
       ·simp at h;omega
       ·obtain⟨j,hj,h⟩:=jC.1 h;simp at h;have:=hv j (by omega) h.1.1 h.1.2;omega
      simp[go_sem];refine go true ?_;simp[go_sem];rw[hz];exact aj sc
theorem ND(k:Int)(c:Option Nat)(n:Nat)(g:Nat->iy)(hn:n<100000000):ay prog 42 [.d (I k),.d (SL c 4 iy.enc n g)] σ (.d (I (je k n g))):=by
 refine ay.bs true func42 fun hwf=> ?_;refine aH [0,1] ?_ ?_<;>intro c0 d0
 ·have hz:je k n g=1:=by unfold je;rw[if_pos (by omega)]
  simp[go_sem];rw[hz];exact aj sc
 ·simp[go_sem];refine aH [0,1] ?_ ?_<;>intro c1 d1
  ·have hz:je k n g=8:=by unfold je;rw[if_neg (by omega),if_pos (by omega)]
   simp[go_sem];rw[hz];exact aj sc
  ·have hz:je k n g=aI (fun i=>yN k i g (g i)) 0 (n-0):=by unfold je;rw[if_neg (by omega),if_neg (by omega)];rfl
   simp[go_sem];refine gy (α:=Nat) true [0,1,17,18,19] (fun i=>[(19,.d (I i))]) (fun i=>_) (fun i=>i<=n/\je k n g=aI (fun i=>yN k i g (g i)) i (n-i)/\∀j,j<i->nN (g j).In=true) (fun i=>n-i) 0 ?_ (hx:=⟨by omega,hz,fun k hk=>absurd hk (Nat.not_lt_zero _)⟩);rintro i ⟨hi,hx,hs⟩;simp[go_sem];refine aH [0,1,17,18,19] ?_ ?_<;>intro c2 d2
   ·have hst:=l9 (e:=fun i=>yN k i g (g i)) d2;simp[go_sem];repeat refine⟨by omega,?_⟩
    refine T.dr 6 fun K hK=>sm ?_;repeat refine⟨by omega,?_⟩
    refine dS.mk (Qr _ k _ i g (g i) (by omega) hs) (sm ?_);refine hK _ ?_;refine go true (sm ?_);refine aH [0,1,7,17,18,19] ?_ ?_<;>intro c3 d3
    ·have hz1:je k n g=yN k i g (g i):=by rw[hx,hst,if_pos (by simpa using d3)]
     simp[go_sem];rw[hz1];exact aj sc
    ·simp(disch:=first|omega|simp) [go_sem,aA];refine dB (i+1) ⟨by omega,by rw[hx,hst,if_neg (by simpa using d3)],fun j hj=>by by_cases h:j=i;(subst h;exact bkE_spn (by simpa using d3));exact hs j (by omega)⟩ (h:=by simp[go_sem]<;>omega)
   ·have hz1:je k n g=0:=by rw[hx,oG (by omega)]
    simp[go_sem];refine go true (sm ?_);rw[hz1];exact aj sc
end Go.Proofs.YthlhlnbcjlpigaaGreatDoor
