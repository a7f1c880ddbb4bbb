/- Contracts and lemmas, joined out of smaller texts by a program; no conditions. -/
import Derived.Test.YthlhlnbcjlpigaaGreatDoorKB42
set_option linter.unusedVariables false
set_option linter.unusedSimpArgs false
set_option maxHeartbeats 1000000
set_option maxRecDepth 100000
namespace Go.Proofs.YthlhlnbcjlpigaaGreatDoor
open Go.aU Go.bY Go.Proofs.Tryz
variable (σ : List aC)
theorem pol_parts{p:qw}(h:fP p=0):check p.nc p.gc=0/\jM p.np p.gp=0/\kR p.na p.ga=0/\lJ p.nm p.gm=0/\0<=p.jg/\p.jg<=200/\jL p=0:=by
 unfold fP at h;split at h
 ·exact absurd h (by assumption)
 rename_i h1;split at h
 ·omega
 have h1:=Decidable.not_not.1 h1;exact⟨iM h1 0 (by omega) (by omega),iM h1 1 (by omega) (by omega),iM h1 2 (by omega) (by omega),iM h1 3 (by omega) (by omega),by omega,by omega,h⟩
theorem Ky(c:Option Nat)(n:Nat)(g:Nat->Int)(hn:n<1000000000):ay prog 136 [.d (SL c 1 encI n g)] σ (.d (B (lV g n))):=by
 refine ay.bs true func136 fun hwf=> ?_;refine gy (α:=Nat) true [0,5,6] (fun i=>[(6,.d (I i))]) (fun i=>_) (fun i=>i<=n/\∀q,0<q->q<i->g (q-1)<g q) (fun i=>n-i) 0 ?_;rintro i ⟨hi,hx⟩;simp[go_sem];refine aH [0,5,6] ?_ ?_<;>intro c0 d0
 ·simp[go_sem];refine T.dr 14 fun K hK=> ?_;simp[go_sem,aZ (i:=i) (by omega)];repeat refine⟨by omega,?_⟩
  refine hK _ ?_;refine go true ?_;simp[go_sem];refine aH [0,5,6] ?_ ?_<;>intro c1 d1
  ·simp[go_sem];rw[P6 d0 d1.1 d1.2];exact aj sc
  ·simp(disch:=first|omega|simp) [go_sem,aA];refine dB (i+1) ⟨by omega,AY hx d1⟩ (h:=by simp[go_sem]<;>omega)
 ·obtain rfl:i=n:=by omega
  simp[go_sem];refine go true ?_;simp[go_sem];rw[Hf hx];exact aj sc
theorem Fz(p:qw)(hp:jJ p)(hc:jM p.np p.gp=0):ay prog 77 [.agg (p.enc.map .d)] σ (.d (I (jL p))):=by
 refine ay.bs true func77 fun hwf=> ?_;refine aH [1] ?_ ?_<;>intro c0 d0
 ·simp[go_sem];refine aj ?_;simp[go_sem,jL]<;>omega
 ·simp[go_sem];refine gy (α:=Nat) true [1,14,15,16] (fun i=>[(16,.d (I i))]) (fun i=>σ++[.var (p.enc.map .d)]) (fun i=>i<=p.ns/\aI (um p) 0 p.ns=aI (um p) i (p.ns-i)) (fun i=>p.ns-i) 0 ?_;rintro i ⟨hi,hx⟩;simp[go_sem];refine aH [1,14,15,16] ?_ ?_<;>intro c1 d1
  ·obtain⟨k,hk⟩: ∃k,p.ns-i=k+1:=⟨p.ns-i-1,by omega⟩;have hk':p.ns-(i+1)=k:=by omega
   rw[hk,aI] at hx;simp[go_sem];repeat refine⟨by omega,?_⟩
   refine aH [1,3,4,14,15,16] ?_ ?_<;>intro c2 d2
   ·have he:um p i=2:=by unfold um yK;rw[if_pos (by simp;omega)]
    rw[he] at hx;simp at hx;simp[go_sem];refine aj ?_;simp[go_sem,jL,hx]<;>omega
   ·have hd2: ¬(yK (p.gs i).Unit=false\/(p.gs i).Class<0\/999<(p.gs i).Class):=by
     unfold yK;simp;omega
    simp[go_sem];refine aW.mk (rC _ (p.gs i).Made) ?_;simp[go_sem];refine aH [1,3,4,14,15,16] ?_ ?_<;>intro c3 d3
    ·have he:um p i=1:=by unfold um;rw[if_neg hd2,if_pos d3]
     rw[he] at hx;simp at hx;simp[go_sem];refine aj ?_;simp[go_sem,jL,hx]<;>omega
    ·simp[go_sem];refine T.dr 20 fun K hK=> ?_;simp[go_sem,aZ (i:=i) (by have:=hp.ns;omega)];repeat refine⟨by omega,?_⟩
     refine dS.mk (Ky _ none (p.gs i).np (p.gs i).ps (by have:=hp.ps i d1;omega)) ?_;simp[go_sem];refine hK _ ?_;refine go true ?_;simp[go_sem];refine aH [1,4,14,15,16] ?_ ?_<;>intro c4 d4
     ·have he:um p i=5:=by unfold um;rw[if_neg hd2,if_neg (by simp[d3]),if_pos d4]
      rw[he] at hx;simp at hx;simp[go_sem];refine aj ?_;simp[go_sem,jL,hx]<;>omega
     ·have he:um p i=WR p (p.gs i):=by
       unfold um;rw[if_neg hd2,if_neg (by simp[d3]),if_neg];rintro(h|h)
       ·have:=d4.1 h.1;omega
       ·have:=d4.2;rw[h] at this;cases this
      simp[go_sem];refine gy (α:=Nat) true [1,14,15,16,64,65,66] (fun q=>[(66,.d (I q))]) (fun q=>σ++[.var (p.enc.map .d),.var ((p.gs i).enc.map .d)]) (fun q=>q<=(p.gs i).np/\WR p (p.gs i)=aI (fun q=>if O0 p.np p.gp ((p.gs i).ps q)=false then 7 else 0) q ((p.gs i).np-q)) (fun q=>(p.gs i).np-q) 0 ?_ (hx:=⟨by omega,rfl⟩);rintro q ⟨hq,hy⟩;simp[go_sem];refine aH [1,14,15,16,64,65,66] ?_ ?_<;>intro c5 d5
      ·obtain⟨j,hj⟩: ∃j,(p.gs i).np-q=j+1:=⟨(p.gs i).np-q-1,by omega⟩;have hj':(p.gs i).np-(q+1)=j:=by omega
       rw[hj,aI] at hy;simp[go_sem];repeat refine⟨by omega,?_⟩
       refine aW.mk (QB _ none p.np p.gp ((p.gs i).ps q) (by have:=hp.np;omega) hp.nn) ?_;simp[go_sem];refine aH [1,14,15,16,64,65,66] ?_ ?_<;>intro c6 d6
       ·have hh:O0 p.np p.gp ((p.gs i).ps q)=false:=by rw[←Yo hc];simpa using c6
        simp only[hh,if_true] at hy;rw[he,hy] at hx;simp at hx;simp[go_sem];refine aj ?_;simp[go_sem,jL,hx]<;>omega
       ·have hh:O0 p.np p.gp ((p.gs i).ps q)=true:=by rw[←Yo hc];simpa using c6
        simp only[hh,Bool.true_eq_false,if_false] at hy;simp at hy;simp(disch:=first|omega|simp) [go_sem];refine dB (q+1) ⟨by omega,by rw[hy,hj']⟩ (h:=by simp[go_sem,wS q (by have:=hp.ps i d1;omega)]<;>omega) (hσ:=by simp[go_sem])
      ·obtain rfl:q=(p.gs i).np:=by omega
       rw[Nat.sub_self,aI] at hy;rw[he,hy] at hx;simp at hx;simp[go_sem];refine go true ?_;simp(disch:=first|omega|simp) [go_sem,aA];refine dB (i+1) ⟨by omega,by rw[hx,hk']⟩ (h:=by simp[go_sem]<;>omega) (hσ:=by simp[go_sem])
  ·have hin:i=p.ns:=by omega
   rw[hin,Nat.sub_self,aI] at hx;simp[go_sem];refine go true ?_;simp[go_sem];refine aj ?_;simp[go_sem,jL,hx]<;>omega
theorem NK(p:qw)(hp:jJ p):ay prog 37 [.agg (p.enc.map .d)] σ (.d (I (fP p))):=by
 refine ay.bs true func37 fun hwf=> ?_;refine T.dr 15 fun K hK=>sm ?_;refine dS.mk (NR _ none p.nc p.gc (by have:=hp.nc;omega)) ?_;simp[go_sem];refine dS.mk (zy _ none p.np p.gp (by have:=hp.np;omega) hp.nn) ?_;simp[go_sem];refine dS.mk (NP _ none p.na p.ga (by have:=hp.na;omega)) ?_;simp[go_sem];refine dS.mk (NM _ none p.nm p.gm (by have:=hp.nm;omega)) ?_;simp[go_sem];refine hK _ ?_;refine go true (sm ?_);refine gy (α:=Nat) true [1,17,18,19] (fun i=>[(19,.d (I i))]) (fun i=>_) (fun i=>i<=4/\aI (vw p) 0 4=aI (vw p) i (4-i)) (fun i=>4-i) 0 ?_;rintro i ⟨hi,hx⟩;simp[go_sem];refine aH [1,17,18,19] ?_ ?_<;>intro c0 d0
 ·obtain⟨k,hk⟩: ∃k,4-i=k+1:=⟨4-i-1,by omega⟩;have hk':4-(i+1)=k:=by omega
  have hs:aI (vw p) i (k+1)=if vw p i≠0 then vw p i else aI (vw p) (i+1) k:=rfl
  rw[hk,hs] at hx;have hrow:rowsOf 1 [I (check p.nc p.gc),I (jM p.np p.gp),I (kR p.na p.ga),I (lJ p.nm p.gm)] i=[I (vw p i)]:=by
   have hi4:i=0\/i=1\/i=2\/i=3:=by omega
   rcases hi4 with rfl|rfl|rfl|rfl<;>rfl
  simp[go_sem,hrow];repeat refine⟨by omega,?_⟩
  refine aH [1,4,17,18,19] ?_ ?_<;>intro c1 d1
  ·rw[if_pos d1] at hx;have hz:fP p=vw p i:=by unfold fP;rw[if_pos (by rw[hx];exact d1),hx]
   simp[go_sem];rw[hz];exact aj sc
  ·rw[if_neg (by simp[d1])] at hx;simp(disch:=first|omega|simp) [go_sem,aA];refine dB (i+1) ⟨by omega,by rw[hx,hk']⟩ (h:=by simp[go_sem]<;>omega)
 ·obtain rfl:i=4:=by omega
  have hx:aI (vw p) 0 4=0:=hx;simp[go_sem];refine go true (sm ?_);refine aH [1] ?_ ?_<;>intro c2 d2
  ·have hz:fP p=2:=by unfold fP;rw[if_neg (by simp[hx]),if_pos d2]
   simp[go_sem];rw[hz];exact aj sc
  ·have hz:fP p=jL p:=by unfold fP;rw[if_neg (by simp[hx]),if_neg (by omega)]
   simp[go_sem];refine aW.mk (Fz _ p hp (iM hx 1 (by omega) (by omega))) (sm ?_);rw[hz];exact aj sc
end Go.Proofs.YthlhlnbcjlpigaaGreatDoor
