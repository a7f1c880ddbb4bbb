/- Contracts and lemmas, joined out of smaller texts by a program; no conditions. -/
import Derived.Test.YthlhlnbcjlpigaaGreatDoorKB35
set_option linter.unusedVariables false
set_option linter.unusedSimpArgs false
set_option maxHeartbeats 2000000
set_option maxRecDepth 100000
namespace Go.Proofs.YthlhlnbcjlpigaaGreatDoor
open Go.aU Go.bY Go.Proofs.Tryz
variable (σ : List aC)
theorem YD(c c':Option Nat)(n m:Nat)(f g:Nat->iU)(hn:n<1000000000)(hm:m<1000000000):ay prog 89 [.d (SL c 6 iU.enc n f),.d (SL c' 6 iU.enc m g)] σ (.d (B (xI (lst n f) (lst m g)))):=by
 refine ay.bs true func89 fun hwf=> ?_;refine aH [0,1] ?_ ?_<;>intro c0 d0
 ·have hz:xI (lst n f) (lst m g)=false:=tX (by omega);simp[go_sem];rw[hz];exact aj sc
 ·simp[go_sem];refine gy (α:=Nat) true [0,1,12,13] (fun i=>[(13,.d (I i))]) (fun i=>_) (fun i=>i<=n/\∀q,q<i->f q=g q) (fun i=>n-i) 0 ?_;rintro i ⟨hi,hx⟩;simp[go_sem];refine aH [0,1,12,13] ?_ ?_<;>intro c1 d1
  ·simp[go_sem];refine T.dr 9 fun K hK=>sm ?_;repeat refine⟨by omega,?_⟩
   refine hK _ ?_;refine go true (sm ?_);refine aH [0,1,12,13] ?_ ?_<;>intro c2 d2
   ·have hz:xI (lst n f) (lst m g)=false:=zY (i:=i) (by omega) (by omega) (fun h=>by simp[h] at d2);simp[go_sem];rw[hz];exact aj sc
   ·have heq:f i=g i:=by
     revert c2;rcases f i with⟨_,_,⟨_,_⟩,⟨_,_⟩⟩;rcases g i with⟨_,_,⟨_,_⟩,⟨_,_⟩⟩;simp<;>(intros;simp_all)
    simp(disch:=first|omega|simp) [go_sem,aA];refine dB (i+1) ⟨by omega,fun q hq=>by rcases Nat.lt_or_eq_of_le (Nat.le_of_lt_succ hq) with h|h;exact hx q h;rw[h];exact heq⟩ (h:=by simp[go_sem]<;>omega)
  ·have hz:xI (lst n f) (lst m g)=true:=tV (by omega) (fun q hq=>hx q (by omega));simp[go_sem];refine go true (sm ?_);rw[hz];exact aj sc
theorem YH(c c':Option Nat)(n m:Nat)(f g:Nat->kP)(hn:n<1000000000)(hm:m<1000000000):ay prog 90 [.d (SL c 6 kP.enc n f),.d (SL c' 6 kP.enc m g)] σ (.d (B (xI (lst n f) (lst m g)))):=by
 refine ay.bs true func90 fun hwf=> ?_;refine aH [0,1] ?_ ?_<;>intro c0 d0
 ·have hz:xI (lst n f) (lst m g)=false:=tX (by omega);simp[go_sem];rw[hz];exact aj sc
 ·simp[go_sem];refine gy (α:=Nat) true [0,1,12,13] (fun i=>[(13,.d (I i))]) (fun i=>_) (fun i=>i<=n/\∀q,q<i->f q=g q) (fun i=>n-i) 0 ?_;rintro i ⟨hi,hx⟩;simp[go_sem];refine aH [0,1,12,13] ?_ ?_<;>intro c1 d1
  ·simp[go_sem];refine T.dr 9 fun K hK=>sm ?_;repeat refine⟨by omega,?_⟩
   refine hK _ ?_;refine go true (sm ?_);refine aH [0,1,12,13] ?_ ?_<;>intro c2 d2
   ·have hz:xI (lst n f) (lst m g)=false:=zY (i:=i) (by omega) (by omega) (fun h=>by simp[h] at d2);simp[go_sem];rw[hz];exact aj sc
   ·have heq:f i=g i:=by
     revert c2;rcases f i with⟨_,_,_,_,⟨_,_⟩⟩;rcases g i with⟨_,_,_,_,⟨_,_⟩⟩;simp<;>(intros;simp_all)
    simp(disch:=first|omega|simp) [go_sem,aA];refine dB (i+1) ⟨by omega,fun q hq=>by rcases Nat.lt_or_eq_of_le (Nat.le_of_lt_succ hq) with h|h;exact hx q h;rw[h];exact heq⟩ (h:=by simp[go_sem]<;>omega)
  ·have hz:xI (lst n f) (lst m g)=true:=tV (by omega) (fun q hq=>hx q (by omega));simp[go_sem];refine go true (sm ?_);rw[hz];exact aj sc
theorem YE(c c':Option Nat)(n m:Nat)(f g:Nat->qJ)(hn:n<1000000000)(hm:m<1000000000):ay prog 91 [.d (SL c 6 qJ.enc n f),.d (SL c' 6 qJ.enc m g)] σ (.d (B (xI (lst n f) (lst m g)))):=by
 refine ay.bs true func91 fun hwf=> ?_;refine aH [0,1] ?_ ?_<;>intro c0 d0
 ·have hz:xI (lst n f) (lst m g)=false:=tX (by omega);simp[go_sem];rw[hz];exact aj sc
 ·simp[go_sem];refine gy (α:=Nat) true [0,1,12,13] (fun i=>[(13,.d (I i))]) (fun i=>_) (fun i=>i<=n/\∀q,q<i->f q=g q) (fun i=>n-i) 0 ?_;rintro i ⟨hi,hx⟩;simp[go_sem];refine aH [0,1,12,13] ?_ ?_<;>intro c1 d1
  ·simp[go_sem];refine T.dr 9 fun K hK=>sm ?_;repeat refine⟨by omega,?_⟩
   refine hK _ ?_;refine go true (sm ?_);refine aH [0,1,12,13] ?_ ?_<;>intro c2 d2
   ·have hz:xI (lst n f) (lst m g)=false:=zY (i:=i) (by omega) (by omega) (fun h=>by simp[h] at d2);simp[go_sem];rw[hz];exact aj sc
   ·have heq:f i=g i:=by
     revert c2;rcases f i with⟨_,_,_,_,⟨_,_⟩⟩;rcases g i with⟨_,_,_,_,⟨_,_⟩⟩;simp<;>(intros;simp_all)
    simp(disch:=first|omega|simp) [go_sem,aA];refine dB (i+1) ⟨by omega,fun q hq=>by rcases Nat.lt_or_eq_of_le (Nat.le_of_lt_succ hq) with h|h;exact hx q h;rw[h];exact heq⟩ (h:=by simp[go_sem]<;>omega)
  ·have hz:xI (lst n f) (lst m g)=true:=tV (by omega) (fun q hq=>hx q (by omega));simp[go_sem];refine go true (sm ?_);rw[hz];exact aj sc
theorem YC(c c':Option Nat)(n m:Nat)(f g:Nat->eU)(hn:n<1000000000)(hm:m<1000000000):ay prog 51 [.d (SL c 7 eU.enc n f),.d (SL c' 7 eU.enc m g)] σ (.d (B (xI (lst n f) (lst m g)))):=by
 refine ay.bs true func51 fun hwf=> ?_;refine aH [0,1] ?_ ?_<;>intro c0 d0
 ·have hz:xI (lst n f) (lst m g)=false:=tX (by omega);simp[go_sem];rw[hz];exact aj sc
 ·simp[go_sem];refine gy (α:=Nat) true [0,1,12,13] (fun i=>[(13,.d (I i))]) (fun i=>_) (fun i=>i<=n/\∀q,q<i->f q=g q) (fun i=>n-i) 0 ?_;rintro i ⟨hi,hx⟩;simp[go_sem];refine aH [0,1,12,13] ?_ ?_<;>intro c1 d1
  ·simp[go_sem];refine T.dr 9 fun K hK=>sm ?_;repeat refine⟨by omega,?_⟩
   refine hK _ ?_;refine go true (sm ?_);refine aH [0,1,12,13] ?_ ?_<;>intro c2 d2
   ·have hz:xI (lst n f) (lst m g)=false:=zY (i:=i) (by omega) (by omega) (fun h=>by simp[h] at d2);simp[go_sem];rw[hz];exact aj sc
   ·have heq:f i=g i:=by
     revert c2;rcases f i with⟨_,_,_,_,_,_,_⟩;rcases g i with⟨_,_,_,_,_,_,_⟩;simp<;>(intros;simp_all)
    simp(disch:=first|omega|simp) [go_sem,aA];refine dB (i+1) ⟨by omega,fun q hq=>by rcases Nat.lt_or_eq_of_le (Nat.le_of_lt_succ hq) with h|h;exact hx q h;rw[h];exact heq⟩ (h:=by simp[go_sem]<;>omega)
  ·have hz:xI (lst n f) (lst m g)=true:=tV (by omega) (fun q hq=>hx q (by omega));simp[go_sem];refine go true (sm ?_);rw[hz];exact aj sc
theorem YG(c c':Option Nat)(n m:Nat)(f g:Nat->iy)(hn:n<1000000000)(hm:m<1000000000):ay prog 52 [.d (SL c 4 iy.enc n f),.d (SL c' 4 iy.enc m g)] σ (.d (B (xI (lst n f) (lst m g)))):=by
 refine ay.bs true func52 fun hwf=> ?_;refine aH [0,1] ?_ ?_<;>intro c0 d0
 ·have hz:xI (lst n f) (lst m g)=false:=tX (by omega);simp[go_sem];rw[hz];exact aj sc
 ·simp[go_sem];refine gy (α:=Nat) true [0,1,12,13] (fun i=>[(13,.d (I i))]) (fun i=>_) (fun i=>i<=n/\∀q,q<i->f q=g q) (fun i=>n-i) 0 ?_;rintro i ⟨hi,hx⟩;simp[go_sem];refine aH [0,1,12,13] ?_ ?_<;>intro c1 d1
  ·simp[go_sem];refine T.dr 9 fun K hK=>sm ?_;repeat refine⟨by omega,?_⟩
   refine hK _ ?_;refine go true (sm ?_);refine aH [0,1,12,13] ?_ ?_<;>intro c2 d2
   ·have hz:xI (lst n f) (lst m g)=false:=zY (i:=i) (by omega) (by omega) (fun h=>by simp[h] at d2);simp[go_sem];rw[hz];exact aj sc
   ·have heq:f i=g i:=by
     revert c2;rcases f i with⟨_,_,⟨_,_⟩⟩;rcases g i with⟨_,_,⟨_,_⟩⟩;simp<;>(intros;simp_all)
    simp(disch:=first|omega|simp) [go_sem,aA];refine dB (i+1) ⟨by omega,fun q hq=>by rcases Nat.lt_or_eq_of_le (Nat.le_of_lt_succ hq) with h|h;exact hx q h;rw[h];exact heq⟩ (h:=by simp[go_sem]<;>omega)
  ·have hz:xI (lst n f) (lst m g)=true:=tV (by omega) (fun q hq=>hx q (by omega));simp[go_sem];refine go true (sm ?_);rw[hz];exact aj sc
theorem Qp(x:nJ)(hn:x.nu<1000000000)(hm:x.nb<1000000000):ay prog 32 [.agg (x.enc.map .d)] σ (.agg (x.enc.map .d)):=by
 refine ay.be func32 fun hwf=> ?_;refine ak fun K hK=>sm ?_;refine hK _ ?_;apply Mix.gJ 10 [(9,none)] [[0,1,2,3,4,5,6,7,8]] [(.undef,(σ++[.var (x.enc.map .d),.var [.d (I 0),.d (I 0),.d (I 0),.d (I 0),.d (I 0),.d (I 0),.d (.v (.slice none 0 0)),.d (.v (.slice none 0 0))]]))] T.mixed (by kernel_rfl)
 ·intro K hK;simp[go_sem];repeat refine⟨by omega,?_⟩
  exact hK _ _
 ·refine Mix.bM ?_ (Mix.iY)
  ·intro K hK;simp[go_sem];exact hK _ _
 ·refine Mix.cu ?_ (Mix.kC)
  ·simp[go_sem];all_goals first|rfl|skip
 intro K hK;simp[go_sem];refine hK _ ?_;refine ak fun K hK=>sm ?_;refine hK _ ?_;exact aj sc
structure PolZ(p:qw):Prop where
 ns:p.ns=0
 nc:p.nc=0
 np:p.np=0
 y:p.jg=0
 na:p.na=0
 nm:p.nm=0
structure UseZ(u:Use):Prop where
 P:PolZ u.P
 nb:u.nb=0
 nf:u.nf=0
 nv:u.nv=0
 nr:u.nr=0
 s:u.nI=0
 nk:u.nk=0
 nt:u.nt=0
 nl:u.nl=0
 nw:u.nw=0
 c:u.Changed=0
end Go.Proofs.YthlhlnbcjlpigaaGreatDoor
