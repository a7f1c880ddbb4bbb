/- Contracts and lemmas, joined out of smaller texts by a program; no conditions. -/
import Derived.Test.YtmahphgjkpgidaaGreatDoorKB41
set_option linter.unusedVariables false
set_option linter.unusedSimpArgs false
set_option maxHeartbeats 2000000
set_option maxRecDepth 100000
namespace Go.Proofs.YtmahphgjkpgidaaGreatDoor
open Go.aU Go.dh Go.Proofs.Tryz
variable (σ : List aG)
def BJ(e:Ev):Bool:=(lst e.nt e.gt).all fun s=>decide (s.size<=200)
def pz(e:Ev):Bool:=decide (e.nn<=40)&&decide (e.nt<=4)&&BJ e
theorem zx(n:Nat)(g:Nat->Ev):jC n g=true↔(∀i,i<n->pz (g i)=true)/\n<=40:=by
 unfold jC;simp only[Bool.and_eq_true,List.all_eq_true,decide_eq_true_eq];refine and_congr_left fun _=> ?_;constructor
 ·intro h i hi;have:=h (g i) (List.mem_map.2 ⟨i,by simpa using hi,rfl⟩);unfold pz BJ;simpa[Bool.and_eq_true] using this
 ·intro h e he;obtain⟨i,hi,rfl⟩:=List.mem_map.1 he;have:=h i (by simpa using hi);unfold pz BJ at this;simpa[Bool.and_eq_true] using this
theorem Vo{n:Nat}{g:Nat->Ev}{i:Nat}(hi:i<n)(h:pz (g i)=false):jC n g=false:=by
 rw[←Bool.not_eq_true,zx];intro h1;rw[h1.1 i hi] at h;cases h
theorem evsFew_yes{n:Nat}{g:Nat->Ev}(h: ∀i,i<n->pz (g i)=true):jC n g=decide ((n:Int)<=40):=by
 rw[Bool.eq_iff_iff,zx,decide_eq_true_eq];exact⟨fun h1=>by omega,fun h1=>⟨h,by omega⟩⟩
theorem short_no{e:Ev}{i:Nat}(hi:i<e.nt)(h:200<(e.gt i).size):pz e=false:=by
 cases hb:pz e with
 |false=>rfl
 |true=>
  unfold pz BJ at hb;simp only[Bool.and_eq_true,List.all_eq_true,decide_eq_true_eq] at hb;have:=hb.2 (e.gt i) (List.mem_map.2 ⟨i,by simpa using hi,rfl⟩);omega
theorem jO(c:Option Nat)(n:Nat)(g:Nat->Ev)(hn:n<=9223372036854775807)(ht: ∀i,i<n->(g i).nn<=9223372036854775807/\(g i).nt<=9223372036854775807):aA prog 9 [.d (SL c 5 Ev.enc n g)] σ (.d (B (jC n g))):=by
 refine aA.bs true func9 fun hwf=> ?_;refine kQ (α:=Nat) true [0,7,8,9] (fun i=>[(9,.d (I i))]) (fun i=>_) (fun i=>i<=n/\∀q,q<i->pz (g q)=true) (fun i=>n-i) 0 ?_;rintro i ⟨hi,hx⟩;simp[go_sem];refine aJ [0,7,8,9] ?_ ?_<;>intro c0 d0
 ·have hi0:i<n:=by omega
  have ht0:=ht i hi0;simp[go_sem,hi0];refine aJ [0,4,7,8,9] ?_ ?_<;>intro c1 d1
  ·have hz:jC n g=false:=Vo hi0 (by
    cases hb:pz (g i) with
    |false=>rfl
    |true=>unfold pz at hb;simp only[Bool.and_eq_true,decide_eq_true_eq] at hb;have:=hb.1;omega)
   simp[go_sem];rw[hz];exact aj sc
  ·have hq1: ¬(40<(g i).nn\/4<(g i).nt):=by omega
   simp[go_sem];refine kQ (α:=Nat) true [0,7,8,9,24,25,26] (fun k=>[(26,.d (I k))]) (fun k=>_) (fun k=>k<=(g i).nt/\∀q,q<k->((g i).gt q).size<=200) (fun k=>(g i).nt-k) 0 ?_;rintro k ⟨hk,hy⟩;simp[go_sem];refine aJ [0,7,8,9,24,25,26] ?_ ?_<;>intro c2 d2
   ·have hk0:k<(g i).nt:=by omega
    simp[go_sem,hk0];refine aJ [0,7,8,9,24,25,26] ?_ ?_<;>intro c3 d3
    ·have hz:jC n g=false:=Vo hi0 (short_no hk0 (by omega));simp[go_sem];rw[hz];exact aj sc
    ·simp(disch:=first|omega|simp) [go_sem,aH];refine gB (k+1) ⟨by omega,lu hy (by omega)⟩ (h:=by simp[go_sem]<;>omega)
   ·have hev:pz (g i)=true:=by
     unfold pz BJ;simp only[Bool.and_eq_true,List.all_eq_true,decide_eq_true_eq];refine⟨⟨by omega,by omega⟩,fun s hs=> ?_⟩;obtain⟨q,hq,rfl⟩:=List.mem_map.1 hs;have hq9:q<(g i).nt:=by simpa using hq
     exact hy q (by omega)
    simp[go_sem];refine go true ?_;simp(disch:=first|omega|simp) [go_sem,aH];refine gB (i+1) ⟨by omega,lu hx hev⟩ (h:=by simp[go_sem]<;>omega)
 ·rw[evsFew_yes (fun q hq=>hx q (by omega))];simp[go_sem];refine go true (sm ?_);exact aj sc
theorem cloneEv_cs(c:Option Nat)(n:Nat)(g:Nat->Ev)(hn:n<1000000000):aA prog 42 [.d (SL c 5 Ev.enc n g)] σ (.d (SL none 5 Ev.enc n g)):=by
 refine aA.bd true func42 fun hwf=> ?_;simp[go_sem,-Bool.forall_bool];try intro b1 hb1
 refine fZ ?_ ?_<;>intro c0 d0
 ·simp[go_sem];refine aj ?_;have:=hb1 c0;simp[go_sem,this]
 ·simp[go_sem];repeat refine⟨by omega,?_⟩
  refine bK (σ.length) (by simp[go_sem];exact⟨rfl,rfl,rfl⟩) (by simp[go_sem];rfl) (by simp[go_sem,hwf.sZ,hwf.qH];rfl) ?_;exact aj so
theorem cloneEvM_cs(c:Option Nat)(n:Nat)(g:Nat->Ev)(hn:n<1000000000):CS prog 42 [.d (SL c 5 Ev.enc n g)] σ (fun r σ' X=>r= .ms σ.length 5 0 n/\σ'=σ++[.arr 5 n fun i=>Ev.enc (g i)]/\X=[]):=by
 refine CS.VD true func42 fun hwf=> ?_;simp[go_sem,-Bool.forall_bool];try intro b1 hb1
 refine fZ ?_ ?_<;>intro c0 d0
 ·simp[go_sem];refine dG 2 5 (fun i=>Ev.enc (g i)) (by simp[go_sem]) (by simp[go_sem];rfl) ?_;refine aj ?_;obtain rfl:=hb1 c0;simp[go_sem]
 ·simp[go_sem];repeat refine⟨by omega,?_⟩
  exact aj so
theorem cloneStr_cs(c:Option Nat)(n:Nat)(g:Nat->ByteArray)(hn:n<1000000000):aA prog 44 [.d (SL c 1 encS n g)] σ (.d (SL none 1 encS n g)):=by
 refine aA.bd true func44 fun hwf=> ?_;simp[go_sem,-Bool.forall_bool];try intro b1 hb1
 refine fZ ?_ ?_<;>intro c0 d0
 ·simp[go_sem];refine aj ?_;have:=hb1 c0;simp[go_sem,this]
 ·simp[go_sem];repeat refine⟨by omega,?_⟩
  refine bK (σ.length) (by simp[go_sem];exact⟨rfl,rfl,rfl⟩) (by simp[go_sem];rfl) (by simp[go_sem,hwf.sZ,hwf.qH];rfl) ?_;exact aj so
theorem NC(c c':Option Nat)(n m:Nat)(f g:Nat->iq)(hn:n<1000000000)(hm:m<1000000000):aA prog 73 [.d (SL c 6 iq.enc n f),.d (SL c' 6 iq.enc m g)] σ (.d (B (xk (lst n f) (lst m g)))):=by
 refine aA.bs true func73 fun hwf=> ?_;refine aJ [0,1] ?_ ?_<;>intro c0 d0
 ·have hz:xk (lst n f) (lst m g)=false:=wC (by omega);simp[go_sem];rw[hz];exact aj sc
 ·simp[go_sem];refine kQ (α:=Nat) true [0,1,12,13] (fun i=>[(13,.d (I i))]) (fun i=>_) (fun i=>i<=n/\∀q,q<i->f q=g q) (fun i=>n-i) 0 ?_;rintro i ⟨hi,hx⟩;simp[go_sem];refine aJ [0,1,12,13] ?_ ?_<;>intro c1 d1
  ·simp[go_sem];refine T.dr 9 fun K hK=>sm ?_;repeat refine⟨by omega,?_⟩
   refine hK _ ?_;refine go true (sm ?_);refine aJ [0,1,12,13] ?_ ?_<;>intro c2 d2
   ·have hz:xk (lst n f) (lst m g)=false:=Dn (i:=i) (by omega) (by omega) (fun h=>by simp[h] at d2);simp[go_sem];rw[hz];exact aj sc
   ·have heq:f i=g i:=by
     revert c2;rcases f i with⟨_,_,⟨_,_⟩,⟨_,_⟩⟩;rcases g i with⟨_,_,⟨_,_⟩,⟨_,_⟩⟩;simp<;>(intros;simp_all)
    simp(disch:=first|omega|simp) [go_sem,aH];refine gB (i+1) ⟨by omega,fun q hq=>by rcases Nat.lt_or_eq_of_le (Nat.le_of_lt_succ hq) with h|h;exact hx q h;rw[h];exact heq⟩ (h:=by simp[go_sem]<;>omega)
  ·have hz:xk (lst n f) (lst m g)=true:=tY (by omega) (fun q hq=>hx q (by omega));simp[go_sem];refine go true (sm ?_);rw[hz];exact aj sc
theorem NH(c c':Option Nat)(n m:Nat)(f g:Nat->jW)(hn:n<1000000000)(hm:m<1000000000):aA prog 74 [.d (SL c 6 jW.enc n f),.d (SL c' 6 jW.enc m g)] σ (.d (B (xk (lst n f) (lst m g)))):=by
 refine aA.bs true func74 fun hwf=> ?_;refine aJ [0,1] ?_ ?_<;>intro c0 d0
 ·have hz:xk (lst n f) (lst m g)=false:=wC (by omega);simp[go_sem];rw[hz];exact aj sc
 ·simp[go_sem];refine kQ (α:=Nat) true [0,1,12,13] (fun i=>[(13,.d (I i))]) (fun i=>_) (fun i=>i<=n/\∀q,q<i->f q=g q) (fun i=>n-i) 0 ?_;rintro i ⟨hi,hx⟩;simp[go_sem];refine aJ [0,1,12,13] ?_ ?_<;>intro c1 d1
  ·simp[go_sem];refine T.dr 9 fun K hK=>sm ?_;repeat refine⟨by omega,?_⟩
   refine hK _ ?_;refine go true (sm ?_);refine aJ [0,1,12,13] ?_ ?_<;>intro c2 d2
   ·have hz:xk (lst n f) (lst m g)=false:=Dn (i:=i) (by omega) (by omega) (fun h=>by simp[h] at d2);simp[go_sem];rw[hz];exact aj sc
   ·have heq:f i=g i:=by
     revert c2;rcases f i with⟨_,_,_,_,⟨_,_⟩⟩;rcases g i with⟨_,_,_,_,⟨_,_⟩⟩;simp<;>(intros;simp_all)
    simp(disch:=first|omega|simp) [go_sem,aH];refine gB (i+1) ⟨by omega,fun q hq=>by rcases Nat.lt_or_eq_of_le (Nat.le_of_lt_succ hq) with h|h;exact hx q h;rw[h];exact heq⟩ (h:=by simp[go_sem]<;>omega)
  ·have hz:xk (lst n f) (lst m g)=true:=tY (by omega) (fun q hq=>hx q (by omega));simp[go_sem];refine go true (sm ?_);rw[hz];exact aj sc
theorem ND(c c':Option Nat)(n m:Nat)(f g:Nat->jG)(hn:n<1000000000)(hm:m<1000000000):aA prog 75 [.d (SL c 6 jG.enc n f),.d (SL c' 6 jG.enc m g)] σ (.d (B (xk (lst n f) (lst m g)))):=by
 refine aA.bs true func75 fun hwf=> ?_;refine aJ [0,1] ?_ ?_<;>intro c0 d0
 ·have hz:xk (lst n f) (lst m g)=false:=wC (by omega);simp[go_sem];rw[hz];exact aj sc
 ·simp[go_sem];refine kQ (α:=Nat) true [0,1,12,13] (fun i=>[(13,.d (I i))]) (fun i=>_) (fun i=>i<=n/\∀q,q<i->f q=g q) (fun i=>n-i) 0 ?_;rintro i ⟨hi,hx⟩;simp[go_sem];refine aJ [0,1,12,13] ?_ ?_<;>intro c1 d1
  ·simp[go_sem];refine T.dr 9 fun K hK=>sm ?_;repeat refine⟨by omega,?_⟩
   refine hK _ ?_;refine go true (sm ?_);refine aJ [0,1,12,13] ?_ ?_<;>intro c2 d2
   ·have hz:xk (lst n f) (lst m g)=false:=Dn (i:=i) (by omega) (by omega) (fun h=>by simp[h] at d2);simp[go_sem];rw[hz];exact aj sc
   ·have heq:f i=g i:=by
     revert c2;rcases f i with⟨_,_,_,_,⟨_,_⟩⟩;rcases g i with⟨_,_,_,_,⟨_,_⟩⟩;simp<;>(intros;simp_all)
    simp(disch:=first|omega|simp) [go_sem,aH];refine gB (i+1) ⟨by omega,fun q hq=>by rcases Nat.lt_or_eq_of_le (Nat.le_of_lt_succ hq) with h|h;exact hx q h;rw[h];exact heq⟩ (h:=by simp[go_sem]<;>omega)
  ·have hz:xk (lst n f) (lst m g)=true:=tY (by omega) (fun q hq=>hx q (by omega));simp[go_sem];refine go true (sm ?_);rw[hz];exact aj sc
theorem Nz(c c':Option Nat)(n m:Nat)(f g:Nat->dU)(hn:n<1000000000)(hm:m<1000000000):aA prog 48 [.d (SL c 7 dU.enc n f),.d (SL c' 7 dU.enc m g)] σ (.d (B (xk (lst n f) (lst m g)))):=by
 refine aA.bs true func48 fun hwf=> ?_;refine aJ [0,1] ?_ ?_<;>intro c0 d0
 ·have hz:xk (lst n f) (lst m g)=false:=wC (by omega);simp[go_sem];rw[hz];exact aj sc
 ·simp[go_sem];refine kQ (α:=Nat) true [0,1,12,13] (fun i=>[(13,.d (I i))]) (fun i=>_) (fun i=>i<=n/\∀q,q<i->f q=g q) (fun i=>n-i) 0 ?_;rintro i ⟨hi,hx⟩;simp[go_sem];refine aJ [0,1,12,13] ?_ ?_<;>intro c1 d1
  ·simp[go_sem];refine T.dr 9 fun K hK=>sm ?_;repeat refine⟨by omega,?_⟩
   refine hK _ ?_;refine go true (sm ?_);refine aJ [0,1,12,13] ?_ ?_<;>intro c2 d2
   ·have hz:xk (lst n f) (lst m g)=false:=Dn (i:=i) (by omega) (by omega) (fun h=>by simp[h] at d2);simp[go_sem];rw[hz];exact aj sc
   ·have heq:f i=g i:=by
     revert c2;rcases f i with⟨_,_,_,_,_,_,_⟩;rcases g i with⟨_,_,_,_,_,_,_⟩;simp<;>(intros;simp_all)
    simp(disch:=first|omega|simp) [go_sem,aH];refine gB (i+1) ⟨by omega,fun q hq=>by rcases Nat.lt_or_eq_of_le (Nat.le_of_lt_succ hq) with h|h;exact hx q h;rw[h];exact heq⟩ (h:=by simp[go_sem]<;>omega)
  ·have hz:xk (lst n f) (lst m g)=true:=tY (by omega) (fun q hq=>hx q (by omega));simp[go_sem];refine go true (sm ?_);rw[hz];exact aj sc
theorem NG(c c':Option Nat)(n m:Nat)(f g:Nat->jH)(hn:n<1000000000)(hm:m<1000000000):aA prog 49 [.d (SL c 4 jH.enc n f),.d (SL c' 4 jH.enc m g)] σ (.d (B (xk (lst n f) (lst m g)))):=by
 refine aA.bs true func49 fun hwf=> ?_;refine aJ [0,1] ?_ ?_<;>intro c0 d0
 ·have hz:xk (lst n f) (lst m g)=false:=wC (by omega);simp[go_sem];rw[hz];exact aj sc
 ·simp[go_sem];refine kQ (α:=Nat) true [0,1,12,13] (fun i=>[(13,.d (I i))]) (fun i=>_) (fun i=>i<=n/\∀q,q<i->f q=g q) (fun i=>n-i) 0 ?_;rintro i ⟨hi,hx⟩;simp[go_sem];refine aJ [0,1,12,13] ?_ ?_<;>intro c1 d1
  ·simp[go_sem];refine T.dr 9 fun K hK=>sm ?_;repeat refine⟨by omega,?_⟩
   refine hK _ ?_;refine go true (sm ?_);refine aJ [0,1,12,13] ?_ ?_<;>intro c2 d2
   ·have hz:xk (lst n f) (lst m g)=false:=Dn (i:=i) (by omega) (by omega) (fun h=>by simp[h] at d2);simp[go_sem];rw[hz];exact aj sc
   ·have heq:f i=g i:=by
     revert c2;rcases f i with⟨_,_,⟨_,_⟩⟩;rcases g i with⟨_,_,⟨_,_⟩⟩;simp<;>(intros;simp_all)
    simp(disch:=first|omega|simp) [go_sem,aH];refine gB (i+1) ⟨by omega,fun q hq=>by rcases Nat.lt_or_eq_of_le (Nat.le_of_lt_succ hq) with h|h;exact hx q h;rw[h];exact heq⟩ (h:=by simp[go_sem]<;>omega)
  ·have hz:xk (lst n f) (lst m g)=true:=tY (by omega) (fun q hq=>hx q (by omega));simp[go_sem];refine go true (sm ?_);rw[hz];exact aj sc
theorem oh(c:Option Nat)(n:Nat)(g:Nat->Ev)(hn:n<1000000000)(hk: ∀i,i<n->(g i).cn=none/\(g i).ct=none/\(g i).nn<1000000000/\(g i).nt<1000000000):aA prog 13 [.d (SL c 5 Ev.enc n g)] σ (.d (SL none 5 Ev.enc n g)):=by
 refine aA.be func13 fun hwf=> ?_;refine ak fun K hK=>sm ?_;refine hK _ ?_;refine ak fun K hK=>sm ?_;refine aO.gen (cloneEvM_cs _ c n g hn) ?_;rintro r σ' X ⟨rfl,rfl,rfl⟩;simp[go_sem];refine hK _ ?_;refine aK ?_;refine ak fun K hK=>sm ?_;refine hK _ ?_;refine aS ?_;refine bZ [0,7,8] (by simp[go_sem,bD];rfl) ?_;refine dO (α:=Nat) (fun i=>[(8,.d (I i))]) (fun i=>σ++[.arr 5 n (fun q=>Ev.enc (g q))]) (fun i=>i<=n) (fun i=>n-i) 0 (by simp[go_sem]) (rfl) (by simp) ?_;rintro i hi;refine ak fun K hK=>sm ?_;refine hK _ ?_;refine aK ?_;refine tq [0,7,8,9] ?_;refine jr ?_ ?_<;>intro c0 d0
 ·have hi0:i<n:=by omega
  have hk0:=hk i hi0;refine aX ?_;refine aK ?_;refine aS ?_;refine ak fun K hK=> ?_;simp[go_sem,d0];refine hK _ ?_;apply Mix.NV 22 [(18,none),(21,none)] [[0,1,4,5,6,7,8,9,10,11,12,13,14,15,16,17],[0,1,2,3,4,5,6,7,8,9,10,11,12,13,14,15,16,17,19,20]] [(.undef,(σ++[.arr 5 n (fun q=>Ev.enc (g q))])),(.undef,(σ++[.arr 5 n (fun q=>Ev.enc (g q))]))] T.mixed (by kernel_rfl)
  ·intro K hK;simp[go_sem,d0];refine dF.mk (rM _ (g i).cn (g i).nn (g i).gn hk0.2.2.1) ?_;simp[go_sem,d0];refine dF.mk (cloneStr_cs _ (g i).ct (g i).nt (g i).gt hk0.2.2.2) ?_;simp[go_sem,d0];exact hK _ _
  ·refine Mix.bJ ?_ (Mix.bJ ?_ (Mix.iR))
   ·intro K hK;simp[go_sem,d0];exact hK _ _
   ·intro K hK;simp[go_sem];exact hK _ _
  ·refine Mix.bU ?_ (Mix.bU ?_ (Mix.kE))
   ·simp[go_sem,d0];all_goals first|rfl|(funext q;by_cases h:q=i<;>simp[h,hk0.1,hk0.2.1])|skip
   ·simp[go_sem,d0];all_goals first|rfl|(funext q;by_cases h:q=i<;>simp[h,hk0.1,hk0.2.1])|skip
  intro K hK;simp[go_sem];refine hK _ ?_;refine aZ fun K hK=> ?_;simp[go_sem];try simp(disch:=omega) only[aH]
  refine hK _ ?_;refine⟨i+1,dI (by simp[go_sem]) ((au (by simp[go_sem]))) (by(simp[go_sem]<;>omega)),by omega,by first|omega|(dsimp only;omega)⟩
 ·obtain rfl:i=n:=by omega
  refine fF ?_;refine ak fun K hK=> ?_;simp[go_sem];refine hK _ ?_;refine bK (σ.length) (by simp[go_sem];exact⟨rfl,rfl,rfl⟩) (by simp[go_sem];rfl) (by simp[go_sem,hwf.sZ,hwf.qH];rfl) ?_;exact aj sc
theorem TM(x:fU)(hn:x.nu<1000000000)(hm:x.nb<1000000000):aA prog 41 [.agg (x.enc.map .d)] σ (.agg (x.enc.map .d)):=by
 refine aA.be func41 fun hwf=> ?_;refine ak fun K hK=>sm ?_;refine hK _ ?_;apply Mix.iC 10 [(9,none)] [[0,1,2,3,4,5,6,7,8]] [(.undef,(σ++[.var (x.enc.map .d),.var [.d (I 0),.d (I 0),.d (I 0),.d (I 0),.d (I 0),.d (I 0),.d (.v (.slice none 0 0)),.d (.v (.slice none 0 0))]]))] T.mixed (by kernel_rfl)
 ·intro K hK;simp[go_sem];repeat refine⟨by omega,?_⟩
  exact hK _ _
 ·refine Mix.bJ ?_ (Mix.iR)
  ·intro K hK;simp[go_sem];exact hK _ _
 ·refine Mix.bU ?_ (Mix.kE)
  ·simp[go_sem];all_goals first|rfl|skip
 intro K hK;simp[go_sem];refine hK _ ?_;refine ak fun K hK=>sm ?_;refine hK _ ?_;exact aj sc
theorem aaA{α:Type}{f g:Nat->α}{n m:Nat}(hn:n=0)(hm:m=0):xk (lst n f) (lst m g)=true:=by subst hn hm;simp[xk,lst]
structure PolZ(p:oC):Prop where
 ns:p.ns=0
 nc:p.nc=0
 np:p.np=0
 y:p.jI=0
 na:p.na=0
 nm:p.nm=0
structure UseZ(u:Use):Prop where
 P:PolZ u.P
 nb:u.nb=0
 nf:u.nf=0
 nv:u.nv=0
 nr:u.nr=0
 s:u.lT=0
 nk:u.nk=0
 nt:u.nt=0
 nl:u.nl=0
 nw:u.nw=0
 c:u.Changed=0
theorem boxes0_cs(f g:Nat->Bx)(n m:Nat)(hn:n=0)(hm:m=0):aA prog 47 [.d (SL none 5 Bx.enc n f),.d (SL none 5 Bx.enc m g)] σ (.d (B true)):=by
 refine aA.bs true func47 fun hwf=> ?_;refine aJ [0,1] ?_ ?_<;>intro c0 d0
 ·exact absurd hn (by omega)
 ·simp[go_sem];refine kQ (α:=Nat) true [0,1,13,14] (fun i=>[(14,.d (I i))]) (fun i=>_) (fun i=>i=0) (fun i=>n-i) 0 ?_;rintro i hi;simp[go_sem];refine aJ [0,1,13,14] ?_ ?_<;>intro c1 d1
  ·exact absurd hn (by omega)
  ·simp[go_sem];refine go true (sm ?_);exact aj sc
end Go.Proofs.YtmahphgjkpgidaaGreatDoor
