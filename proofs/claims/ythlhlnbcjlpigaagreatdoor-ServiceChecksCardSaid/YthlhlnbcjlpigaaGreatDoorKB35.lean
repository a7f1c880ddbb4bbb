/- Contracts and lemmas, joined out of smaller texts by a program; no conditions. -/
import Derived.Test.YthlhlnbcjlpigaaGreatDoorKB34
set_option linter.unusedVariables false
set_option linter.unusedSimpArgs false
set_option maxHeartbeats 2000000
set_option maxRecDepth 100000
namespace Go.Proofs.YthlhlnbcjlpigaaGreatDoor
open Go.aU Go.bY Go.Proofs.Tryz
variable (σ : List aC)
def wU(n:Nat)(p:qw):Bool:=((lst p.ns p.gs).all fun s=>decide (s.np<=20))&&decide (n<=30)&&decide (p.ns<=30)&&decide (p.nc<=20)&&zB p.np p.gp&&decide (p.na<=20)&&decide (p.nm<=20)
def uI(n:Nat)(g:Nat->Bx):Bool:=((lst n g).all fun b=>decide (b.nc<=40))&&decide (n<=20)
def uh(m:Nat)(u:Use):Bool:=((lst u.nt u.gt).all fewB)&&wU m u.P&&uI u.nb u.gb&&decide (u.nf<=20)&&decide (u.nv<=60)&&decide (u.nr<=40)&&decide (u.nk<=40)&&decide (u.nt<=20)&&decide (u.nl<=100)&&decide (u.nw<=100)
structure Wi(u:Use):Prop where
 ns:u.P.ns<=9223372036854775807
 np:u.P.np<=9223372036854775807
 nb:u.nb<=9223372036854775807
 nt:u.nt<=9223372036854775807
 bu: ∀i,i<u.nt->(u.gt i).nu<=9223372036854775807
 bb: ∀i,i<u.nt->(u.gt i).nb<=9223372036854775807
theorem tY(a b:Nat):decide ((a:Int)<=(b:Int))=decide (a<=b):=by rw[Bool.eq_iff_iff];simp
theorem few32_cs(c:Option Nat)(n:Nat)(g:Nat->iU)(hn:n<=9223372036854775807):ay prog 58 [.d (SL c 6 iU.enc n g)] σ (.d (B (zB n g))):=by
 refine ay.bs true func58 fun hwf=> ?_;refine gy (α:=Nat) true [0,5,6,7] (fun i=>[(7,.d (I i))]) (fun i=>_) (fun i=>i<=n/\∀q,q<i->(g q).Name.size<=200) (fun i=>n-i) 0 ?_;rintro i ⟨hi,hx⟩;simp[go_sem];refine aH [0,5,6,7] ?_ ?_<;>intro c0 d0
 ·simp[go_sem];repeat refine⟨by omega,?_⟩
  refine aH [0,5,6,7] ?_ ?_<;>intro c1 d1
  ·simp[go_sem];rw[prsFew_no d0 (by omega)];exact aj sc
  ·simp(disch:=first|omega|simp) [go_sem,aA];refine dB (i+1) ⟨by omega,fun q hq=>by rcases Nat.lt_or_eq_of_le (Nat.le_of_lt_succ hq) with h|h;exact hx q h;rw[h];omega⟩ (h:=by simp[go_sem]<;>omega)
 ·obtain rfl:i=n:=by omega
  simp[go_sem];refine go true (sm ?_);rw[aak hx];exact aj sc
theorem Ut(c:Option Nat)(n:Nat)(g:Nat->Row)(p:qw)(hs:p.ns<=9223372036854775807)(hq:p.np<=9223372036854775807):ay prog 23 [.d (SL c 3 Row.enc n g),.agg (p.enc.map .d)] σ (.d (B (wU n p))):=by
 refine ay.bs true func23 fun hwf=> ?_;refine gy (α:=Nat) true [0,3,8,9,10] (fun i=>[(10,.d (I i))]) (fun i=>_) (fun i=>i<=p.ns/\∀q,q<i->(p.gs q).np<=20) (fun i=>p.ns-i) 0 ?_;rintro i ⟨hi,hx⟩;simp[go_sem];refine aH [0,3,8,9,10] ?_ ?_<;>intro c0 d0
 ·simp[go_sem];repeat refine⟨by omega,?_⟩
  refine aH [0,3,8,9,10] ?_ ?_<;>intro c1 d1
  ·have hz:wU n p=false:=by
    cases hb:wU n p with
    |false=>rfl
    |true=>
     simp[wU,lst] at hb;have:=hb.1.1.1.1.1.1 i (by omega);omega
   simp[go_sem];rw[hz];exact aj sc
  ·simp(disch:=first|omega|simp) [go_sem,aA];refine dB (i+1) ⟨by omega,fun q hq=>by rcases Nat.lt_or_eq_of_le (Nat.le_of_lt_succ hq) with h|h;exact hx q h;rw[h];omega⟩ (h:=by simp[go_sem]<;>omega)
 ·have hin:i=p.ns:=by omega
  simp[go_sem];refine go true (sm ?_);refine fA.mk (Ux _ none p.nc p.gc) (sm ?_);refine fA.mk (few32_cs _ none p.np p.gp hq) (sm ?_);refine fA.mk (Uw _ none p.na p.ga) (sm ?_);refine fA.mk ((Uu _ none none p.nm 0 p.gm (fun _=>0)).sub (by simp[go_sem,xZ,uT,dD])) (sm ?_);refine aj ?_;have hz:wU n p=(decide ((n:Int)<=30)&&decide ((p.ns:Int)<=30)&&decide ((p.nc:Int)<=20)&&zB p.np p.gp&&decide ((p.na:Int)<=20)&&decide ((p.nm:Int)<=20)):=by
   have h1:((lst p.ns p.gs).all fun s=>decide (s.np<=20))=true:=by simp[lst];exact fun q hq=>hx q (by omega)
   have e: ∀(a:Nat) (b:Nat),decide ((a:Int)<=(b:Int))=decide (a<=b):=fun a b=>by rw[Bool.eq_iff_iff];simp
   have e1:=e n 30;have e2:=e p.ns 30;have e3:=e p.nc 20;have e4:=e p.na 20;have e5:=e p.nm 20;simp only[Int.cast_ofNat_Int] at e1 e2 e3 e4 e5;unfold wU;rw[h1,e1,e2,e3,e4,e5];rfl
  rw[hz];simp[go_sem]
theorem Us(c:Option Nat)(n:Nat)(g:Nat->Bx)(hn:n<=9223372036854775807):ay prog 24 [.d (SL c 5 Bx.enc n g)] σ (.d (B (uI n g))):=by
 refine ay.bs true func24 fun hwf=> ?_;refine gy (α:=Nat) true [0,5,6,7] (fun i=>[(7,.d (I i))]) (fun i=>_) (fun i=>i<=n/\∀q,q<i->(g q).nc<=40) (fun i=>n-i) 0 ?_;rintro i ⟨hi,hx⟩;simp[go_sem];refine aH [0,5,6,7] ?_ ?_<;>intro c0 d0
 ·have hi0:i<n:=by omega
  simp[go_sem,hi0];refine aH [0,5,6,7] ?_ ?_<;>intro c1 d1
  ·have hz:uI n g=false:=by
    cases hb:uI n g with
    |false=>rfl
    |true=>
     simp[uI,lst] at hb;have:=hb.1 i hi0;omega
   simp[go_sem];rw[hz];exact aj sc
  ·simp(disch:=first|omega|simp) [go_sem,aA];refine dB (i+1) ⟨by omega,nH hx (by omega)⟩ (h:=by simp[go_sem]<;>omega)
 ·have hin:i=n:=by omega
  simp[go_sem];refine go true (sm ?_);refine aj ?_;have hz:uI n g=decide ((n:Int)<=20):=by
   have h1:((lst n g).all fun b=>decide (b.nc<=40))=true:=by simp[lst];exact fun q hq=>hx q (by omega)
   unfold uI;rw[h1,Bool.true_and];exact(tY n 20).symm
  rw[hz];simp[go_sem]
theorem Uo(c:Option Nat)(n:Nat)(g:Nat->fJ):ay prog 25 [.d (SL c 6 fJ.enc n g)] σ (.d (B (decide (n<=60)))):=by
 refine ay.bs true func25 fun hwf=> ?_;rw[←tY];exact aj sc
theorem Un(c:Option Nat)(n:Nat)(g:Nat->eU):ay prog 26 [.d (SL c 7 eU.enc n g)] σ (.d (B (decide (n<=40)))):=by
 refine ay.bs true func26 fun hwf=> ?_;rw[←tY];exact aj sc
theorem Ul(c:Option Nat)(n:Nat)(g:Nat->iy):ay prog 27 [.d (SL c 4 iy.enc n g)] σ (.d (B (decide (n<=40)))):=by
 refine ay.bs true func27 fun hwf=> ?_;rw[←tY];exact aj sc
theorem Fv(u:Use)(c:Option Nat)(m:Nat)(rg:Nat->Row)(hu:Wi u):ay prog 6 [.agg (u.cells u.dw),.d (SL c 3 Row.enc m rg)] σ (.d (B (uh m u))):=by
 have b1:=hu.nt;refine ay.bs true func6 fun hwf=> ?_;refine gy (α:=Nat) true [1,2,8,9,10] (fun i=>[(10,.d (I i))]) (fun i=>_) (fun i=>i<=u.nt/\∀q,q<i->fewB (u.gt q)=true) (fun i=>u.nt-i) 0 ?_;rintro i ⟨hi,hx⟩;simp[go_sem];refine aH [1,2,8,9,10] ?_ ?_<;>intro c0 d0
 ·have hi0:i<u.nt:=by omega
  simp[go_sem,hi0];refine aW.mk (Uk _ (u.gt i) (hu.bu i hi0) (hu.bb i hi0)) ?_;simp[go_sem];refine aH [1,2,8,9,10] ?_ ?_<;>intro c1 d1
  ·have hz:uh m u=false:=by
    cases hb:uh m u with
    |false=>rfl
    |true=>
     simp only[uh,Bool.and_eq_true] at hb;have:=List.all_eq_true.1 hb.1.1.1.1.1.1.1.1.1 (u.gt i) (List.mem_map.2 ⟨i,by simpa using hi0,rfl⟩);simp[this] at d1
   simp[go_sem];rw[hz];exact aj sc
  ·have hb1:fewB (u.gt i)=true:=by simpa using d1
   simp(disch:=first|omega|simp) [go_sem,aA];refine dB (i+1) ⟨by omega,nH hx hb1⟩ (h:=by simp[go_sem]<;>omega)
 ·obtain rfl:i=u.nt:=by omega
  simp[go_sem];refine go true (sm ?_);refine aW.mk (Ut _ c m rg u.P hu.ns hu.np) (sm ?_);refine fA.mk' (.d (B (uI u.nb u.gb))) (fun _=>Us _ none u.nb u.gb hu.nb) (sm ?_);refine fA.mk' (.d (B (decide (u.nv<=60)))) (fun _=>Uo _ none u.nv u.gv) (sm ?_);refine fA.mk' (.d (B (decide (u.nr<=40)))) (fun _=>Un _ none u.nr u.gr) (sm ?_);refine fA.mk' (.d (B (decide (u.nk<=40)))) (fun _=>Ul _ none u.nk u.gk) (sm ?_);refine aj ?_;have h1:(lst u.nt u.gt).all fewB=true:=List.all_eq_true.2 fun b hb=>by
   obtain⟨q,hq,rfl⟩:=List.mem_map.1 hb;exact hx q (by simpa using hq)
  have hz:uh m u=(wU m u.P&&uI u.nb u.gb&&decide ((u.nf:Int)<=20)&&decide (u.nv<=60)&&decide (u.nr<=40)&&decide (u.nk<=40)&&decide ((u.nt:Int)<=20)&&decide ((u.nl:Int)<=100)&&decide ((u.nw:Int)<=100)):=by
   unfold uh;rw[h1,Bool.true_and,←tY u.nf 20,←tY u.nt 20,←tY u.nl 100,←tY u.nw 100];rfl
  rw[hz];simp[go_sem]
theorem YF(c c':Option Nat)(n m:Nat)(f g:Nat->fJ)(hn:n<1000000000)(hm:m<1000000000):ay prog 50 [.d (SL c 6 fJ.enc n f),.d (SL c' 6 fJ.enc m g)] σ (.d (B (xI (lst n f) (lst m g)))):=by
 refine ay.bs true func50 fun hwf=> ?_;refine aH [0,1] ?_ ?_<;>intro c0 d0
 ·have hz:xI (lst n f) (lst m g)=false:=tX (by omega);simp[go_sem];rw[hz];exact aj sc
 ·simp[go_sem];refine gy (α:=Nat) true [0,1,12,13] (fun i=>[(13,.d (I i))]) (fun i=>_) (fun i=>i<=n/\∀q,q<i->f q=g q) (fun i=>n-i) 0 ?_;rintro i ⟨hi,hx⟩;simp[go_sem];refine aH [0,1,12,13] ?_ ?_<;>intro c1 d1
  ·simp[go_sem];refine T.dr 9 fun K hK=>sm ?_;repeat refine⟨by omega,?_⟩
   refine hK _ ?_;refine go true (sm ?_);refine aH [0,1,12,13] ?_ ?_<;>intro c2 d2
   ·have hz:xI (lst n f) (lst m g)=false:=zY (i:=i) (by omega) (by omega) (fun h=>by simp[h] at d2);simp[go_sem];rw[hz];exact aj sc
   ·have heq:f i=g i:=by
     revert c2;rcases f i with⟨_,_,⟨_,_⟩,⟨_,_⟩⟩;rcases g i with⟨_,_,⟨_,_⟩,⟨_,_⟩⟩;simp<;>(intros;simp_all)
    simp(disch:=first|omega|simp) [go_sem,aA];refine dB (i+1) ⟨by omega,fun q hq=>by rcases Nat.lt_or_eq_of_le (Nat.le_of_lt_succ hq) with h|h;exact hx q h;rw[h];exact heq⟩ (h:=by simp[go_sem]<;>omega)
  ·have hz:xI (lst n f) (lst m g)=true:=tV (by omega) (fun q hq=>hx q (by omega));simp[go_sem];refine go true (sm ?_);rw[hz];exact aj sc
theorem JU(c c':Option Nat)(n m:Nat)(f g:Nat->sG)(hn:n<1000000000)(hm:m<1000000000):ay prog 21 [.d (SL c 3 sG.enc n f),.d (SL c' 3 sG.enc m g)] σ (.d (B (xI (lst n f) (lst m g)))):=by
 refine ay.bs true func21 fun hwf=> ?_;refine aH [0,1] ?_ ?_<;>intro c0 d0
 ·have hz:xI (lst n f) (lst m g)=false:=tX (by omega);simp[go_sem];rw[hz];exact aj sc
 ·simp[go_sem];refine gy (α:=Nat) true [0,1,12,13] (fun i=>[(13,.d (I i))]) (fun i=>_) (fun i=>i<=n/\∀q,q<i->f q=g q) (fun i=>n-i) 0 ?_;rintro i ⟨hi,hx⟩;simp[go_sem];refine aH [0,1,12,13] ?_ ?_<;>intro c1 d1
  ·simp[go_sem];refine T.dr 9 fun K hK=>sm ?_;repeat refine⟨by omega,?_⟩
   refine hK _ ?_;refine go true (sm ?_);refine aH [0,1,12,13] ?_ ?_<;>intro c2 d2
   ·have hz:xI (lst n f) (lst m g)=false:=zY (i:=i) (by omega) (by omega) (fun h=>by simp[h] at d2);simp[go_sem];rw[hz];exact aj sc
   ·have heq:f i=g i:=by
     revert c2;rcases f i with⟨_,_,_⟩;rcases g i with⟨_,_,_⟩;simp<;>(intros;simp_all)
    simp(disch:=first|omega|simp) [go_sem,aA];refine dB (i+1) ⟨by omega,fun q hq=>by rcases Nat.lt_or_eq_of_le (Nat.le_of_lt_succ hq) with h|h;exact hx q h;rw[h];exact heq⟩ (h:=by simp[go_sem]<;>omega)
  ·have hz:xI (lst n f) (lst m g)=true:=tV (by omega) (fun q hq=>hx q (by omega));simp[go_sem];refine go true (sm ?_);rw[hz];exact aj sc
noncomputable def oV(m:Nat)(rg:Nat->Row)(g:Nat->Ev)(u:Use):Nat->Use
 |0=>u
 |k+1=>(jq (oV m rg g u k) m rg (g k)).1
noncomputable def wM(m:Nat)(rg:Nat->Row)(g:Nat->Ev)(u:Use)(i:Nat):Int:=(jq (oV m rg g u i) m rg (g i)).2
noncomputable def nO(m:Nat)(rg:Nat->Row)(g:Nat->Ev)(u:Use)(i:Nat):Nat->Int×Int
 |0=>(-1,0)
 |k+1=>if wM m rg g u i≠0 then((i:Int),wM m rg g u i) else nO m rg g u (i+1) k
theorem Z9{m:Nat}{rg:Nat->Row}{g:Nat->Ev}{u:Use}{i n:Nat}(h:i<n):nO m rg g u i (n-i)=if wM m rg g u i≠0 then((i:Int),wM m rg g u i) else nO m rg g u (i+1) (n-(i+1)):=by
 obtain⟨k,hk⟩: ∃k,n-i=k+1:=⟨n-i-1,by omega⟩;rw[hk,nO,show n-(i+1)=k by omega]
noncomputable def Qb(u:Use)(m:Nat)(rg:Nat->Row)(n:Nat)(g:Nat->Ev):Use×Int×Int:=if bT u=false\/dH m rg≠0 then(jk,-1,1) else if(nO m rg g u 0 n).2≠0 then(jk,nO m rg g u 0 n) else(oV m rg g u n,-1,0)
theorem ZV(u:Use)(c:Option Nat)(m:Nat)(rg:Nat->Row)(c':Option Nat)(n:Nat)(g:Nat->Ev)(hu:dR u)(hm:m<1000000000)(hn:n<1000000000)(hst:bT u=true->∀i,i<n->(∀q,q<i->wM m rg g u q=0)->TL (oV m rg g u i) m (g i))(h0:σ[0]? =some (.tab 0 iR))(h1:σ[1]? =some (.loc 1)):ay prog 18 [.agg (u.cells u.dw),.d (SL c 3 Row.enc m rg),.d (SL c' 5 Ev.enc n g)] σ (.eX [.agg ((Qb u m rg n g).1.cells (Qb u m rg n g).1.dw),.d (I (Qb u m rg n g).2.1),.d (I (Qb u m rg n g).2.2)]):=by
 refine ay.be func18 fun hwf=> ?_;refine ak fun K hK=>sm ?_;refine hK _ ?_;refine aK ?_;refine ak fun K hK=>sm ?_;refine aW.mk (mJ _ u hu (aO h0) (aO h1)) (sm ?_);refine fA.mk' (.d (I (dH m rg))) (fun _=>rD _ c m rg hm) (sm ?_);refine hK _ ?_;refine pW [1,2,3,6,21] ?_;refine ig ?_ ?_<;>intro c0 d0
 ·have hr:Qb u m rg n g=(jk,-1,1):=if_pos (by simpa using d0);refine ak fun K hK=> ?_;simp[go_sem,c0];refine hK _ ?_;refine aj ?_;rw[hr];simp[go_sem,jk,jr,Go.aU.dD]
 ·have hq0: ¬(bT u=false\/dH m rg≠0):=by simpa using d0
  have hrt:bT u=true:=by simpa using fun h=>hq0 (.inl h)
  have hst:=hst hrt;refine aV ?_;refine ak fun K hK=> ?_;simp[go_sem,d0];have h:=EY (σ++[.var (u.cells u.dw),.var [.d (.v (.slice none 0 0)),.d (.v (.slice none 0 0)),.d (.v (.slice none 0 0)),.d (I 0),.d (.v (.slice none 0 0)),.d (.v (.slice none 0 0)),.d (.v (.slice none 0 0)),.d (.v (.slice none 0 0)),.d (.v (.slice none 0 0)),.d (.v (.slice none 0 0)),.d (I 0),.d (.v (.slice none 0 0)),.d (.v (.slice none 0 0)),.d (.v (.slice none 0 0)),.d (.v (.slice none 0 0)),.d (I 0)]]) u hu;simp[go_sem,Use.own,Use.blks,Nat.add_assoc] at h;refine aW.gen h ?_;rintro r σ' X ⟨rfl,rfl,rfl⟩;simp[go_sem];refine hK _ ?_;refine aK ?_;refine AU (σ.length+2) (by simp[go_sem];first|rfl|skip) (by simp[go_sem,hwf.one];first|rfl|skip) ?_;refine AU (σ.length+3) (by simp[go_sem];first|rfl|skip) (by simp[go_sem,hwf.one];first|rfl|skip) ?_;refine aF hwf (σ.length+5) ?_;refine aF hwf (σ.length+6) ?_;refine aF hwf (σ.length+7) ?_;refine aF hwf (σ.length+8) ?_;refine aF hwf (σ.length+9) ?_;refine aF hwf (σ.length+10) ?_;refine aF hwf (σ.length+11) ?_;refine ak fun K hK=> ?_;simp[go_sem];refine hK _ ?_;refine aN ?_;refine bF [1,6,9,25,26,27] (by simp[go_sem,bf];rfl) ?_;refine bU (α:=Nat) (fun i=>[(27,.d (I i))]) (fun i=>σ++[.var (u.cells u.dw),.var [.d (.v (.slice none 0 0)),.d (.v (.slice none 0 0)),.d (.v (.slice none 0 0)),.d (I 0),.d (.v (.slice none 0 0)),.d (.v (.slice none 0 0)),.d (.v (.slice none 0 0)),.d (.v (.slice none 0 0)),.d (.v (.slice none 0 0)),.d (.v (.slice none 0 0)),.d (I 0),.d (.v (.slice none 0 0)),.d (.v (.slice none 0 0)),.d (.v (.slice none 0 0)),.d (.v (.slice none 0 0)),.d (I 0)],.dead,.dead,.dead,.dead,.dead,.dead,.dead,.dead,.dead,.dead,.var ((oV m rg g u i).cells (oV m rg g u i).dw)]) (fun i=>i<=n/\nO m rg g u 0 n=nO m rg g u i (n-i)/\∀q,q<i->wM m rg g u q=0) (fun i=>n-i) 0 (by simp[go_sem]) (rfl) (by simp) ?_;rintro i ⟨hi,hx,hq9⟩;refine ak fun K hK=> ?_;simp[go_sem];refine hK _ ?_;refine aK ?_;refine pW [1,6,9,25,26,27,28] ?_;refine ig ?_ ?_<;>intro c1 d1
  ·have hi1:i<n:=by omega
   have hrs:(jq (oV m rg g u i) m rg (g i)).1=oV m rg g u (i+1):=rfl;have hgs:=Z9 (m:=m) (rg:=rg) (g:=g) (u:=u) hi1;refine aV ?_;refine aK ?_;refine aN ?_;refine ak fun K hK=> ?_;simp[go_sem,d1];refine hK _ ?_;refine ak fun K hK=> ?_;simp[go_sem];refine aW.mk (Jm _ (oV m rg g u i) c m rg (g i) (hst i hi1 hq9) (aO h0) (aO h1)) ?_;simp[go_sem,hrs];refine hK _ ?_;refine aK ?_;refine ak fun K hK=> ?_;simp[go_sem];refine hK _ ?_;refine pW [1,6,9,10,12,13,25,26,27,40] ?_;refine ig ?_ ?_<;>intro c2 d2
   ·have hk2:wM m rg g u i≠0:=by unfold wM;simpa using d2
    have hgo:nO m rg g u 0 n=((i:Int),wM m rg g u i):=by rw[hx,hgs,if_pos hk2]
    have hr:Qb u m rg n g=(jk,(i:Int),wM m rg g u i):=by unfold Qb;rw[if_neg hq0,hgo,if_pos hk2]
    refine ak fun K hK=> ?_;simp[go_sem,c2];refine hK _ ?_;refine aj ?_;rw[hr];simp[go_sem,jk,jr,Go.aU.dD,wM]
   ·have hk2:wM m rg g u i=0:=by unfold wM;simpa using d2
    refine aV ?_;refine aQ fun K hK=> ?_;simp[go_sem,d2];refine hK _ ?_;refine aQ fun K hK=> ?_;simp[go_sem];try simp(disch:=omega) only[aA]
    refine hK _ ?_;refine⟨i+1,bK (by simp[go_sem]) ((au (by simp[go_sem]))) (by(simp[go_sem]<;>omega)),⟨by omega,by rw[hx,hgs,if_neg (fun h=>h hk2)],nH hq9 hk2⟩,by first|omega|(dsimp only;omega)⟩
  ·obtain rfl:i=n:=by omega
   have hgo:(nO m rg g u 0 i).2=0:=by rw[hx,Nat.sub_self];rfl
   have hr:Qb u m rg i g=(oV m rg g u i,-1,0):=by unfold Qb;rw[if_neg hq0,if_neg (fun h=>h hgo)]
   refine dh ?_;refine ak fun K hK=> ?_;simp[go_sem];refine hK _ ?_;rw[hr];exact aj sc
end Go.Proofs.YthlhlnbcjlpigaaGreatDoor
