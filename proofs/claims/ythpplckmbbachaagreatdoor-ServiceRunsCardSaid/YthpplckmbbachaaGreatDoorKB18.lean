/- Lemmas, no conditions. -/
import Derived.Test.YthpplckmbbachaaGreatDoorKB17
set_option linter.unusedVariables false
set_option linter.unusedSimpArgs false
set_option maxHeartbeats 1000000
set_option maxRecDepth 100000
namespace Go.Proofs.YthpplckmbbachaaGreatDoor
open Go.aI Go.bI Go.Proofs.Tryz
variable (σ : List aZ)
def dP(p:u5)(r:Row)(d:Int):Nat->List Ground
 |0=>if(du p.nc p.gc (dQ p r.Unit).1.Class (dQ p r.Unit).1.Made d).2=true/\(dQ p r.Unit).1.Class≠0 then[(du p.nc p.gc (dQ p r.Unit).1.Class (dQ p r.Unit).1.Made d).1] else[]
 |1=>(ew p.np p.gp (dQ p r.Unit).1.np (dQ p r.Unit).1.ps (dQ p r.Unit).1.Made p.dE d).1
 |_=>if r.dg=0 then[] else kD p.na p.ga r.dg d
theorem zJ(p r d):dP p r d 0=if(du p.nc p.gc (dQ p r.Unit).1.Class (dQ p r.Unit).1.Made d).2=true/\(dQ p r.Unit).1.Class≠0 then[(du p.nc p.gc (dQ p r.Unit).1.Class (dQ p r.Unit).1.Made d).1] else[]:=rfl
theorem YK(p r d):dP p r d 1=(ew p.np p.gp (dQ p r.Unit).1.np (dQ p r.Unit).1.ps (dQ p r.Unit).1.Made p.dE d).1:=rfl
theorem Kr(p r d):dP p r d 2=if r.dg=0 then[] else kD p.na p.ga r.dg d:=rfl
theorem HA(n g m ids made y d):(ew n g m ids made y d).1.length<=m:=by
 grind [fF,zm,ew]
theorem Vr(n g k d):(kD n g k d).length<=n:=by
 grind [fF,zY,kD]
theorem sS{p}(h:dT p)(r d j):(dP p r d j).length<=1000:=by
 unfold dP;split
 ·split<;>simp
 ·grind [HA,Ru]
 ·split
  ·simp
  ·have:=Vr p.na p.ga r.dg d;have:=h.na;omega
abbrev Fn0(f:FuncId):D:= .v (.func (.func f) #[] #[])
theorem xv:ak prog 478 [] σ (.d (.sl none 2 3 fun j=>[Fn0 (if j=0 then 497 else if j=1 then 502 else 505),Fn0 (if j=0 then 500 else if j=1 then 504 else 507)])):=by
 refine ak.bt func478 ?_;refine af (sm ?_);intro i hi;have hi3:i=0\/i=1\/i=2:=aa;rcases hi3 with rfl|rfl|rfl<;>rfl
theorem tW(p r d)(hp:dT p):ak prog 497 [.agg (p.enc.map .d),.agg (r.enc.map .d),.d (I d)] σ (.d (SL none 4 Ground.enc (dP p r d 0).length (nth (dP p r d 0)))):=by
 refine ak.bt func497 ?_;refine az.mk (oy _ _ _ ai) (sm ?_);refine az.mk (yh _ none p.nc p.gc (dQ p r.Unit).1.Class (dQ p r.Unit).1.Made d (by have:=hp.nc;omega)) ?_;refine gc [9] ?_ ?_<;>intro d0
 ·have hz:dP p r d 0=[(du p.nc p.gc (dQ p r.Unit).1.Class (dQ p r.Unit).1.Made d).1]:=by grind [zJ]
  refine wA ?_;rw[hz];simp[go_sem];exact⟨rfl,rfl,rfl,rfl⟩
 ·have hz:dP p r d 0=[]:=by grind [zJ]
  exact sx hz
theorem tV(p r d)(hp:dT p)(hσ:σ[1]? =some (.loc 1)):ak prog 502 [.agg (p.enc.map .d),.agg (r.enc.map .d),.d (I d)] σ (.d (SL none 4 Ground.enc (dP p r d 1).length (nth (dP p r d 1)))):=by
 refine ak.bt func502 ?_;refine az.mk (oy _ _ _ ai) (sm ?_);refine az.mk (xB _ none p.np p.gp none (dQ p r.Unit).1.np (dQ p r.Unit).1.ps (dQ p r.Unit).1.Made p.dE d Ax (by grind [Ru]) hp.nn (ay hσ)) ?_;refine wA ?_;simp[go_sem,dP]<;>omega
theorem tU(p r d)(hp:dT p):ak prog 505 [.agg (p.enc.map .d),.agg (r.enc.map .d),.d (I d)] σ (.d (SL none 4 Ground.enc (dP p r d 2).length (nth (dP p r d 2)))):=by
 refine ak.bt func505 ?_;refine dH [2,3,4] ?_ ?_<;>intro d0
 ·have hz:dP p r d 2=[]:=by grind [Kr]
  exact sx hz
 ·have hz:dP p r d 2=kD p.na p.ga r.dg d:=by grind [Kr]
  simp[go_sem];refine az.mk (s6 _ none p.na p.ga r.dg d Hb) ?_;exact sx hz
theorem I4{n g}(h0: ¬256<n){e}(h:aA (mF g) 0 n=e)(he:e≠0):bC n g=e:=by
 grind [bC]
theorem WW{n g}(h0: ¬256<n)(h1:aA (mF g) 0 n=0){e}(h:aA (qp n g) 0 n=e)(he:e≠0):bC n g=e:=by
 grind [bC]
theorem WV{n g}(h0: ¬256<n)(h1:aA (mF g) 0 n=0)(h2:aA (qp n g) 0 n=0){i}(hi:i<n)(hc:Cyc n g i):bC n g=17:=by
 unfold bC;rw[if_neg h0,if_neg ai,if_neg ai,if_pos ⟨i,hi,hc⟩]
theorem WU{n g}(h0: ¬256<n)(h1:aA (mF g) 0 n=0)(h2:aA (qp n g) 0 n=0)(hc: ∀i,i<n->¬Cyc n g i):bC n g=0:=by
 grind [bC]
theorem Z9{n g}(hg:Good n g){i}(hi:i<n)(h: ¬Cyc n g i): ∃K,K<n/\(g (cS n g i K)).Parent=0/\∀q,q<K->(g (cS n g i q)).Parent≠0:=by
 apply Classical.byContradiction;intro hn;refine h fun k hk he=> ?_;obtain⟨K,h4,_,h5,h6⟩:=hg.ends hi he;grind
theorem nq(σ c n g)(hn:n<1000000000):ak prog 29 [.d (SL c 3 Row.enc n g)] σ (.d (I (bC n g))):=by
 refine ak.be func29 fun hwf=> ?_;refine wP ?_;refine aq ?_;refine wP ?_;refine gF [1,2,12] ?_;refine fL ?_ ?_<;>intro c0 d0
 ·have hz:bC n g=8:=by grind [bC]
  refine aj fun K hK=> ?_;simp[go_sem,d0];refine hK _ ?_;exact sy hz
 ·have hle: ¬256<n:=aa;refine aJ ?_;refine aq ?_;refine aj fun K hK=> ?_;simp[go_sem,c0];refine hK _ ?_;refine aB ?_;refine ba [1,2,13,14,15] eE ?_;refine bB (α:=Nat) (fun i=>[(15,.d (I i))]) (fun i=>σ++[.var [.d (SL c 3 Row.enc n g)],.var [.d (I 0)]]) (fun i=>i<=n/\aA (mF g) 0 n=aA (mF g) i (n-i)) (fun i=>n-i) 0 au (rfl) an ?_;rintro i ⟨hi,hx⟩;refine wE ?_;refine aq ?_;refine gF [1,2,13,14,15,16] ?_;refine fL ?_ ?_<;>intro c1 d1
  ·obtain⟨k,hk⟩: ∃k,n-i=k+1:=⟨n-i-1,aa⟩;have hk':n-(i+1)=k:=aa;rw[hk,aA] at hx;refine aJ ?_;refine aq ?_;refine aB ?_;refine aj fun K hK=> ?_;simp[go_sem,d1];refine hK _ ?_;refine aB ?_;refine wV fun K hK=> ?_;refine az.mk (qk _ (g i).Unit) ?_;refine wD hK ?_;refine gF [1,2,3,4,13,14,15,20] ?_;refine fL ?_ ?_<;>intro c2 d2
   ·have hrk:rowOk (g i)=false:=by
     grind [rowOk]
    have he:mF g i=2:=by grind [mF]
    rw[he] at hx;simp at hx;have hz:=I4 hle hx aH;refine aj fun K hK=> ?_;simp[go_sem,c2];refine hK _ ?_;exact sy hz
   ·have hrk:rowOk (g i)=true:=by grind [rowOk]
    refine im 14 T.mixed aD fun K hK=> ?_;simp[go_sem,aT (i:=i) aa,d2];refine wG hK ?_;refine gF [1,2,13,14,15,45] ?_;refine fL ?_ ?_<;>intro c3 d3
    ·have he:mF g i=5:=by grind [mF]
     rw[he] at hx;simp at hx;have hz:=I4 hle hx aH;refine aj fun K hK=> ?_;simp[go_sem,d3];refine hK _ ?_;exact sy hz
    ·have he:mF g i=0:=by grind [mF]
     rw[he] at hx;simp at hx;refine aJ ?_;refine aE fun K hK=> ?_;simp[go_sem,c3];try simp(disch:=omega) only[aS]
     refine hK _ ?_;refine⟨i+1,bp aP (.refl _) iv,⟨aa,ai⟩,ai⟩
  ·have hin:i=n:=aa;rw[hin,Nat.sub_self,aA] at hx;refine bN ?_;refine aq ?_;refine aj fun K hK=> ?_;simp[go_sem,c1];refine hK _ ?_;refine aB ?_;refine ba [1,2,60,61,62] eE ?_;refine bB (α:=Nat) (fun q=>[(62,.d (I q))]) (fun q=>σ++[.var [.d (SL c 3 Row.enc n g)],.var [.d (I 0)]]) (fun q=>q<=n/\aA (qp n g) 0 n=aA (qp n g) q (n-q)) (fun q=>n-q) 0 au (rfl) an ?_;rintro q ⟨hq,hy⟩;refine wE ?_;refine aq ?_;refine gF [1,2,60,61,62,63] ?_;refine fL ?_ ?_<;>intro c4 d4
   ·obtain⟨j,hj⟩: ∃j,n-q=j+1:=⟨n-q-1,aa⟩;have hj':n-(q+1)=j:=aa;rw[hj,aA] at hy;refine aJ ?_;refine aq ?_;refine aB ?_;refine aj fun K hK=> ?_;simp[go_sem,d4];refine wY hK fun K hK=> ?_;refine cE.mk (gQ _ c n g (g q).Parent hn) ?_;refine wD hK ?_;refine gF [1,2,60,61,62,75] ?_;refine fL ?_ ?_<;>intro c5 d5
    ·have he:qp n g q=7:=by grind [qp]
     rw[he] at hy;simp at hy;have hz:=WW hle hx hy aH;refine aj fun K hK=> ?_;simp[go_sem,d5];refine hK _ ?_;exact sy hz
    ·have he:qp n g q=0:=by grind [qp]
     rw[he] at hy;simp at hy;refine aJ ?_;refine aE fun K hK=> ?_;simp[go_sem,c5];try simp(disch:=omega) only[aS]
     refine hK _ ?_;refine⟨q+1,bp aP (.refl _) iv,⟨aa,ai⟩,ai⟩
   ·have vB:q=n:=aa;rw[vB,Nat.sub_self,aA] at hy;have hg:=J3 aa hx hy;refine bN ?_;refine aq ?_;refine aj fun K hK=> ?_;simp[go_sem,c4];refine hK _ ?_;refine aB ?_;refine ba [1,2,77,78,79] eE ?_;refine mo [σ.length+50] an ?_;refine bB (α:=Nat) (fun r=>[(79,.d (I r))]) (fun r=>σ++[.var [.d (SL c 3 Row.enc n g)],.var [.d (I 0)]]) (fun r=>r<=n/\∀z,z<r->¬Cyc n g z) (fun r=>n-r) 0 au (rfl) an ?_;rintro r ⟨hr,hc⟩;refine wE ?_;refine aq ?_;refine gF [1,2,77,78,79,80] ?_;refine fL ?_ ?_<;>intro c6 d6
    ·refine aJ ?_;refine aq ?_;refine aB ?_;refine aj fun K hK=> ?_;simp[go_sem,d6];refine wY hK fun K hK=> ?_;refine wY hK fun K hK=> ?_;have hcl:=nP (mg (σ++[.var [.d (SL c 3 Row.enc n g)],.var [.d (I 0)],.var ((g r).enc.map .d),.var [.d (I 0)]]) c n g (g r).Unit);refine az.gen hcl ?_;rintro r' σ' X ⟨rfl,rfl,rfl⟩;refine wD hK ?_;refine aB ?_;by_cases hcy:Cyc n g r
     ·refine qO rfl [(1,.ptr σ.length 0),(2,.ptr (σ.length+1) 0),(9,.ptr (σ.length+3) 0)] au ?_;intro La hLa;have hLu: ∀k av,(k,av)∈La.t->av.under (σ.length+7):=by
       grind [AV.under]
      have iY: ∀k,k<=n->YS prog (σ.length+6) [.agg ((g (cS n g r k)).enc.map .d)] (σ++[.var [.d (SL c 3 Row.enc n g)],.var [.d (I 0)],.var ((g r).enc.map .d),.var [.d (I k)],.var [.d (SL c 3 Row.enc n g)],.var [.d (I (g r).Unit)],.lp La .ready none]) (fun r' σ' X=>X=[σ.length+50]/\(r'= .d (B (decide (k<n)))/\σ'=σ++[.var [.d (SL c 3 Row.enc n g)],.var [.d (I (if k=n then 17 else 0))],.var ((g r).enc.map .d),.var [.d (I (k+1:Nat))],.var [.d (SL c 3 Row.enc n g)],.var [.d (I (g r).Unit)],.lp La (if k=n then .done else .ready) (if k=n then some .ret else none)])):=by
       intro k hk;refine YS.JL (L:=La) (pd:=none) ai ai ?_;intro hwf';have eN:=congrArg gH.N hLa;have et:=congrArg gH.t hLa;have ep:=congrArg gH.ps hLa;have ea:=congrArg gH.assign hLa;have eb:=congrArg gH.body hLa;dsimp only at eN et ep ea eb;rw[eN,et,ep,ea,eb];clear eN et ep ea eb hLa hcl;refine aJ ?_;simp[zQ,go_sem,jQ,St.Eo];refine yz ?_;refine aB ?_;refine aj fun K hK=> ?_;simp[go_sem,wS k];refine wY hK fun K hK=> ?_;refine hK _ ?_;refine gF [2,93] ?_;refine ko ?_ ?_<;>intro d7
       ·refine aj fun K hK=> ?_;simp[go_sem,d7];refine hK _ ?_;refine af ?_;obtain rfl:k=n:=by omega
        refine⟨_,Sub.refl _,?_⟩;simp[go_sem,vc,vz,jQ,nC];exact ae (by simp[go_sem];grind)
       ·refine aJ ?_;have hkn:k<n:=aa;have hkn': ¬k=n:=aa;refine⟨_,Sub.refl _,?_⟩;simp[go_sem,vc,vz,jQ,nC,hkn,hkn'];exact ae au
      have hR:Ze (fun i=>σ++[.var [.d (SL c 3 Row.enc n g)],.var [.d (I (if i=n+1 then 17 else 0))],.var ((g r).enc.map .d),.var [.d (I i)],.var [.d (SL c 3 Row.enc n g)],.var [.d (I (g r).Unit)],.lp La (if i=n+1 then .done else .ready) (if i=n+1 then some .ret else none)]) c n g (g r).Unit (n+1) (cS n g r) false (σ.length+6) (σ.length+4) (σ.length+5) (σ.length+50):=by
       refine⟨fun i=>aP,fun i=>aP,fun i=>aP,fun i=>aP,fun i=>ae (by simp[go_sem];grind),fun i=>ae (by simp[go_sem];grind),fun i=>an,aa,aa,aa,by rw[if_neg aa];exact hg.find d6,fun i hi=>hg.nW d6 i (fun q hq=>hcy q aa),fun i hi=>⟨hcy i aa,(hg.qJ d6 (fun q hq=>hcy q aa)).1⟩,fun i hi=> ?_,fun i hi=> ?_,fun i hi h=>by cases h⟩
       ·simpa[show ¬i=n by omega,show i<n by omega,show ¬i=n+1 by omega] using iY i aa
       ·obtain rfl:i=n:=by omega
        simpa using iY i aa
      have h3:=gC σ _ c n g (g r).Unit (n+1) _ false _ _ _ _ hR hn;refine CS.mono (Q:=fun r' σ' X'=>X'=[σ.length+50]/\r'= .cj []/\σ'=_) (by simpa[go_sem] using h3) ?_;rintro r' σ' X ⟨rfl,rfl,rfl⟩;clear h3 hR iY hLa hcl;refine⟨σ++[.var [.d (SL c 3 Row.enc n g)],.var [.d (I 17)],.var ((g r).enc.map .d),.var [.d (I (n+1:Nat))],.var [.d (SL c 3 Row.enc n g)],.var [.d (I (g r).Unit)]],La,.done,some .ret,au,ae au,an,by simp[jQ],?_⟩;have hz:=WV hle hx hy d6 hcy;simp[HW,go_sem,cq,AV.avoids,cH,results29,hz]
     ·obtain⟨Kx,hK1,hK2,hK3⟩:=Z9 hg d6 hcy;refine qO rfl [(1,.ptr σ.length 0),(2,.ptr (σ.length+1) 0),(9,.ptr (σ.length+3) 0),(77,.d (SL c 3 Row.enc n g)),(78,.d (.v (.int .i64 n))),(79,.d (I r))] au ?_;intro La hLa;have iY: ∀k,k+1<=n->YS prog (σ.length+6) [.agg ((g (cS n g r k)).enc.map .d)] (σ++[.var [.d (SL c 3 Row.enc n g)],.var [.d (I 0)],.var ((g r).enc.map .d),.var [.d (I k)],.var [.d (SL c 3 Row.enc n g)],.var [.d (I (g r).Unit)],.lp La .ready none]) (fun r' σ' X=>X=[σ.length+50]/\(r'= .d (B true)/\σ'=σ++[.var [.d (SL c 3 Row.enc n g)],.var [.d (I 0)],.var ((g r).enc.map .d),.var [.d (I (k+1:Nat))],.var [.d (SL c 3 Row.enc n g)],.var [.d (I (g r).Unit)],.lp La .ready none])):=by
       intro k hk;refine YS.JL (L:=La) (pd:=none) ai ai ?_;intro hwf';have eN:=congrArg gH.N hLa;have et:=congrArg gH.t hLa;have ep:=congrArg gH.ps hLa;have ea:=congrArg gH.assign hLa;have eb:=congrArg gH.body hLa;dsimp only at eN et ep ea eb;rw[eN,et,ep,ea,eb];clear eN et ep ea eb hLa hcl;refine aJ ?_;simp[zQ,go_sem,jQ,St.Eo];refine yz ?_;refine aB ?_;refine aj fun K hK=> ?_;simp[go_sem,wS k];refine wY hK fun K hK=> ?_;refine hK _ ?_;refine gF [2,93] ?_;refine ko ?_ ?_<;>intro d8
       ·refine aj fun K hK=> ?_;simp[go_sem,d8];grind
       ·refine aJ ?_;refine⟨_,Sub.refl _,?_⟩;simp[go_sem,vc,vz,jQ,nC];exact ae au
      have hR:Ze (fun i=>σ++[.var [.d (SL c 3 Row.enc n g)],.var [.d (I 0)],.var ((g r).enc.map .d),.var [.d (I i)],.var [.d (SL c 3 Row.enc n g)],.var [.d (I (g r).Unit)],.lp La .ready none]) c n g (g r).Unit (Kx+1) (cS n g r) true (σ.length+6) (σ.length+4) (σ.length+5) (σ.length+50):=by
       refine⟨fun i=>aP,fun i=>aP,fun i=>aP,fun i=>aP,fun i=>ae au,fun i=>ae au,fun i=>an,aa,aa,aa,by rw[if_neg aa];exact hg.find d6,fun i hi=>hg.nW d6 i (fun q hq=>hK3 q aa),fun i hi=>⟨hK3 i aa,(hg.qJ d6 (fun q hq=>hK3 q aa)).1⟩,fun i hi=>iY i aa,fun i hi=>iY i aa,fun i hi _ hp=> ?_⟩;grind
      have h3:=gC σ _ c n g (g r).Unit (Kx+1) _ true _ _ _ _ hR hn;refine CS.mono (Q:=fun r' σ' X'=>X'=[σ.length+50]/\r'= .cj []/\σ'=_) (by simpa[go_sem] using h3) ?_;rintro r' σ' X ⟨rfl,rfl,rfl⟩;clear h3 hR iY hLa hcl;refine⟨σ++[.var [.d (SL c 3 Row.enc n g)],.var [.d (I 0)],.var ((g r).enc.map .d),.var [.d (I (Kx+1:Nat))],.var [.d (SL c 3 Row.enc n g)],.var [.d (I (g r).Unit)]],La,.ready,none,au,ae au,an,by simp[jQ],?_⟩;simp[HW,go_sem,cq,AV.avoids,cH];refine aE fun K hK=> ?_;simp[go_sem];try simp(disch:=omega) only[aS]
      refine hK _ ?_;refine⟨r+1,bp aP (.refl _) iv,⟨aa,fun z hz=>ai⟩,ai⟩
    ·have hrn:r=n:=aa;have hz:=WU hle hx hy (fun i hi=>hc i aa);refine bN ?_;refine aj fun K hK=> ?_;simp[go_sem,c6];refine hK _ ?_;exact sy hz
theorem UY(p r d j)(hp:dT p)(hσ:σ[1]? =some (.loc 1))(hj:j<3):ak prog (if j=0 then 497 else if j=1 then 502 else 505) [.agg (p.enc.map .d),.agg (r.enc.map .d),.d (I d)] σ (.d (SL none 4 Ground.enc (dP p r d j).length (nth (dP p r d j)))):=by
 have hj3:j=0\/j=1\/j=2:=aa;grind [tW,tV,tU]
def xc(u:Int)(x:Ground):Ground:=⟨x.Kind,x.Source,u,x.Until⟩
def G5(p:u5)(r:Row)(d:Int)(j:Nat):List Ground:=(dP p r d j).map (xc r.Unit)
def ib(p:u5)(d:Int)(r:Row):List Ground:=gather (G5 p r d) 3
noncomputable def dN(n:Nat)(g:Nat->Row)(p:u5)(u d:Int):List Ground:=gather (fun k=>ib p d (g (bY n g u k))) (dt n g u)
theorem mR{β}{f:Nat->List β}{m} : ∀{i},(∀q,q<i->(f q).length<=m)->(gather f i).length<=i*m
 |0,_=>by simp[gather]
 |i+1,h=>by
  have h1:=mR (i:=i) fun q hq=>h q aa;grind [gather]
theorem OA{p}(h:dT p)(r d j):(G5 p r d j).length<=1000:=by
 grind [G5,sS]
theorem xg{p}(h:dT p)(d r):(ib p d r).length<=3000:=by
 have:=mR (f:=G5 p r d) (i:=3) (m:=1000) fun q _=>OA h r d q;grind [ib]
theorem M0{α β:Type}[Inhabited α](f:α->β)(L:List α):lst L.length (fun q=>f (nth L q))=L.map f:=by
 have:=CV L;rw[←congrArg (List.map f) this];simp[lst]
theorem aao{p}(hp:dT p)(r d F)(hF:F.length<=768000): ∃Bf:Nat->Nat->List Ground,Bf 0 0=F/\(∀j q,Bf j (q+1)=Bf j q++[xc r.Unit (nth (dP p r d j) q)])/\(∀j,Bf (j+1) 0=Bf j (dP p r d j).length)/\
  (∀j q,j<=3->q<=1000->(Bf j q).length<=800000)/\Bf 3 0=F++gather (G5 p r d) 3:=by
 refine⟨fun j q=>F++(gather (G5 p r d) j++lst q (fun q=>xc r.Unit (nth (dP p r d j) q))),by simp[gather,lst],fun j q=> ?_,fun j=> ?_,fun j q hj hq=> ?_,by simp[lst]⟩
 ·grind [iE]
 ·grind [M0,gather,lst,G5]
 ·have:=mR (f:=G5 p r d) (i:=j) (m:=1000) fun q _=>OA hp r d q;grind [cd]
theorem xw(c n g p u d)(hn:n<=256)(hp:dT p)(hr:bC n g=0)(hσ:σ[1]? =some (.loc 1)):ak prog 455 [.d (SL c 3 Row.enc n g),.agg (p.enc.map .d),.d (I u),.d (I d)] σ (.d (SL none 4 Ground.enc (dN n g p u d).length (nth (dN n g p u d)))):=by
 obtain⟨hwk,Cu⟩:=rL hr u;refine ak.be func455 fun hwf=> ?_;refine we ?_;refine aq ?_;refine Iq (σ.length+2) 4 (fun i=>Ground.enc (nth ([]:List Ground) i)) ai aN ?_;refine aj fun K hK=>sm ?_;have hcl:=nP (mg (σ++[.var (p.enc.map .d),.var [.d (I d)],.var [.ms (σ.length+3) 4 0 0],.arr 4 0 (fun i=>Ground.enc (nth ([]:List Ground) i))]) c n g u);refine az.gen hcl ?_;rintro r' σ' X ⟨rfl,rfl,rfl⟩;refine wD hK ?_;refine aB ?_;refine qO rfl [(5,.ptr σ.length 0),(7,.ptr (σ.length+1) 0),(9,.ptr (σ.length+2) 0)] au ?_;intro La hLa;have iY: ∀k,k<dt n g u->YS prog (σ.length+6) [.agg ((g (bY n g u k)).enc.map .d)] (σ++[.var (p.enc.map .d),.var [.d (I d)],.var [.ms (σ.length+3) 4 0 (gather (fun k=>ib p d (g (bY n g u k))) k).length],.arr 4 (gather (fun k=>ib p d (g (bY n g u k))) k).length (fun i=>Ground.enc (nth (gather (fun k=>ib p d (g (bY n g u k))) k) i)),.var [.d (SL c 3 Row.enc n g)],.var [.d (I u)],.lp La .ready none]) (fun r' σ' X=>X=[σ.length+3]/\(r'= .d (B true)/\σ'=σ++[.var (p.enc.map .d),.var [.d (I d)],.var [.ms (σ.length+3) 4 0 (gather (fun k=>ib p d (g (bY n g u k))) (k+1)).length],.arr 4 (gather (fun k=>ib p d (g (bY n g u k))) (k+1)).length (fun i=>Ground.enc (nth (gather (fun k=>ib p d (g (bY n g u k))) (k+1)) i)),.var [.d (SL c 3 Row.enc n g)],.var [.d (I u)],.lp La .ready none])):=by
  intro k hk;have hFl:(gather (fun k=>ib p d (g (bY n g u k))) k).length<=768000:=by
   have:=mR (f:=fun k=>ib p d (g (bY n g u k))) (i:=k) (m:=3000) fun q _=>xg hp d _;omega
  have hF1:gather (fun k=>ib p d (g (bY n g u k))) (k+1)=gather (fun k=>ib p d (g (bY n g u k))) k++gather (G5 p (g (bY n g u k)) d) 3:=rfl;rw[hF1];generalize gather (fun k=>ib p d (g (bY n g u k))) k=F at hFl
  obtain⟨Bf,rfl,hs,hnx,hBl,hB3⟩:=aao hp (g (bY n g u k)) d F hFl;refine YS.JL (L:=La) (pd:=none) aP ai ?_;intro hwf';have eN:=congrArg gH.N hLa;have et:=congrArg gH.t hLa;have ep:=congrArg gH.ps hLa;have ea:=congrArg gH.assign hLa;have eb:=congrArg gH.body hLa;dsimp only at eN et ep ea eb;have h1:cq [σ.length+3] La.t=La.t:=by simp_all [cq,AV.avoids]
  rw[eN,et,ep,ea,eb];clear eN et ep ea eb hLa hcl;refine aE fun K hK=> ?_;simp[go_sem,St.Eo];refine hK _ ?_;simp[zQ,go_sem,jQ];refine yz ?_;refine aB ?_;refine wV fun K hK=> ?_;refine az.mk (xv _) ?_;refine wD hK ?_;refine aB ?_;refine ba [5,7,9,10,19,20,21] eE ?_;refine mo [σ.length+3] an ?_;refine bB (α:=Nat) (fun j=>[(21,.d (I j))]) (fun j=>σ++[.var (p.enc.map .d),.var [.d (I d)],.var [.ms (σ.length+3) 4 0 (Bf j 0).length],.arr 4 (Bf j 0).length (fun i=>Ground.enc (nth (Bf j 0) i)),.var [.d (SL c 3 Row.enc n g)],.var [.d (I u)],.lp La .busy none,.var ((g (bY n g u k)).enc.map .d)]) (fun j=>j<=3) (fun j=>3-j) 0 au (rfl) an ?_;rintro j hj;refine wE ?_;refine aq ?_;refine gF [5,7,9,10,19,20,21,22] ?_;refine ko ?_ ?_<;>intro d0
  ·have hcl:=sS hp (g (bY n g u k)) d j;have hrow:rowsOf 2 [] j=rowsOf 2 [] j:=rfl;refine aJ ?_;refine aq ?_;refine aB ?_;refine aj fun K hK=> ?_;simp[go_sem,d0];refine wY hK fun K hK=> ?_;refine az.mk (UY _ p (g (bY n g u k)) d j hp (ay hσ) aa) ?_;refine wD hK ?_;refine aB ?_;refine ba [5,7,9,10,19,20,21,30,31,32] eE ?_;refine mo [σ.length+3] an ?_;refine bB (α:=Nat) (fun q=>[(32,.d (I q))]) (fun q=>σ++[.var (p.enc.map .d),.var [.d (I d)],.var [.ms (σ.length+3) 4 0 (Bf j q).length],.arr 4 (Bf j q).length (fun i=>Ground.enc (nth (Bf j q) i)),.var [.d (SL c 3 Row.enc n g)],.var [.d (I u)],.lp La .busy none,.var ((g (bY n g u k)).enc.map .d),.var [.d (Fn0 (if j=0 then 497 else if j=1 then 502 else 505)),.d (Fn0 (if j=0 then 500 else if j=1 then 504 else 507))]]) (fun q=>q<=(dP p (g (bY n g u k)) d j).length) (fun q=>(dP p (g (bY n g u k)) d j).length-q) 0 au (rfl) an ?_;rintro q hq;refine wE ?_;refine aq ?_;refine gF [5,7,9,10,19,20,21,30,31,32,33] ?_;refine ko ?_ ?_<;>intro d1
   ·have hbl:=hBl j q aa aa;have hsq:=hs j q;refine aJ ?_;refine aq ?_;refine aB ?_;refine aj fun K hK=> ?_;simp[go_sem,d1];refine wY hK fun K hK=> ?_;refine hK _ ?_;refine aE fun K hK=> ?_;simp[go_sem,h1,hwf.one];refine wG hK ?_;refine ax (σ.length+3) (fun i=>Ground.enc (nth (Bf j q++[xc (g (bY n g u k)).Unit (nth (dP p (g (bY n g u k)) d j) q)]) i)) bj (by exact fun i hi=>fH (enc:=Ground.enc) (x:=xc (g (bY n g u k)).Unit (nth (dP p (g (bY n g u k)) d j) q)) rfl hi) aN ?_;refine aE fun K hK=> ?_;simp[go_sem];try simp(disch:=omega) only[aS]
    refine hK _ ?_;refine⟨q+1,bp (by simp[go_sem,hsq]) ((ae au)) iv,aa,ai⟩
   ·obtain rfl:q=(dP p (g (bY n g u k)) d j).length:=by omega
    have hnj:=hnx j;refine bN ?_;refine aE fun K hK=> ?_;simp[go_sem];try simp(disch:=omega) only[aS]
    refine hK _ ?_;refine⟨j+1,bp (by simp[go_sem,hnj]) ((ae au)) iv,aa,ai⟩
  ·obtain rfl:j=3:=by omega
   refine bN ?_;refine⟨_,Sub.refl _,?_⟩;simp[go_sem,vc,vz,jQ,nC,hB3];exact ae au
 have hR:Ze (fun k=>σ++[.var (p.enc.map .d),.var [.d (I d)],.var [.ms (σ.length+3) 4 0 (gather (fun k=>ib p d (g (bY n g u k))) k).length],.arr 4 (gather (fun k=>ib p d (g (bY n g u k))) k).length (fun i=>Ground.enc (nth (gather (fun k=>ib p d (g (bY n g u k))) k) i)),.var [.d (SL c 3 Row.enc n g)],.var [.d (I u)],.lp La .ready none]) c n g u (dt n g u) (bY n g u) true (σ.length+6) (σ.length+4) (σ.length+5) (σ.length+3):=by
  refine⟨fun i=>ai,fun i=>ai,fun i=>ai,fun i=>ai,fun i=>ae au,fun i=>ae au,fun i=>an,aa,aa,aa,Cu.first,Cu.lt,Cu.mid,fun i hi=>iY i aa,fun i hi=>iY i aa,fun i hi _=>Cu.fin i hi⟩
 have h3:=gC σ _ c n g u (dt n g u) _ true _ _ _ _ hR aa;refine CS.mono (Q:=fun r' σ' X'=>X'=[σ.length+3]/\r'= .cj []/\σ'=_) (by simpa[go_sem,gather] using h3) ?_;rintro r' σ' X ⟨rfl,rfl,rfl⟩;clear h3 hR iY hLa hcl;refine⟨σ++[.var (p.enc.map .d),.var [.d (I d)],.var [.ms (σ.length+3) 4 0 (dN n g p u d).length],.arr 4 (dN n g p u d).length (fun i=>Ground.enc (nth (dN n g p u d) i)),.var [.d (SL c 3 Row.enc n g)],.var [.d (I u)]],La,.ready,none,by simp[go_sem,dN],ae au,an,by simp[jQ],?_⟩;simp[HW,go_sem,cq,AV.avoids,cH];refine wP ?_;refine aF hwf (σ.length+3) ?_;exact af sc
theorem FK{α:Type}{enc:α->List D}{f:Nat->α}{k sz ds}(h:ds.take sz=enc (f k)){q}(hq:q<k+1):aO k (fun q=>enc (f q)) (rowsOf sz ds) q=enc (f q):=by
 unfold aO;split
 ·rfl
 ·have:q=k:=aa;simp_all [rowsOf]
structure Acc where
 Reader:Int
 Unit:Int
 Day:Int
 Te:Bool
 nr:Nat
 rs:Nat->Reason
instance:Inhabited Acc:=⟨⟨0,0,0,false,0,fun _=>default⟩⟩
def Acc.enc(a:Acc):List D:=[I a.Reader,I a.Unit,I a.Day,B a.Te,SL none 5 Reason.enc a.nr a.rs]
attribute [go_sem] Acc.enc
def Acc.zero:Acc:=⟨0,0,0,false,0,fun _=>default⟩
noncomputable def jy(n:Nat)(g:Nat->Row)(p:u5)(r u d:Int):Int:=if bC n g≠0\/bL p≠0 then 1 else if kZ r=false\/d<0\/1048575<d then 2 else if dL n g u<0 then 7 else 0
theorem F3{n g p r u d}(h:jy n g p r u d=0):bC n g=0/\bL p=0/\kZ r=true/\0<=d/\d<=1048575/\0<=dL n g u:=by
 grind [jy]
def Kj(p:u5)(r:Int)(k:Nat)(w:Nat->Int)(d:Int)(x:Ground):Int:=
 if(ez p.nm p.gm r k w x.Kind d).2=false\/(x.Kind=3/\o4 p.na p.ga x.Source=true) then 0 else(ez p.nm p.gm r k w x.Kind d).1
def vV(p:u5)(r:Int)(k:Nat)(w:Nat->Int)(d:Int)(x:Ground):Reason:=⟨x,Kj p r k w d x⟩
def lifted(f:Nat->Reason):Nat->Bool
 |0=>true
 |i+1=>lifted f i&&((f i).Pm !=0)
def ad2(p:u5)(r u:Int)(k:Nat)(w:Nat->Int)(d:Int)(L:List Ground):Acc:=⟨r,u,d,lifted (fun q=>vV p r k w d (nth L q)) L.length,L.length,fun q=>vV p r k w d (nth L q)⟩
noncomputable def QA(n:Nat)(g:Nat->Row)(p:u5)(r u d:Int):Acc:=ad2 p r u (dt n g u) (fun i=>(g (bY n g u i)).Unit) d (dN n g p u d)
noncomputable def fG(n:Nat)(g:Nat->Row)(p:u5)(r u d:Int):Acc×Int:=if jy n g p r u d≠0 then(Acc.zero,jy n g p r u d) else(QA n g p r u d,0)
theorem Lf{n g p}(hp:dT p)(hn:n<=256)(hr:bC n g=0)(u d):(dN n g p u d).length<=768000:=by
 have h1:=(rL hr u).1;have:=mR (f:=fun k=>ib p d (g (bY n g u k))) (i:=dt n g u) (m:=3000) fun q _=>xg hp d _;grind [dN]
theorem CM{n g}(h:bC n g=0):n<=256:=(kO h).1.le
theorem Cm(c n g p r u d)(hn:n<1000000000)(hp:dT p)(hσ:σ[1]? =some (.loc 1)):ak prog 424 [.d (SL c 3 Row.enc n g),.agg (p.enc.map .d),.d (I r),.d (I u),.d (I d)] σ (.d (I (jy n g p r u d))):=by
 refine ak.bt func424 ?_;refine az.mk (nq _ c n g hn) (sm ?_);refine cE.mk (iN _ p hp (ay hσ)) (gc [0,2,3,4] ?_ ?_)<;>intro d0
 ·have hz:jy n g p r u d=1:=by grind [jy]
  exact sx hz
 ·have hd0: ¬(bC n g≠0\/bL p≠0):=aa;simp[go_sem];refine az.mk (qk _ r) (gc [0,3] ?_ ?_)<;>intro d1
  ·have hz:jy n g p r u d=2:=by grind [jy]
   exact sx hz
  ·have hd1: ¬(kZ r=false\/d<0\/1048575<d):=by
    grind
   simp[go_sem];refine az.mk (gQ _ c n g u hn) (gc [] ?_ ?_)<;>intro d2
   ·have hz:jy n g p r u d=7:=by grind [jy]
    exact sx hz
   ·have hz:jy n g p r u d=0:=by grind [jy]
    exact sx hz
theorem zo(c n g p r u d)(hp:dT p)(hr:bC n g=0)(hσ:σ[1]? =some (.loc 1)):ak prog 425 [.d (SL c 3 Row.enc n g),.agg (p.enc.map .d),.d (I r),.d (I u),.d (I d)] σ (.agg ((QA n g p r u d).enc.map .d)):=by
 have hn:=CM hr;obtain⟨hwk,Cu⟩:=rL hr u;have hwl:=Lf hp hn hr u d;refine ak.bs false func425 fun hwf=> ?_;refine go false (sm ?_);refine Ir (σ.length+2) 4 5 (fun q=>Reason.enc (vV p r (dt n g u) (fun i=>(g (bY n g u i)).Unit) d (nth (dN n g p u d) q))) aN ai aN aN ?_;refine go false (sm ?_);refine az.mk (Eu _ c n g u _ _ Cu aa aa) (sm ?_);refine go true (sm ?_);refine az.mk (xw _ c n g p u d hn hp hr (ay hσ)) (sm ?_);refine JQ (α:=Nat) false [2,4,6,10,11,12,28,29,30] [σ.length+3] (fun q=>[(30,.d (I q))]) (fun q=>σ++[.var (p.enc.map .d),.var [.d (I 0),.d (I 0),.d (I 0),.d (B false),.d (.v (.slice none 0 0))],.var [.d (I r),.d (I u),.d (I d),.d (B (lifted (fun q=>vV p r (dt n g u) (fun i=>(g (bY n g u i)).Unit) d (nth (dN n g p u d) q)) q)),.ms (σ.length+3) 5 0 q],.arr 5 q (fun q=>Reason.enc (vV p r (dt n g u) (fun i=>(g (bY n g u i)).Unit) d (nth (dN n g p u d) q)))]) (fun q=>q<=(dN n g p u d).length) (fun q=>(dN n g p u d).length-q) 0 au (rfl) an an ?_;rintro q hq;simp[go_sem];refine go false (gc [2,4,6,10,11,12,28,29,30] ?_ ?_)<;>intro d0
 ·refine wB ?_;refine go false (sm ?_);refine az.mk (Cr _ none p.nm p.gm r none (dt n g u) (fun i=>(g (bY n g u i)).Unit) (nth (dN n g p u d) q).Kind d (by have:=hp.nm;omega) aa) ?_;simp[go_sem];refine go false (sm ?_);refine cE.mk (ui _ none p.na p.ga (nth (dN n g p u d) q).Source Hb) ?_;simp[go_sem];refine go false (gc [2,4,6,10,11,12,14,15,28,29,30] ?_ ?_)<;>intro d1
  ·have hdec:Kj p r (dt n g u) (fun i=>(g (bY n g u i)).Unit) d (nth (dN n g p u d) q)=0:=by grind [Kj]
   have hlf:lifted (fun q=>vV p r (dt n g u) (fun i=>(g (bY n g u i)).Unit) d (nth (dN n g p u d) q)) (q+1)=false:=by grind [lifted,vV]
   refine wH ?_;simp[go_sem,hwf.one];repeat refine⟨aa,?_⟩
   refine ax (σ.length+3) (fun q=>Reason.enc (vV p r (dt n g u) (fun i=>(g (bY n g u i)).Unit) d (nth (dN n g p u d) q))) bj (by intro i hi;refine FK (enc:=Reason.enc) (f:=(fun q=>vV p r (dt n g u) (fun i=>(g (bY n g u i)).Unit) d (nth (dN n g p u d) q))) ?_ hi;grind [vV,Reason.enc]) aN ?_;refine wi ?_;refine wC ?_;refine bF (q+1) aa (h:=aR) (hσ:=aP) (hb:=ae au)
  ·have hdec:Kj p r (dt n g u) (fun i=>(g (bY n g u i)).Unit) d (nth (dN n g p u d) q)=(ez p.nm p.gm r (dt n g u) (fun i=>(g (bY n g u i)).Unit) (nth (dN n g p u d) q).Kind d).1:=by
    grind [Kj]
   have hlf:lifted (fun q=>vV p r (dt n g u) (fun i=>(g (bY n g u i)).Unit) d (nth (dN n g p u d) q)) (q+1)=(lifted (fun q=>vV p r (dt n g u) (fun i=>(g (bY n g u i)).Unit) d (nth (dN n g p u d) q)) q&&((ez p.nm p.gm r (dt n g u) (fun i=>(g (bY n g u i)).Unit) (nth (dN n g p u d) q).Kind d).1 !=0)):=by grind [lifted,vV]
   simp[go_sem,hwf.one];repeat refine⟨aa,?_⟩
   refine ax (σ.length+3) (fun q=>Reason.enc (vV p r (dt n g u) (fun i=>(g (bY n g u i)).Unit) d (nth (dN n g p u d) q))) bj (by intro i hi;refine FK (enc:=Reason.enc) (f:=(fun q=>vV p r (dt n g u) (fun i=>(g (bY n g u i)).Unit) d (nth (dN n g p u d) q))) ?_ hi;grind [vV,Reason.enc]) aN ?_;refine wi ?_;refine wC ?_;refine bF (q+1) aa (h:=aR) (hσ:=aP) (hb:=ae au)
 ·obtain rfl:q=(dN n g p u d).length:=by omega
  refine wF ?_;refine aF hwf (σ.length+3) ?_;refine af ?_;simp[go_sem,QA,ad2]
def gD(n lo hi:Int):Bool:=decide (lo<=n)&&decide (n<=hi)
theorem bO{n lo hi} :gD n lo hi=true↔lo<=n/\n<=hi:=by grind [gD]
theorem jm{e i n}(h:i<n):aA e i (n-i)=if e i≠0 then e i else aA e (i+1) (n-(i+1)):=by
 obtain⟨k,hk⟩: ∃k,n-i=k+1:=⟨n-i-1,aa⟩;grind [aA]
theorem lg{e i n}(h: ¬i<n):aA e i (n-i)=0:=by simp_all [aA]
theorem Tl(v:AV)(κ:Key):iC (fun _=>v) κ v=fun _=>v:=by grind [iC]
structure Cnt where
 Unit:Int
 kb:Int
instance:Inhabited Cnt:=⟨⟨0,0⟩⟩
def Cnt.enc(c:Cnt):List D:=[I c.Unit,I c.kb]
structure Bx where
 ID:Int
 Width:Int
 Room:Int
 bH:Int
 nc:Nat
 gc:Nat->Cnt
instance:Inhabited Bx:=⟨⟨0,0,0,0,0,fun _=>default⟩⟩
def Bx.enc(b:Bx):List D:=[I b.ID,I b.Width,I b.Room,I b.bH,SL none 2 Cnt.enc b.nc b.gc]
structure l4 where
 ID:Int
 F7:Int
 Length:Int
 bH:Int
instance:Inhabited l4:=⟨⟨0,0,0,0⟩⟩
def l4.enc(s:l4):List D:=[I s.ID,I s.F7,I s.Length,I s.bH]
attribute [go_sem] Cnt.enc Bx.enc l4.enc
def ei(c:Cnt):Bool:=gD c.Unit 1 1073741824&&gD c.kb 1 10000
def tb(g:Nat->Cnt):Nat->Int
 |0=>0
 |n+1=>tb g n+(g n).kb
theorem IF{g n}(h: ∀i,i<n->ei (g i)=true): ∀k,k<=n->0<=tb g k/\tb g k<=10000*(k:Int):=by
 intro k;induction k<;>grind [tb,ei,bO]
def nV(b:Bx):Bool:=(lst b.nc b.gc).any fun c=> !ei c
theorem Ib{b}(h:nV b=false): ∀i,i<b.nc->ei (b.gc i)=true:=by
 grind [nV,lst]
def rz(b:Bx):Bool:=gD b.ID 1 1073741824&&gD b.Width 1 10000&&gD b.Room 1 b.Width&&gD b.bH 0 7&& !nV b
def sX(b:Bx):Int:=if rz b=false then 2 else if 32<b.nc then 8 else if b.Room<tb b.gc b.nc then 12 else 0
def fW(g:Nat->Cnt)(i:Nat)(ks:List Key):Nat->Option (List Key)
 |0=>some ks
 |k+1=>if Key.i (g i).Unit∈ks then none else fW g (i+1) (iX (.i (g i).Unit) ks) k
def uf(g:Nat->Bx)(i:Nat)(ks:List Key):Nat->Int
 |0=>0
 |k+1=>if sX (g i)≠0 then sX (g i) else if 0<i/\(g i).ID<=(g (i-1)).ID then 5 else
  match fW (g i).gc 0 ks (g i).nc with
  |none=>6
  |some ks'=>uf g (i+1) ks' k
def bW(n:Nat)(g:Nat->Bx):Int:=if 128<n then 8 else uf g 0 [] n
theorem Ih{g:Nat->Bx}{i n:Nat}{ks:List Key}(h:i<n):uf g i ks (n-i)=if sX (g i)≠0 then sX (g i) else if 0<i/\(g i).ID<=(g (i-1)).ID then 5 else
  match fW (g i).gc 0 ks (g i).nc with
  |none=>6
  |some ks'=>uf g (i+1) ks' (n-(i+1)):=by
 obtain⟨k,hk⟩: ∃k,n-i=k+1:=⟨n-i-1,aa⟩;grind [uf]
theorem QC{g i n ks}(h:i<n):fW g i ks (n-i)=if Key.i (g i).Unit∈ks then none else fW g (i+1) (iX (.i (g i).Unit) ks) (n-(i+1)):=by
 obtain⟨k,hk⟩: ∃k,n-i=k+1:=⟨n-i-1,aa⟩;grind [fW]
theorem A2(c n g f cap p)(hn:n<1000000000)(hf: ∀i,i<n->ak prog f (.agg ((g i).enc.map .d)::cap) σ (.d (B (p (g i))))):ak prog 351 [.d (SL c 2 Cnt.enc n g),.clo (.func f) [] cap] σ (.d (I (idxFrom p (lst n g) 0))):=by
 refine ak.bt func351 ?_;refine dm (α:=Nat) true [0,1,7,8] (fun i=>[(8,.d (I i))]) (fun i=>_) (fun i=>i<=n/\idxFrom p (lst n g) 0=idxFrom p ((lst n g).drop i) i) (fun i=>n-i) 0 ?_;rintro i ⟨hi,hx⟩;refine gc [0,1,7,8] ?_ ?_<;>intro d0
 ·rw[bU d0,idxFrom] at hx;refine wB ?_;refine az.mk (hf i d0) (sm ?_);refine km [0,1,5,7,8] ?_ ?_<;>intro c1 d1
  ·refine wA ?_;simp[go_sem,hx,c1]<;>omega
  ·refine wC ?_;refine bF (i+1) ⟨aa,ai⟩ (h:=aR)
 ·rw[bV d0,idxFrom] at hx;refine wN ?_;simp[go_sem,hx]<;>omega
theorem nR(c n g f cap p)(hn:n<1000000000)(hf: ∀i,i<n->ak prog f (.agg ((g i).enc.map .d)::cap) σ (.d (B (p (g i))))):ak prog 270 [.d (SL c 2 Cnt.enc n g),.clo (.func f) [] cap] σ (.d (B ((lst n g).any p))):=by
 refine ak.bt func270 ?_;refine az.mk (A2 _ c n g f cap p hn hf) (sm ?_);refine af ?_;simp[go_sem,gE]<;>omega
theorem Bt(c n g)(hn:n<1000000000):ak prog 112 [.d (SL c 2 Cnt.enc n g)] σ (.d (SL none 2 Cnt.enc n g)):=by
 refine ak.bd true func112 fun hwf=> ?_;simp[go_sem,-Bool.forall_bool];try intro b1 hb1
 refine fX ?_ ?_<;>intro c0 d0
 ·refine wA ?_;have:=hb1 c0;simp[go_sem,this]
 ·refine wB ?_;refine bg (σ.length) bj aN eS ?_;exact af so
theorem qz(c n g f cap p)(hn:n<1000000000)(hf: ∀i,i<n->ak prog f (.agg ((g i).enc.map .d)::cap) σ (.d (B (p (g i))))):ak prog 125 [.d (SL c 5 Bx.enc n g),.clo (.func f) [] cap] σ (.d (I (idxFrom p (lst n g) 0))):=by
 refine ak.bt func125 ?_;refine dm (α:=Nat) true [0,1,7,8] (fun i=>[(8,.d (I i))]) (fun i=>_) (fun i=>i<=n/\idxFrom p (lst n g) 0=idxFrom p ((lst n g).drop i) i) (fun i=>n-i) 0 ?_;rintro i ⟨hi,hx⟩;refine gc [0,1,7,8] ?_ ?_<;>intro d0
 ·rw[bU d0,idxFrom] at hx;refine wB ?_;refine az.mk (hf i d0) (sm ?_);refine km [0,1,5,7,8] ?_ ?_<;>intro c1 d1
  ·refine wA ?_;simp[go_sem,hx,c1]<;>omega
  ·refine wC ?_;refine bF (i+1) ⟨aa,ai⟩ (h:=aR)
 ·rw[bV d0,idxFrom] at hx;refine wN ?_;simp[go_sem,hx]<;>omega
theorem G4(c n g f cap p)(hn:n<1000000000)(hf: ∀i,i<n->ak prog f (.agg ((g i).enc.map .d)::cap) σ (.d (B (p (g i))))):ak prog 139 [.d (SL c 5 Bx.enc n g),.clo (.func f) [] cap] σ (.d (B ((lst n g).any p))):=by
 refine ak.bt func139 ?_;refine az.mk (qz _ c n g f cap p hn hf) (sm ?_);refine af ?_;simp[go_sem,gE]<;>omega
theorem ad4(c n g)(hn:n<1000000000):ak prog 111 [.d (SL c 5 Bx.enc n g)] σ (.d (SL none 5 Bx.enc n g)):=by
 refine ak.bd true func111 fun hwf=> ?_;simp[go_sem,-Bool.forall_bool];try intro b1 hb1
 refine fX ?_ ?_<;>intro c0 d0
 ·refine wA ?_;have:=hb1 c0;simp[go_sem,this]
 ·refine wB ?_;refine bg (σ.length) bj aN eS ?_;exact af so
theorem Bu(c n g)(hn:n<1000000000):CS prog 111 [.d (SL c 5 Bx.enc n g)] σ (fun r σ' X=>r= .ms σ.length 5 0 n/\σ'=σ++[.arr 5 n fun i=>Bx.enc (g i)]/\X=[]):=by
 refine CS.Ik true func111 fun hwf=> ?_;simp[go_sem,-Bool.forall_bool];try intro b1 hb1
 refine fX ?_ ?_<;>intro c0 d0
 ·simp[go_sem];refine bq 2 5 (fun i=>Bx.enc (g i)) au aN ?_;refine af ?_;obtain rfl:=hb1 c0;simp[go_sem]
 ·refine wB ?_;exact af so
theorem NA(c n g f cap p)(hn:n<1000000000)(hf: ∀i,i<n->ak prog f (.agg ((g i).enc.map .d)::cap) σ (.d (B (p (g i))))):ak prog 203 [.d (SL c 4 l4.enc n g),.clo (.func f) [] cap] σ (.d (I (idxFrom p (lst n g) 0))):=by
 refine ak.bt func203 ?_;refine dm (α:=Nat) true [0,1,7,8] (fun i=>[(8,.d (I i))]) (fun i=>_) (fun i=>i<=n/\idxFrom p (lst n g) 0=idxFrom p ((lst n g).drop i) i) (fun i=>n-i) 0 ?_;rintro i ⟨hi,hx⟩;refine gc [0,1,7,8] ?_ ?_<;>intro d0
 ·rw[bU d0,idxFrom] at hx;refine wB ?_;refine az.mk (hf i d0) (sm ?_);refine km [0,1,5,7,8] ?_ ?_<;>intro c1 d1
  ·refine wA ?_;simp[go_sem,hx,c1]<;>omega
  ·refine wC ?_;refine bF (i+1) ⟨aa,ai⟩ (h:=aR)
 ·rw[bV d0,idxFrom] at hx;refine wN ?_;simp[go_sem,hx]<;>omega
theorem ln(n lo up):ak prog 269 [.d (I n),.d (I lo),.d (I up)] σ (.d (B (gD n lo up))):=by
 refine ak.bt func269 ?_;refine af ?_;simp[go_sem,gD]<;>omega
theorem ou(n lo up):ak prog 189 [.d (I n),.d (I lo),.d (I up)] σ (.d (B (gD n lo up))):=by
 refine ak.bt func189 ?_;refine af ?_;simp[go_sem,gD]<;>omega
theorem pQ(c):ak prog 272 [.agg (c.enc.map .d)] σ (.d (B (ei c))):=by
 refine ak.bt func272 ?_;refine az.mk (ln _ _ _ _) (sm ?_);refine cE.mk (ln _ _ _ _) (sm ?_);refine af ?_;simp[go_sem,ei]<;>omega
theorem FY(c):ak prog 271 [.agg (c.enc.map .d)] σ (.d (B (!ei c))):=by
 refine ak.bt func271 ?_;refine az.mk (pQ _ _) (sm ?_);exact af so
theorem yw(c n g)(hn:n<=1000000)(hg: ∀i,i<n->ei (g i)=true):ak prog 273 [.d (SL c 2 Cnt.enc n g)] σ (.d (I (tb g n))):=by
 have hb:=IF hg;refine ak.bt func273 ?_;refine mA (α:=Nat) true [3,6,7,8] (fun i=>[(8,.d (I i)),(3,.d (I (tb g i)))]) (fun i=>_) (fun i=>i<=n) (fun i=>n-i) 0 (by simp[go_sem,tb]) (rfl) an ?_;rintro i hi;have hb1:=hb i aa;refine gc [3,6,7,8] ?_ ?_<;>intro d0
 ·have hb2:=hb (i+1) aa;rw[tb] at hb2;refine wC ?_;repeat refine⟨aa,?_⟩
  refine bF (i+1) aa (h:=by simp[go_sem,tb]<;>omega)
 ·obtain rfl:i=n:=by omega
  refine wF ?_;exact af so
theorem KI(b)(hn:b.nc<1000000000):ak prog 188 [.agg (b.enc.map .d)] σ (.d (I (sX b))):=by
 refine ak.bt func188 ?_;refine az.mk (ln _ _ _ _) (sm ?_);refine cE.mk (ln _ _ _ _) (sm ?_);refine cE.mk (ln _ _ _ _) (sm ?_);refine cE.mk (ln _ _ _ _) (sm ?_);refine cE.mk (nR _ none b.nc b.gc 271 [] (fun c=> !ei c) hn (fun i hi=>FY _ _)) (gc [1] ?_ ?_)<;>intro d0
 ·have hz:sX b=2:=by
   grind [sX,rz,nV]
  exact sx hz
 ·have hk:rz b=true:=by grind [rz,nV]
  have hcb:nV b=false:=by grind [rz]
  refine gc [1] ?_ ?_<;>intro d1
  ·have hz:sX b=8:=by grind [sX]
   exact sx hz
  ·simp[go_sem];refine T.dr 7 fun K hK=>sm ?_;refine bK.mk (yw _ none b.nc b.gc aa (Ib hcb)) (sm ?_);refine hK _ ?_;refine go true (gc [] ?_ ?_)<;>intro d2
   ·have hz:sX b=12:=by grind [sX]
    exact sx hz
   ·have hz:sX b=0:=by grind [sX]
    exact sx hz
theorem jY(c n g)(hn:n<1000000000)(hN: ∀i,i<n->(g i).nc<1000000000):ak prog 129 [.d (SL c 5 Bx.enc n g)] σ (.d (I (bW n g))):=by
 refine ak.bd false func129 fun hwf=> ?_;refine wU ?_;refine gc [0] ?_ ?_<;>intro d0
 ·have hz:bW n g=8:=by grind [bW]
  refine wR ?_;exact sx hz
 ·have hz:bW n g=uf g 0 [] (n-0):=by grind [bW]
  simp[go_sem];refine yA σ.length (ks':=[]) (f':=fun _=> .d (B true)) v7 (.refl _) (fun k hk=>nomatch hk) (fun _=>rfl) Q8 ?_;refine wa ?_;refine mA (α:=Nat×List Key) true [0,3,13,14,15] (fun x=>[(15,.d (I x.1))]) (fun x=>σ++[.mp false x.2 (fun _=> .d (B true))]) (fun x=>x.1<=n/\bW n g=uf g x.1 x.2 (n-x.1)) (fun x=>n-x.1) (0,[]) au (rfl) (⟨an,ai⟩) ?_;rintro⟨i,ks⟩ ⟨hi,hx⟩;dsimp only at hi hx;refine gc [0,3,13,14,15] ?_ ?_<;>intro d1
  ·have hst:=Ih (g:=g) (ks:=ks) d1;refine wB ?_;refine az.mk (KI _ (g i) (hN i d1)) ?_;refine gc [0,3,4,5,6,13,14,15] ?_ ?_<;>intro d2
   ·have hz:bW n g=sX (g i):=ai;exact sx hz
   ·simp[go_sem];refine T.dr 13 fun K hK=> ?_;simp[go_sem,aT (i:=i) aa];refine wK hK ?_;refine gc [0,3,5,13,14,15] ?_ ?_<;>intro d3
    ·have hz:bW n g=5:=ai;exact sx hz
    ·simp[go_sem];refine mA (α:=Nat×List Key) true [0,3,13,14,15,39,40,41] (fun y=>[(41,.d (I y.1))]) (fun y=>σ++[.mp false y.2 (fun _=> .d (B true)),.var ((g i).enc.map .d)]) (fun y=>y.1<=(g i).nc/\fW (g i).gc 0 ks (g i).nc=fW (g i).gc y.1 y.2 ((g i).nc-y.1)) (fun y=>(g i).nc-y.1) (0,ks) au (rfl) (⟨an,rfl⟩) ?_;rintro⟨q,kq⟩ ⟨hq,hy⟩;dsimp only at hq hy;refine gc [0,3,13,14,15,39,40,41] ?_ ?_<;>intro d4
     ·have hsq:=QC (g:=(g i).gc) (ks:=kq) d4;refine wB ?_;refine dH [0,3,8,13,14,15,39,40,41] ?_ ?_<;>intro d5
      ·have hz:bW n g=6:=ai;exact sx hz
      ·simp(disch:=first|omega|simp) [go_sem,Tl];refine bF ((q+1,iX (.i ((g i).gc q).Unit) kq)) ⟨ai,ai⟩ (h:=by simp[go_sem,wS q ai]<;>omega) (hσ:=aP) (hb:=ae au)
     ·obtain⟨Nv,rfl⟩: ∃Nv,Nv=kq:=⟨_,rfl⟩;have hcg:fW (g i).gc 0 ks (g i).nc=some Nv:=by simp_all [fW]
      refine wT ?_;refine bF ((i+1,Nv)) ⟨ai,ai⟩ (h:=aR) (hσ:=aP) (hb:=ae au)
  ·have hz:bW n g=0:=by simp_all [uf]
   refine wR ?_;exact sx hz
end Go.Proofs.YthpplckmbbachaaGreatDoor
