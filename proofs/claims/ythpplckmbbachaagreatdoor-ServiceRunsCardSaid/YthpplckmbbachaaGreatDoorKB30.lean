/- Lemmas, no conditions. -/
import Derived.Test.YthpplckmbbachaaGreatDoorKB28
set_option linter.unusedSimpArgs false
set_option linter.unusedVariables false
set_option maxHeartbeats 2000000
set_option maxRecDepth 100000
namespace Go.Proofs.YthpplckmbbachaaGreatDoor
open Go.aI Go.bI Go.Proofs.Tryz
variable (σ : List aZ)
def bm(cs:List AV)(c:Option Nat)(m:Nat)(rg:Nat->Row)(e:Ev):List AV:=cs++[.d (SL c 3 Row.enc m rg),.d (I e.ID),.d (I e.Day),.d (I e.Kind),.d (SL e.cn 1 encI e.nn e.gn),.d (SL e.ct 1 encS e.nt e.gt)]
attribute [go_sem] bm
def dn(u:Use)(e:Ev)(k:Int)(tp:yK):Int:=gh u.nv u.gv ⟨e.Day,k,aM u k,tp⟩
noncomputable def jc(u:Use)(m:Nat)(rg:Nat->Row)(e:Ev)(rd un:Int):Bool:=((fG m rg u.P rd un e.Day).2==0)&&(fG m rg u.P rd un e.Day).1.Te
def cT.zero:cT:=⟨0,0,0,0,0,0,0⟩
def xf(u:Use)(k:Int):Int:=idxFrom (fun r:cT=>r.ID==k) (lst u.nr u.gr) 0
theorem RE(u k):xf u k<u.nr:=iR _ u.nr u.gr
def bJ(u:Use)(k:Int):cT×Bool:=if xf u k<0 then(cT.zero,false) else(u.gr (xf u k).toNat,true)
theorem LO(τ)(u:Use)(c m rg e a)(ha: ∀n,a.under n)(n g k):CS prog 294 [.ptr σ.length 1,.d (SL none 6 Rule.enc n g),.d (I k)] (σ++ .var (bm ((u.cells u.aX).set 1 (a)) c m rg e)::τ) (fun r σ' X'=>X'=[]/\r= .d (I k)/\σ'=σ++ .var (bm ((u.cells u.aX).set 1 ((if k=0 then .d (SL none 6 Rule.enc n g) else a))) c m rg e)::τ):=by
 refine CS.BA true [] func294 fun hwf=> ?_;refine ue ?_ ?_<;>intro d0
 ·obtain rfl:k=0:=by grind
  simp[go_sem];refine af (sm ?_);exact ae bf
 ·have hk: ¬k=0:=ai;refine wA ?_;simp[go_sem,hk];exact .refl _
theorem LJ(τ)(u:Use)(c m rg e a)(ha: ∀n,a.under n)(n g k):CS prog 297 [.ptr σ.length 2,.d (SL none 6 dF.enc n g),.d (I k)] (σ++ .var (bm ((u.cells u.aX).set 2 (a)) c m rg e)::τ) (fun r σ' X'=>X'=[]/\r= .d (I k)/\σ'=σ++ .var (bm ((u.cells u.aX).set 2 ((if k=0 then .d (SL none 6 dF.enc n g) else a))) c m rg e)::τ):=by
 refine CS.BA true [] func297 fun hwf=> ?_;refine ue ?_ ?_<;>intro d0
 ·obtain rfl:k=0:=by grind
  simp[go_sem];refine af (sm ?_);exact ae bf
 ·have hk: ¬k=0:=ai;refine wA ?_;simp[go_sem,hk];exact .refl _
theorem WJ(τ)(u:Use)(c m rg e a)(ha: ∀n,a.under n)(n g k):CS prog 299 [.ptr σ.length 4,.d (SL none 6 fM.enc n g),.d (I k)] (σ++ .var (bm ((u.cells u.aX).set 4 (a)) c m rg e)::τ) (fun r σ' X'=>X'=[]/\r= .d (I k)/\σ'=σ++ .var (bm ((u.cells u.aX).set 4 ((if k=0 then .d (SL none 6 fM.enc n g) else a))) c m rg e)::τ):=by
 refine CS.BA true [] func299 fun hwf=> ?_;refine ue ?_ ?_<;>intro d0
 ·obtain rfl:k=0:=by grind
  simp[go_sem];refine af (sm ?_);exact ae bf
 ·have hk: ¬k=0:=ai;refine wA ?_;simp[go_sem,hk];exact .refl _
theorem LL(τ)(u:Use)(c m rg e a)(ha: ∀n,a.under n)(n g k):CS prog 301 [.ptr σ.length 5,.d (SL none 6 fu.enc n g),.d (I k)] (σ++ .var (bm ((u.cells u.aX).set 5 (a)) c m rg e)::τ) (fun r σ' X'=>X'=[]/\r= .d (I k)/\σ'=σ++ .var (bm ((u.cells u.aX).set 5 ((if k=0 then .d (SL none 6 fu.enc n g) else a))) c m rg e)::τ):=by
 refine CS.BA true [] func301 fun hwf=> ?_;refine ue ?_ ?_<;>intro d0
 ·obtain rfl:k=0:=by grind
  simp[go_sem];refine af (sm ?_);exact ae bf
 ·have hk: ¬k=0:=ai;refine wA ?_;simp[go_sem,hk];exact .refl _
theorem DQ(τ)(u:Use)(c m rg e a)(ha: ∀n,a.under n)(n g k):CS prog 307 [.ptr σ.length 6,.d (SL none 5 Bx.enc n g),.d (I k)] (σ++ .var (bm ((u.cells u.aX).set 6 (a)) c m rg e)::τ) (fun r σ' X'=>X'=[]/\r= .d (I k)/\σ'=σ++ .var (bm ((u.cells u.aX).set 6 ((if k=0 then .d (SL none 5 Bx.enc n g) else a))) c m rg e)::τ):=by
 refine CS.BA true [] func307 fun hwf=> ?_;refine ue ?_ ?_<;>intro d0
 ·obtain rfl:k=0:=by grind
  simp[go_sem];refine af (sm ?_);exact ae bf
 ·have hk: ¬k=0:=ai;refine wA ?_;simp[go_sem,hk];exact .refl _
theorem WE(τ)(u:Use)(c m rg e a)(ha: ∀n,a.under n)(n g k):CS prog 312 [.ptr σ.length 7,.d (SL none 4 l4.enc n g),.d (I k)] (σ++ .var (bm ((u.cells u.aX).set 7 (a)) c m rg e)::τ) (fun r σ' X'=>X'=[]/\r= .d (I k)/\σ'=σ++ .var (bm ((u.cells u.aX).set 7 ((if k=0 then .d (SL none 4 l4.enc n g) else a))) c m rg e)::τ):=by
 refine CS.BA true [] func312 fun hwf=> ?_;refine ue ?_ ?_<;>intro d0
 ·obtain rfl:k=0:=by grind
  simp[go_sem];refine af (sm ?_);exact ae bf
 ·have hk: ¬k=0:=ai;refine wA ?_;simp[go_sem,hk];exact .refl _
theorem WG(τ)(u:Use)(c m rg e a)(ha: ∀n,a.under n)(n g k):CS prog 378 [.ptr σ.length 8,.d (SL none 6 hY.enc n g),.d (I k)] (σ++ .var (bm ((u.cells u.aX).set 8 (a)) c m rg e)::τ) (fun r σ' X'=>X'=[]/\r= .d (I k)/\σ'=σ++ .var (bm ((u.cells u.aX).set 8 ((if k=0 then .d (SL none 6 hY.enc n g) else a))) c m rg e)::τ):=by
 refine CS.BA true [] func378 fun hwf=> ?_;refine ue ?_ ?_<;>intro d0
 ·obtain rfl:k=0:=by grind
  simp[go_sem];refine af (sm ?_);exact ae bf
 ·have hk: ¬k=0:=ai;refine wA ?_;simp[go_sem,hk];exact .refl _
theorem DP(τ)(u:Use)(c m rg e a)(ha: ∀n,a.under n)(n g k):CS prog 317 [.ptr σ.length 9,.d (SL none 7 cT.enc n g),.d (I k)] (σ++ .var (bm ((u.cells u.aX).set 9 (a)) c m rg e)::τ) (fun r σ' X'=>X'=[]/\r= .d (I k)/\σ'=σ++ .var (bm ((u.cells u.aX).set 9 ((if k=0 then .d (SL none 7 cT.enc n g) else a))) c m rg e)::τ):=by
 refine CS.BA true [] func317 fun hwf=> ?_;refine ue ?_ ?_<;>intro d0
 ·obtain rfl:k=0:=by grind
  simp[go_sem];refine af (sm ?_);exact ae bf
 ·have hk: ¬k=0:=ai;refine wA ?_;simp[go_sem,hk];exact .refl _
theorem WH(τ)(u:Use)(c m rg e a)(ha: ∀n,a.under n)(n g k):CS prog 326 [.ptr σ.length 11,.d (SL none 4 ju.enc n g),.d (I k)] (σ++ .var (bm ((u.cells u.aX).set 11 (a)) c m rg e)::τ) (fun r σ' X'=>X'=[]/\r= .d (I k)/\σ'=σ++ .var (bm ((u.cells u.aX).set 11 ((if k=0 then .d (SL none 4 ju.enc n g) else a))) c m rg e)::τ):=by
 refine CS.BA true [] func326 fun hwf=> ?_;refine ue ?_ ?_<;>intro d0
 ·obtain rfl:k=0:=by grind
  simp[go_sem];refine af (sm ?_);exact ae bf
 ·have hk: ¬k=0:=ai;refine wA ?_;simp[go_sem,hk];exact .refl _
theorem LM(τ)(u:Use)(c m rg e a)(ha: ∀n,a.under n)(n g k):CS prog 334 [.ptr σ.length 13,.d (SL none 2 kE.enc n g),.d (I k)] (σ++ .var (bm ((u.cells u.aX).set 13 (a)) c m rg e)::τ) (fun r σ' X'=>X'=[]/\r= .d (I k)/\σ'=σ++ .var (bm ((u.cells u.aX).set 13 ((if k=0 then .d (SL none 2 kE.enc n g) else a))) c m rg e)::τ):=by
 refine CS.BA true [] func334 fun hwf=> ?_;refine ue ?_ ?_<;>intro d0
 ·obtain rfl:k=0:=by grind
  simp[go_sem];refine af (sm ?_);exact ae bf
 ·have hk: ¬k=0:=ai;refine wA ?_;simp[go_sem,hk];exact .refl _
theorem TH(τ)(u:Use)(c m rg e p):CS prog 306 [.ptr σ.length 0,.agg (p.enc.map .d),.d (I 0)] (σ++ .var (bm (u.cells u.aX) c m rg e)::τ) (fun r σ' X'=>X'=[]/\r= .d (I 0)/\σ'=σ++ .var (bm ({ u with P:=p }.cells u.aX) c m rg e)::τ):=by
 refine CS.BA true [] func306 fun hwf=> ?_;refine cn0 rfl ?_ ?_<;>intro c0 d0<;>try simp at d0
 ·simp[go_sem];refine af (sm ?_);exact ae bf
theorem TI(τ)(u:Use)(c m rg e)(p:u5)(k)(hk: ¬k=0):ak prog 306 [.ptr σ.length 0,.agg (p.enc.map .d),.d (I k)] (σ++ .var (bm (u.cells u.aX) c m rg e)::τ) (.d (I k)):=by
 refine ak.bt func306 ?_;refine ue ?_ ?_<;>intro d0
 ·exact absurd ai hk
 ·simp[go_sem];exact af so
theorem rP(τ u c m rg e k)(hn:u.nv<1000000000):ak prog 308 [.ptr σ.length 0,.d (I k)] (σ++ .var (bm (u.cells u.aX) c m rg e)::τ) (.d (B ((aM u k).Kind==3))):=by
 refine ak.bt func308 ?_;refine az.mk (iV _ u k hn) (sm ?_);exact af sc
theorem qb(τ u c m rg e k tp)(hn:u.nv<1000000000):CS prog 314 [.ptr σ.length 0,.d (I k),.agg (tp.enc.map .d)] (σ++ .var (bm (u.cells u.aX) c m rg e)::τ) (fun r σ' X'=>X'=[]/\r= .d (I (dn u e k tp))/\σ'=σ++ .var (bm ((u.cells u.aX).set 8 (.d (SL none 6 hY.enc (if dn u e k tp=0 then u.nv+1 else u.nv) (if dn u e k tp=0 then aL u.gv u.nv ⟨e.Day,k,aM u k,tp⟩ else u.gv)))) c m rg e)::τ):=by
 refine CS.BA true [] func314 fun hwf=> ?_;refine T.dr 24 fun K hK=>sm ?_;refine bK.mk (iV _ u k hn) (sm ?_);refine bK.mk (oH _ none u.nv u.gv ⟨e.Day,k,aM u k,tp⟩ hn) (sm ?_);refine hK _ ?_;refine go true (sm ?_);refine az.gen (WG σ _ u c m rg e (.d (SL none 6 hY.enc u.nv u.gv)) (fun _=>trivial) _ _ _) ?_;rintro r σ' X ⟨rfl,rfl,rfl⟩;refine wA ?_;by_cases hk:dn u e k tp=0
 ·have hk2:=hk;unfold dn at hk2;simp[go_sem,dn,hk2];exact ae bf
 ·have hk2:=hk;unfold dn at hk2;simp[go_sem,dn,hk2];grind [ae,fD]
theorem Gl(τ u c m rg e rd un)(hm:m<1000000000)(hp:dT u.P)(h1:σ[1]? =some (.loc 1)):ak prog 315 [.ptr σ.length 0,.d (I rd),.d (I un)] (σ++ .var (bm (u.cells u.aX) c m rg e)::τ) (.d (B (jc u m rg e rd un))):=by
 refine ak.bt func315 ?_;apply cU 22 20 21 T.mixed aD
 ·intro τ K hK;simp[go_sem];refine bK.mk (pt _ c m rg u.P rd un e.Day hm hp (ay h1)) (sm ?_);exact hK _ _
 intro K hK;refine wD hK ?_;refine go true (sm ?_);refine af ?_;simp[go_sem,jc]
theorem wy(τ)(r:cT)(k):ak prog 380 [.agg (r.enc.map .d),.ptr σ.length 0] (σ++ .var [.d (I k)]::τ) (.d (B (r.ID==k))):=by
 refine ak.bt func380 ?_;exact af so
theorem Lt(τ u c m rg e k)(hn:u.nr<1000000000):ak prog 318 [.ptr σ.length 0,.d (I k)] (σ++ .var (bm (u.cells u.aX) c m rg e)::τ) (.cj [.agg ((bJ u k).1.enc.map .d),.d (B (bJ u k).2)]):=by
 have hlt:=RE u k;unfold xf at hlt;refine ak.bt func318 ?_;refine az.mk (lO _ none u.nr u.gr _ _ (fun r=>r.ID==k) hn (fun i hi=>by have h:=nA (wy (σ++ .var (bm (u.cells u.aX) c m rg e)::τ) [.var (cT.zero.enc.map .d)] (u.gr i) k);simpa[go_sem,cT.zero] using h)) ?_;refine gc [0,4,6] ?_ ?_<;>intro d0
 ·have hz:bJ u k=(cT.zero,false):=by grind [bJ,xf]
  refine wA ?_;rw[hz];simp[go_sem,cT.zero]
 ·have hz:bJ u k=(u.gr (idxFrom (fun r:cT=>r.ID==k) (lst u.nr u.gr) 0).toNat,true):=by grind [bJ,xf]
  refine wB ?_;exact sy hz
def pO(e:Ev):Rule:=⟨e.gn 0,e.gn 1,e.gn 2,e.gn 3==1,⟨e.gn 4,e.gn 5⟩⟩
def prNew(e:Ev):dF:=⟨e.gn 0,e.gt 0,⟨e.gn 1,e.gn 2⟩,⟨e.gn 3,e.gn 4⟩⟩
def pX(e:Ev):fM:=⟨e.gn 0,e.gn 1,e.gn 2,e.gn 3==1,⟨e.gn 4,e.gn 5⟩⟩
def sq(e:Ev):fu:=⟨e.gn 0,e.gn 1,e.gn 2,e.gn 3,⟨e.gn 4,e.gn 5⟩⟩
def dS(e:Ev):Bx:=⟨e.gn 0,e.gn 1,e.gn 2,e.gn 3,0,fun _=>⟨0,0⟩⟩
def ov(e:Ev):l4:=⟨e.gn 0,e.gn 1,e.gn 2,e.gn 3⟩
def mC(e:Ev):ju:=⟨e.gn 0,e.gn 1,⟨e.gn 2,e.gn 3⟩⟩
def VR(u:Use)(e:Ev):Use:= { u with P:= { u.P with nc:=u.P.nc+1,gc:=aL u.P.gc u.P.nc (pO e) } }
def SR(u:Use)(e:Ev):Int:=if e.gn 4<e.Day then 5 else check (u.P.nc+1) (aL u.P.gc u.P.nc (pO e))
def SJ(u:Use)(e:Ev):Int:=if e.gn 1<e.Day then 5 else(kj u.P.nc u.P.gc (e.gn 0) (e.gn 1)).2
def VQ(u:Use)(e:Ev):Use:= { u with P:= { u.P with nc:=(kj u.P.nc u.P.gc (e.gn 0) (e.gn 1)).1.1,gc:=(kj u.P.nc u.P.gc (e.gn 0) (e.gn 1)).1.2 } }
def VT(u:Use)(e:Ev):Use:= { u with P:= { u.P with np:=u.P.np+1,gp:=aL u.P.gp u.P.np (prNew e) } }
def Zv(u:Use)(e:Ev):Int:=cL (u.P.np+1) (aL u.P.gp u.P.np (prNew e))
def Sh(u:Use)(e:Ev):(Nat×(Nat->dF))×Int:=cQ u.P.np u.P.gp (e.gn 0) ⟨e.gn 1,e.gn 2⟩ ⟨e.gn 3,e.gn 4⟩
def VM(u:Use)(e:Ev):Use:= { u with P:= { u.P with np:=(Sh u e).1.1,gp:=(Sh u e).1.2 } }
def VW(u:Use)(e:Ev):Use:= { u with P:= { u.P with na:=u.P.na+1,ga:=aL u.P.ga u.P.na (pX e) } }
def S8(u:Use)(e:Ev):Int:=if e.gn 4<e.Day then 5 else dA (u.P.na+1) (aL u.P.ga u.P.na (pX e))
def Zt(u:Use)(e:Ev):Use:= { u with P:= { u.P with nm:=u.P.nm+1,gm:=aL u.P.gm u.P.nm (sq e) } }
def RO(u:Use)(e:Ev):Int:=if e.gn 4<e.Day then 5 else cY u.P.nm u.P.gm (sq e)
def VJ(u:Use)(e:Ev):Use:= { u with P:= { u.P with nm:=Gq u.P.nm u.P.gm (e.gn 0) e.Day,gm:=VL u.P.gm (Ga u.P.nm u.P.gm (e.gn 0)).toNat e.Day } }
def Pk(u:Use)(e:Ev):Use:= { u with nb:=u.nb+1,gb:=aL u.gb u.nb (dS e) }
def Vv(u:Use)(e:Ev):Int:=bW (u.nb+1) (aL u.gb u.nb (dS e))
def PV(u:Use)(e:Ev):Int:=if(aM u (e.gn 0)).Kind=3 then 11 else kg u.nb u.gb (e.gn 0) (e.gn 1) ⟨e.gn 2,e.gn 3⟩
def W1(u:Use)(e:Ev):Use:= { u with gb:=Cl u.gb (hZ u.nb u.gb (e.gn 0)).toNat (e.gn 1).toNat ⟨e.gn 2,e.gn 3⟩ }
def Hm(u:Use)(e:Ev):Int:=if(cp u.nb u.gb (e.gn 0)).2.2=false then 7 else if(aM u (cp u.nb u.gb (e.gn 0)).1).Kind=3 then 11 else fv u.nb u.gb (e.gn 0)
def Zo(u:Use)(e:Ev):Use:= { u with gb:=qU u.gb (qS u.nb u.gb (e.gn 0)).1.toNat (qS u.nb u.gb (e.gn 0)).2.toNat }
def S2(u:Use)(e:Ev):Use:= { u with nf:=u.nf+1,gf:=aL u.gf u.nf (ov e) }
def Y3(u:Use)(e:Ev):Int:=dp (u.nf+1) (aL u.gf u.nf (ov e))
def QM(u:Use)(e:Ev):Int:=if e.gn 2<e.Day then 5 else lZ u.gq u.nk u.gk (mC e)
def YR(u:Use)(e:Ev):Use:= { u with nk:=u.nk+1,gk:=aL u.gk u.nk (mC e) }
def dz(u:Use)(e:Ev)(k:Int)(tp:yK):Use:= { u with nv:=u.nv+1,gv:=aL u.gv u.nv ⟨e.Day,k,aM u k,tp⟩ }
def gG(u:Use)(e:Ev):cT:=⟨e.gn 0,e.gn 1,e.gn 2,(cp u.nb u.gb (e.gn 2)).1,e.Day,0,0⟩
noncomputable def Ge(u:Use)(m:Nat)(rg:Nat->Row)(e:Ev):Int:=if(cp u.nb u.gb (e.gn 2)).2.2=false then 7 else if jc u m rg e (e.gn 1) (e.gn 2)=false then 22 else dB u.nr u.gr (gG u e)
def Zd(u:Use)(e:Ev):Use:= { u with nr:=u.nr+1,gr:=aL u.gr u.nr (gL (gG u e)) }
theorem SV(u:Use)(e): ∀q,q<u.nb+1->(Bx.enc (aL u.gb u.nb (dS e) q)).length=(aO u.nb (fun q=>Bx.enc (u.gb q)) (rowsOf 5 [I (e.gn 0),I (e.gn 1),I (e.gn 2),I (e.gn 3),.v (.slice none 0 0)]) q).length/\∀k,k<5->∀w j v,RD w j ((aO u.nb (fun q=>Bx.enc (u.gb q)) (rowsOf 5 [I (e.gn 0),I (e.gn 1),I (e.gn 2),I (e.gn 3),.v (.slice none 0 0)]) q).getD k default) v->RD w j ((Bx.enc (aL u.gb u.nb (dS e) q)).getD k default) v:=by
 intro q hq;unfold aO aL;split
 ·grind
 ·obtain rfl:q=u.nb:=by omega
  refine⟨by simp[rowsOf,Bx.enc],fun k hk w j v h=> ?_⟩;rcases k with _|_|_|_|_|k;all_goals grind [rowsOf,Bx.enc,dS,RD.nil]
theorem gu{α}{enc:α->List D}{g n sz ds x}(h:ds.take sz=enc x): ∀q,q<n+1->aO n (fun q=>enc (g q)) (rowsOf sz ds) q=enc (aL g n x q):=by
 intro q hq;unfold aO aL;split
 ·rfl
 ·obtain rfl:q=n:=by omega
  simp[rowsOf,h]
theorem oK(σ p)(a:aZ)(r):σ++(p++a::r)=(σ++(p++[a]))++r:=by simp
theorem cF{σ A a r}(h:aI.Leaves A (σ++[.var a])): ∃σ',(∃x,σ++ .var a::r=σ'++x)/\aI.Leaves A σ'/\∃cs,σ'=σ++[.var cs]:=⟨_,⟨r,oK σ [] (.var a) r⟩,h,a,rfl⟩
theorem ij{σ A a r}(h:aI.Leaves A (σ++[.dead,.var a])): ∃σ',(∃x,σ++ .dead:: .var a::r=σ'++x)/\aI.Leaves A σ'/\∃cs,σ'=σ++[.dead,.var cs]:=⟨_,⟨r,oK σ [.dead] (.var a) r⟩,h,a,rfl⟩
theorem mJ{σ A a r}(h:aI.Leaves A (σ++[.dead,.dead,.var a])): ∃σ',(∃x,σ++ .dead:: .dead:: .var a::r=σ'++x)/\aI.Leaves A σ'/\∃cs,σ'=σ++[.dead,.dead,.var cs]:=⟨_,⟨r,oK σ [.dead,.dead] (.var a) r⟩,h,a,rfl⟩
theorem aaJ{σ A a r}(h:aI.Leaves A (σ++[.dead,.dead,.dead,.var a])): ∃σ',(∃x,σ++ .dead:: .dead:: .dead:: .var a::r=σ'++x)/\aI.Leaves A σ'/\∃cs,σ'=σ++[.dead,.dead,.dead,.var cs]:=⟨_,⟨r,oK σ [.dead,.dead,.dead] (.var a) r⟩,h,a,rfl⟩
theorem aaI{σ A a r}(h:aI.Leaves A (σ++[.dead,.dead,.dead,.dead,.var a])): ∃σ',(∃x,σ++ .dead:: .dead:: .dead:: .dead:: .var a::r=σ'++x)/\aI.Leaves A σ'/\∃cs,σ'=σ++[.dead,.dead,.dead,.dead,.var cs]:=⟨_,⟨r,oK σ [.dead,.dead,.dead,.dead] (.var a) r⟩,h,a,rfl⟩
theorem SB{σ A a r}(h:aI.Leaves A (σ++[.dead,.dead,.dead,.dead,.dead,.var a])): ∃σ',(∃x,σ++ .dead:: .dead:: .dead:: .dead:: .dead:: .var a::r=σ'++x)/\aI.Leaves A σ'/\∃cs,σ'=σ++[.dead,.dead,.dead,.dead,.dead,.var cs]:=⟨_,⟨r,oK σ [.dead,.dead,.dead,.dead,.dead] (.var a) r⟩,h,a,rfl⟩
theorem aaH{σ A a r}(h:aI.Leaves A (σ++[.dead,.dead,.dead,.dead,.dead,.dead,.var a])): ∃σ',(∃x,σ++ .dead:: .dead:: .dead:: .dead:: .dead:: .dead:: .var a::r=σ'++x)/\aI.Leaves A σ'/\∃cs,σ'=σ++[.dead,.dead,.dead,.dead,.dead,.dead,.var cs]:=⟨_,⟨r,oK σ [.dead,.dead,.dead,.dead,.dead,.dead] (.var a) r⟩,h,a,rfl⟩
theorem SA{σ A a r}(h:aI.Leaves A (σ++[.dead,.dead,.dead,.dead,.dead,.dead,.dead,.var a])): ∃σ',(∃x,σ++ .dead:: .dead:: .dead:: .dead:: .dead:: .dead:: .dead:: .var a::r=σ'++x)/\aI.Leaves A σ'/\∃cs,σ'=σ++[.dead,.dead,.dead,.dead,.dead,.dead,.dead,.var cs]:=⟨_,⟨r,oK σ [.dead,.dead,.dead,.dead,.dead,.dead,.dead] (.var a) r⟩,h,a,rfl⟩
theorem oM(u:Use)(c m rg e d):ak prog 293 [.ptr σ.length 0,.d (I d)] (σ++[.var (bm (u.cells u.aX) c m rg e)]) (.d (B (decide (d<e.Day)))):=by
 refine ak.bt func293 ?_;exact af so
theorem Gh(u:Use)(c m rg e d):ak prog 293 [.ptr (σ.length+7) 0,.d (I d)] (σ++[.arr 6 u.P.nc (fun i=>Rule.enc (u.P.gc i)),.dead,.dead,.dead,.dead,.dead,.dead,.var (bm ((u.cells u.aX).set 1 (.ms σ.length 6 0 u.P.nc)) c m rg e)]) (.d (B (decide (d<e.Day)))):=by
 refine ak.bt func293 ?_;exact af so
theorem Gi(u:Use)(c m rg e d):ak prog 293 [.ptr (σ.length+5) 0,.d (I d)] (σ++[.arr 6 u.P.na (fun i=>fM.enc (u.P.ga i)),.dead,.dead,.dead,.dead,.var (bm ((u.cells u.aX).set 4 (.ms σ.length 6 0 u.P.na)) c m rg e)]) (.d (B (decide (d<e.Day)))):=by
 refine ak.bt func293 ?_;exact af so
theorem BL(u:Use)(c m rg e)(hn:5<=e.nn):ak prog 296 [.ptr σ.length 0] (σ++[.var (bm (u.cells u.aX) c m rg e)]) (.cj [.agg [.d (I (e.gn 1)),.d (I (e.gn 2))],.agg [.d (I (e.gn 3)),.d (I (e.gn 4))]]):=by
 refine ak.be func296 fun hwf=> ?_;refine we ?_;apply qP 15 14 T.mixed aD
 ·intro K hK;refine wB ?_;exact hK _ _
 ·simp[go_sem];rfl
 ·intro K hK;simp[go_sem];grind
 intro K hK;refine wD hK ?_;exact af so
theorem BK(u:Use)(c m rg e)(hn:5<=e.nn):ak prog 296 [.ptr (σ.length+6) 0] (σ++[.arr 6 u.P.np (fun i=>dF.enc (u.P.gp i)),.dead,.dead,.dead,.dead,.dead,.var (bm ((u.cells u.aX).set 2 (.ms σ.length 6 0 u.P.np)) c m rg e)]) (.cj [.agg [.d (I (e.gn 1)),.d (I (e.gn 2))],.agg [.d (I (e.gn 3)),.d (I (e.gn 4))]]):=by
 refine ak.be func296 fun hwf=> ?_;refine we ?_;apply qP 15 14 T.mixed aD
 ·intro K hK;refine wB ?_;exact hK _ _
 ·simp[go_sem];rfl
 ·intro K hK;simp[go_sem];grind
 intro K hK;refine wD hK ?_;exact af so
theorem IT(u c m rg e)(hu:br u)(hn:6<=e.nn)(hb:e.nn<1000000000):CS prog 211 [.ptr σ.length 0] (σ++[.var (bm (u.cells u.aX) c m rg e)]) (fun r σ' X'=>X'=[]/\r= .d (I (RO u e))/\∃cs,σ'=σ++[.var cs]/\(RO u e=0->cs=bm ((Zt u e).cells (Zt u e).aX) c m rg e)):=by
 have b1:=hu.P.nm;refine CS.BA true [] func211 fun hwf=> ?_;repeat refine⟨aa,?_⟩
 refine az.mk (oM _ u c m rg e (e.gn 4)) (gc [0,3] ?_ ?_)<;>intro d0
 ·have hz:RO u e=5:=if_pos ai;refine wA ?_;rw[hz];simp[go_sem];refine cF ?_;exact .refl _
 ·have hz:RO u e=cY u.P.nm u.P.gm (sq e):=if_neg ai;simp[go_sem];refine T.dr 31 fun K hK=>sm ?_;repeat refine⟨aa,?_⟩
  refine bK.mk (Cq _ none u.P.nm u.P.gm (sq e) aa) (sm ?_);refine hK _ ?_;refine go true (sm ?_);refine az.gen (LL σ _ u c m rg e (.d (SL none 6 fu.enc u.P.nm u.P.gm)) (fun _=>trivial) _ _ _) ?_;rintro r σ' X ⟨rfl,rfl,rfl⟩;refine wA ?_;rw[hz];by_cases hk:cY u.P.nm u.P.gm (sq e)=0
  ·simp[go_sem,hk,Zt];exact ae bf
  ·simp[go_sem,hk,Zt];refine cF ?_;exact .refl _
theorem Gg(u c m rg e)(hu:br u)(hn:1<=e.nn)(hb:e.nn<1000000000):CS prog 212 [.ptr σ.length 0] (σ++[.var (bm (u.cells u.aX) c m rg e)]) (fun r σ' X'=>X'=[]/\r= .d (I (rD u.P.nm u.P.gm (e.gn 0) e.Day))/\∃cs,σ'=σ++[.var cs]/\(rD u.P.nm u.P.gm (e.gn 0) e.Day=0->cs=bm ((VJ u e).cells (VJ u e).aX) c m rg e)):=by
 have b1:=hu.P.nm;refine CS.BA true [] func212 fun hwf=> ?_;refine T.dr 23 fun K hK=>sm ?_;repeat refine⟨aa,?_⟩
 refine bK.mk (zq _ none u.P.nm u.P.gm (e.gn 0) e.Day aa) (sm ?_);refine hK _ ?_;refine go true (sm ?_);refine az.gen (LL σ _ u c m rg e (.d (SL none 6 fu.enc u.P.nm u.P.gm)) (fun _=>trivial) _ _ _) ?_;rintro r σ' X ⟨rfl,rfl,rfl⟩;refine wA ?_;by_cases hk:rD u.P.nm u.P.gm (e.gn 0) e.Day=0
 ·simp[go_sem,hk,VJ];exact ae bf
 ·simp[go_sem,hk,VJ];refine cF ?_;exact .refl _
theorem wz(u c m rg e)(hu:br u)(hn:2<=e.nn)(hb:e.nn<1000000000):CS prog 207 [.ptr σ.length 0] (σ++[.var (bm (u.cells u.aX) c m rg e)]) (fun r σ' X'=>X'=[]/\r= .d (I (SJ u e))/\∃cs,σ'=σ++[.var cs]/\(SJ u e=0->cs=bm ((VQ u e).cells (VQ u e).aX) c m rg e)):=by
 have b1:=hu.P.nc;refine CS.BA true [] func207 fun hwf=> ?_;repeat refine⟨aa,?_⟩
 refine az.mk (oM _ u c m rg e (e.gn 1)) (gc [0,3] ?_ ?_)<;>intro d0
 ·have hz:SJ u e=5:=if_pos ai;refine wA ?_;rw[hz];simp[go_sem];refine cF ?_;exact .refl _
 ·have hz:SJ u e=(kj u.P.nc u.P.gc (e.gn 0) (e.gn 1)).2:=if_neg ai;simp[go_sem];refine T.dr 17 fun K hK=>sm ?_;repeat refine⟨aa,?_⟩
  refine bK.mk (FG _ none u.P.nc u.P.gc (e.gn 0) (e.gn 1) aa) (sm ?_);refine hK _ ?_;refine go true (sm ?_);refine az.gen (LO σ _ u c m rg e (.d (SL none 6 Rule.enc u.P.nc u.P.gc)) (fun _=>trivial) _ _ _) ?_;rintro r σ' X ⟨rfl,rfl,rfl⟩;refine wA ?_;rw[hz];by_cases hk:(kj u.P.nc u.P.gc (e.gn 0) (e.gn 1)).2=0
  ·simp[go_sem,hk,VQ];exact ae bf
  ·simp[go_sem,hk,VQ];refine cF ?_;exact .refl _
theorem IQ(u c m rg e)(hu:br u)(hn:5<=e.nn)(hb:e.nn<1000000000)(h1:σ[1]? =some (.loc 1)):CS prog 209 [.ptr σ.length 0] (σ++[.var (bm (u.cells u.aX) c m rg e)]) (fun r σ' X'=>X'=[]/\r= .d (I ((Sh u e).2))/\∃cs,σ'=σ++[.var cs]/\((Sh u e).2=0->cs=bm ((VM u e).cells (VM u e).aX) c m rg e)):=by
 have b1:=hu.P.np;refine CS.BA true [] func209 fun hwf=> ?_;refine az.mk (BL _ u c m rg e hn) (sm ?_);refine T.dr 20 fun K hK=>sm ?_;repeat refine⟨aa,?_⟩
 refine bK.mk (Co _ none u.P.np u.P.gp (e.gn 0) ⟨e.gn 1,e.gn 2⟩ ⟨e.gn 3,e.gn 4⟩ aa hu.P.nn (ay h1)) (sm ?_);refine hK _ ?_;refine go true (sm ?_);refine az.gen (LJ σ _ u c m rg e (.d (SL none 6 dF.enc u.P.np u.P.gp)) (fun _=>trivial) _ _ _) ?_;rintro r σ' X ⟨rfl,rfl,rfl⟩;refine wA ?_;have hk0:(cQ u.P.np u.P.gp (e.gn 0) ⟨e.gn 1,e.gn 2⟩ ⟨e.gn 3,e.gn 4⟩)=Sh u e:=rfl;by_cases hk:(Sh u e).2=0
 ·simp[go_sem,hk,hk0,VM];exact ae bf
 ·simp[go_sem,hk,hk0,VM];refine cF ?_;exact .refl _
theorem Lu(u c m rg e)(hu:br u)(hn:4<=e.nn)(hb:e.nn<1000000000):CS prog 222 [.ptr σ.length 0] (σ++[.var (bm (u.cells u.aX) c m rg e)]) (fun r σ' X'=>X'=[]/\r= .d (I (QM u e))/\∃cs,σ'=σ++[.var cs]/\(QM u e=0->cs=bm ((YR u e).cells (YR u e).aX) c m rg e)):=by
 have b1:=hu.nk;refine CS.BA true [] func222 fun hwf=> ?_;repeat refine⟨aa,?_⟩
 refine az.mk (oM _ u c m rg e (e.gn 2)) (gc [0,3] ?_ ?_)<;>intro d0
 ·have hz:QM u e=5:=if_pos ai;refine wA ?_;rw[hz];simp[go_sem];refine cF ?_;exact .refl _
 ·have hz:QM u e=lZ u.gq u.nk u.gk (mC e):=if_neg ai;simp[go_sem];refine T.dr 29 fun K hK=>sm ?_;repeat refine⟨aa,?_⟩
  refine bK.mk (zk _ u.gq none u.nk u.gk (mC e) aa) (sm ?_);refine hK _ ?_;refine go true (sm ?_);refine az.gen (WH σ _ u c m rg e (.d (SL none 4 ju.enc u.nk u.gk)) (fun _=>trivial) _ _ _) ?_;rintro r σ' X ⟨rfl,rfl,rfl⟩;refine wA ?_;rw[hz];by_cases hk:lZ u.gq u.nk u.gk (mC e)=0
  ·simp[go_sem,hk,YR];exact ae bf
  ·simp[go_sem,hk,YR];refine cF ?_;exact .refl _
theorem Pw(u c m rg e)(hu:br u)(hn:4<=e.nn)(hb:e.nn<1000000000):CS prog 215 [.ptr σ.length 0] (σ++[.var (bm (u.cells u.aX) c m rg e)]) (fun r σ' X'=>X'=[]/\r= .d (I (PV u e))/\∃cs,σ'=σ++[.var cs]/\(PV u e=0->cs=bm ((W1 u e).cells (W1 u e).aX) c m rg e)):=by
 have b1:=hu.nb;have b3:=hu.nv;refine CS.BA true [] func215 fun hwf=> ?_;repeat refine⟨aa,?_⟩
 refine az.mk (rP σ _ u c m rg e (e.gn 0) aa) (gc [0,3] ?_ ?_)<;>intro d0
 ·have hz:PV u e=11:=if_pos ai;refine wA ?_;rw[hz];simp[go_sem];refine cF ?_;exact .refl _
 ·have hz:PV u e=kg u.nb u.gb (e.gn 0) (e.gn 1) ⟨e.gn 2,e.gn 3⟩:=if_neg ai;simp[go_sem];refine T.dr 23 fun K hK=>sm ?_;repeat refine⟨aa,?_⟩
  refine bK.mk (QK _ none u.nb u.gb (e.gn 0) (e.gn 1) ⟨e.gn 2,e.gn 3⟩ aa (fun i hi=>AB)) ?_;refine wD hK ?_;refine go true (sm ?_);refine az.gen (DQ σ _ u c m rg e (.d (SL none 5 Bx.enc u.nb u.gb)) (fun _=>trivial) _ _ _) ?_;rintro r σ' X ⟨rfl,rfl,rfl⟩;refine wA ?_;rw[hz];by_cases hk:kg u.nb u.gb (e.gn 0) (e.gn 1) ⟨e.gn 2,e.gn 3⟩=0
  ·simp[go_sem,hk,W1];exact ae bf
  ·simp[go_sem,hk,W1];refine cF ?_;exact .refl _
theorem Lo(u c m rg e)(hu:br u)(hn:1<=e.nn)(hb:e.nn<1000000000):CS prog 216 [.ptr σ.length 0] (σ++[.var (bm (u.cells u.aX) c m rg e)]) (fun r σ' X'=>X'=[]/\r= .d (I (Hm u e))/\∃cs,σ'=σ++[.var cs]/\(Hm u e=0->cs=bm ((Zo u e).cells (Zo u e).aX) c m rg e)):=by
 have b1:=hu.nb;have b3:=hu.nv;refine CS.BA true [] func216 fun hwf=> ?_;refine T.dr 19 fun K hK=>sm ?_;repeat refine⟨aa,?_⟩
 refine bK.mk (yy _ none u.nb u.gb (e.gn 0) aa (fun i hi=>AB)) ?_;refine wD hK ?_;refine go true (gc [0,3] ?_ ?_)<;>intro d0
 ·have hz:Hm u e=7:=if_pos ai;refine wA ?_;rw[hz];simp[go_sem];refine cF ?_;exact .refl _
 ·have hz1: ¬(cp u.nb u.gb (e.gn 0)).2.2=false:=ai;simp[go_sem];refine az.mk (rP σ _ u c m rg e (cp u.nb u.gb (e.gn 0)).1 aa) (gc [0] ?_ ?_)<;>intro d1
  ·have hz:Hm u e=11:=by grind [Hm]
   refine wA ?_;rw[hz];simp[go_sem];refine cF ?_;exact .refl _
  ·have hz:Hm u e=fv u.nb u.gb (e.gn 0):=by grind [Hm]
   simp[go_sem];apply cU 20 17 19 T.mixed aD
   ·intro τ K hK;refine wB ?_;refine bK.mk (ON _ none u.nb u.gb (e.gn 0) aa (fun i hi=>AB)) ?_;simp[go_sem];exact hK _ _
   intro K hK;refine wD hK ?_;refine go true (sm ?_);refine az.gen (DQ σ _ u c m rg e (.d (SL none 5 Bx.enc u.nb u.gb)) (fun _=>trivial) _ _ _) ?_;rintro r σ' X ⟨rfl,rfl,rfl⟩;refine wA ?_;rw[hz];by_cases hk:fv u.nb u.gb (e.gn 0)=0
   ·simp[go_sem,hk,Zo];exact ae bf
   ·simp[go_sem,hk,Zo];refine cF ?_;exact .refl _
theorem w6(u c m rg e)(hu:br u)(hn:6<=e.nn)(hb:e.nn<1000000000)(bc:gJ σ):CS prog 206 [.ptr (σ.length+7) 0] (σ++[.arr 6 u.P.nc (fun i=>Rule.enc (u.P.gc i)),.dead,.dead,.dead,.dead,.dead,.dead,.var (bm ((u.cells u.aX).set 1 (.ms σ.length 6 0 u.P.nc)) c m rg e)]) (fun r σ' X'=>X'=[σ.length]/\r= .d (I (SR u e))/\∃cs,σ'=σ++[.dead,.dead,.dead,.dead,.dead,.dead,.dead,.var cs]/\(SR u e=0->cs=bm ((VR u e).cells (VR u e).aX) c m rg e)):=by
 have b1:=hu.P.nc;refine CS.Gc false [σ.length] func206 fun hwf=> ?_;refine wU ?_;refine wB ?_;refine az.mk (Gh _ u c m rg e (e.gn 4)) ?_;refine wH ?_;refine gc [0,3] ?_ ?_<;>intro d0
 ·have hz:SR u e=5:=if_pos ai;simp[go_sem];refine aF bc σ.length ?_;refine wJ ?_;rw[hz];simp[go_sem];refine SA ?_;exact ae bf
 ·have hz:SR u e=check (u.P.nc+1) (aL u.P.gc u.P.nc (pO e)):=if_neg ai;simp[go_sem];refine T.dr 28 fun K hK=> ?_;simp[go_sem,bc.zero];refine wZ hK ?_;refine ax σ.length (fun q=>Rule.enc (aL u.P.gc u.P.nc (pO e) q)) bj (by exact fun q hq=>gu (enc:=Rule.enc) (x:=pO e) rfl q hq) aN ?_;refine aF bc σ.length ?_;refine T.dr 8 fun K hK=> ?_;simp[go_sem];refine bK.mk (il _ none (u.P.nc+1) (aL u.P.gc u.P.nc (pO e)) aa) ?_;simp[go_sem];have h:=nA (LO (σ++[.dead,.dead,.dead,.dead,.dead,.dead,.dead]) [] u c m rg e .undef (fun _=>trivial) (u.P.nc+1) (aL u.P.gc u.P.nc (pO e)) (check (u.P.nc+1) (aL u.P.gc u.P.nc (pO e))));refine az.gen h ?_;rintro r σ' X ⟨rfl,rfl,rfl⟩;refine wQ hK ?_;rw[hz];by_cases hk:check (u.P.nc+1) (aL u.P.gc u.P.nc (pO e))=0
  ·simp[go_sem,hk,VR];exact ae bf
  ·simp[go_sem,hk,VR];refine SA ?_;exact ae bf
theorem tM(u c m rg e)(hu:br u)(hn:6<=e.nn)(hb:e.nn<1000000000)(bc:gJ σ):CS prog 210 [.ptr (σ.length+5) 0] (σ++[.arr 6 u.P.na (fun i=>fM.enc (u.P.ga i)),.dead,.dead,.dead,.dead,.var (bm ((u.cells u.aX).set 4 (.ms σ.length 6 0 u.P.na)) c m rg e)]) (fun r σ' X'=>X'=[σ.length]/\r= .d (I (S8 u e))/\∃cs,σ'=σ++[.dead,.dead,.dead,.dead,.dead,.var cs]/\(S8 u e=0->cs=bm ((VW u e).cells (VW u e).aX) c m rg e)):=by
 have b1:=hu.P.na;refine CS.Gc false [σ.length] func210 fun hwf=> ?_;refine wU ?_;refine wB ?_;refine az.mk (Gi _ u c m rg e (e.gn 4)) ?_;refine wH ?_;refine gc [0,3] ?_ ?_<;>intro d0
 ·have hz:S8 u e=5:=if_pos ai;simp[go_sem];refine aF bc σ.length ?_;refine wJ ?_;rw[hz];simp[go_sem];refine SB ?_;exact ae bf
 ·have hz:S8 u e=dA (u.P.na+1) (aL u.P.ga u.P.na (pX e)):=if_neg ai;simp[go_sem];refine T.dr 28 fun K hK=> ?_;simp[go_sem,bc.zero];refine wZ hK ?_;refine ax σ.length (fun q=>fM.enc (aL u.P.ga u.P.na (pX e) q)) bj (by exact fun q hq=>gu (enc:=fM.enc) (x:=pX e) rfl q hq) aN ?_;refine aF bc σ.length ?_;refine T.dr 8 fun K hK=> ?_;simp[go_sem];refine bK.mk (fK _ none (u.P.na+1) (aL u.P.ga u.P.na (pX e)) aa) ?_;simp[go_sem];have h:=nA (WJ (σ++[.dead,.dead,.dead,.dead,.dead]) [] u c m rg e .undef (fun _=>trivial) (u.P.na+1) (aL u.P.ga u.P.na (pX e)) (dA (u.P.na+1) (aL u.P.ga u.P.na (pX e))));refine az.gen h ?_;rintro r σ' X ⟨rfl,rfl,rfl⟩;refine wQ hK ?_;rw[hz];by_cases hk:dA (u.P.na+1) (aL u.P.ga u.P.na (pX e))=0
  ·simp[go_sem,hk,VW];exact ae bf
  ·simp[go_sem,hk,VW];refine SB ?_;exact ae bf
theorem yP(u c m rg e)(hu:br u)(hn:5<=e.nn)(hb:e.nn<1000000000)(hx:1<=e.nt)(hy:e.nt<1000000000)(hz0:(e.gt 0).size<4294967281)(h1:σ[1]? =some (.loc 1))(bc:gJ σ):CS prog 208 [.ptr (σ.length+6) 0] (σ++[.arr 6 u.P.np (fun i=>dF.enc (u.P.gp i)),.dead,.dead,.dead,.dead,.dead,.var (bm ((u.cells u.aX).set 2 (.ms σ.length 6 0 u.P.np)) c m rg e)]) (fun r σ' X'=>X'=[σ.length]/\r= .d (I (Zv u e))/\∃cs,σ'=σ++[.dead,.dead,.dead,.dead,.dead,.dead,.var cs]/\(Zv u e=0->cs=bm ((VT u e).cells (VT u e).aX) c m rg e)):=by
 have b1:=hu.P.np;have hnn: ∀i,i<u.P.np+1->(aL u.P.gp u.P.np (prNew e) i).Name.size<4294967281:=fun i hi=>by
  unfold aL;split
  ·exact hu.P.nn i aa
  ·exact hz0
 refine CS.Gc true [σ.length] func208 fun hwf=> ?_;simp[go_sem];refine az.mk (BK _ u c m rg e hn) ?_;simp[go_sem];refine T.dr 24 fun K hK=> ?_;simp[go_sem,bc.zero];refine wZ hK ?_;refine ax σ.length (fun q=>dF.enc (aL u.P.gp u.P.np (prNew e) q)) bj (by exact fun q hq=>gu (enc:=dF.enc) (x:=prNew e) rfl q hq) aN ?_;refine aF bc σ.length ?_;refine T.dr 8 fun K hK=> ?_;simp[go_sem];refine bK.mk (iO _ none (u.P.np+1) (aL u.P.gp u.P.np (prNew e)) aa hnn (ay h1)) ?_;simp[go_sem];have h:=nA (LJ (σ++[.dead,.dead,.dead,.dead,.dead,.dead]) [.var [.d (I (e.gn 1)),.d (I (e.gn 2))],.var [.d (I (e.gn 3)),.d (I (e.gn 4))]] u c m rg e .undef (fun _=>trivial) (u.P.np+1) (aL u.P.gp u.P.np (prNew e)) (cL (u.P.np+1) (aL u.P.gp u.P.np (prNew e))));refine az.gen h ?_;rintro r σ' X ⟨rfl,rfl,rfl⟩;refine wQ hK ?_;unfold Zv;by_cases hk:cL (u.P.np+1) (aL u.P.gp u.P.np (prNew e))=0
 ·simp[go_sem,hk,VT];exact ae bf
 ·simp[go_sem,hk,VT];refine aaH ?_;exact ae bf
theorem Gk(u c m rg e)(hu:br u)(hn:4<=e.nn)(hb:e.nn<1000000000)(bc:gJ σ):CS prog 214 [.ptr (σ.length+4) 0] (σ++[.arr 5 u.nb (fun i=>Bx.enc (u.gb i)),.dead,.dead,.dead,.var (bm ((u.cells u.aX).set 6 (.ms σ.length 5 0 u.nb)) c m rg e)]) (fun r σ' X'=>X'=[σ.length]/\r= .d (I (Vv u e))/\∃cs,σ'=σ++[.dead,.dead,.dead,.dead,.var cs]/\(Vv u e=0->cs=bm ((Pk u e).cells (Pk u e).aX) c m rg e)):=by
 have b1:=hu.nb;have hnn: ∀i,i<u.nb+1->(aL u.gb u.nb (dS e) i).nc<1000000000:=fun i hi=>by
  unfold aL;split
  ·have:=hu.bx i aa;omega
  ·simp[dS]
 refine CS.Gc true [σ.length] func214 fun hwf=> ?_;simp[go_sem];refine T.dr 19 fun K hK=> ?_;simp[go_sem,bc.zero];refine wZ hK ?_;refine Is σ.length (fun q=>Bx.enc (aL u.gb u.nb (dS e) q)) bj (by exact SV u e) aN ?_;refine aF bc σ.length ?_;refine T.dr 7 fun K hK=> ?_;simp[go_sem];refine bK.mk (jY _ none (u.nb+1) (aL u.gb u.nb (dS e)) aa hnn) ?_;simp[go_sem];have h:=nA (DQ (σ++[.dead,.dead,.dead,.dead]) [] u c m rg e .undef (fun _=>trivial) (u.nb+1) (aL u.gb u.nb (dS e)) (bW (u.nb+1) (aL u.gb u.nb (dS e))));refine az.gen h ?_;rintro r σ' X ⟨rfl,rfl,rfl⟩;refine wQ hK ?_;unfold Vv;by_cases hk:bW (u.nb+1) (aL u.gb u.nb (dS e))=0
 ·simp[go_sem,hk,Pk];exact ae bf
 ·simp[go_sem,hk,Pk];refine aaI ?_;exact ae bf
theorem BM(u c m rg e)(hu:br u)(hn:4<=e.nn)(hb:e.nn<1000000000)(bc:gJ σ):CS prog 217 [.ptr (σ.length+3) 0] (σ++[.arr 4 u.nf (fun i=>l4.enc (u.gf i)),.dead,.dead,.var (bm ((u.cells u.aX).set 7 (.ms σ.length 4 0 u.nf)) c m rg e)]) (fun r σ' X'=>X'=[σ.length]/\r= .d (I (Y3 u e))/\∃cs,σ'=σ++[.dead,.dead,.dead,.var cs]/\(Y3 u e=0->cs=bm ((S2 u e).cells (S2 u e).aX) c m rg e)):=by
 have b1:=hu.nf;refine CS.Gc true [σ.length] func217 fun hwf=> ?_;simp[go_sem];refine T.dr 19 fun K hK=> ?_;simp[go_sem,bc.zero];refine wZ hK ?_;refine ax σ.length (fun q=>l4.enc (aL u.gf u.nf (ov e) q)) bj (by exact fun q hq=>gu (enc:=l4.enc) (x:=ov e) rfl q hq) aN ?_;refine aF bc σ.length ?_;refine T.dr 7 fun K hK=> ?_;simp[go_sem];refine bK.mk (pg _ none (u.nf+1) (aL u.gf u.nf (ov e)) aa) ?_;simp[go_sem];have h:=nA (WE (σ++[.dead,.dead,.dead]) [] u c m rg e .undef (fun _=>trivial) (u.nf+1) (aL u.gf u.nf (ov e)) (dp (u.nf+1) (aL u.gf u.nf (ov e))));refine az.gen h ?_;rintro r σ' X ⟨rfl,rfl,rfl⟩;refine wQ hK ?_;unfold Y3;by_cases hk:dp (u.nf+1) (aL u.gf u.nf (ov e))=0
 ·simp[go_sem,hk,S2];exact ae bf
 ·simp[go_sem,hk,S2];refine aaJ ?_;exact ae bf
def gx(u:Use)(s:Int)(k:Int)(i:Nat)(t:Int):Nat->Int
 |0=>t
 |n+1=>gx u s k (i+1) (if(u.gb i).ID≠k/\aM u (u.gb i).ID=⟨1,s⟩ then IntKind.i64.wrap (t+(u.gb i).Width) else t) n
theorem AI{u s k i t n}(h:i<n):gx u s k i t (n-i)=gx u s k (i+1) (if(u.gb i).ID≠k/\aM u (u.gb i).ID=⟨1,s⟩ then IntKind.i64.wrap (t+(u.gb i).Width) else t) (n-(i+1)):=by
 obtain⟨q,hq⟩: ∃q,n-i=q+1:=⟨n-i-1,aa⟩;rw[hq,gx,show n-(i+1)=q by omega]
def qB(u:Use)(s:l4)(b:Bx):Int:=if s.bH≠b.bH then 10 else if s.Length<gx u s.ID b.ID 0 b.Width u.nb then 12 else 0
def AQ(u:Use)(e:Ev):Int:=if hZ u.nb u.gb (e.gn 0)<0\/(e.gn 1=1/\ky u.nf u.gf (e.gn 2)<0) then 7 else if(aM u (e.gn 0)).Kind=3\/e.gn 1=3 then 11
 else if e.gn 1=1/\qB u (u.gf (ky u.nf u.gf (e.gn 2)).toNat) (u.gb (hZ u.nb u.gb (e.gn 0)).toNat)≠0 then qB u (u.gf (ky u.nf u.gf (e.gn 2)).toNat) (u.gb (hZ u.nb u.gb (e.gn 0)).toNat) else dn u e (e.gn 0) ⟨e.gn 1,e.gn 2⟩
def qI(u:Use)(e:Ev):Use:= { u with gr:=dj u.gr (cP u.nr u.gr (e.gn 0)).toNat 3 e.Day }
def x3(u:Use)(e:Ev):Int:=if e.gn 1=0 then(if cz (dU u.gr) u.nr u.gr (e.gn 0) e.Day≠0 then cz (dU u.gr) u.nr u.gr (e.gn 0) e.Day else dn (qI u e) e (bJ u (e.gn 0)).1.Box ⟨2,0⟩)
 else if e.gn 1=1\/e.gn 1=2 then cz (dv u.gr) u.nr u.gr (e.gn 0) e.Day else 1
def VO(u:Use)(e:Ev):Use:=if e.gn 1=0 then dz (qI u e) e (bJ u (e.gn 0)).1.Box ⟨2,0⟩ else { u with gr:=dj u.gr (cP u.nr u.gr (e.gn 0)).toNat (if(e.gn 1==1)=true then 4 else 5) e.Day }
noncomputable def Iv(u:Use)(e:Ev):ek×Int:=lM (e.gn 0) e.Day (e.nn-3) (fun i=>e.gn (3+i)) (e.gn 1) (e.gn 2)
noncomputable def Pb(u:Use)(e:Ev):Int:=if 0<u.nt/\e.gn 0<=(u.gt (u.nt-1)).ID then 5 else if 64<=u.nt then 12 else(Iv u e).2
noncomputable def VU(u:Use)(e:Ev):Use:= { u with nt:=u.nt+1,gt:=aL u.gt u.nt (Iv u e).1 }
def iK(u:Use)(e:Ev):Int:=idxFrom (fun b:ek=>b.ID==e.gn 0) (lst u.nt u.gt) 0
theorem yv(u e):iK u e<u.nt:=iR _ u.nt u.gt
noncomputable def LS(u:Use)(e:Ev):Int:=if iK u e<0 then 7 else(dJ (u.gt (iK u e).toNat)).2
noncomputable def Rz(u:Use)(e:Ev):Use:= { u with gt:=cJ u.gt (iK u e).toNat (dJ (u.gt (iK u e).toNat)).1 }
noncomputable def gy(u:Use)(e:Ev):ek×Int:=dD (u.gt (iK u e).toNat) (e.nn-1) (fun i=>e.gn (1+i))
noncomputable def E6(u:Use)(e:Ev):Use:= { u with gt:=cJ u.gt (iK u e).toNat (gy u e).1 }
def E7(u:Use):Int:=if 0<u.nl then IntKind.i64.wrap ((u.gl (u.nl-1)).fx+1) else 1
noncomputable def Cs(u:Use)(e:Ev):Int:=if iK u e<0 then 7 else if(gy u e).2≠0 then(gy u e).2 else if(gy u e).1.State≠3 then 0 else fp u.gl u.nl (gy u e).1 (E7 u)
noncomputable def Nz(u:Use)(e:Ev):Use:=if(gy u e).1.State≠3 then E6 u e else { E6 u e with nl:=nD u.gl u.nl (gy u e).1 (E7 u),gl:=sB u.gl u.nl (gy u e).1 (E7 u) }
theorem IS(τ u c m rg e s b)(hu:br u):ak prog 313 [.ptr σ.length 0,.agg (s.enc.map .d),.agg (b.enc.map .d)] (σ++ .var (bm (u.cells u.aX) c m rg e)::τ) (.d (I (qB u s b))):=by
 have b1:=hu.nb;have b3:=hu.nv;refine ak.bt func313 ?_;refine dH [0,4,5] ?_ ?_<;>intro d0
 ·have hz:qB u s b=10:=if_pos l5;exact sx hz
 ·have hz0: ¬s.bH≠b.bH:=l5;simp[go_sem];refine dm (α:=Nat×Int) true [0,4,5,7,21,22,23] (fun x=>[(23,.d (I x.1)),(7,.d (I x.2))]) (fun x=>_) (fun x=>x.1<=u.nb/\gx u s.ID b.ID 0 b.Width u.nb=gx u s.ID b.ID x.1 x.2 (u.nb-x.1)) (fun x=>u.nb-x.1) (0,b.Width) ?_ (hx:=⟨an,an⟩);rintro⟨i,t⟩ ⟨hi,hx⟩;dsimp only at hi hx;refine gc [0,4,5,7,21,22,23] ?_ ?_<;>intro d1
  ·have hi1:i<u.nb:=aa;have hst:=AI (u:=u) (s:=s.ID) (k:=b.ID) (t:=t) hi1;simp[go_sem,hi1];refine T.dr 18 fun K hK=> ?_;simp[go_sem];refine bK.mk' (.agg ((aM u (u.gb i).ID).enc.map .d)) (fun _=>iV _ u (u.gb i).ID aa) ?_;refine wc hK ?_;refine gc [0,4,5,7,9,21,22,23] ?_ ?_<;>intro d2
   ·have hc2:(u.gb i).ID≠b.ID/\aM u (u.gb i).ID=⟨1,s.ID⟩:=by rw[JD];simpa using d2
    refine wC ?_;refine bF ((i+1,IntKind.i64.wrap (t+(u.gb i).Width))) ⟨Dm,by dsimp only;rw[hx,hst,if_pos hc2]⟩ (h:=aR)
   ·have hc2: ¬((u.gb i).ID≠b.ID/\aM u (u.gb i).ID=⟨1,s.ID⟩):=by rw[JD];simpa using d2
    refine wC ?_;refine bF ((i+1,t)) ⟨Dm,by dsimp only;rw[hx,hst,if_neg hc2]⟩ (h:=aR)
  ·have hsum:gx u s.ID b.ID 0 b.Width u.nb=t:=by rw[hx,show u.nb-i=0 by omega];rfl
   simp[go_sem];refine go true (gc [] ?_ ?_)<;>intro d3
   ·have hz:qB u s b=12:=by unfold qB;rw[if_neg hz0,hsum,if_pos aa]
    exact sx hz
   ·have hz:qB u s b=0:=by unfold qB;rw[if_neg hz0,hsum,if_neg aa]
    exact sx hz
theorem Lp(u c m rg e)(hu:br u)(hn:3<=e.nn)(hb:e.nn<1000000000):CS prog 218 [.ptr σ.length 0] (σ++[.var (bm (u.cells u.aX) c m rg e)]) (fun r σ' X'=>X'=[]/\r= .d (I (AQ u e))/\∃cs,σ'=σ++[.var cs]/\(AQ u e=0->cs=bm ((dz u e (e.gn 0) ⟨e.gn 1,e.gn 2⟩).cells (dz u e (e.gn 0) ⟨e.gn 1,e.gn 2⟩).aX) c m rg e)):=by
 have b1:=hu.nb;have b2:=hu.nf;have b3:=hu.nv;have k1:=zS u.nb u.gb (e.gn 0);have k2:=PL u.nf u.gf (e.gn 2);refine CS.BA true [] func218 fun hwf=> ?_;apply cU 8 7 9 T.mixed aD
 ·intro τ K hK;refine wB ?_;exact hK _ _
 intro K hK;refine wD hK ?_;refine go true (sm ?_);refine T.dr 16 fun K hK=>sm ?_;repeat refine⟨aa,?_⟩
 refine bK.mk (yO _ u (e.gn 0) aa) (sm ?_);refine bK.mk (yN _ u (e.gn 2) aa) (sm ?_);refine hK _ ?_;refine go true (gc [0,3,4,5,6] ?_ ?_)<;>intro d0
 ·have hz:AQ u e=7:=if_pos l5;refine wA ?_;rw[hz];simp[go_sem];refine cF ?_;exact .refl _
 ·have hz0: ¬(hZ u.nb u.gb (e.gn 0)<0\/(e.gn 1=1/\ky u.nf u.gf (e.gn 2)<0)):=l5;obtain⟨i,hi,hin⟩: ∃i:Nat,hZ u.nb u.gb (e.gn 0)=(i:Int)/\i<u.nb:=⟨(hZ u.nb u.gb (e.gn 0)).toNat,aa,aa⟩;simp[go_sem,hi];repeat refine⟨aa,?_⟩
  refine az.mk (rP σ _ u c m rg e (e.gn 0) aa) ?_;refine gc [0,3,4,5,6] ?_ ?_<;>intro d1
  ·have hz:AQ u e=11:=by unfold AQ;rw[if_neg hz0,if_pos ku]
   refine wA ?_;rw[hz];simp[go_sem];refine cF ?_;exact .refl _
  ·have hz1: ¬((aM u (e.gn 0)).Kind=3\/e.gn 1=3):=ku;refine gc [0,3,4,5,6] ?_ ?_<;>intro d2
   ·have hg1:e.gn 1=1:=o9;obtain⟨s,hs,hsn⟩: ∃s:Nat,ky u.nf u.gf (e.gn 2)=(s:Int)/\s<u.nf:=⟨(ky u.nf u.gf (e.gn 2)).toNat,aa,aa⟩;simp[go_sem,hs];refine T.dr 18 fun K hK=> ?_;simp[go_sem,hin,hsn];refine bK.mk (IS σ _ u c m rg e (u.gf s) (u.gb i) hu) ?_;refine wc hK ?_;refine gc [0,3,4,7] ?_ ?_<;>intro d3
    ·have hz:AQ u e=qB u (u.gf s) (u.gb i):=by unfold AQ;rw[if_neg hz0,if_neg hz1,hi,hs,Int.toNat_natCast,Int.toNat_natCast,if_pos ⟨hg1,o8⟩]
     have hk: ¬qB u (u.gf s) (u.gb i)=0:=o8;refine wA ?_;rw[hz];simp[go_sem,hk];refine cF ?_;exact .refl _
    ·have hz:AQ u e=dn u e (e.gn 0) ⟨e.gn 1,e.gn 2⟩:=by unfold AQ;rw[if_neg hz0,if_neg hz1,hi,hs,Int.toNat_natCast,Int.toNat_natCast,if_neg (fun h=>h.2 o8)]
     simp[go_sem];refine T.dr 5 fun K hK=> ?_;refine wB ?_;refine az.gen (qb σ _ (u) c m rg e (e.gn 0) ⟨e.gn 1,e.gn 2⟩ aa) ?_;rintro r σ' X ⟨rfl,rfl,rfl⟩;refine wQ hK ?_;rw[hz];by_cases hk:dn u e (e.gn 0) ⟨e.gn 1,e.gn 2⟩=0
     ·simp[go_sem,hk,dz];exact ae bf
     ·simp[go_sem,hk,dz];refine cF ?_;exact .refl _
   ·have hz:AQ u e=dn u e (e.gn 0) ⟨e.gn 1,e.gn 2⟩:=by unfold AQ;rw[if_neg hz0,if_neg hz1,if_neg (fun h=>d2 h.1)]
    simp[go_sem];refine T.dr 5 fun K hK=> ?_;refine wB ?_;refine az.gen (qb σ _ (u) c m rg e (e.gn 0) ⟨e.gn 1,e.gn 2⟩ aa) ?_;rintro r σ' X ⟨rfl,rfl,rfl⟩;refine wQ hK ?_;rw[hz];by_cases hk:dn u e (e.gn 0) ⟨e.gn 1,e.gn 2⟩=0
    ·simp[go_sem,hk,dz];exact ae bf
    ·simp[go_sem,hk,dz];refine cF ?_;exact .refl _
theorem PA(u c m rg e)(hu:br u)(hn:3<=e.nn)(hb:e.nn<1000000000)(hm:m<1000000000)(h1:σ[1]? =some (.loc 1)):CS prog 219 [.ptr σ.length 0] (σ++[.var (bm (u.cells u.aX) c m rg e)]) (fun r σ' X'=>X'=[]/\r= .d (I (Ge u m rg e))/\∃cs,σ'=σ++[.var cs]/\(Ge u m rg e=0->cs=bm ((Zd u e).cells (Zd u e).aX) c m rg e)):=by
 have b1:=hu.nb;have b4:=hu.nr;refine CS.BA true [] func219 fun hwf=> ?_;refine T.dr 15 fun K hK=>sm ?_;repeat refine⟨aa,?_⟩
 refine bK.mk (yy _ none u.nb u.gb (e.gn 2) aa (fun i hi=>AB)) ?_;refine wD hK ?_;refine go true (gc [0,3,4] ?_ ?_)<;>intro d0
 ·have hz:Ge u m rg e=7:=if_pos l5;refine wA ?_;rw[hz];simp[go_sem];refine cF ?_;exact .refl _
 ·have hz0: ¬(cp u.nb u.gb (e.gn 2)).2.2=false:=l5;simp[go_sem];refine T.dr 10 fun K hK=>sm ?_;repeat refine⟨aa,?_⟩
  refine bK.mk (Gl σ _ u c m rg e (e.gn 1) (e.gn 2) hm hu.P h1) (sm ?_);refine hK _ ?_;refine go true (gc [0,3,4] ?_ ?_)<;>intro d1
  ·have hz:Ge u m rg e=22:=by unfold Ge;rw[if_neg hz0,if_pos ku]
   refine wA ?_;rw[hz];simp[go_sem];refine cF ?_;exact .refl _
  ·have hz:Ge u m rg e=dB u.nr u.gr (gG u e):=by unfold Ge;rw[if_neg hz0,if_neg ku]
   simp[go_sem];refine T.dr 26 fun K hK=>sm ?_;repeat refine⟨aa,?_⟩
   refine bK.mk (yY _ none u.nr u.gr (gG u e) aa) (sm ?_);refine hK _ ?_;refine go true (sm ?_);refine az.gen (DP σ _ u c m rg e (.d (SL none 7 cT.enc u.nr u.gr)) (fun _=>trivial) _ _ _) ?_;rintro r σ' X ⟨rfl,rfl,rfl⟩;refine wA ?_;rw[hz];by_cases hk:dB u.nr u.gr (gG u e)=0
   ·simp[go_sem,hk,Zd];exact ae bf
   ·simp[go_sem,hk,Zd];refine cF ?_;exact .refl _
theorem Py(u c m rg e)(hu:br u)(hn:2<=e.nn)(hb:e.nn<1000000000):CS prog 221 [.ptr σ.length 0] (σ++[.var (bm (u.cells u.aX) c m rg e)]) (fun r σ' X'=>X'=[]/\r= .d (I (x3 u e))/\∃cs,σ'=σ++[.var cs]/\(x3 u e=0->cs=bm ((VO u e).cells (VO u e).aX) c m rg e)):=by
 have b4:=hu.nr;have b3:=hu.nv;have b5:(qI u e).nv<=1000000:=b3;refine CS.BA true [] func221 fun hwf=> ?_;repeat refine⟨aa,?_⟩
 refine dH [0,3,17] ?_ ?_<;>intro d0
 ·have hg0:e.gn 1=0:=l5;refine wB ?_;refine az.mk (Lt σ _ u c m rg e (e.gn 0) aa) (sm ?_);refine T.dr 18 fun K hK=>sm ?_;repeat refine⟨aa,?_⟩
  refine bK.mk (xl _ none u.nr u.gr (e.gn 0) e.Day aa) (sm ?_);refine hK _ ?_;refine go true (gc [0,4,6,7] ?_ ?_)<;>intro d1
  ·have hk: ¬cz (dU u.gr) u.nr u.gr (e.gn 0) e.Day=0:=ku;have hz:x3 u e=cz (dU u.gr) u.nr u.gr (e.gn 0) e.Day:=by unfold x3;rw[if_pos hg0,if_pos hk]
   refine wA ?_;rw[hz];simp[go_sem,hk];refine cF ?_;exact .refl _
  ·have hk1:cz (dU u.gr) u.nr u.gr (e.gn 0) e.Day=0:=ku;have hz:x3 u e=dn (qI u e) e (bJ u (e.gn 0)).1.Box ⟨2,0⟩:=by unfold x3;rw[if_pos hg0,if_neg (fun h=>h hk1)]
   have hy:VO u e=dz (qI u e) e (bJ u (e.gn 0)).1.Box ⟨2,0⟩:=if_pos hg0;simp[go_sem,hk1];refine az.gen (qb σ _ (qI u e) c m rg e (bJ u (e.gn 0)).1.Box ⟨2,0⟩ aa) ?_;rintro r σ' X ⟨rfl,rfl,rfl⟩;refine wA ?_;rw[hz,hy];by_cases hk:dn (qI u e) e (bJ u (e.gn 0)).1.Box ⟨2,0⟩=0
   ·simp[go_sem,hk,dz];exact ae bf
   ·simp[go_sem,hk,dz];refine cF ?_;exact ae bf
 ·have hg0: ¬e.gn 1=0:=l5;have hy:VO u e= { u with gr:=dj u.gr (cP u.nr u.gr (e.gn 0)).toNat (if(e.gn 1==1)=true then 4 else 5) e.Day } :=if_neg hg0;refine gc [0,3,17,58] ?_ ?_<;>intro d2
  ·have hz:x3 u e=cz (dv u.gr) u.nr u.gr (e.gn 0) e.Day:=by unfold x3;rw[if_neg hg0,if_pos (.inl o9)]
   refine gc [0,3] ?_ ?_<;>intro d3
   ·simp[go_sem];refine T.dr 22 fun K hK=>sm ?_;repeat refine⟨aa,?_⟩
    refine bK.mk (q6 _ none u.nr u.gr (e.gn 0) e.Day (e.gn 1==1) aa) (sm ?_);refine hK _ ?_;refine go true (sm ?_);refine az.gen (DP σ _ u c m rg e (.d (SL none 7 cT.enc u.nr u.gr)) (fun _=>trivial) _ _ _) ?_;rintro r σ' X ⟨rfl,rfl,rfl⟩;refine wA ?_;rw[hz,hy];by_cases hk:cz (dv u.gr) u.nr u.gr (e.gn 0) e.Day=0
    ·simp[go_sem,hk];exact ae bf
    ·simp[go_sem,hk];refine cF ?_;exact .refl _
   ·exact absurd d2 d3
  ·refine gc [0,3] ?_ ?_<;>intro d4
   ·have hz:x3 u e=cz (dv u.gr) u.nr u.gr (e.gn 0) e.Day:=by unfold x3;rw[if_neg hg0,if_pos (.inr uo)]
    simp[go_sem];refine T.dr 22 fun K hK=>sm ?_;repeat refine⟨aa,?_⟩
    refine bK.mk (q6 _ none u.nr u.gr (e.gn 0) e.Day (e.gn 1==1) aa) (sm ?_);refine hK _ ?_;refine go true (sm ?_);refine az.gen (DP σ _ u c m rg e (.d (SL none 7 cT.enc u.nr u.gr)) (fun _=>trivial) _ _ _) ?_;rintro r σ' X ⟨rfl,rfl,rfl⟩;refine wA ?_;rw[hz,hy];by_cases hk:cz (dv u.gr) u.nr u.gr (e.gn 0) e.Day=0
    ·simp[go_sem,hk];exact ae bf
    ·simp[go_sem,hk];refine cF ?_;exact .refl _
   ·have hz:x3 u e=1:=by unfold x3;rw[if_neg hg0,if_neg (by rintro(h|h);exact d2 h;exact d4 h)]
    refine wA ?_;rw[hz];simp[go_sem];refine cF ?_;exact .refl _
theorem Sp{x m h}(hx:x.nu<1000000000)(hm:m<1000000000):(dD x m h).1.nu<1000000000/\(dD x m h).1.nb<1000000000:=by
 unfold dD
 (repeat' split)<;>simp[fb,oz]<;>omega
theorem TK(τ)(u:Use)(c m rg e n row k):CS prog 328 [.ptr (σ.length+2) 12,.ms σ.length 8 0 n,.d (I k)] (σ++ .arr 8 n row:: .dead:: .var (bm ((u.cells u.aX).set 12 (.undef)) c m rg e)::τ) (fun r σ' X'=>X'=[]/\r= .d (I k)/\σ'=σ++ .arr 8 n row:: .dead:: .var (bm ((u.cells u.aX).set 12 (if k=0 then .ms σ.length 8 0 n else .undef)) c m rg e)::τ):=by
 refine CS.BA true [] func328 fun hwf=> ?_;refine ue ?_ ?_<;>intro d0
 ·obtain rfl:k=0:=by simpa using d0
  simp[go_sem];refine af (sm ?_);exact ae VY
 ·have hk: ¬k=0:=l5;refine wA ?_;simp[go_sem,hk];exact .refl _
theorem WI(τ n g i)(hi:i<n)(x k):CS prog 331 [.pe σ.length 8 i 0,.agg (x.enc.map .d),.d (I k)] (σ++ .arr 8 n (fun q=>ek.enc (g q))::τ) (fun r σ' X'=>X'=[]/\r= .d (I k)/\σ'=σ++ .arr 8 n (fun q=>ek.enc (if k=0 then cJ g i x q else g q))::τ):=by
 refine CS.Gc true [] func331 fun hwf=> ?_;simp[go_sem];refine ue ?_ ?_<;>intro d0
 ·obtain rfl:k=0:=by simpa using d0
  simp[go_sem,hi];refine ax σ.length (fun q=>ek.enc (cJ g i x q)) bj Re aN ?_;refine af ?_;simp[go_sem];exact ae bf
 ·have hk: ¬k=0:=l5;refine wA ?_;simp[go_sem,hk];exact .refl _
theorem xW(τ n g f cap p)(hn:n<1000000000)(hf: ∀i,i<n->ak prog f (.agg ((g i).enc.map .d)::cap) (σ++ .arr 8 n (fun q=>ek.enc (g q))::τ) (.d (B (p (g i))))):ak prog 387 [.ms σ.length 8 0 n,.clo (.func f) [] cap] (σ++ .arr 8 n (fun q=>ek.enc (g q))::τ) (.d (I (idxFrom p (lst n g) 0))):=by
 refine ak.bt func387 ?_;refine dm (α:=Nat) true [0,1,7,8] (fun i=>[(8,.d (I i))]) (fun i=>_) (fun i=>i<=n/\idxFrom p (lst n g) 0=idxFrom p ((lst n g).drop i) i) (fun i=>n-i) 0 ?_;rintro i ⟨hi,hx⟩;refine gc [0,1,7,8] ?_ ?_<;>intro d0
 ·rw[bU d0,idxFrom] at hx;refine wB ?_;refine az.mk (hf i d0) (sm ?_);refine km [0,1,5,7,8] ?_ ?_<;>intro c1 d1
  ·refine wA ?_;simp[go_sem,hx,c1]<;>omega
  ·refine wC ?_;refine bF (i+1) ⟨aa,by rw[hx,c1];simp⟩ (h:=aR)
 ·rw[bV d0,idxFrom] at hx;refine wN ?_;simp[go_sem,hx]<;>omega
theorem Dy(τ)(u:Use)(c m rg e)(x:ek)(hn:1<=e.nn):ak prog 388 [.agg (x.enc.map .d),.ptr (σ.length+3) 0] (σ++[.arr 8 u.nt (fun i=>ek.enc (u.gt i)),.dead,.var (bm ((u.cells u.aX).set 12 (.ms σ.length 8 0 u.nt)) c m rg e),.var [.ptr (σ.length+2) 0]]++τ) (.d (B (x.ID==e.gn 0))):=by
 refine ak.bt func388 ?_;refine T.dr 10 fun K hK=>sm ?_;refine wG hK ?_;refine go true (sm ?_);exact af so
theorem uv(u c m rg e)(hu:br u)(hn:1<=e.nn)(hi:iK u e<0):ak prog 329 [.ptr (σ.length+2) 0] (σ++[.arr 8 u.nt (fun i=>ek.enc (u.gt i)),.dead,.var (bm ((u.cells u.aX).set 12 (.ms σ.length 8 0 u.nt)) c m rg e)]) (.d (.v (.pointer none))):=by
 have b6:=hu.nt;unfold iK at hi;refine ak.bt func329 ?_;refine az.mk (xW σ _ u.nt u.gt _ _ (fun b=>b.ID==e.gn 0) aa (fun i hi=>by have h:=Dy σ [] u c m rg e (u.gt i) hn;simpa[go_sem] using h)) ?_;refine gc [1,3] ?_ ?_<;>intro d0
 ·simp[go_sem];exact af so
 ·exact absurd hi aa
theorem uu(u c m rg e)(hu:br u)(hn:1<=e.nn)(i:Nat)(hi:iK u e=(i:Int))(hin:i<u.nt):ak prog 329 [.ptr (σ.length+2) 0] (σ++[.arr 8 u.nt (fun i=>ek.enc (u.gt i)),.dead,.var (bm ((u.cells u.aX).set 12 (.ms σ.length 8 0 u.nt)) c m rg e)]) (.pe σ.length 8 i 0):=by
 have b6:=hu.nt;unfold iK at hi;refine ak.bd true func329 fun hwf=> ?_;simp[go_sem];refine az.mk (xW σ _ u.nt u.gt _ _ (fun b=>b.ID==e.gn 0) aa (fun i hi=>by have h:=Dy σ [] u c m rg e (u.gt i) hn;simpa[go_sem] using h)) ?_;simp[go_sem,hi];refine dH [1,3] ?_ ?_<;>intro d0
 ·exact absurd d0 aa
 ·refine wB ?_;refine af ?_;simp[go_sem]<;>omega
theorem BN(u c m rg e)(hu:br u)(hn:3<=e.nn)(hb:e.nn<1000000000)(h0:σ[0]? =some (.tab 0 dG))(bc:gJ σ):CS prog 223 [.ptr (σ.length+2) 0] (σ++[.arr 8 u.nt (fun i=>ek.enc (u.gt i)),.dead,.var (bm ((u.cells u.aX).set 12 (.ms σ.length 8 0 u.nt)) c m rg e)]) (fun r σ' X'=>X'=[σ.length]/\r= .d (I (Pb u e))/\∃cs,σ'=σ++[.dead,.dead,.var cs]/\(Pb u e=0->cs=bm ((VU u e).cells (VU u e).aX) c m rg e)):=by
 have b6:=hu.nt;have hwp:=aT (i:=u.nt) aa;have h3:((e.nn:Int)-3).toNat=e.nn-3:=aa;have had:lM (e.gn 0) e.Day (e.nn-3) (fun i=>e.gn (3+i)) (e.gn 1) (e.gn 2)=Iv u e:=rfl;refine CS.Gc true [σ.length] func223 fun hwf=> ?_;simp[go_sem];refine T.dr 19 fun K hK=> ?_;simp[go_sem,hwp];refine wG hK ?_;refine go false ?_;refine gc [0,3,4] ?_ ?_<;>intro d0
 ·have hz:Pb u e=5:=if_pos aa;simp[go_sem];refine aF bc σ.length ?_;refine wJ ?_;rw[hz];simp[go_sem];refine mJ ?_;exact ae bf
 ·have hz0: ¬(0<u.nt/\e.gn 0<=(u.gt (u.nt-1)).ID):=aa;refine wH ?_;refine gc [0,3] ?_ ?_<;>intro d1
  ·have hz:Pb u e=12:=by unfold Pb;rw[if_neg hz0,if_pos aa]
   simp[go_sem];refine aF bc σ.length ?_;refine wJ ?_;rw[hz];simp[go_sem];refine mJ ?_;exact ae bf
  ·have hz:Pb u e=(Iv u e).2:=by unfold Pb;rw[if_neg hz0,if_neg aa]
   simp[go_sem];apply cU 22 20 21 T.mixed aD
   ·intro τ K hK;simp[go_sem,h3];repeat refine⟨aa,?_⟩
    refine bK.mk (zI _ (e.gn 0) e.Day (e.cn.map fun x=>x-3) (e.nn-3) (fun i=>e.gn (3+i)) (e.gn 1) (e.gn 2) aa (ay h0)) ?_;simp[go_sem,had];exact hK _ _
   intro K hK;refine wg hK ?_;apply Pf.gZ 13 11 71 (.ms σ.length 8 0 (u.nt+1)) ((σ++[.arr 8 (u.nt+1) (aO u.nt (fun i=>ek.enc (u.gt i)) (rowsOf 8 (Iv u e).1.enc)),.dead,.var (bm ((u.cells u.aX).set 12 (.undef)) c m rg e),.var ((Iv u e).1.enc.map .d)])) ([σ.length]) [5,6,7,8,9,10] T.mixed aD
   ·intro K hK;simp[go_sem];exact hK _ _
   ·decide
   ·simp[go_sem,bc.zero];repeat refine⟨aa,?_⟩
    all_goals omega
   ·intro K hK;simp[go_sem];exact hK _ _
   ·simp[go_sem]
   intro K hK;simp[go_sem];have h:=TK σ [.var ((Iv u e).1.enc.map .d)] u c m rg e (u.nt+1) (aO u.nt (fun i=>ek.enc (u.gt i)) (rowsOf 8 (Iv u e).1.enc)) (Iv u e).2;refine az.gen h ?_;rintro r σ' X ⟨rfl,rfl,rfl⟩;refine wg hK ?_;refine ax σ.length (fun q=>ek.enc (aL u.gt u.nt (Iv u e).1 q)) bj (by exact fun q hq=>gu (enc:=ek.enc) (x:=(Iv u e).1) rfl q hq) aN ?_;by_cases hk:(Iv u e).2=0
   ·rw[hz];simp only[hk,if_true];refine aF bc σ.length ?_;refine af ?_;simp[go_sem,VU];exact ae bf
   simp only[hk,if_false];refine aF bc σ.length ?_;refine af ?_;rw[hz];simp[go_sem,hk];refine mJ ?_;exact ae bf
theorem IK(u c m rg e)(hu:br u)(hn:1<=e.nn)(hb:e.nn<1000000000)(hi:iK u e<0)(bc:gJ σ):CS prog 224 [.ptr (σ.length+2) 0] (σ++[.arr 8 u.nt (fun i=>ek.enc (u.gt i)),.dead,.var (bm ((u.cells u.aX).set 12 (.ms σ.length 8 0 u.nt)) c m rg e)]) (fun r σ' X'=>X'=[σ.length]/\r= .d (I (LS u e))/\∃cs,σ'=σ++[.dead,.dead,.var cs]/\(LS u e=0->cs=bm ((Rz u e).cells (Rz u e).aX) c m rg e)):=by
 have hz:LS u e=7:=if_pos hi;refine CS.Gc false [σ.length] func224 fun hwf=> ?_;refine wX ?_;refine az.mk (uv σ u c m rg e hu hn hi) ?_;refine wU ?_;simp[go_sem];refine cn [3] rfl ?_ ?_<;>intro c0 d0<;>try simp at d0
 ·simp[go_sem];refine aF bc σ.length ?_;refine wJ ?_;rw[hz];simp[go_sem];refine mJ ?_;exact ae bf
theorem IJ(u c m rg e)(hu:br u)(hn:1<=e.nn)(hb:e.nn<1000000000)(h0:σ[0]? =some (.tab 0 dG))(i:Nat)(hi:iK u e=(i:Int))(hin:i<u.nt)(bc:gJ σ):CS prog 224 [.ptr (σ.length+2) 0] (σ++[.arr 8 u.nt (fun i=>ek.enc (u.gt i)),.dead,.var (bm ((u.cells u.aX).set 12 (.ms σ.length 8 0 u.nt)) c m rg e)]) (fun r σ' X'=>X'=[σ.length]/\r= .d (I (LS u e))/\∃cs,σ'=σ++[.dead,.dead,.var cs]/\(LS u e=0->cs=bm ((Rz u e).cells (Rz u e).aX) c m rg e)):=by
 have b6:=hu.nt;have g1:=hu.bu i hin;have g2:=hu.bb i hin;have hz:LS u e=(dJ (u.gt i)).2:=by unfold LS;rw[if_neg aa,hi,Int.toNat_natCast]
 have hy:Rz u e= { u with gt:=cJ u.gt i (dJ (u.gt i)).1 } :=by unfold Rz;rw[hi,Int.toNat_natCast]
 refine CS.Gc true [σ.length] func224 fun hwf=> ?_;simp[go_sem];refine az.mk (uu σ u c m rg e hu hn i hi hin) ?_;simp[go_sem];refine cn [3] rfl ?_ ?_<;>intro c0 d0<;>try simp at d0
 ·simp[go_sem,hin];refine az.mk (zH _ (u.gt i) aa aa (ay h0)) ?_;simp[go_sem];refine az.gen (WI σ _ u.nt u.gt i hin (dJ (u.gt i)).1 _) ?_;rintro r σ' X ⟨rfl,rfl,rfl⟩;simp[go_sem];by_cases hk:(dJ (u.gt i)).2=0
  ·rw[hz,hy];simp only[hk,if_true];refine aF bc σ.length ?_;refine af ?_;simp[go_sem];exact ae bf
  simp only[hk,if_false];refine aF bc σ.length ?_;refine af ?_;rw[hz];simp[go_sem,hk];refine mJ ?_;exact ae bf
theorem BJ(u c m rg e)(hu:br u)(hn:1<=e.nn)(hb:e.nn<1000000000)(hi:iK u e<0)(bc:gJ σ):CS prog 225 [.ptr (σ.length+2) 0] (σ++[.arr 8 u.nt (fun i=>ek.enc (u.gt i)),.dead,.var (bm ((u.cells u.aX).set 12 (.ms σ.length 8 0 u.nt)) c m rg e)]) (fun r σ' X'=>X'=[σ.length]/\r= .d (I (Cs u e))/\∃cs,σ'=σ++[.dead,.dead,.var cs]/\(Cs u e=0->cs=bm ((Nz u e).cells (Nz u e).aX) c m rg e)):=by
 have hz:Cs u e=7:=if_pos hi;refine CS.Gc false [σ.length] func225 fun hwf=> ?_;refine wX ?_;refine az.mk (uv σ u c m rg e hu hn hi) ?_;refine wU ?_;simp[go_sem];refine cn [0,3] rfl ?_ ?_<;>intro c0 d0<;>try simp at d0
 ·simp[go_sem];refine aF bc σ.length ?_;refine wJ ?_;rw[hz];simp[go_sem];refine mJ ?_;exact ae bf
theorem BI(u c m rg e)(hu:br u)(hn:1<=e.nn)(hb:e.nn<1000000000)(h0:σ[0]? =some (.tab 0 dG))(i:Nat)(hi:iK u e=(i:Int))(hin:i<u.nt)(bc:gJ σ):CS prog 225 [.ptr (σ.length+2) 0] (σ++[.arr 8 u.nt (fun i=>ek.enc (u.gt i)),.dead,.var (bm ((u.cells u.aX).set 12 (.ms σ.length 8 0 u.nt)) c m rg e)]) (fun r σ' X'=>X'=[σ.length]/\r= .d (I (Cs u e))/\∃cs,σ'=σ++[.dead,.dead,.var cs]/\(Cs u e=0->cs=bm ((Nz u e).cells (Nz u e).aX) c m rg e)):=by
 have b6:=hu.nt;have b7:=hu.nl;have g1:=hu.bu i hin;have g2:=hu.bb i hin;have h1:((e.nn:Int)-1).toNat=e.nn-1:=aa;have hp:dD (u.gt i) (e.nn-1) (fun i=>e.gn (1+i))=gy u e:=by unfold gy;rw[hi,Int.toNat_natCast]
 have hy1:E6 u e= { u with gt:=cJ u.gt i (gy u e).1 } :=by unfold E6;rw[hi,Int.toNat_natCast]
 have hib: ¬iK u e<0:=aa;have hnu:=Sp (x:=u.gt i) (m:=e.nn-1) (h:=fun i=>e.gn (1+i)) aa aa;rw[hp] at hnu;have hwp:=aT (i:=u.nl) aa;refine CS.Gc true [σ.length] func225 fun hwf=> ?_;simp[go_sem];refine az.mk (uu σ u c m rg e hu hn i hi hin) ?_;simp[go_sem];refine cn [0,3] rfl ?_ ?_<;>intro c0 d0<;>try simp at d0
 ·simp[go_sem];apply cU 15 13 14 T.mixed aD
  ·intro τ K hK;simp[go_sem,hin,h1];repeat refine⟨aa,?_⟩
   refine bK.mk (tZ _ (u.gt i) (e.cn.map fun x=>x-1) (e.nn-1) (fun i=>e.gn (1+i)) aa aa aa (ay h0)) ?_;simp[go_sem,hp];exact hK _ _
  intro K hK;refine wd hK ?_;refine gc [0,3,4,5] ?_ ?_<;>intro d1
  ·have hk: ¬(gy u e).2=0:=ku;have hz:Cs u e=(gy u e).2:=by unfold Cs;rw[if_neg hib,if_pos hk]
   simp[go_sem];refine aF bc σ.length ?_;refine wJ ?_;rw[hz];simp[go_sem,hk];refine mJ ?_;exact ae bf
  ·have hk1:(gy u e).2=0:=ku;simp[go_sem,hin];refine ax σ.length (fun q=>ek.enc (cJ u.gt i (gy u e).1 q)) bj Re aN ?_;refine aF bc σ.length ?_;refine wi ?_;refine gc [0,4] ?_ ?_<;>intro d2
   ·have hk2:(gy u e).1.State≠3:=o9;have hz:Cs u e=0:=by unfold Cs;rw[if_neg hib,if_neg (fun h=>h hk1),if_pos hk2]
    have hy:Nz u e=E6 u e:=if_pos hk2;refine wA ?_;rw[hz,hy,hy1];simp[go_sem];exact ae bf
   ·have hk2: ¬(gy u e).1.State≠3:=o9;have hz:Cs u e=fp u.gl u.nl (gy u e).1 (E7 u):=by unfold Cs;rw[if_neg hib,if_neg (fun h=>h hk1),if_neg hk2]
    have hy:Nz u e= { E6 u e with nl:=nD u.gl u.nl (gy u e).1 (E7 u),gl:=sB u.gl u.nl (gy u e).1 (E7 u) } :=if_neg hk2;refine gc [0,4,6,7] ?_ ?_<;>intro d3
    ·have hf:IntKind.i64.wrap ((u.gl (u.nl-1)).fx+1)=E7 u:=(if_pos aa).symm;simp(disch:=first|omega|simp) [go_sem,hwp,hf];repeat refine⟨aa,?_⟩
     refine T.dr 12 fun K hK=> ?_;simp[go_sem];refine bK.mk (pJ _ none u.nl u.gl (gy u e).1 (E7 u) aa hnu.1 hnu.2 (ay h0)) ?_;refine wg hK ?_;have h:=nA (LM (σ++[.dead,.dead]) [.var ((gy u e).1.enc.map .d)] { u with gt:=cJ u.gt i (gy u e).1 } c m rg e (.d (SL none 2 kE.enc u.nl u.gl)) (fun _=>trivial) (nD u.gl u.nl (gy u e).1 (E7 u)) (sB u.gl u.nl (gy u e).1 (E7 u)) (fp u.gl u.nl (gy u e).1 (E7 u)));refine az.gen h ?_;rintro r σ' X ⟨rfl,rfl,rfl⟩;refine wA ?_;rw[hz,hy,hy1];by_cases hk:fp u.gl u.nl (gy u e).1 (E7 u)=0
     ·simp[go_sem,hk];exact ae bf
     ·simp[go_sem,hk];refine mJ ?_;exact ae bf
    ·have hf:E7 u=1:=if_neg aa;rw[hf] at hz hy;simp[go_sem];refine T.dr 12 fun K hK=> ?_;simp[go_sem];refine bK.mk (pJ _ none u.nl u.gl (gy u e).1 1 aa hnu.1 hnu.2 (ay h0)) ?_;refine wg hK ?_;have h:=nA (LM (σ++[.dead,.dead]) [.var ((gy u e).1.enc.map .d)] { u with gt:=cJ u.gt i (gy u e).1 } c m rg e (.d (SL none 2 kE.enc u.nl u.gl)) (fun _=>trivial) (nD u.gl u.nl (gy u e).1 1) (sB u.gl u.nl (gy u e).1 1) (fp u.gl u.nl (gy u e).1 1));refine az.gen h ?_;rintro r σ' X ⟨rfl,rfl,rfl⟩;refine wA ?_;rw[hz,hy,hy1];by_cases hk:fp u.gl u.nl (gy u e).1 1=0
     ·simp[go_sem,hk];exact ae bf
     ·simp[go_sem,hk];refine mJ ?_;exact ae bf
end Go.Proofs.YthpplckmbbachaaGreatDoor
