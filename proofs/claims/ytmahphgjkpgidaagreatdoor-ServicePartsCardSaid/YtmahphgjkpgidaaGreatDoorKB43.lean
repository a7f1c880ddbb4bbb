/- Contracts and lemmas, joined out of smaller texts by a program; no conditions. -/
import Derived.Test.YtmahphgjkpgidaaGreatDoorKB42
set_option linter.unusedVariables false
set_option linter.unusedSimpArgs false
set_option maxHeartbeats 4000000
set_option maxRecDepth 100000
namespace Go.Proofs.YtmahphgjkpgidaaGreatDoor
open Go.aU Go.dh Go.Proofs.Tryz
variable (σ : List aG)
theorem TP(c:Option Nat)(n:Nat)(g:Nat->Bx)(hn:n<1000000000)(hc: ∀i,i<n->(g i).nc<1000000000):aA prog 40 [.d (SL c 5 Bx.enc n g)] σ (.d (SL none 5 Bx.enc n g)):=by
 refine aA.be func40 fun hwf=> ?_;refine ak fun K hK=>sm ?_;refine hK _ ?_;refine ak fun K hK=> ?_;simp[go_sem];repeat refine⟨by omega,?_⟩
 refine hK _ ?_;refine aK ?_;refine ak fun K hK=>sm ?_;refine hK _ ?_;refine aS ?_;refine bZ [3,9,10] (by simp[go_sem,bD];rfl) ?_;refine dO (α:=Nat) (fun i=>[(10,.d (I i))]) (fun i=>σ++[.arr 5 n (fun q=>Bx.enc (g q))]) (fun i=>i<=n) (fun i=>n-i) 0 (by simp[go_sem]) (rfl) (by simp) ?_;rintro i hi;refine ak fun K hK=>sm ?_;refine hK _ ?_;refine aK ?_;refine tq [3,9,10,11] ?_;refine jr ?_ ?_<;>intro c0 d0
 ·have hi0:i<n:=by omega
  have hc0:=hc i hi0;refine aX ?_;refine aK ?_;refine aS ?_;refine ak fun K hK=> ?_;simp[go_sem,d0];refine hK _ ?_;refine Apd.awp_apd_end 8 (by rintro o ⟨⟩;rfl) fun K hK=> ?_;simp[go_sem,d0];repeat refine⟨by omega,?_⟩
  refine hK _ ?_;refine aY σ.length (fun q=>Bx.enc (g q)) (by simp[go_sem];exact⟨rfl,rfl,rfl⟩) (by intro q hq;by_cases h:q=i<;>simp[h,Bx.enc,Cnt.enc]) (by simp[go_sem];rfl) ?_;refine aZ fun K hK=> ?_;simp[go_sem];try simp(disch:=omega) only[aH]
  refine hK _ ?_;refine⟨i+1,dI (by simp[go_sem]) ((au (by simp[go_sem]))) (by(simp[go_sem]<;>omega)),by omega,by first|omega|(dsimp only;omega)⟩
 ·obtain rfl:i=n:=by omega
  refine fF ?_;refine ak fun K hK=> ?_;simp[go_sem];refine hK _ ?_;refine bK (σ.length) (by simp[go_sem];exact⟨rfl,rfl,rfl⟩) (by simp[go_sem];rfl) (by simp[go_sem,hwf.sZ,hwf.qH];rfl) ?_;exact aj sc
theorem dS(u:Use)(hu:dB u):aA prog 11 [.agg (u.cells u.bG)] σ (.agg (u.cells u.bG)):=by
 have b0:=hu.P.ns;have b9:=hu.P.nc;have b10:=hu.P.np;have b11:=hu.P.na;have b12:=hu.P.nm;have b1:=hu.nb;have b2:=hu.nf;have b3:=hu.nv;have b4:=hu.nr;have b5:=hu.nk;have b6:=hu.nt;have b7:=hu.nl;have b8:=hu.nw;refine aA.be func11 fun hwf=> ?_;refine ak fun K hK=>sm ?_;refine hK _ ?_;refine ak fun K hK=>sm ?_;refine hK _ ?_;refine ak fun K hK=> ?_;simp[go_sem];repeat refine⟨by omega,?_⟩
 refine hK _ ?_;refine aK ?_;refine ak fun K hK=>sm ?_;refine hK _ ?_;refine aS ?_;refine bZ [1,2,3,20,21] (by simp[go_sem,bD];rfl) ?_;refine dO (α:=Nat) (fun i=>[(21,.d (I i))]) (fun i=>(σ++[.var ((u.cells u.bG).set 0 (.ms (σ.length+2) 5 0 u.P.ns)),.var zU,.arr 5 u.P.ns (fun q=>kP.enc (u.P.gs q))])) (fun i=>i<=u.P.ns) (fun i=>u.P.ns-i) 0 (by simp[go_sem]) (rfl) (by simp) ?_;rintro i hi;refine ak fun K hK=>sm ?_;refine hK _ ?_;refine aK ?_;refine tq [1,2,3,20,21,22] ?_;refine jr ?_ ?_<;>intro c0 d0
 ·have hi0:i<u.P.ns:=by omega
  have g0:=hu.P.ps i hi0;refine aX ?_;refine aK ?_;refine aS ?_;refine ak fun K hK=> ?_;simp[go_sem,d0];refine hK _ ?_;refine T.dr 17 fun K hK=> ?_;simp[go_sem,d0];repeat refine⟨by omega,?_⟩
  refine hK _ ?_;refine aY (σ.length+2) (fun q=>kP.enc (u.P.gs q)) (by simp[go_sem];exact⟨rfl,rfl,rfl⟩) (by intro q hq;by_cases h:q=i<;>simp[h,kP.enc,encI]) (by simp[go_sem];rfl) ?_;refine aZ fun K hK=> ?_;simp[go_sem];try simp(disch:=omega) only[aH]
  refine hK _ ?_;refine⟨i+1,dI (by simp[go_sem]) ((au (by simp[go_sem]))) (by(simp[go_sem]<;>omega)),by omega,by first|omega|(dsimp only;omega)⟩
 ·obtain rfl:i=u.P.ns:=by omega
  refine aF hwf (σ.length+2) ?_;refine fF ?_;apply Mix.iC 20 [(16,none),(19,none)] [[0,2,3,4,5,6,7,8,9,10,11,12,13,14,15],[0,1,2,3,4,5,6,7,8,9,10,11,12,13,14,15,17,18]] [(.undef,(σ++[.var (u.cells u.bG),.var zU,.dead])),(.undef,(σ++[.var (u.cells u.bG),.var zU,.dead]))] T.mixed (by kernel_rfl)
  ·intro K hK;simp[go_sem];repeat refine⟨by omega,?_⟩
   exact hK _ _
  ·refine Mix.bJ ?_ (Mix.bJ ?_ (Mix.iR))
   ·intro K hK;simp[go_sem];exact hK _ _
   ·intro K hK;simp[go_sem];exact hK _ _
  ·refine Mix.bU ?_ (Mix.bU ?_ (Mix.kE))
   ·simp[go_sem];all_goals first|rfl|omega|skip
   ·simp[go_sem];all_goals first|rfl|omega|skip
  intro K hK;simp[go_sem];refine hK _ ?_;apply Mix.iC 20 [(16,none),(19,none)] [[0,2,3,4,5,6,7,8,9,10,11,12,13,14,15],[0,1,2,3,4,5,6,7,8,9,10,11,12,13,14,15,17,18]] [(.undef,(σ++[.var (u.cells u.bG),.var zU,.dead])),(.undef,(σ++[.var (u.cells u.bG),.var zU,.dead]))] T.mixed (by kernel_rfl)
  ·intro K hK;simp[go_sem];repeat refine⟨by omega,?_⟩
   exact hK _ _
  ·refine Mix.bJ ?_ (Mix.bJ ?_ (Mix.iR))
   ·intro K hK;simp[go_sem];exact hK _ _
   ·intro K hK;simp[go_sem];exact hK _ _
  ·refine Mix.bU ?_ (Mix.bU ?_ (Mix.kE))
   ·simp[go_sem];all_goals first|rfl|omega|skip
   ·simp[go_sem];all_goals first|rfl|omega|skip
  intro K hK;simp[go_sem];refine hK _ ?_;refine jT 6 T.mixed (by kernel_rfl) fun K hK=> ?_;simp[go_sem];refine dF.mk (TP _ none u.nb u.gb (by omega) (fun i hi=>by have:=hu.bx i hi;omega)) ?_;simp[go_sem];repeat refine⟨by omega,?_⟩
  refine hK _ ?_;refine aF hwf (σ.length+3) ?_;apply Mix.iC 10 [(9,none)] [[0,1,2,3,4,5,6,7,8]] [(.undef,(σ++[.var (u.cells u.bG),.var zU,.dead,.dead]))] T.mixed (by kernel_rfl)
  ·intro K hK;simp[go_sem];repeat refine⟨by omega,?_⟩
   exact hK _ _
  ·refine Mix.bJ ?_ (Mix.iR)
   ·intro K hK;simp[go_sem];exact hK _ _
  ·refine Mix.bU ?_ (Mix.kE)
   ·simp[go_sem];all_goals first|rfl|omega|skip
  intro K hK;simp[go_sem];refine hK _ ?_;apply Mix.iC 10 [(7,some 104),(9,none)] [[0,1,2,3,4,5,6],[0,1,2,3,4,5,6,8]] [(.ms (σ.length+4) 8 0 u.nt,(σ++[.var (u.cells u.bG),.var zU,.dead,.dead,.arr 8 u.nt (fun q=>fU.enc (u.gt q))])),(.undef,(σ++[.var (u.cells u.bG),.var zU,.dead,.dead,.arr 8 u.nt (fun q=>fU.enc (u.gt q))]))] T.mixed (by kernel_rfl)
  ·intro K hK;simp[go_sem];repeat refine⟨by omega,?_⟩
   exact hK _ _
  ·refine Mix.bJ ?_ (Mix.bJ ?_ (Mix.iR))
   ·intro K hK;simp[go_sem];exact hK _ _
   ·intro K hK;simp[go_sem];exact hK _ _
  ·refine Mix.bU ?_ (Mix.bU ?_ (Mix.kE))
   ·simp[go_sem];all_goals first|rfl|omega|skip
   ·simp[go_sem];all_goals first|rfl|omega|skip
  intro K hK;simp[go_sem];refine hK _ ?_;refine aK ?_;refine ak fun K hK=> ?_;simp[go_sem];refine hK _ ?_;refine aS ?_;refine bZ [1,2,109,110] (by simp[go_sem,bD];rfl) ?_;refine dO (α:=Nat) (fun i=>[(110,.d (I i))]) (fun i=>(σ++[.var ((u.cells u.bG).set 12 (.ms (σ.length+4) 8 0 u.nt)),.var zU,.dead,.dead,.arr 8 u.nt (fun q=>fU.enc (u.gt q))])) (fun i=>i<=u.nt) (fun i=>u.nt-i) 0 (by simp[go_sem]) (rfl) (by simp) ?_;rintro i hi;refine ak fun K hK=> ?_;simp[go_sem];refine hK _ ?_;refine aK ?_;refine tq [1,2,109,110,111] ?_;refine jr ?_ ?_<;>intro c1 d1
  ·have hi0:i<u.nt:=by omega
   have g0:=hu.bu i hi0;have g1:=hu.bb i hi0;refine aX ?_;refine aK ?_;refine aS ?_;refine ak fun K hK=> ?_;simp[go_sem,d1];refine hK _ ?_;refine T.dr 9 fun K hK=> ?_;simp[go_sem,d1];refine dF.mk (TM _ (u.gt i) (by omega) (by omega)) ?_;simp[go_sem,d1];refine hK _ ?_;refine aY (σ.length+4) (fun q=>fU.enc (u.gt q)) (by simp[go_sem];exact⟨rfl,rfl,rfl⟩) (by intro q hq;by_cases h:q=i<;>simp[h,fU.enc]) (by simp[go_sem];rfl) ?_;refine aZ fun K hK=> ?_;simp[go_sem];try simp(disch:=omega) only[aH]
   refine hK _ ?_;refine⟨i+1,dI (by simp[go_sem]) ((au (by simp[go_sem]))) (by(simp[go_sem]<;>omega)),by omega,by first|omega|(dsimp only;omega)⟩
  ·obtain rfl:i=u.nt:=by omega
   refine aF hwf (σ.length+4) ?_;refine fF ?_;apply Mix.iC 10 [(9,none)] [[0,1,2,3,4,5,6,7,8]] [(.undef,(σ++[.var (u.cells u.bG),.var zU,.dead,.dead,.dead]))] T.mixed (by kernel_rfl)
   ·intro K hK;simp[go_sem];repeat refine⟨by omega,?_⟩
    exact hK _ _
   ·refine Mix.bJ ?_ (Mix.iR)
    ·intro K hK;simp[go_sem];exact hK _ _
   ·refine Mix.bU ?_ (Mix.kE)
    ·simp[go_sem];all_goals first|rfl|omega|skip
   intro K hK;simp[go_sem];refine hK _ ?_;refine ak fun K hK=> ?_;simp[go_sem];refine hK _ ?_;exact aj sc
theorem lst0{α:Type}{f g:Nat->α}{n m:Nat}(hn:n=0)(hm:m=0):lst n f=lst m g:=by subst hn hm;rfl
theorem same31_0(p q:oC)(h1:p.nc=0)(h2:q.nc=0):aA prog 72 [.d (SL none 6 Rule.enc p.nc p.gc),.d (SL none 6 Rule.enc q.nc q.gc)] σ (.d (B true)):=by
 have h:=EZ σ none p.nc p.gc none q.nc q.gc (Classical.propDecidable _) (by omega);have e:= @decide_eq_true _ (Classical.propDecidable (lst p.nc p.gc=lst q.nc q.gc)) (lst0 h1 h2);rw[e] at h;exact h
theorem pol0_cs(p q:oC)(z:PolZ p)(z':PolZ q):aA prog 46 [.agg (p.enc.map .d),.agg (q.enc.map .d)] σ (.d (B true)):=by
 have z1:=z.ns;have z2:=z.nc;have z3:=z.np;have z4:=z.y;have z5:=z.na;have z6:=z.nm;have y1:=z'.ns;have y2:=z'.nc;have y3:=z'.np;have y4:=z'.y;have y5:=z'.na;have y6:=z'.nm;refine aA.bs true func46 fun hwf=> ?_;refine aJ [2,3] ?_ ?_<;>intro c0 d0
 ·exact absurd z1 (by omega)
 ·simp[go_sem];refine kQ (α:=Nat) true [2,3,24,25] (fun i=>[(25,.d (I i))]) (fun i=>_) (fun i=>i=0) (fun i=>p.ns-i) 0 ?_;rintro i hi;simp[go_sem];refine aJ [2,3,24,25] ?_ ?_<;>intro c1 d1
  ·exact absurd z1 (by omega)
  ·simp[go_sem];refine go true (sm ?_);refine aO.mk (same31_0 _ p q z2 y2) (sm ?_);refine fM.mk' (.d (B true)) (fun _=>by have h:=NC (σ++[.var (p.enc.map .d),.var (q.enc.map .d)]) none none p.np q.np p.gp q.gp (by omega) (by omega);rw[aaA z3 y3] at h;exact h) ?_;simp[go_sem];refine fM.mk' (.d (B true)) (fun _=>by have h:=NH (σ++[.var (p.enc.map .d),.var (q.enc.map .d)]) none none p.na q.na p.ga q.ga (by omega) (by omega);rw[aaA z5 y5] at h;exact h) ?_;simp[go_sem];refine fM.mk' (.d (B true)) (fun _=>by have h:=ND (σ++[.var (p.enc.map .d),.var (q.enc.map .d)]) none none p.nm q.nm p.gm q.gm (by omega) (by omega);rw[aaA z6 y6] at h;exact h) ?_;simp[go_sem];exact aj sc
theorem same0_cs(u v:Use)(z:UseZ u)(z':UseZ v):aA prog 14 [.agg (u.cells u.bG),.agg (v.cells v.bG)] σ (.d (B true)):=by
 have z1:=z.nb;have z2:=z.nf;have z3:=z.nv;have z4:=z.nr;have z5:=z.s;have z6:=z.nk;have z7:=z.nt;have z8:=z.nl;have z9:=z.nw;have z0:=z.c;have y1:=z'.nb;have y2:=z'.nf;have y3:=z'.nv;have y4:=z'.nr;have y5:=z'.s;have y6:=z'.nk;have y7:=z'.nt;have y8:=z'.nl;have y9:=z'.nw;have y0:=z'.c;refine aA.bs true func14 fun hwf=> ?_;refine aJ [2,3] ?_ ?_<;>intro c0 d0
 ·exact absurd z1 (by omega)
 ·simp[go_sem];refine kQ (α:=Nat) true [2,3,39,40] (fun i=>[(40,.d (I i))]) (fun i=>_) (fun i=>i=0) (fun i=>u.nf-i) 0 ?_;rintro i hi;simp[go_sem];refine aJ [2,3,39,40] ?_ ?_<;>intro c1 d1
  ·exact absurd z2 (by omega)
  ·simp[go_sem];refine go true (sm ?_);refine kQ (α:=Nat) true [2,3,57,58] (fun i=>[(58,.d (I i))]) (fun i=>_) (fun i=>i=0) (fun i=>u.nt-i) 0 ?_;rintro i hi;simp[go_sem];refine aJ [2,3,57,58] ?_ ?_<;>intro c2 d2
   ·exact absurd z2 (by omega)
   ·simp[go_sem];refine go true (sm ?_);refine aO.mk (pol0_cs _ u.P v.P z.P z'.P) (sm ?_);refine fM.mk' (.d (B true)) (fun _=>boxes0_cs _ u.gb v.gb u.nb v.nb z1 y1) (sm ?_);refine fM.mk' (.d (B true)) (fun _=>by have h:=Dl (σ++[.var (u.cells u.bG),.var (v.cells v.bG)]) none none u.nv v.nv u.gv v.gv (by omega) (by omega);rw[aaA z3 y3] at h;exact h) ?_;simp[go_sem];refine fM.mk' (.d (B true)) (fun _=>by have h:=Nz (σ++[.var (u.cells u.bG),.var (v.cells v.bG)]) none none u.nr v.nr u.gr v.gr (by omega) (by omega);rw[aaA z4 y4] at h;exact h) ?_;simp[go_sem];refine fM.mk' (.d (B true)) (fun _=>by have h:=NG (σ++[.var (u.cells u.bG),.var (v.cells v.bG)]) none none u.nk v.nk u.gk v.gk (by omega) (by omega);rw[aaA z6 y6] at h;exact h) ?_;simp[go_sem];refine fM.mk' (.d (B true)) (fun _=>by have h:=uI (σ++[.var (u.cells u.bG),.var (v.cells v.bG)]) none none u.nl v.nl u.gl v.gl (by omega) (by omega);rw[aaA z8 y8] at h;exact h) ?_;simp[go_sem];refine fM.mk' (.d (B true)) (fun _=>by have h:=wB (σ++[.var (u.cells u.bG),.var (v.cells v.bG)]) none none u.nw v.nw u.gw v.gw (by omega) (by omega);rw[aaA z9 y9] at h;exact h) ?_;simp[go_sem];exact aj sc
structure Std where
 Shelf:Int
 n:Nat
 g:Nat->Int
instance:Inhabited Std:=⟨⟨0,0,fun _=>0⟩⟩
def Std.enc(s:Std):List D:=[I s.Shelf,SL none 1 encI s.n s.g]
attribute [go_sem] Std.enc
def OU(u:Use)(k:Int):Std:=⟨k,if atE u.nv u.gv ⟨1,k⟩=0 then(Ut u.nv u.gv ⟨1,k⟩).length else 0,nth (Ut u.nv u.gv ⟨1,k⟩)⟩
def tC(u:Use)(i:Nat):List Std:=if 0<(OU u (u.gf i).ID).n then[OU u (u.gf i).ID] else[]
theorem YO(u:Use)(i:Nat):(tC u i).length<=1:=by unfold tC;split<;>simp
theorem EW(u:Use)(hu:dB u)(h0:σ[0]? =some (.tab 0 gK))(h1:σ[1]? =some (.loc 1)):aA prog 19 [.agg (u.cells u.bG)] σ (.eU [.d (SL none 2 Std.enc (if dD u=true then(gather (tC u) u.nf).length else 0) (nth (gather (tC u) u.nf))),.d (I (if dD u=true then 0 else 1))]):=by
 have b2:=hu.nf;have b3:=hu.nv;refine aA.be func19 fun hwf=> ?_;refine ak fun K hK=>sm ?_;refine hK _ ?_;refine aK ?_;refine ak fun K hK=>sm ?_;refine aO.mk (oJ _ u hu (aC h0) (aC h1)) (sm ?_);refine hK _ ?_;refine tq [1,11] ?_;refine jr ?_ ?_<;>intro c0 d0
 ·have hz:dD u=false:=by simpa using d0
  refine ak fun K hK=> ?_;simp[go_sem,d0];refine hK _ ?_;refine aj ?_;rw[hz];simp[go_sem,Go.aU.bC]
 ·have hz:dD u=true:=by simpa using d0
  refine aX ?_;refine ak fun K hK=> ?_;simp[go_sem,d0];refine hK _ ?_;refine aK ?_;refine ak fun K hK=> ?_;simp[go_sem];refine hK _ ?_;refine aS ?_;refine dG 4 2 (fun i=>Std.enc (nth ([]:List Std) i)) (by simp[go_sem]) (by simp[go_sem];rfl) ?_;refine bZ [1,4,13,14,15] (by simp[go_sem,bD];rfl) ?_;refine zG [σ.length+1] (by simp) ?_;refine dO (α:=Nat) (fun q=>[(4,.ms (σ.length+1) 2 0 (gather (tC u) q).length),(15,.d (I q))]) (fun q=>σ++[.var (u.cells u.bG),.arr 2 (gather (tC u) q).length (fun k=>Std.enc (nth (gather (tC u) q) k))]) (fun q=>q<=u.nf) (fun q=>u.nf-q) 0 (by simp[go_sem,gather]) (by simp[go_sem,gather]) (by simp) ?_;rintro q hq;refine ak fun K hK=> ?_;simp[go_sem];refine hK _ ?_;refine aK ?_;refine tq [1,4,13,14,15,16] ?_;refine jr ?_ ?_<;>intro c1 d1
  ·have hq0:q<u.nf:=by omega
   have hl:=nJ (YO u) q;refine aX ?_;refine aK ?_;refine aS ?_;refine ak fun K hK=> ?_;simp[go_sem,d1];refine hK _ ?_;refine ak fun K hK=> ?_;simp[go_sem];refine aO.mk (Ul _ none u.nv u.gv ⟨1,(u.gf q).ID⟩ (by omega)) ?_;simp[go_sem];refine hK _ ?_;refine ak fun K hK=> ?_;simp[go_sem];refine hK _ ?_;refine tq [1,4,6,7,13,14,15,30] ?_;refine jr ?_ ?_<;>intro c2 d2
   ·have hg:gather (tC u) (q+1)=gather (tC u) q++[OU u (u.gf q).ID]:=by rw[gather,tC,if_pos (by simpa[OU] using d2)]
    refine aZ fun K hK=> ?_;simp[go_sem,d2,hwf.one];repeat refine⟨by omega,?_⟩
    refine hK _ ?_;refine aY (σ.length+1) (fun k=>Std.enc (nth (gather (tC u) q++[OU u (u.gf q).ID]) k)) (by simp[go_sem];exact⟨rfl,rfl,rfl⟩) (by exact fun k hk=>Ei (enc:=Std.enc) (x:=OU u (u.gf q).ID) rfl hk) (by simp[go_sem];rfl) ?_;refine aZ fun K hK=> ?_;simp[go_sem];try simp(disch:=omega) only[aH]
    refine hK _ ?_;refine⟨q+1,dI (by simp[go_sem,hg]) ((au (by simp[go_sem]))) (by(simp[go_sem,hg]<;>omega)),by omega,by first|omega|(dsimp only;omega)⟩
   ·have hg:gather (tC u) (q+1)=gather (tC u) q:=by rw[gather,tC,if_neg (by simpa[OU] using d2)];simp
    refine aX ?_;refine aZ fun K hK=> ?_;simp[go_sem,c2];try simp(disch:=omega) only[aH]
    refine hK _ ?_;refine⟨q+1,dI (by simp[go_sem,hg]) ((au (by simp[go_sem]))) (by(simp[go_sem,hg]<;>omega)),by omega,by first|omega|(dsimp only;omega)⟩
  ·obtain rfl:q=u.nf:=by omega
   refine fF ?_;refine ak fun K hK=> ?_;simp[go_sem];refine hK _ ?_;refine aF hwf (σ.length+1) ?_;rw[if_pos hz,if_pos hz];exact aj sc
theorem UH{c c':Option Nat}{sz n:Nat}{row row':Nat->List D}(hc:c'=none\/c'=c)(hr: ∀i,i<n->(row' i).length=(row i).length/\∀k,k<sz->∀w j v,RD w j ((row i).getD k default) v->RD w j ((row' i).getD k default) v):Same (.d (.sl c sz n row)) (.d (.sl c' sz n row')):=by
 refine .d fun w j v h=> ?_;have hcap: ∀q:Nat,(c=none\/c=some q)->(c'=none\/c'=some q):=fun q hq=>by
  rcases hc with rfl|rfl
  ·exact .inl rfl
  ·exact hq
 cases h with
 |sl a q val h1 h2 h3 h4 h5 h6 h7 h8=>exact .sl a q val (hcap q h1) h2 h3 h4 h5 (fun i hi=>by rw[(hr i hi).1];exact h6 i hi) h7 (fun i hi k hk=>(hr i hi).2 k hk _ _ _ (h8 i hi k hk))
 |zero p q h1 h2=>exact .zero p q (hcap q h1) h2
theorem same_res{P:Program}{f:FuncId}{args:List AV}{σ:List aG}{r r':AV}(h:aA P f args σ r)(hs:Same r r'):aA P f args σ r':=
 ⟨h.1,fun j w vs h1 h2=>(h.2 j w vs h1 h2).mono (by
  rintro e w' ⟨v,r1,σ1,j1,X,h5,h6,h7,h8,h9,h10,h11⟩;obtain⟨rfl,h12⟩:=h11;exact⟨v,r',σ1,j1,X,h5,h6,hs _ _ _ h7,h8,h9,h10,rfl,h12⟩)⟩
def lI(id k:Int)(l:List Int):Ev:=⟨id,0,k,none,l.length,nth l,none,0,fun _=> .empty⟩
def Kq:List Ev:=[lI 1 48 [1,100,90,0],lI 2 51 [5,1,150,0],lI 3 49 [1,0,7,20],lI 4 52 [1,1,5],lI 5 56 [1,3,0,10],lI 6 53 [1,3,7]]
def exD:List D:=[I 1,I 0,I 48,.sl (some 4) 1 4 (rowsOf 1 [I 1,I 100,I 90,I 0]),.v (.slice none 0 0),I 2,I 0,I 51,.sl (some 4) 1 4 (rowsOf 1 [I 5,I 1,I 150,I 0]),.v (.slice none 0 0),I 3,I 0,I 49,.sl (some 4) 1 4 (rowsOf 1 [I 1,I 0,I 7,I 20]),.v (.slice none 0 0),I 4,I 0,I 52,.sl (some 3) 1 3 (rowsOf 1 [I 1,I 1,I 5]),.v (.slice none 0 0),I 5,I 0,I 56,.sl (some 4) 1 4 (rowsOf 1 [I 1,I 3,I 0,I 10]),.v (.slice none 0 0),I 6,I 0,I 53,.sl (some 3) 1 3 (rowsOf 1 [I 1,I 3,I 7]),.v (.slice none 0 0)]
theorem Xg:aA prog 29 [] σ (.d (.sl (some 6) 5 6 (rowsOf 5 exD))):=by
 refine aA.bs true func29 fun hwf=> ?_;refine aj ?_;simp[go_sem,exD]
theorem TN(c c':Option Nat)(n m:Nat)(f g:Nat->Std)(hnm:n=m)(hn:n<1000000000)(h: ∀i,i<n->(f i).Shelf=(g i).Shelf/\(f i).n=(g i).n/\(f i).n<1000000000/\∀k,k<(f i).n->(f i).g k=(g i).g k):aA prog 30 [.d (SL c 2 Std.enc n f),.d (SL c' 2 Std.enc m g)] σ (.d (B true)):=by
 refine aA.bs true func30 fun hwf=> ?_;refine aJ [0,1] ?_ ?_<;>intro c0 d0
 ·exact absurd hnm (by omega)
 ·simp[go_sem];refine kQ (α:=Nat) true [0,1,13,14] (fun i=>[(14,.d (I i))]) (fun i=>_) (fun i=>i<=n) (fun i=>n-i) 0 ?_;rintro i hi;simp[go_sem];refine aJ [0,1,13,14] ?_ ?_<;>intro c1 d1
  ·have hi0:i<n:=by omega
   have him:i<m:=by omega
   have hh:=h i hi0;have hh1:=hh.1;have hh2:=hh.2.1;have hh3:=hh.2.2.1;simp[go_sem];refine T.dr 26 fun K hK=> ?_;simp[go_sem,hi0,him];refine hK _ ?_;refine go true ?_;simp[go_sem];refine aJ [0,1,5,13,14] ?_ ?_<;>intro c2 d2
   ·exfalso;omega
   ·simp[go_sem,hi0];refine kQ (α:=Nat) true [0,1,5,13,14,48,49] (fun k=>[(49,.d (I k))]) (fun k=>_) (fun k=>k<=(f i).n) (fun k=>(f i).n-k) 0 ?_;rintro k hk;simp[go_sem];refine aJ [0,1,5,13,14,48,49] ?_ ?_<;>intro c3 d3
    ·have hk0:k<(f i).n:=by omega
     have hk1:k<(g i).n:=by omega
     simp[go_sem];refine T.dr 17 fun K hK=> ?_;simp[go_sem,hi0,him,hk0,hk1];refine hK _ ?_;refine go true ?_;simp[go_sem];refine aJ [0,1,5,13,14,48,49] ?_ ?_<;>intro c4 d4
     ·have:=hh.2.2.2 k hk0;exfalso;omega
     ·simp(disch:=first|omega|simp) [go_sem,aH];refine gB (k+1) (by omega) (h:=by simp[go_sem]<;>omega)
    ·simp[go_sem];refine go true ?_;simp(disch:=first|omega|simp) [go_sem,aH];refine gB (i+1) (by omega) (h:=by simp[go_sem]<;>omega)
  ·simp[go_sem];refine go true (sm ?_);exact aj so
theorem ex_same:Same (.d (.sl (some 6) 5 6 (rowsOf 5 exD))) (.d (SL none 5 Ev.enc 6 (nth Kq))):=by
 refine UH (.inl rfl) fun i hi=> ?_;have hi6:i=0\/i=1\/i=2\/i=3\/i=4\/i=5:=by omega
 refine⟨by rcases hi6 with rfl|rfl|rfl|rfl|rfl|rfl<;>rfl,fun k hk w j v h=> ?_⟩;have hk5:k=0\/k=1\/k=2\/k=3\/k=4:=by omega
 rcases hk5 with rfl|rfl|rfl|rfl|rfl
 ·rcases hi6 with rfl|rfl|rfl|rfl|rfl|rfl<;>exact h
 ·rcases hi6 with rfl|rfl|rfl|rfl|rfl|rfl<;>exact h
 ·rcases hi6 with rfl|rfl|rfl|rfl|rfl|rfl<;>exact h
 ·rcases hi6 with rfl|rfl|rfl|rfl|rfl|rfl;all_goals
   refine RD.rows (.inl rfl) (fun q hq=> ?_) h;have hlt:q<4:=Nat.lt_of_lt_of_le hq (by decide);have hq4:q=0\/q=1\/q=2\/q=3:=by omega
   rcases hq4 with rfl|rfl|rfl|rfl<;>first|rfl|exact absurd hq (by decide)
 ·rcases hi6 with rfl|rfl|rfl|rfl|rfl|rfl<;>exact RD.nil h
theorem ZJ(σ:List aG):aA prog 29 [] σ (.d (SL none 5 Ev.enc 6 (nth Kq))):=same_res (Xg σ) ex_same
def ou:Nat->Row:=fun _=>⟨7,0,0⟩
def jg:Use:= { jL with P:= { jL.P with jI:=30 },lT:=2 }
def exU1:Use:= { abU jg (lI 1 48 [1,100,90,0]) with Changed:=0 }
def exU2:Use:= { asU exU1 (lI 2 51 [5,1,150,0]) with Changed:=0 }
def exU3:Use:= { puU exU2 (lI 3 49 [1,0,7,20]) with Changed:=0 }
def exU4:Use:= { jE exU3 (lI 4 52 [1,1,5]) 1 ⟨1,5⟩ with Changed:=0 }
def Lj:Use:= { boU exU4 (lI 5 56 [1,3,0,10]) with Changed:=0 }
def iP:Use:= { akU Lj (lI 6 53 [1,3,7]) with Changed:=0 }
theorem ex_e1:abE jg (lI 1 48 [1,100,90,0])=0:=by decide+kernel
theorem ex_e2:asE exU1 (lI 2 51 [5,1,150,0])=0:=by decide+kernel
theorem ex_e3:puE exU2 (lI 3 49 [1,0,7,20])=0:=by decide+kernel
theorem ex_e4:TS exU3 (lI 4 52 [1,1,5])=0:=by decide+kernel
theorem ex_e5:boE exU4 (lI 5 56 [1,3,0,10])=0:=by decide+kernel
theorem ex_ok1:okB (lI 1 48 [1,100,90,0])=true:=by decide+kernel
theorem ex_ok2:okB (lI 2 51 [5,1,150,0])=true:=by decide+kernel
theorem ex_ok3:okB (lI 3 49 [1,0,7,20])=true:=by decide+kernel
theorem ex_ok4:okB (lI 4 52 [1,1,5])=true:=by decide+kernel
theorem ex_ok5:okB (lI 5 56 [1,3,0,10])=true:=by decide+kernel
theorem ex_ok6:okB (lI 6 53 [1,3,7])=true:=by decide+kernel
theorem ex_held6:xM iP=true:=by decide+kernel
theorem ex_moves6:oZ iP=true:=by decide+kernel
theorem ex_prt6: ∀i,i<6->WR iP i=0:=by decide+kernel
theorem ex_e6:(nC Lj.nb Lj.gb 7).2.2=true/\oP Lj.nr Lj.gr (qj Lj (lI 6 53 [1,3,7]))=0:=by decide+kernel
theorem ex_prt0: ∀i,i<6->WR jg i=0:=by decide+kernel
def exV:Use:= { ldU iP (lI 7 54 [1]) with Changed:=0 }
def Xr:Use:= { abU iP (lI 7 48 [2,60,50,0]) with Changed:=0 }
theorem ex_okV:okB (lI 7 54 [1])=true:=by decide+kernel
theorem ex_okW:okB (lI 7 48 [2,60,50,0])=true:=by decide+kernel
theorem ex_okX:okB (lI 8 52 [2,1,5])=true:=by decide+kernel
theorem ex_eW:abE iP (lI 7 48 [2,60,50,0])=0:=by decide+kernel
theorem ex_eX:TS Xr (lI 8 52 [2,1,5])=12:=by decide+kernel
theorem ex_heldV:xM exV=true:=by decide+kernel
theorem ex_heldW:xM Xr=true:=by decide+kernel
theorem ex_heldU0:xM jg=true:=by decide+kernel
theorem ex_movesV:oZ exV=true:=by decide+kernel
theorem ex_movesW:oZ Xr=true:=by decide+kernel
theorem ex_moves0:oZ jg=true:=by decide+kernel
theorem ex_prtV: ∀i,i<6->WR exV i=0:=by decide+kernel
theorem ex_prtW: ∀i,i<6->WR Xr i=0:=by decide+kernel
theorem ex_place:aW exV 1=⟨3,3⟩/\0<=lQ exV.nb exV.gb 1:=by decide+kernel
theorem ex_shown:exV.nw=1/\(exV.gw 0).Reader=3/\(exV.gw 0).Unit=7/\(exV.gw 0).Day=0:=by decide+kernel
end Go.Proofs.YtmahphgjkpgidaaGreatDoor
namespace Go.Proofs.YtmahphgjkpgidaaGreatDoor
open Go.aU Go.dh
theorem Ns{β:Type}{f:Nat->List β}(h: ∀i,f i=[]): ∀k,gather f k=[]
 |0=>rfl
 |k+1=>by rw[gather,h,Ns h k];rfl
theorem I9:cu 1 ou=0:=by
 unfold cu;rw[if_neg (by decide),if_neg (by decide+kernel),if_neg (by decide+kernel),if_neg];rintro⟨i,hi,h⟩;exact h 0 (by omega) rfl
theorem ex_acc(u:Use)(e:Ev)(hd:e.Day=0)(hp:eP u.P=0)(hg:xB u.P 0 ⟨7,0,0⟩=[]):yC u 1 ou e 3 7=true:=by
 have ha:EN 1 ou u.P 3 7 0=0:=by
  unfold EN;rw[if_neg (by rw[I9];simpa using hp),if_neg (by decide+kernel),if_neg (by decide+kernel)]
 have hw:oI 1 ou u.P 7 0=[]:=Ns (fun i=>hg) _;unfold yC qR;rw[hd,if_neg (by simp[ha])];unfold decW;rw[hw];rfl
theorem ex_P5:eP Lj.P=0/\xB Lj.P 0 ⟨7,0,0⟩=[]:=by
 constructor
 ·decide+kernel
 ·rfl
theorem ex_a6:akE Lj 1 ou (lI 6 53 [1,3,7])=0:=by
 unfold akE;have h7:=ex_e6.1;have h8:=ex_e6.2;rw[if_neg (by rw[show(lI 6 53 [1,3,7]).gn 2=7 from rfl,h7];decide),if_neg,h8];have h:=ex_acc Lj (lI 6 53 [1,3,7]) rfl ex_P5.1 ex_P5.2;rw[show(lI 6 53 [1,3,7]).gn 1=3 from rfl,show(lI 6 53 [1,3,7]).gn 2=7 from rfl,h];decide
theorem PI(u:Use)(h1: ∀i,i<6->WR u i=0)(h2:u.nt=0)(h3:u.nl=0)(h4: ∀i,i<u.nw->ShwR u i)(h5:qc u.Changed 0 1048575=true)(h6:u.nw<=1024):rZ u=true:=
 qF.2 ⟨h1,fun i hi=>by omega,fun i hi=>by omega,h4,h5,by omega,by omega,h6⟩
theorem ex_lent(u:Use)(h1: ∀i,i<u.nr->(u.gr i).Changed<=u.Changed)(h2: ∀k∈(fV u u.nr).1,∀x,k=Key.i x->aW u x=⟨3,(fV u u.nr).2 x⟩)(h3: ∀i,i<u.nb->(aW u (u.gb i).ID).Kind=3->(fV u u.nr).2 (u.gb i).ID=(aW u (u.gb i).ID).Of):IG u=true:=
 Cm.2 ⟨h1,fun x hx=>h2 _ hx x rfl,h3⟩
theorem RS(u:Use)(h1: ∀i,i<u.nr->(u.gr i).Changed<=u.Changed)(h2:(fV u u.nr).1=[])(h3: ∀i,i<u.nb->(aW u (u.gb i).ID).Kind=3->(fV u u.nr).2 (u.gb i).ID=(aW u (u.gb i).ID).Of):IG u=true:=
 ex_lent u h1 (fun k hk=>by rw[h2] at hk;cases hk) h3
theorem ex_l0:IG jg=true:=RS jg (fun i hi=>absurd hi (Nat.not_lt_zero i)) rfl (fun i hi=>absurd hi (Nat.not_lt_zero i))
theorem ex_l6:IG iP=true:=RS iP (by decide+kernel) (by decide+kernel) (by decide+kernel)
theorem ex_lW:IG Xr=true:=RS Xr (by decide+kernel) (by decide+kernel) (by decide+kernel)
theorem ex_right0:dD jg=true:=by
 unfold dD;rw[PI jg ex_prt0 rfl rfl (fun i hi=>absurd hi (Nat.not_lt_zero i)) (by decide) (by decide),ex_moves0,ex_heldU0,ex_l0];rfl
theorem Eh:dD iP=true:=by
 unfold dD;rw[PI iP ex_prt6 rfl rfl (fun i hi=>absurd hi (Nat.not_lt_zero i)) (by decide) (by decide),ex_moves6,ex_held6,ex_l6];rfl
theorem ex_rightW:dD Xr=true:=by
 unfold dD;rw[PI Xr ex_prtW rfl rfl (fun i hi=>absurd hi (Nat.not_lt_zero i)) (by decide) (by decide),ex_movesW,ex_heldW,ex_lW];rfl
theorem ex_shwV: ∀i,i<exV.nw->mD (exV.gw i).Reader=true/\mD (exV.gw i).Unit=true/\qc (exV.gw i).Day 0 exV.Changed=true/\i=0:=by decide+kernel
theorem Vm:dD exV=true:=by
 unfold dD;rw[PI exV ex_prtV rfl rfl (fun i hi=>by obtain⟨a,b,c,d⟩:=ex_shwV i hi;exact⟨a,b,c,fun h=>by omega⟩) (by decide) (by decide+kernel),ex_movesV,ex_heldV,ex_lent exV (by decide+kernel) (fun k hk x hx=>by
  have h:(fV exV exV.nr).1=[Key.i 1]:=by decide+kernel
  rw[h] at hk;obtain rfl:k=Key.i 1:=by simpa using hk
  cases hx
  decide+kernel) (by decide+kernel)]
 rfl
theorem ex_acc6:yC iP 1 ou (lI 7 54 [1]) 3 7=true:=ex_acc iP _ rfl (by decide+kernel) rfl
theorem yL{u:Use}{m:Nat}{rg:Nat->Row}{e:Ev}(h1:okB e=true)(h2: ¬e.Day<u.Changed)(h3: ¬1048575<e.Day):qo u m rg e=Vp u m rg e:=by
 unfold qo;rw[if_neg (by rw[h1];decide),if_neg h2,if_neg h3]
theorem ex_s1:qo jg 1 ou (lI 1 48 [1,100,90,0])=0:=(yL ex_ok1 (by decide) (by decide)).trans ex_e1
theorem ex_s2:qo exU1 1 ou (lI 2 51 [5,1,150,0])=0:=(yL ex_ok2 (by decide) (by decide)).trans ex_e2
theorem ex_s3:qo exU2 1 ou (lI 3 49 [1,0,7,20])=0:=(yL ex_ok3 (by decide) (by decide)).trans ex_e3
theorem ex_s4:qo exU3 1 ou (lI 4 52 [1,1,5])=0:=(yL ex_ok4 (by decide) (by decide)).trans ex_e4
theorem ex_s5:qo exU4 1 ou (lI 5 56 [1,3,0,10])=0:=(yL ex_ok5 (by decide) (by decide)).trans ex_e5
theorem ex_s6:qo Lj 1 ou (lI 6 53 [1,3,7])=0:=(yL ex_ok6 (by decide) (by decide)).trans ex_a6
theorem ex_sW:qo iP 1 ou (lI 7 48 [2,60,50,0])=0:=(yL ex_okW (by decide) (by decide)).trans ex_eW
theorem ex_sX:qo Xr 1 ou (lI 8 52 [2,1,5])=12:=(yL ex_okX (by decide) (by decide)).trans ex_eX
theorem kK{u:Use}{m:Nat}{rg:Nat->Row}{e:Ev}(h:qo u m rg e=0):iQ u m rg e=(Ot u e,0):=by
 unfold iQ;rw[if_neg (by rw[h];decide)]
theorem ex_r1:gU 1 ou (nth Kq) jg 1=exU1:=by
 show(iQ jg 1 ou (lI 1 48 [1,100,90,0])).1=_
 rw[kK ex_s1];rfl
theorem ex_r2:gU 1 ou (nth Kq) jg 2=exU2:=by
 show(iQ (gU 1 ou (nth Kq) jg 1) 1 ou (lI 2 51 [5,1,150,0])).1=_
 rw[ex_r1,kK ex_s2];rfl
theorem ex_r3:gU 1 ou (nth Kq) jg 3=exU3:=by
 show(iQ (gU 1 ou (nth Kq) jg 2) 1 ou (lI 3 49 [1,0,7,20])).1=_
 rw[ex_r2,kK ex_s3];rfl
theorem ex_r4:gU 1 ou (nth Kq) jg 4=exU4:=by
 show(iQ (gU 1 ou (nth Kq) jg 3) 1 ou (lI 4 52 [1,1,5])).1=_
 rw[ex_r3,kK ex_s4];rfl
theorem ex_r5:gU 1 ou (nth Kq) jg 5=Lj:=by
 show(iQ (gU 1 ou (nth Kq) jg 4) 1 ou (lI 5 56 [1,3,0,10])).1=_
 rw[ex_r4,kK ex_s5];rfl
theorem ex_r6:gU 1 ou (nth Kq) jg 6=iP:=by
 show(iQ (gU 1 ou (nth Kq) jg 5) 1 ou (lI 6 53 [1,3,7])).1=_
 rw[ex_r5,kK ex_s6];rfl
theorem ex_run:gu jg 1 ou 6 (nth Kq)=(iP,-1,0):=by
 have e0:pX 1 ou (nth Kq) jg 0=0:=by show(iQ jg 1 ou (lI 1 48 [1,100,90,0])).2=0;rw[kK ex_s1]
 have e1:pX 1 ou (nth Kq) jg 1=0:=by show(iQ (gU 1 ou (nth Kq) jg 1) 1 ou (lI 2 51 [5,1,150,0])).2=0;rw[ex_r1,kK ex_s2]
 have e2:pX 1 ou (nth Kq) jg 2=0:=by show(iQ (gU 1 ou (nth Kq) jg 2) 1 ou (lI 3 49 [1,0,7,20])).2=0;rw[ex_r2,kK ex_s3]
 have e3:pX 1 ou (nth Kq) jg 3=0:=by show(iQ (gU 1 ou (nth Kq) jg 3) 1 ou (lI 4 52 [1,1,5])).2=0;rw[ex_r3,kK ex_s4]
 have e4:pX 1 ou (nth Kq) jg 4=0:=by show(iQ (gU 1 ou (nth Kq) jg 4) 1 ou (lI 5 56 [1,3,0,10])).2=0;rw[ex_r4,kK ex_s5]
 have e5:pX 1 ou (nth Kq) jg 5=0:=by show(iQ (gU 1 ou (nth Kq) jg 5) 1 ou (lI 6 53 [1,3,7])).2=0;rw[ex_r5,kK ex_s6]
 have hg:dV 1 ou (nth Kq) jg 0 6=(-1,0):=by
  rw[dV,if_neg (by rw[e0];decide),dV,if_neg (by rw[e1];decide),dV,if_neg (by rw[e2];decide),dV,if_neg (by rw[e3];decide),dV,if_neg (by rw[e4];decide),dV,if_neg (by rw[e5];decide),dV]
 unfold gu;rw[if_neg (by rw[ex_right0,I9];decide),if_neg (by rw[hg];decide),ex_r6]
theorem ex_stepV_E:GL iP 1 ou (lI 7 54 [1])=0:=by
 have hf:(jq iP 1).2=true/\(jq iP 1).1.Reader=3/\(jq iP 1).1.Box=1:=by decide+kernel
 have hb:(MN iP 1).1=1/\((MN iP 1).2 0).Unit=7:=by decide+kernel
 unfold GL;rw[show(lI 7 54 [1]).gn 0=1 from rfl,if_neg (by rw[hf.1];decide),hf.2.2];unfold xJ;have h1:((lst (MN iP 1).1 (MN iP 1).2).any fun x=> !yC iP 1 ou (lI 7 54 [1]) (jq iP 1).1.Reader x.Unit)=false:=by
  rw[hb.1,hf.2.1];simp[lst,hb.2,ex_acc6]
 rw[if_neg (by rw[h1];decide)];decide+kernel
theorem ex_sV:qo iP 1 ou (lI 7 54 [1])=0:=(yL ex_okV (by decide) (by decide)).trans ex_stepV_E
theorem Yg{u:Use}{m:Nat}{rg:Nat->Row}{e:Ev}(h1:dD u=true)(h2:cu m rg=0):ig u m rg e=iQ u m rg e:=by
 unfold ig;rw[if_neg (by rw[h1,h2];decide)]
theorem ex_V:ig iP 1 ou (lI 7 54 [1])=(exV,0):=by rw[Yg Eh I9,kK ex_sV];rfl
theorem ex_W:ig iP 1 ou (lI 7 48 [2,60,50,0])=(Xr,0):=by rw[Yg Eh I9,kK ex_sW];rfl
theorem ex_X:(ig Xr 1 ou (lI 8 52 [2,1,5])).2=12:=by
 rw[Yg ex_rightW I9];unfold iQ;rw[if_pos (by rw[ex_sX];decide),ex_sX]
open Go.Proofs.Tryz
variable (σ : List aG)
theorem Y9{f g:Nat->List D}(h:f 0=g 0): ∀i,i<1->f i=g i:=fun i hi=>by
 obtain rfl:i=0:=by omega
 exact h
theorem ex_pol:kF jg.P:=⟨by decide,by decide,by decide,by decide,by decide,fun i hi=>absurd hi (Nat.not_lt_zero i),fun i hi=>absurd hi (Nat.not_lt_zero i)⟩
theorem zq(u:Use)(hp:u.P=jg.P)(h1:u.nb<=100/\u.nf<=100/\u.nv<=100/\u.nr<=100/\u.nk<=100/\u.nt=0/\u.nl<=100/\u.nw<=100)(h2: ∀i,i<u.nb->(u.gb i).nc<=100):dB u:=
 ⟨by rw[hp];exact ex_pol,by omega,fun i hi=>by have:=h2 i hi;omega,by omega,by omega,by omega,by omega,by omega,fun i hi=>by omega,fun i hi=>by omega,by omega,by omega⟩
theorem ex_use0:dB jg:=zq _ rfl (by decide) (fun i hi=>absurd hi (Nat.not_lt_zero i))
theorem ex_use1:dB exU1:=zq _ rfl (by decide) (by decide+kernel)
theorem ex_use2:dB exU2:=zq _ rfl (by decide) (by decide+kernel)
theorem ex_use3:dB exU3:=zq _ rfl (by decide) (by decide+kernel)
theorem ex_use4:dB exU4:=zq _ rfl (by decide) (by decide+kernel)
theorem ex_use5:dB Lj:=zq _ rfl (by decide) (by decide+kernel)
theorem Xp:dB iP:=zq _ rfl (by decide) (by decide+kernel)
theorem ex_useV:dB exV:=zq _ rfl (by decide+kernel) (by decide+kernel)
theorem ex_useW:dB Xr:=zq _ rfl (by decide+kernel) (by decide+kernel)
theorem zu{u:Use}(hu:dB u)(e:Ev)(h1:e.nn<=1000)(h2:e.nt=0)(h3:u.P.ns=0:=by rfl):J7 u 1 e:=
 ⟨hu,by omega,h1,by omega,fun i hi=>by omega,by omega⟩
theorem aat: ∀l:List AV,eu l l
 |[]=>trivial
 |x::xs=>⟨by unfold bC;split<;>first|rfl|exact⟨.inr rfl,rfl,rfl,fun _ _=>rfl⟩|simp_all,aat xs⟩
theorem C9(u:Use)(w:AV):sS (.agg (u.cells w)) (.agg (u.cells w)):=aat _
theorem ex_New_cs:aA prog 28 [.d (I 2),.d (I 30)] σ (.eU [.agg (jg.cells jg.bG),.d (I 0)]):=by
 have h:=svc_New_cs σ 2 30;rw[if_pos (by decide),if_pos (by decide)] at h;exact h
theorem ex_Run_cs(h0:σ[0]? =some (.tab 0 gK))(h1:σ[1]? =some (.loc 1)):aA prog 17 [.agg (jg.cells jg.bG),.d (.sl (some 1) 3 1 (rowsOf 3 [I 7,I 0,I 0])),.d (SL none 5 Ev.enc 6 (nth Kq))] σ (.eU [.agg (iP.cells iP.bG),.d (I (-1)),.d (I 0)]):=by
 have h:=yJ σ jg (some 1) 1 ou none 6 (nth Kq) ex_use0 (by decide) (by decide) (fun _ i hi _=>by
  have hi6:i=0\/i=1\/i=2\/i=3\/i=4\/i=5:=by omega
  rcases hi6 with rfl|rfl|rfl|rfl|rfl|rfl
  ·exact zu ex_use0 _ (by decide) (by decide)
  ·rw[ex_r1];exact zu ex_use1 _ (by decide) (by decide)
  ·rw[ex_r2];exact zu ex_use2 _ (by decide) (by decide)
  ·rw[ex_r3];exact zu ex_use3 _ (by decide) (by decide)
  ·rw[ex_r4];exact zu ex_use4 _ (by decide) (by decide)
  ·rw[ex_r5];exact zu ex_use5 _ (by decide) (by decide)) h0 h1
 rw[ex_run] at h;refine aA.sub h ?_;exact⟨C9 _ _,⟨.inr rfl,rfl,rfl,Y9 rfl⟩,⟨.inl rfl,rfl,rfl,fun _ _=>rfl⟩,trivial⟩
def exS:Nat->Std:=nth (gather (tC iP) iP.nf)
theorem ex_std:(gather (tC iP) iP.nf).length=1/\(exS 0).Shelf=5/\(exS 0).n=1/\(exS 0).g 0=1:=by decide+kernel
theorem Xq(h0:σ[0]? =some (.tab 0 gK))(h1:σ[1]? =some (.loc 1)):aA prog 19 [.agg (iP.cells iP.bG)] σ (.eU [.d (SL none 2 Std.enc 1 exS),.d (I 0)]):=by
 have h:=EW σ iP Xp h0 h1;rw[if_pos Eh,if_pos Eh,ex_std.1] at h;exact h
theorem aax(h0:σ[0]? =some (.tab 0 gK))(h1:σ[1]? =some (.loc 1)):aA prog 22 [.agg (exV.cells exV.bG),.d (I 1)] σ (.eU [.agg [.d (I 3),.d (I 3)],.d (I 0)]):=by
 have h:=Hf σ exV 1 ex_useV h0 h1;have h2:=ex_place;rw[if_neg (by rw[Vm];have:=h2.2;simp;omega),if_neg (by rw[Vm];decide),if_neg (by have:=h2.2;omega),h2.1] at h;exact h
theorem aaw(h0:σ[0]? =some (.tab 0 gK))(h1:σ[1]? =some (.loc 1)):aA prog 10 [.agg (iP.cells iP.bG),.d (.sl (some 1) 3 1 (rowsOf 3 [I 7,I 0,I 0])),.agg [.d (I 7),.d (I 0),.d (I 54),.d (.sl (some 1) 1 1 (rowsOf 1 [I 1])),.d (.v (.slice none 0 0))]] σ (.eU [.agg (exV.cells exV.bG),.d (I 0)]):=by
 have h:=nR σ iP (some 1) 1 ou (lI 7 54 [1]) (zu Xp _ (by decide) (by decide)) h0 h1;rw[ex_V] at h;refine aA.sub h ?_;refine⟨C9 _ _,⟨.inr rfl,rfl,rfl,Y9 rfl⟩,⟨rfl,rfl,rfl,⟨.inl rfl,rfl,rfl,fun q hq=>by
  have hq4:q=0\/q=1\/q=2\/q=3:=by omega
  rcases hq4 with rfl|rfl|rfl|rfl<;>first|rfl|omega⟩,⟨.inl rfl,rfl⟩,trivial⟩,trivial⟩
theorem aav(h0:σ[0]? =some (.tab 0 gK))(h1:σ[1]? =some (.loc 1)):aA prog 10 [.agg (iP.cells iP.bG),.d (.sl (some 1) 3 1 (rowsOf 3 [I 7,I 0,I 0])),.agg [.d (I 7),.d (I 0),.d (I 48),.d (.sl (some 4) 1 4 (rowsOf 1 [I 2,I 60,I 50,I 0])),.d (.v (.slice none 0 0))]] σ (.eU [.agg (Xr.cells Xr.bG),.d (I 0)]):=by
 have h:=nR σ iP (some 1) 1 ou (lI 7 48 [2,60,50,0]) (zu Xp _ (by decide) (by decide)) h0 h1;rw[ex_W] at h;refine aA.sub h ?_;refine⟨C9 _ _,⟨.inr rfl,rfl,rfl,Y9 rfl⟩,⟨rfl,rfl,rfl,⟨.inl rfl,rfl,rfl,fun q hq=>by
  have hq4:q=0\/q=1\/q=2\/q=3:=by omega
  rcases hq4 with rfl|rfl|rfl|rfl<;>first|rfl|omega⟩,⟨.inl rfl,rfl⟩,trivial⟩,trivial⟩
theorem aau(h0:σ[0]? =some (.tab 0 gK))(h1:σ[1]? =some (.loc 1)):aA prog 10 [.agg (Xr.cells Xr.bG),.d (.sl (some 1) 3 1 (rowsOf 3 [I 7,I 0,I 0])),.agg [.d (I 8),.d (I 0),.d (I 52),.d (.sl (some 3) 1 3 (rowsOf 1 [I 2,I 1,I 5])),.d (.v (.slice none 0 0))]] σ (.eU [.agg ((ig Xr 1 ou (lI 8 52 [2,1,5])).1.cells (ig Xr 1 ou (lI 8 52 [2,1,5])).1.bG),.d (I 12)]):=by
 have h:=nR σ Xr (some 1) 1 ou (lI 8 52 [2,1,5]) (zu ex_useW _ (by decide) (by decide)) h0 h1;rw[ex_X] at h;refine aA.sub h ?_;refine⟨C9 _ _,⟨.inr rfl,rfl,rfl,Y9 rfl⟩,⟨rfl,rfl,rfl,⟨.inl rfl,rfl,rfl,fun q hq=>by
  have hq4:q=0\/q=1\/q=2\/q=3:=by omega
  rcases hq4 with rfl|rfl|rfl|rfl<;>first|rfl|omega⟩,⟨.inl rfl,rfl⟩,trivial⟩,trivial⟩
theorem ex_same_cs:aA prog 30 [.d (SL none 2 Std.enc 1 exS),.d (.sl (some 1) 2 1 (rowsOf 2 [I 5,.sl (some 1) 1 1 (rowsOf 1 [I 1])]))] σ (.d (B true)):=by
 have h:=TN σ none (some 1) 1 1 exS (fun _=>⟨5,1,fun _=>1⟩) rfl (by decide) (fun i hi=>by
  obtain rfl:i=0:=by omega
  have hs:=ex_std;exact⟨hs.2.1,hs.2.2.1,by rw[hs.2.2.1];decide,fun k hk=>by
   rw[hs.2.2.1] at hk;obtain rfl:k=0:=by omega
   exact hs.2.2.2⟩)
 have hsm:Same (.d (.sl (some 1) 2 1 (rowsOf 2 [I 5,.sl (some 1) 1 1 (rowsOf 1 [I 1])]))) (.d (SL (some 1) 2 Std.enc 1 (fun _=>⟨5,1,fun _=>1⟩))):=UH (.inr rfl) fun i hi=>by
  obtain rfl:i=0:=by omega
  refine⟨rfl,fun k hk w j v hr=> ?_⟩;have hk2:k=0\/k=1:=by omega
  rcases hk2 with rfl|rfl
  ·exact hr
  ·exact RD.rows (.inl rfl) (Y9 rfl) hr
 refine⟨h.1,fun j w vs h1 h2=>h.2 j w vs h1 ⟨h2.1,fun k hk=> ?_⟩⟩;have hk2:k=0\/k=1:=by simp at hk;omega
 rcases hk2 with rfl|rfl
 ·exact h2.2 0 (by simp)
 ·exact hsm _ _ _ (h2.2 1 (by simp))
theorem aas:aA prog 16 [.d (SL none 3 sN.enc exV.nw exV.gw),.d (.sl (some 1) 3 1 (rowsOf 3 [I 3,I 7,I 0]))] σ (.d (B true)):=by
 have h:=wB σ none (some 1) exV.nw 1 exV.gw (fun _=>⟨3,7,0⟩) (by have:=ex_useV.nw;omega) (by decide);have hs:=ex_shown;have he:xk (lst exV.nw exV.gw) (lst 1 fun _=>(⟨3,7,0⟩:sN))=true:=by
  rw[hs.1];have:exV.gw 0=⟨3,7,0⟩:=by
   rcases hv:exV.gw 0 with⟨a,b,c⟩;rw[hv] at hs;obtain⟨_,rfl,rfl,rfl⟩:=hs;rfl
  simp[xk,lst,this]
 rw[he] at h;refine aA.sub h ⟨⟨.inr rfl,rfl,rfl,fun _ _=>rfl⟩,⟨.inr rfl,rfl,rfl,Y9 rfl⟩,trivial⟩
theorem o7(h0:σ[0]? =some (.tab 0 gK))(h1:σ[1]? =some (.loc 1)):aA prog 7 [] σ (.d (B true)):=by
 refine aA.be func7 fun hwf=> ?_;refine ak fun K hK=>sm ?_;refine hK _ ?_;refine ak fun K hK=>sm ?_;refine aO.mk (ex_New_cs _) (sm ?_);refine hK _ ?_;refine ak fun K hK=>sm ?_;refine hK _ ?_;apply Mix.iC 10 [(8,none)] [[0,1,2,3,4,5]] [(.undef,(σ++[.var (iP.cells iP.bG)]))] T.mixed (by kernel_rfl)
 ·intro K hK;simp[go_sem];refine dF.mk (ZJ _) (sm ?_);refine dF.mk (ex_Run_cs _ (aC h0) (aC h1)) (sm ?_);exact hK _ _
 ·refine Mix.bJ ?_ (Mix.iR)
  ·intro K hK;simp[go_sem];exact hK _ _
 ·refine Mix.bU ?_ (Mix.kE)
  ·simp[go_sem];all_goals first|rfl|skip
 intro K hK;simp[go_sem];refine hK _ ?_;refine ak fun K hK=>sm ?_;refine aO.mk (Xq _ (aC h0) (aC h1)) (sm ?_);refine hK _ ?_;refine ak fun K hK=>sm ?_;refine aO.mk (aaw _ (aC h0) (aC h1)) (sm ?_);refine hK _ ?_;refine ak fun K hK=>sm ?_;refine aO.mk (aax _ (aC h0) (aC h1)) (sm ?_);refine hK _ ?_;refine ak fun K hK=>sm ?_;refine aO.mk (aav _ (aC h0) (aC h1)) (sm ?_);refine hK _ ?_;refine ak fun K hK=>sm ?_;refine aO.mk (aau _ (aC h0) (aC h1)) (sm ?_);refine hK _ ?_;refine ak fun K hK=>sm ?_;refine fM.mk (ex_same_cs _) (sm ?_);refine fM.mk (aas _) (sm ?_);try simp(disch:=omega) only[aH]
 refine hK _ ?_;exact aj so
structure Past(u v:Use):Prop where
 v1:u.nv<=v.nv
 v2:v.nv<=u.nv+1
 v3: ∀i,i<u.nv->v.gv i=u.gv i
 w1:u.nw<=v.nw
 w2: ∀i,i<u.nw->v.gw i=u.gw i
 s:v.lT=u.lT
theorem D8{u v:Use}(h1:v.nv=u.nv)(h2:v.gv=u.gv)(h3:v.nw=u.nw)(h4:v.gw=u.gw)(h5:v.lT=u.lT):Past u v:=⟨by omega,by omega,fun i _=>by rw[h2],by omega,fun i _=>by rw[h4],h5⟩
theorem QS(u:Use)(e:Ev)(k:Int)(p:rU):Past u (jE u e k p):=⟨by show u.nv<=u.nv+1;omega,Nat.le_refl _,fun i hi=>by show aV u.gv u.nv _ i=_;simp[aV,hi],Nat.le_refl _,fun _ _=>rfl,rfl⟩
theorem past_ld(u:Use)(e:Ev):Past u (ldU u e):=by
 have h:=QS u e (jq u (e.gn 0)).1.Box ⟨3,(jq u (e.gn 0)).1.Reader⟩;exact⟨h.v1,h.v2,h.v3,Nat.le_add_right _ _,fun i hi=>by show uD u e _ _ i=_;simp[uD,hi],rfl⟩
theorem past_en0(u:Use)(e:Ev):Past u (jE (RZ u e) e (jq u (e.gn 0)).1.Box ⟨2,0⟩):=by
 have h:=QS (RZ u e) e (jq u (e.gn 0)).1.Box ⟨2,0⟩;exact⟨h.v1,h.v2,h.v3,h.w1,h.w2,h.s⟩
theorem dR{u a b:Use}{c:Prop}[Decidable c](h1:Past u a)(h2:Past u b):Past u (if c then a else b):=by
 by_cases h:c
 ·rw[if_pos h];exact h1
 ·rw[if_neg h];exact h2
theorem past_en(u:Use)(e:Ev):Past u (enU u e):=by
 unfold enU;exact dR (past_en0 u e) (D8 rfl rfl rfl rfl rfl)
theorem past_ev(u:Use)(e:Ev):Past u (Ny u e):=by
 unfold Ny;refine dR ?_ (dR ?_ (dR ?_ (dR ?_ (dR ?_ (dR ?_ (dR ?_ (dR ?_ (dR ?_ (dR ?_ (dR ?_ (dR ?_ (dR ?_ (dR ?_ (dR ?_ (dR ?_ (dR ?_ (dR ?_ (dR ?_ (dR ?_ (?_))))))))))))))))))));all_goals first
  |exact QS _ _ _ _
  |exact past_ld _ _
  |exact D8 rfl rfl rfl rfl rfl
  |exact past_en _ _
  |(unfold leU;refine dR ?_ ?_<;>exact D8 rfl rfl rfl rfl rfl)
  |(unfold ipU;refine dR ?_ ?_<;>exact D8 rfl rfl rfl rfl rfl)
theorem Zi(u:Use)(e:Ev):Past u (Ot u e):=by
 have h:=past_ev u e;exact⟨h.v1,h.v2,h.v3,h.w1,h.w2,h.s⟩
theorem stp_bad{u:Use}{m:Nat}{rg:Nat->Row}{e:Ev}(h:(ig u m rg e).2≠0):(ig u m rg e).1=jL:=by
 unfold ig iQ at*;split
 ·rfl
 ·rename_i h1;rw[if_neg h1] at h;split
  ·rfl
  ·rename_i h2;rw[if_neg h2] at h;exact absurd rfl h
theorem Ho{u:Use}{m:Nat}{rg:Nat->Row}{e:Ev}(h:(ig u m rg e).2=0):(ig u m rg e).1=Ot u e:=by
 unfold ig iQ at*;split
 ·rename_i h1;rw[if_pos h1] at h;cases h
 ·rename_i h1;rw[if_neg h1] at h;split
  ·rename_i h2;rw[if_pos h2] at h;exact absurd h h2
  ·rfl
theorem useZ0:UseZ jL:=⟨⟨rfl,rfl,rfl,rfl,rfl,rfl⟩,rfl,rfl,rfl,rfl,rfl,rfl,rfl,rfl,rfl,rfl⟩
theorem tV{u:Use}{m:Nat}(h:jw m u=true):dB u/\u.P.ns<=30/\m<=30:=by
 unfold jw yR wX at h;simp only[Bool.and_eq_true,List.all_eq_true,decide_eq_true_eq,FV] at h;obtain⟨⟨⟨⟨⟨⟨⟨⟨⟨h1,h2⟩,h3⟩,h4⟩,h5⟩,h6⟩,h7⟩,h8⟩,h9⟩,h10⟩:=h;obtain⟨⟨⟨⟨⟨⟨p1,p2⟩,p3⟩,p4⟩,p5⟩,p6⟩,p7⟩:=h2;have hs: ∀i,i<u.P.ns->(u.P.gs i).np<=20:=fun i hi=>p1 _ (List.mem_map.2 ⟨i,by simpa using hi,rfl⟩);have hb: ∀i,i<u.nb->(u.gb i).nc<=40:=fun i hi=>h3.1 _ (List.mem_map.2 ⟨i,by simpa using hi,rfl⟩);have ht: ∀i,i<u.nt->(u.gt i).nu<1000000/\(u.gt i).nb<1000000:=fun i hi=>by
  have:=h1 _ (List.mem_map.2 ⟨i,by simpa using hi,rfl⟩);unfold fewB at this;simp at this;omega
 exact⟨⟨⟨by omega,by omega,by omega,by omega,by omega,fun i hi=>by have:=hs i hi;omega,fun i hi=>by have:=p5.1 i hi;omega⟩,by omega,fun i hi=>by have:=hb i hi;omega,by omega,by omega,by omega,by omega,by omega,fun i hi=>by have:=ht i hi;omega,fun i hi=>by have:=ht i hi;omega,by omega,by omega⟩,by omega,by omega⟩
theorem few_stp{u:Use}{m:Nat}{e:Ev}(h:jw m u=true)(he:jC 1 (fun _=>e)=true):J7 u m e:=by
 obtain⟨h1,h2,h3⟩:=tV h;have h4:=((zx _ _).1 he).1 0 (by decide);unfold pz BJ at h4;simp only[Bool.and_eq_true,List.all_eq_true,decide_eq_true_eq] at h4;exact⟨h1,by omega,by omega,by omega,fun i hi=>by have:=h4.2 _ (List.mem_map.2 ⟨i,by simpa using hi,rfl⟩);omega,by omega⟩
theorem eqL_pre{α:Type}{f g:Nat->α}{n:Nat}(h: ∀i,i<n->f i=g i):xk (lst n f) (lst n g)=true:=tY rfl h
theorem mov_pre(n:Nat)(f g:Nat->iE)(h: ∀i,i<n->f i=g i)(hn:n<1000000000):aA prog 15 [.d (SL none 6 iE.enc n f),.d (SL none 6 iE.enc n g)] σ (.d (B true)):=by
 have h1:=Dl σ none none n n f g hn hn;rw[eqL_pre h] at h1;exact h1
theorem shw_pre(n:Nat)(f g:Nat->sN)(h: ∀i,i<n->f i=g i)(hn:n<1000000000):aA prog 16 [.d (SL none 3 sN.enc n f),.d (SL none 3 sN.enc n g)] σ (.d (B true)):=by
 have h1:=wB σ none none n n f g hn hn;rw[eqL_pre h] at h1;exact h1
theorem zero_sameE:sS (.agg [.d (.v (.slice none 0 0)),.d (.v (.slice none 0 0)),.d (.v (.slice none 0 0)),.d (I 0),.d (.v (.slice none 0 0)),.d (.v (.slice none 0 0)),.d (.v (.slice none 0 0)),.d (.v (.slice none 0 0)),.d (.v (.slice none 0 0)),.d (.v (.slice none 0 0)),.d (I 0),.d (.v (.slice none 0 0)),.d (.v (.slice none 0 0)),.d (.v (.slice none 0 0)),.d (.v (.slice none 0 0)),.d (I 0)]) (.agg (jL.cells jL.bG)):=by
 simp[sS,eu,bC,Use.cells,Use.bG,jL]
theorem TU(u:Use)(m:Nat)(rg:Nat->Row)(e:Ev)(hc:e.cn=none/\e.ct=none)(hu:LW u)(hm:m<=9223372036854775807)(hn:e.nn<=9223372036854775807/\e.nt<=9223372036854775807)(h0:σ[0]? =some (.tab 0 gK))(h1:σ[1]? =some (.loc 1)):aA prog 3 [.agg (u.cells u.bG),.d (SL none 3 Row.enc m rg),.agg (e.enc.map .d)] σ (.d (B true)):=by
 refine aA.be func3 fun hwf=> ?_;refine ak fun K hK=>sm ?_;refine hK _ ?_;refine aK ?_;refine ak fun K hK=>sm ?_;refine aO.mk (o7 _ (aC h0) (aC h1)) (sm ?_);refine hK _ ?_;refine tq [1,3,5,10] ?_;refine acn rfl ?_ ?_<;>intro c0 d0<;>try simp at d0
 ·refine aX ?_;refine aK ?_;refine ak fun K hK=> ?_;simp[go_sem];refine aO.mk (tH _ u none m rg hu) ?_;simp[go_sem];refine fM.mk' (.d (B (jC 1 fun _=>e))) (fun _=>aA.sub (jO _ (some 1) 1 (fun _=>e) (by decide) (fun _ _=>hn)) ⟨⟨.inr rfl,rfl,rfl,Y9 rfl⟩,trivial⟩) ?_;simp[go_sem];refine hK _ ?_;refine tq [1,3,5,20] ?_;refine jr ?_ ?_<;>intro c1 d1
  ·refine ak fun K hK=> ?_;simp[go_sem,c1];refine hK _ ?_;exact aj so
  ·have hf1:jw m u=true/\jC 1 (fun _=>e)=true:=by simpa using d1
   have hst:=few_stp hf1.1 hf1.2;have hfu:=tV hf1.1;have hev:e.nn<1000000000/\e.nt<1000000000:=⟨by have:=hst.nn;omega,by have:=hst.nt;omega⟩;refine aX ?_;apply awp_own_seq 15 13 14 T.mixed (by kernel_rfl)
   ·intro τ K hK;simp[go_sem,d1];refine dF.mk (dS _ u hst.use) ?_;simp[go_sem];refine dF.mk (kX _ none m rg (by omega)) ?_;simp[go_sem];refine dF.mk (aA.sub (oh _ (some 1) 1 (fun _=>e) (by decide) (fun _ _=>⟨hc.1,hc.2,hev.1,hev.2⟩)) ⟨⟨.inr rfl,rfl,rfl,Y9 rfl⟩,trivial⟩) ?_;simp[go_sem];refine dF.mk (nR _ u none m rg e hst (aC h0) (aC h1)) ?_;simp[go_sem];exact hK _ _
   intro K hK;simp[go_sem];refine hK _ ?_;refine aK ?_;refine ak fun K hK=> ?_;simp[go_sem];refine hK _ ?_;refine tq [3,7,35] ?_;refine jr ?_ ?_<;>intro c2 d2
   ·have hb:(ig u m rg e).1=jL:=stp_bad (by simpa using d2);refine ak fun K hK=> ?_;simp[go_sem,c2];refine aO.mk (aA.sub (same0_cs _ (ig u m rg e).1 jL (hb▸useZ0) useZ0) ⟨C9 _ _,zero_sameE,trivial⟩) ?_;simp[go_sem];refine hK _ ?_;exact aj so
   ·have hg:(ig u m rg e).1=Ot u e:=Ho (by simpa using d2);have hp:Past u (ig u m rg e).1:=by rw[hg];exact Zi u e
    have q1:=hp.v1;have q2:=hp.v2;have q3:=hp.w1;have q4:=hp.s;have hun:=hst.use.nv;have huw:=hst.use.nw;refine aX ?_;refine aK ?_;refine ak fun K hK=> ?_;simp[go_sem,d2];refine hK _ ?_;refine tq [3,7,54] ?_;refine jr ?_ ?_<;>intro c3 d3
    ·exfalso;omega
    ·refine aX ?_;refine jT 37 T.mixed (by kernel_rfl) fun K hK=> ?_;simp[go_sem,c3,d3];refine dF.mk (mov_pre _ u.nv (ig u m rg e).1.gv u.gv hp.v3 (by omega)) ?_;simp[go_sem,d3];refine dF.mk' (.d (B true)) (fun _=>shw_pre _ u.nw (ig u m rg e).1.gw u.gw hp.w2 (by omega)) ?_;simp[go_sem];try simp(disch:=omega) only[aH]
     refine hK _ ?_;exact aj so
end Go.Proofs.YtmahphgjkpgidaaGreatDoor
namespace Go.Proofs.YtmahphgjkpgidaaGreatDoor
open Go.aU Go.dh
theorem o8{α:Type}{p:α->Bool}{n:Nat}{g:Nat->α}(h:0<=idxFrom p (lst n g) 0): ∃i,i<n/\idxFrom p (lst n g) 0=(i:Int)/\p (g i)=true/\∀j,j<i->p (g j)=false:=by
 rcases mg p (lst n g) 0 with⟨h1,_⟩|⟨q,h1,h2,x,h3,h4,h5⟩
 ·omega
 ·rw[bT] at h1;rw[yY h1] at h3;cases h3
  exact⟨q,h1,by rw[h2];simp,h4,fun j hj=>h5 j _ hj (yY (by omega))⟩
theorem PE{α:Type}{p:α->Bool}{n:Nat}{g:Nat->α}(h:idxFrom p (lst n g) 0<0): ∀i,i<n->p (g i)=false:=by
 rcases mg p (lst n g) 0 with⟨_,h2⟩|⟨q,h1,h2,_⟩
 ·exact fun i hi=>h2 _ (by simp only[lst,List.mem_map,List.mem_range];exact⟨i,hi,rfl⟩)
 ·omega
theorem ix_of{α:Type}{p:α->Bool}{n:Nat}{g:Nat->α}{i:Nat}(hi:i<n)(hp:p (g i)=true)(hf: ∀j,j<i->p (g j)=false):idxFrom p (lst n g) 0=(i:Int):=by
 have h0:0<=idxFrom p (lst n g) 0:=by
  apply Classical.byContradiction;intro h;rw[PE (p:=p) (n:=n) (g:=g) (by omega) i hi] at hp;cases hp
 obtain⟨q,h1,h2,h3,h4⟩:=o8 h0;rw[h2];rcases Nat.lt_trichotomy q i with h|h|h
 ·rw[hf q h] at h3;cases h3
 ·rw[h]
 ·rw[h4 i h] at hp;cases hp
theorem ix_ex{α:Type}{p:α->Bool}{n:Nat}{g:Nat->α}{i:Nat}(hi:i<n)(hp:p (g i)=true):0<=idxFrom p (lst n g) 0:=by
 apply Classical.byContradiction;intro h;rw[PE (p:=p) (n:=n) (g:=g) (by omega) i hi] at hp;cases hp
theorem ix_congr{α:Type}{p:α->Bool}{n:Nat}{g h:Nat->α}(he: ∀i,i<n->p (g i)=p (h i)):idxFrom p (lst n g) 0=idxFrom p (lst n h) 0:=by
 by_cases h0:0<=idxFrom p (lst n h) 0
 ·obtain⟨q,h1,h2,h3,h4⟩:=o8 h0;rw[h2];exact ix_of h1 (by rw[he q h1];exact h3) fun j hj=>by rw[he j (by omega)];exact h4 j hj
 ·rcases mg p (lst n h) 0 with⟨h1,_⟩|⟨q,_,h2,_⟩
  ·rw[h1];rcases mg p (lst n g) 0 with⟨h3,_⟩|⟨q,h3,h4,_⟩
   ·exact h3
   ·have:=o8 (p:=p) (n:=n) (g:=g) (by omega);obtain⟨q,h5,h6,h7,_⟩:=this;rw[he q h5,PE (p:=p) (n:=n) (g:=h) (by omega) q h5] at h7;cases h7
  ·omega
theorem ix_snoc{α:Type}{p:α->Bool}{n:Nat}{g:Nat->α}{x:α}(h:0<=idxFrom p (lst n g) 0):idxFrom p (lst (n+1) (aV g n x)) 0=idxFrom p (lst n g) 0:=by
 obtain⟨q,h1,h2,h3,h4⟩:=o8 h;rw[h2];exact ix_of (by omega) (by rw[aV,if_pos h1];exact h3) fun j hj=>by rw[aV,if_pos (by omega)];exact h4 j hj
theorem iZ{α:Type}{g:Nat->α}{n:Nat}{x:α}{q:Nat}(h:q<n):aV g n x q=g q:=if_pos h
theorem oL{α:Type}{g:Nat->α}{n:Nat}{x:α} :aV g n x n=x:=if_neg (Nat.lt_irrefl n)
theorem PV{α:Type}{p:α->Bool}{n:Nat}{g:Nat->α} :(lst n g).any p=true↔∃i,i<n/\p (g i)=true:=by
 simp only[lst,List.any_map,List.any_eq_true,List.mem_range,Function.comp]
theorem LU{α:Type}{p:α->Bool}{n:Nat}{g:Nat->α} :(lst n g).any p=false↔∀i,i<n->p (g i)=false:=by
 simp only[lst,List.any_map,List.any_eq_false,List.mem_range,Function.comp,Bool.not_eq_true]
theorem jf{e:Nat->Int}{n:Nat} :aQ e 0 n=0↔∀i,i<n->e i=0:=
 ⟨fun h i hi=>wz h i (Nat.zero_le _) (by omega),fun h=>Lh fun q _ h2=>h q (by omega)⟩
theorem U4{g:Nat->iE}(x:Int): ∀{k i:Nat} {s:N7},(eG g i s k).2.pl x=s.pl x\/∃q,i<=q/\q<i+k/\(g q).Box=x
 |0,i,s=> .inl rfl
 |k+1,i,s=>by
  rw[eG];split
  ·exact .inl rfl
  ·rename_i h0;rcases U4 x (k:=k) (i:=i+1) (s:=qG s (g i)) (g:=g) with h|⟨q,h1,h2,h3⟩
   ·rw[h];unfold qG;rw[if_pos (Classical.byContradiction h0)];show FN s.pl (g i).Box (g i).To x=s.pl x\/_
    by_cases hx:x=(g i).Box
    ·exact .inr ⟨i,Nat.le_refl _,by omega,hx.symm⟩
    ·exact .inl (if_neg hx)
   ·exact .inr ⟨q,by omega,by omega,h3⟩
theorem Q7{g:Nat->iE} : ∀{k i:Nat} {s:N7},(eG g i s k).1=0->eG g i s (k+1)=if su (eG g i s k).2 (g (i+k))≠0 then(su (eG g i s k).2 (g (i+k)),(eG g i s k).2) else(0,qG (eG g i s k).2 (g (i+k)))
 |0,i,s,_=>by
  rw[eG];simp only[eG,Nat.add_zero]
 |k+1,i,s,h=>by
  rw[eG] at h⊢;split at h
  ·rename_i h0;exact absurd h h0
  ·rename_i h0;rw[if_neg h0,Q7 h];rw[eG.eq_2 g i s k,if_neg h0];rw[show i+1+k=i+(k+1) by omega]
theorem MH{g h:Nat->iE} : ∀{k i:Nat} {s:N7},(∀q,i<=q->q<i+k->g q=h q)->eG g i s k=eG h i s k
 |0,_,_,_=>rfl
 |k+1,i,s,he=>by
  rw[eG,eG,he i (Nat.le_refl _) (by omega),MH (k:=k) fun q h1 h2=>he q (by omega) (by omega)]
theorem Iu{n:Nat}{g:Nat->iE}(h:jm n g=0):n<=1024:=by
 unfold jm bF at h;split at h
 ·cases h
 ·omega
theorem app_ok{n:Nat}{g:Nat->iE}{m:iE}(h:Pg n g m=0):jm n g=0/\su (bF n g).2 m=0/\bF (n+1) (aV g n m)=(0,qG (bF n g).2 m):=by
 unfold Pg at h;split at h
 ·cases h
 ·rename_i h1;have h1:jm n g=0:=Classical.byContradiction h1;have hn:=Iu h1;split at h
  ·cases h
  ·rename_i h2;refine⟨h1,h,?_⟩;have hr:bF n g=eG g 0 zf n:=if_neg (by omega);have hc:eG (aV g n m) 0 zf n=eG g 0 zf n:=MH fun q _ hq=>iZ (by omega);rw[hr] at h⊢;unfold bF;rw[if_neg (by omega),Q7 (by rw[hc,←hr];exact h1),hc];rw[Nat.zero_add,oL,if_neg (by simp[h])]
theorem WT{u:Use}(h:jm u.nv u.gv=0)(x:Int):aW u x=if mD x=true then(bF u.nv u.gv).2.pl x else⟨0,0⟩:=by
 unfold aW ql;rw[if_neg (by simp[h])];cases mD x<;>rfl
theorem Zg{u:Use}{x:Int}(h: ∀q,q<u.nv->(u.gv q).Box≠x):aW u x=⟨0,0⟩:=by
 unfold aW ql;split
 ·rfl
 ·split
  ·rfl
  ·rename_i h1 _;have hn:=Iu (Classical.byContradiction h1);show(bF u.nv u.gv).2.pl x=_
   unfold bF;rw[if_neg (by omega)];rcases U4 x (g:=u.gv) (k:=u.nv) (i:=0) (s:=zf) with h2|⟨q,_,h2,h3⟩
   ·rw[h2];rfl
   ·exact absurd h3 (h q (by omega))
theorem plc_moved{u:Use}{x:Int}(h:(aW u x).Kind≠0): ∃q,q<u.nv/\(u.gv q).Box=x:=by
 apply Classical.byContradiction;intro h1;exact h (by rw[Zg fun q hq he=>h1 ⟨q,hq,he⟩])
theorem car_chk{u:Use}{e:Ev}{k:Int}{tp:rU}(h:kJ u e k tp=0):jm (jE u e k tp).nv (jE u e k tp).gv=0:=by
 show(bF (u.nv+1) (aV u.gv u.nv ⟨e.Day,k,aW u k,tp⟩)).1=0
 rw[(app_ok h).2.2]
theorem qV{u:Use}{e:Ev}{k:Int}{tp:rU}(h:kJ u e k tp=0)(x:Int):aW (jE u e k tp) x=if x=k then tp else aW u x:=by
 obtain⟨h1,h2,h3⟩:=app_ok h;rw[WT (car_chk h),WT h1];show(if mD x=true then(bF (u.nv+1) (aV u.gv u.nv ⟨e.Day,k,aW u k,tp⟩)).2.pl x else _)=_
 rw[h3];show(if mD x=true then(qG (bF u.nv u.gv).2 ⟨e.Day,k,aW u k,tp⟩).pl x else _)=_
 unfold qG;rw[if_pos h2];show(if mD x=true then FN (bF u.nv u.gv).2.pl k tp x else _)=_
 unfold FN;by_cases hx:x=k
 ·subst hx;rw[if_pos (Ed h2).2.1,if_pos rfl,if_pos rfl]
 ·simp only[if_neg hx]
theorem U1{g:Nat->iE} : ∀{k i:Nat} {s:N7},(eG g i s k).1=0->∀q,i<=q->q<i+k->gV (g q).To=true/\gV (g q).From=true
 |0,i,s,_=>fun q h1 h2=>by omega
 |k+1,i,s,h=>by
  rw[eG] at h;split at h
  ·rename_i h0;exact absurd h h0
  ·rename_i h0;intro q h1 h2;by_cases hq:q=i
   ·subst hq;have:=Ed (Classical.byContradiction h0);exact⟨this.2.2.2.1,this.2.2.1⟩
   ·exact U1 h q (by omega) (by omega)
theorem plc_ok{u:Use}(h:jm u.nv u.gv=0)(x:Int):gV (aW u x)=true:=by
 rcases plc_to u x with h1|⟨q,h1,h2⟩
 ·rw[h1];rfl
 ·rw[h2];have hn:=Iu h;unfold jm bF at h;rw[if_neg (by omega)] at h;exact(U1 h q (by omega) (by omega)).1
def fC(u:Use)(s:Int):Nat->Int
 |0=>0
 |k+1=>fC u s k+if aW u (u.gb k).ID=⟨1,s⟩ then(u.gb k).Width else 0
def AL(u:Use)(s:Int):sO:=u.gf (rV u.nf u.gf s).toNat
structure HeldR(u:Use):Prop where
 cli: ∀i,i<u.nb->(aW u (u.gb i).ID).Kind=1->(AL u (aW u (u.gb i).ID).Of).cO=(u.gb i).cO
 sum: ∀i,i<u.nb->(aW u (u.gb i).ID).Kind=1->fC u (aW u (u.gb i).ID).Of u.nb<=(AL u (aW u (u.gb i).ID).Of).Length
theorem Ws{n:Nat}{g:Nat->sO}{s:Int}(h:0<=rV n g s):(rV n g s).toNat<n/\(g (rV n g s).toNat).ID=s:=by
 obtain⟨q,h1,h2,h3,_⟩:=o8 h;have:(rV n g s).toNat=q:=by unfold rV;omega
 rw[this];exact⟨h1,by simpa using h3⟩
theorem DC{n:Nat}{g:Nat->Bx}{s:Int}(h:0<=lQ n g s):(lQ n g s).toNat<n/\(g (lQ n g s).toNat).ID=s:=by
 obtain⟨q,h1,h2,h3,_⟩:=o8 h;have:(lQ n g s).toNat=q:=by unfold lQ;omega
 rw[this];exact⟨h1,by simpa using h3⟩
theorem plc_ext{p:rU}{k o:Int}(h1:p.Kind=k)(h2:p.Of=o):p=⟨k,o⟩:=by cases p;simp_all
theorem Gi{u:Use}(hk: ∀i,i<u.nb->(aW u (u.gb i).ID).Kind=1->0<=rV u.nf u.gf (aW u (u.gb i).ID).Of): ∀{k i:Nat} {f:Int->Int},i+k=u.nb->(∀s,f s=fC u s i)->
  (uS u i f k=true↔∀j,i<=j->j<u.nb->(aW u (u.gb j).ID).Kind=1->fC u (aW u (u.gb j).ID).Of (j+1)<=(AL u (aW u (u.gb j).ID).Of).Length/\(AL u (aW u (u.gb j).ID).Of).cO=(u.gb j).cO)
 |0,i,f,hi,hf=>by
  simp only[uS,true_iff];intro j h1 h2;omega
 |k+1,i,f,hi,hf=>by
  rw[uS];by_cases h1:(aW u (u.gb i).ID).Kind≠1
  ·rw[if_pos h1,Gi hk (by omega) (fun s=>by
    rw[hf s,fC,if_neg (by intro e;rw[e] at h1;exact h1 rfl)];omega)]
   constructor
   ·intro H j h2 h3 h4;by_cases hj:j=i
    ·subst hj;exact absurd h4 h1
    ·exact H j (by omega) h3 h4
   ·intro H j h2 h3 h4;exact H j (by omega) h3 h4
  ·rw[if_neg h1];have h1:(aW u (u.gb i).ID).Kind=1:=Classical.byContradiction h1;have hs:=Ws (hk i (by omega) h1);have hp:aW u (u.gb i).ID=⟨1,(aW u (u.gb i).ID).Of⟩:=plc_ext h1 rfl;have hsum:fC u (aW u (u.gb i).ID).Of (i+1)=fC u (aW u (u.gb i).ID).Of i+(u.gb i).Width:=by rw[fC,if_pos hp]
   rw[hs.2,hf];by_cases h5:(u.gf (rV u.nf u.gf (aW u (u.gb i).ID).Of).toNat).Length<fC u (aW u (u.gb i).ID).Of i+(u.gb i).Width\/(u.gf (rV u.nf u.gf (aW u (u.gb i).ID).Of).toNat).cO≠(u.gb i).cO
   ·rw[if_pos h5];constructor
    ·intro H;cases H
    ·intro H;obtain⟨h6,h7⟩:=H i (Nat.le_refl _) (by omega) h1;rw[hsum] at h6;unfold AL at h6 h7;rcases h5 with h5|h5
     ·omega
     ·exact absurd h7 h5
   ·rw[if_neg h5,Gi hk (by omega) (fun s=>by
     unfold AO;rw[fC];by_cases hs1:s=(aW u (u.gb i).ID).Of
     ·rw[if_pos hs1,hs1,if_pos hp]
     ·rw[if_neg hs1,hf s,if_neg (by intro e;rw[e] at hs1;exact hs1 rfl)];omega)]
    constructor
    ·intro H j h2 h3 h4;by_cases hj:j=i
     ·subst hj;rw[hsum];unfold AL;exact⟨by omega,Classical.byContradiction fun h=>h5 (.inr h)⟩
     ·exact H j (by omega) h3 h4
    ·intro H j h2 h3 h4;exact H j (by omega) h3 h4
theorem sumOn_mono{u:Use}{s:Int}{n:Nat}(hw: ∀i,i<n->0<=(u.gb i).Width): ∀{a b:Nat},a<=b->b<=n->fC u s a<=fC u s b:=by
 intro a b hab;induction b with
 |zero=>
  intro _;obtain rfl:a=0:=by omega
  exact Int.le_refl _
 |succ b ih=>
  intro hb;by_cases h:a=b+1
  ·rw[h];exact Int.le_refl _
  ·have h1:=ih (by omega) (by omega);have h2:=hw b (by omega);rw[fC];split<;>omega
theorem Z8{u:Use}(hk: ∀i,i<u.nb->(aW u (u.gb i).ID).Kind=1->0<=rV u.nf u.gf (aW u (u.gb i).ID).Of)(hw: ∀i,i<u.nb->0<=(u.gb i).Width):xM u=true↔HeldR u:=by
 unfold xM;rw[Gi hk (f:=fun _=>0) (Nat.zero_add _) (fun s=>rfl)];constructor
 ·intro H;refine⟨fun i hi h1=>(H i (Nat.zero_le _) hi h1).2,?_⟩;have key: ∀k,k<=u.nb->∀i,i<k->(aW u (u.gb i).ID).Kind=1->fC u (aW u (u.gb i).ID).Of k<=(AL u (aW u (u.gb i).ID).Of).Length:=by
   intro k;induction k with
   |zero=>intro _ i hi;omega
   |succ k ih=>
    intro hk1 i hi h1;by_cases hik:i=k
    ·subst hik;exact(H i (Nat.zero_le _) (by omega) h1).1
    ·by_cases hp:aW u (u.gb k).ID=⟨1,(aW u (u.gb i).ID).Of⟩
     ·have:=(H k (Nat.zero_le _) (by omega) (by rw[hp])).1;rw[hp] at this;exact this
     ·rw[fC,if_neg hp];have:=ih (by omega) i (by omega) h1;omega
  exact fun i hi h1=>key u.nb (Nat.le_refl _) i hi h1
 ·intro H j _ h2 h3;refine⟨Int.le_trans (sumOn_mono hw (by omega) (Nat.le_refl _)) (H.sum j h2 h3),H.cli j h2 h3⟩
theorem BZ(u:Use)(x:Int): ∀n,Key.i x∈(fV u n).1↔∃i,i<n/\(u.gr i).State=2/\(u.gr i).Box=x
 |0=>by simp[fV]
 |n+1=>by
  rw[fV];split
  ·rename_i h;rw[gW,BZ u x n];constructor
   ·rintro(h1|⟨i,h1,h2⟩)
    ·cases h1;exact⟨n,by omega,h,rfl⟩
    ·exact⟨i,by omega,h2⟩
   ·rintro⟨i,h1,h2,h3⟩;by_cases hi:i=n
    ·subst hi;exact .inl (by rw[h3])
    ·exact .inr ⟨i,by omega,h2,h3⟩
  ·rename_i h;rw[BZ u x n];constructor
   ·rintro⟨i,h1,h2⟩;exact⟨i,by omega,h2⟩
   ·rintro⟨i,h1,h2⟩;by_cases hi:i=n
    ·subst hi;exact absurd h2.1 h
    ·exact⟨i,by omega,h2⟩
theorem QU(u:Use){i:Nat} : ∀{n:Nat},i<n->(u.gr i).State=2->(∀j,j<n->(u.gr j).State=2->(u.gr j).Box=(u.gr i).Box->j=i)->(fV u n).2 (u.gr i).Box=(u.gr i).Reader
 |0,h,_,_=>by omega
 |n+1,h,hs,hu=>by
  rw[fV];split
  ·rename_i h1;show AO (fV u n).2 (u.gr n).Box (u.gr n).Reader (u.gr i).Box=_
   unfold AO;split
   ·rename_i h2;rw[hu n (by omega) h1 h2.symm]
   ·rename_i h2;have hi:i≠n:=fun e=>h2 (by rw[e]);exact QU u (by omega) hs fun j hj=>hu j (by omega)
  ·rename_i h1;have hi:i≠n:=fun e=>h1 (by rw[←e];exact hs);exact QU u (by omega) hs fun j hj=>hu j (by omega)
structure LentS(u:Use):Prop where
 day: ∀i,i<u.nr->(u.gr i).Changed<=u.Changed
 out: ∀i,i<u.nr->(u.gr i).State=2->aW u (u.gr i).Box=⟨3,(u.gr i).Reader⟩
 box: ∀i,i<u.nb->(aW u (u.gb i).ID).Kind=3->∃j,j<u.nr/\(u.gr j).State=2/\(u.gr j).Box=(u.gb i).ID
theorem req_all{n:Nat}{g:Nat->dU}(h:gJ n g=0):n<=256/\∀i,i<n->AP g i=0:=by
 unfold gJ at h;split at h
 ·cases h
 ·exact⟨by omega,jf.1 h⟩
theorem og{g:Nat->dU}{i:Nat} :AP g i=0↔D5 (g i)=true/\(0<i->(g (i-1)).ID<(g i).ID/\(g (i-1)).Day<=(g i).Day)/\((g i).State=2->∀j,j<i->(g j).State=2->(g j).Box≠(g i).Box)/\(oQ (g i)=true->∀j,j<i->oQ (g j)=true->(g j).Reader=(g i).Reader->(g j).Unit≠(g i).Unit):=by
 unfold AP MJ dblB;have ha:((lst i g).any (Rn (g i).Box)=true)↔∃j,j<i/\(g j).State=2/\(g j).Box=(g i).Box:=by
  rw[PV];simp[Rn]
 have hb:((lst i g).any (dblP (g i).Reader (g i).Unit)=true)↔∃j,j<i/\(oQ (g j)=true/\(g j).Reader=(g i).Reader)/\(g j).Unit=(g i).Unit:=by
  rw[PV];simp[dblP]
 simp only[ha,hb];constructor
 ·intro h;split at h
  ·cases h
  ·rename_i h1;split at h
   ·cases h
   ·rename_i h2;split at h
    ·cases h
    ·rename_i h3;split at h
     ·cases h
     ·rename_i h4;exact⟨by simpa using h1,fun h0=>by constructor<;>(apply Classical.byContradiction;intro h9;exact h2 ⟨h0,by omega⟩),fun h5 j hj h6 h7=>h3 ⟨h5,j,hj,h6,h7⟩,fun h5 j hj h6 h7 h8=>h4 ⟨h5,j,hj,⟨h6,h7⟩,h8⟩⟩
 ·rintro⟨h1,h2,h3,h4⟩;rw[if_neg (by simp[h1]),if_neg (by rintro⟨h0,h5⟩;have:=h2 h0;omega),if_neg (by rintro⟨h5,j,hj,h6,h7⟩;exact h3 h5 j hj h6 h7),if_neg (by rintro⟨h5,j,hj,⟨h6,h7⟩,h8⟩;exact h4 h5 j hj h6 h7 h8)]
theorem ZF{n:Nat}{g:Nat->dU}(h:gJ n g=0){i j:Nat}(hi:i<n)(hj:j<n)(h1:(g i).State=2)(h2:(g j).State=2)(h3:(g i).Box=(g j).Box):i=j:=by
 have ha:=(req_all h).2;rcases Nat.lt_trichotomy i j with h4|h4|h4
 ·exact absurd h3 ((og.1 (ha j hj)).2.2.1 h2 i h4 h1)
 ·exact h4
 ·exact absurd h3.symm ((og.1 (ha i hi)).2.2.1 h1 j h4 h2)
theorem ZG{u:Use}(hr:gJ u.nr u.gr=0)(hm:jm u.nv u.gv=0):LentR u↔LentS u:=by
 have hg: ∀i,i<u.nr->(u.gr i).State=2->(fV u u.nr).2 (u.gr i).Box=(u.gr i).Reader:=fun i hi h=>QU u hi h fun j hj h1 h2=>ZF hr hj hi h1 h h2;constructor
 ·rintro⟨h1,h2,h3⟩;refine⟨h1,fun i hi h=> ?_,fun i hi h=> ?_⟩
  ·rw[h2 _ ((BZ u _ _).2 ⟨i,hi,h,rfl⟩),hg i hi h]
  ·apply Classical.byContradiction;intro h4;have h5:(fV u u.nr).2 (u.gb i).ID=0:=Ip u _ _ fun h6=>h4 ((BZ u _ _).1 h6);have h6:=h3 i hi h;rw[h5] at h6;have h7:=plc_ok hm (u.gb i).ID;unfold gV at h7;rw[if_neg (by omega),if_pos (by omega),←h6] at h7;cases h7
 ·rintro⟨h1,h2,h3⟩;refine⟨h1,fun x hx=> ?_,fun i hi h=> ?_⟩
  ·obtain⟨i,hi,h4,rfl⟩:=(BZ u _ _).1 hx;rw[h2 i hi h4,hg i hi h4]
  ·obtain⟨j,hj,h4,h5⟩:=h3 i hi h;rw[←h5,hg j hj h4,h2 j hj h4]
structure aP(u:Use):Prop where
 pol:eP u.P=0
 box:fO u.nb u.gb=0
 shf:kG u.nf u.gf=0
 mov:jm u.nv u.gv=0
 req:gJ u.nr u.gr=0
 bkg:qh u.lT u.nk u.gk=0
 VE: ∀i,i<u.nt->BatR u i
 lnk: ∀i,i<u.nl->LnkS u i
 shw: ∀i,i<u.nw->ShwR u i
 day:qc u.Changed 0 1048575=true
 nt:u.nt<=64
 nl:u.nl<=1024
 nw:u.nw<=1024
 mvs: ∀q,q<u.nv->EH u (u.gv q)=false
 hld:HeldR u
 vY:LentS u
theorem F9{u:Use} :oZ u=true↔∀q,q<u.nv->EH u (u.gv q)=false:=by
 unfold oZ;rw[Bool.not_eq_true',LU]
theorem Dy{n:Nat}{g:Nat->Bx}(h:fO n g=0){i:Nat}(hi:i<n):0<=(g i).Width:=by
 have:=(rO ((kZ h).2 i hi)).1;unfold Gx at this;simp only[Bool.and_eq_true,fJ] at this;omega
theorem iT{u:Use} :dD u=true↔aP u:=by
 unfold dD;simp only[Bool.and_eq_true];constructor
 ·rintro⟨⟨⟨h1,h2⟩,h3⟩,h4⟩;have hp:=qF.1 h1;have hb:fO u.nb u.gb=0:=hp.chk 1 (by omega);have hm:jm u.nv u.gv=0:=hp.chk 3 (by omega);have hr:gJ u.nr u.gr=0:=hp.chk 4 (by omega);exact⟨hp.chk 0 (by omega),hb,hp.chk 2 (by omega),hm,hr,hp.chk 5 (by omega),hp.VE,hp.lnk,hp.shw,hp.day,hp.nt,hp.nl,hp.nw,F9.1 h2,(Z8 (fun i hi h=>D7 h2 h) fun i hi=>Dy hb hi).1 h3,(ZG hr hm).1 (Cm.1 h4)⟩
 ·intro h;have h2:=F9.2 h.mvs;refine⟨⟨⟨qF.2 ⟨fun i hi=> ?_,h.VE,h.lnk,h.shw,h.day,h.nt,h.nl,h.nw⟩,h2⟩,(Z8 (fun i hi h=>D7 h2 h) fun i hi=>Dy h.box hi).2 h.hld⟩,Cm.2 ((ZG h.req h.mov).2 h.vY)⟩;have:i=0\/i=1\/i=2\/i=3\/i=4\/i=5:=by omega
  rcases this with rfl|rfl|rfl|rfl|rfl|rfl
  ·exact h.pol
  ·exact h.box
  ·exact h.shf
  ·exact h.mov
  ·exact h.req
  ·exact h.bkg
theorem vN{u v:Use}{s:Int} : ∀{n:Nat},(∀i,i<n->aW v (v.gb i).ID=aW u (u.gb i).ID/\(v.gb i).Width=(u.gb i).Width)->fC v s n=fC u s n
 |0,_=>rfl
 |n+1,h=>by
  rw[fC,fC,vN (n:=n) fun i hi=>h i (by omega),(h n (by omega)).1,(h n (by omega)).2]
theorem BM{u:Use}(h:aP u){k:Int}(hk:(aW u k).Kind=1):0<=rV u.nf u.gf (aW u k).Of:=D7 (F9.2 h.mvs) hk
theorem jo{u v:Use}(hr:aP u)(hn:v.nb=u.nb)(hi: ∀i,i<u.nb->(v.gb i).ID=(u.gb i).ID/\(v.gb i).Width=(u.gb i).Width/\(v.gb i).cO=(u.gb i).cO)(hp: ∀x,aW v x=aW u x)(hs: ∀s,0<=rV u.nf u.gf s->AL v s=AL u s):HeldR v:=by
 have hsum: ∀s,fC v s v.nb=fC u s u.nb:=fun s=>by
  rw[hn];exact vN fun i h=>by rw[(hi i h).1,hp];exact⟨rfl,(hi i h).2.1⟩
 refine⟨fun i h hk=> ?_,fun i h hk=> ?_⟩
 ·rw[hn] at h;rw[(hi i h).1,hp] at hk⊢;rw[hs _ (BM hr hk),(hi i h).2.2];exact hr.hld.cli i h hk
 ·rw[hn] at h;rw[(hi i h).1,hp] at hk⊢;rw[hs _ (BM hr hk),hsum];exact hr.hld.sum i h hk
theorem right_day{u:Use}{d:Int}(hr:aP u)(h1:u.Changed<=d)(h2:d<=1048575):aP { u with Changed:=d } :=by
 have hd:=fJ.1 hr.day;refine⟨hr.pol,hr.box,hr.shf,hr.mov,hr.req,hr.bkg,hr.VE,hr.lnk,fun i hi=> ?_,fJ.2 ⟨(by show 0<=d;omega),h2⟩,hr.nt,hr.nl,hr.nw,fun q hq=> ?_,jo hr rfl (fun _ _=>⟨rfl,rfl,rfl⟩) (fun _=>rfl) (fun _ _=>rfl),⟨fun i hi=>Int.le_trans (hr.vY.day i hi) h1,hr.vY.out,hr.vY.box⟩⟩
 ·obtain⟨a,b,c,dd⟩:=hr.shw i hi;have h7:0<=(u.gw i).Day/\(u.gw i).Day<=u.Changed:=fJ.1 c;exact⟨a,b,fJ.2 ⟨h7.1,by show(u.gw i).Day<=d;omega⟩,dd⟩
 ·have:=hr.mvs q hq;unfold EH at this⊢;simp only[Bool.or_eq_false_iff,decide_eq_false_iff_not] at this⊢;exact⟨⟨⟨by have:=this.1.1.1;show ¬d<_;omega,this.1.1.2⟩,this.1.2⟩,this.2⟩
theorem nY{u:Use}{p:oC}(hr:aP u)(hp:eP p=0):aP { u with P:=p } :=
 ⟨hp,hr.box,hr.shf,hr.mov,hr.req,hr.bkg,hr.VE,hr.lnk,hr.shw,hr.day,hr.nt,hr.nl,hr.nw,hr.mvs,jo hr rfl (fun _ _=>⟨rfl,rfl,rfl⟩) (fun _=>rfl) (fun _ _=>rfl),⟨hr.vY.day,hr.vY.out,hr.vY.box⟩⟩
theorem qC{p:oC} :eP p=0↔(check p.nc p.gc=0/\jy p.np p.gp=0/\lC p.na p.ga=0/\kT p.nm p.gm=0)/\(0<=p.jI/\p.jI<=200)/\oK p=0:=by
 unfold eP;have h4:aQ (OI p) 0 4=0↔(check p.nc p.gc=0/\jy p.np p.gp=0/\lC p.na p.ga=0/\kT p.nm p.gm=0):=by
  rw[jf];constructor
  ·intro h;exact⟨h 0 (by omega),h 1 (by omega),h 2 (by omega),h 3 (by omega)⟩
  ·rintro⟨a,b,c,d⟩ i hi;have:i=0\/i=1\/i=2\/i=3:=by omega
   rcases this with rfl|rfl|rfl|rfl
   ·exact a
   ·exact b
   ·exact c
   ·exact d
 rw[←h4];constructor
 ·intro h;split at h
  ·rename_i h1;exact absurd h h1
  ·rename_i h1;split at h
   ·cases h
   ·exact⟨Classical.byContradiction h1,by omega,h⟩
 ·rintro⟨h1,h2,h3⟩;rw[if_neg (by simp[h1]),if_neg (by omega)];exact h3
theorem CV{n:Nat}{g:Nat->iq}{k:Int} :I4 n g k=true↔∃i,i<n/\(g i).ID=k:=by
 unfold I4;rw[PV];simp
theorem Wl{p:oC} :oK p=0↔p.ns<=256/\∀i,i<p.ns->Hl p i=0:=by
 unfold oK;constructor
 ·intro h;split at h
  ·cases h
  ·exact⟨by omega,jf.1 h⟩
 ·rintro⟨h1,h2⟩;rw[if_neg (by omega)];exact jf.2 h2
theorem Hg{p q:oC}(h:oK p=0)(hn:q.ns=p.ns)(hg:q.gs=p.gs)(hp: ∀k,I4 p.np p.gp k=true->I4 q.np q.gp k=true):oK q=0:=by
 rw[Wl] at h⊢;rw[hn];refine⟨h.1,fun i hi=> ?_⟩;have h1:=h.2 i hi;unfold Hl at h1⊢;rw[hg];split at h1
 ·cases h1
 ·rename_i h2;rw[if_neg h2];split at h1
  ·cases h1
  ·rename_i h3;rw[if_neg h3];split at h1
   ·cases h1
   ·rename_i h4;rw[if_neg h4];unfold YI at h1⊢;rw[jf] at h1⊢;intro j hj;have h5:=h1 j hj;split at h5
    ·cases h5
    ·rename_i h6;rw[if_neg (by rw[hp _ (by simpa using h6)];decide)]
theorem pol_cl{p:oC}{n:Nat}{g:Nat->Rule}(h:eP p=0)(hc:check n g=0):eP { p with nc:=n,gc:=g } =0:=by
 rw[qC] at h⊢;exact⟨⟨hc,h.1.2⟩,h.2.1,Hg h.2.2 rfl rfl fun _ h=>h⟩
theorem pol_ag{p:oC}{n:Nat}{g:Nat->jW}(h:eP p=0)(hc:lC n g=0):eP { p with na:=n,ga:=g } =0:=by
 rw[qC] at h⊢;exact⟨⟨h.1.1,h.1.2.1,hc,h.1.2.2.2⟩,h.2.1,Hg h.2.2 rfl rfl fun _ h=>h⟩
theorem pol_pm{p:oC}{n:Nat}{g:Nat->jG}(h:eP p=0)(hc:kT n g=0):eP { p with nm:=n,gm:=g } =0:=by
 rw[qC] at h⊢;exact⟨⟨h.1.1,h.1.2.1,h.1.2.2.1,hc⟩,h.2.1,Hg h.2.2 rfl rfl fun _ h=>h⟩
theorem pol_pr{p:oC}{n:Nat}{g:Nat->iq}(h:eP p=0)(hc:jy n g=0)(hp: ∀k,I4 p.np p.gp k=true->I4 n g k=true):eP { p with np:=n,gp:=g } =0:=by
 rw[qC] at h⊢;exact⟨⟨h.1.1,hc,h.1.2.2⟩,h.2.1,Hg h.2.2 rfl rfl hp⟩
theorem JL{g:Nat->Rule} : ∀{k i:Nat},XV g i k=0↔∀q,i<=q->q<i+k->formed (g q)=true/\(0<q->(g (q-1)).ID<(g q).ID)/\∀j,j<q->clash (g q) (g j)=false
 |0,i=>by simp only[XV,true_iff];intro q h1 h2;omega
 |k+1,i=>by
  rw[XV];constructor
  ·intro h;split at h
   ·cases h
   ·rename_i h1;split at h
    ·cases h
    ·rename_i h2;split at h
     ·cases h
     ·rename_i h3;intro q h4 h5;by_cases hq:q=i
      ·subst hq;refine⟨by simpa using h1,fun h0=> ?_,LU.1 (by simpa using h3)⟩;simp only[Bool.and_eq_true,decide_eq_true_eq] at h2;omega
      ·exact JL.1 h q (by omega) (by omega)
  ·intro h;obtain⟨h1,h2,h3⟩:=h i (Nat.le_refl _) (by omega);rw[if_neg (by simp[h1]),if_neg (by simp only[Bool.and_eq_true,decide_eq_true_eq];rintro⟨a,b⟩;have:=h2 a;omega),if_neg (by rw[LU.2 h3];decide)];exact JL.2 fun q h4 h5=>h q (by omega) (by omega)
theorem LD{n:Nat}{g:Nat->Rule} :check n g=0↔n<=64/\∀q,q<n->formed (g q)=true/\(0<q->(g (q-1)).ID<(g q).ID)/\∀j,j<q->clash (g q) (g j)=false:=by
 unfold check;constructor
 ·intro h;split at h
  ·cases h
  ·exact⟨by omega,fun q hq=>JL.1 h q (Nat.zero_le _) (by omega)⟩
 ·rintro⟨h1,h2⟩;rw[if_neg (by omega)];exact JL.2 fun q _ hq=>h2 q (by omega)
theorem end_chk{n:Nat}{g:Nat->Rule}{k d:Int}(h:(xX n g k d).2=0):check (xX n g k d).1.1 (xX n g k d).1.2=0:=by
 unfold xX at h⊢;split at h
 ·cases h
 ·rename_i h1;split at h
  ·cases h
  ·rename_i h2;split at h
   ·cases h
   ·rename_i h3;rw[if_neg h1,if_neg h2,if_neg h3];have h1:=LD.1 (Classical.byContradiction h1);generalize(idxFrom (fun r:Rule=>r.ID==k) (lst n g) 0).toNat=m at h3
    show check n (fun q=>if q=m then { g q with In:=⟨(g q).In.From,d⟩ } else g q)=0
    obtain⟨f,hf⟩: ∃f:Nat->Rule,f=fun q=>if q=m then { g q with In:=⟨(g q).In.From,d⟩ } else g q:=⟨_,rfl⟩
    have f1:f m= { g m with In:=⟨(g m).In.From,d⟩ } :=by rw[hf];exact if_pos rfl
    have f2: ∀q,q≠m->f q=g q:=fun q hq=>by rw[hf];exact if_neg hq
    have hid: ∀j,(f j).ID=(g j).ID:=fun j=>by
     by_cases hj:j=m
     ·rw[hj,f1]
     ·rw[f2 j hj]
    rw[←hf];refine LD.2 ⟨h1.1,fun q hq=> ?_⟩;obtain⟨h4,h5,h6⟩:=h1.2 q hq;refine⟨?_,fun h0=> ?_,fun j hj=> ?_⟩
    ·by_cases hm:q=m
     ·subst hm;rw[f1];unfold formed yM at h4⊢;simp only[Bool.and_eq_true,decide_eq_true_eq] at h4⊢;refine⟨h4.1,?_⟩;omega
     ·rw[f2 q hm];exact h4
    ·rw[hid,hid];exact h5 h0
    ·have h7:=h6 j hj;unfold clash at h7⊢;rw[Bool.eq_false_iff] at h7⊢;simp only[Ne,Bool.and_eq_true,beq_iff_eq,decide_eq_true_eq] at h7⊢;by_cases hm:q=m
     ·subst hm;rw[f1,f2 j (by omega)];intro h8;exact h7 ⟨⟨h8.1.1,by have:=h8.1.2;dsimp only at this;omega⟩,h8.2⟩
     ·rw[f2 q hm];by_cases hj2:j=m
      ·subst hj2;rw[f1];intro h8;exact h7 ⟨⟨h8.1.1,h8.1.2⟩,by have:=h8.2;dsimp only at this;omega⟩
      ·rw[f2 j hj2];exact h7
theorem Pv{n:Nat}{g:Nat->iq} :jy n g=0↔n<=64/\∀i,i<n->OG g i=0:=by
 unfold jy;constructor
 ·intro h;split at h
  ·cases h
  ·exact⟨by omega,jf.1 h⟩
 ·rintro⟨h1,h2⟩;rw[if_neg (by omega)];exact jf.2 h2
theorem Ie{g:Nat->iq}{i:Nat} :OG g i=0↔xF (g i)=0/\(0<i->(g (i-1)).ID<(g i).ID):=by
 unfold OG;constructor
 ·intro h;split at h
  ·rename_i h1;exact absurd h h1
  ·rename_i h1;split at h
   ·cases h
   ·exact⟨Classical.byContradiction h1,fun h0=>by omega⟩
 ·rintro⟨h1,h2⟩;rw[if_neg (by simp[h1]),if_neg (by rintro⟨a,b⟩;have:=h2 a;omega)]
theorem Vb{n:Nat}{g:Nat->iq}{k:Int}{b d:eF}(h:(jP n g k b d).2=0):jy (jP n g k b d).1.1 (jP n g k b d).1.2=0/\∀x,I4 n g x=true->I4 (jP n g k b d).1.1 (jP n g k b d).1.2 x=true:=by
 unfold jP at h⊢;split at h
 ·cases h
 ·rename_i h1;split at h
  ·cases h
  ·rename_i h2;split at h
   ·cases h
   ·rename_i h3;rw[if_neg h1,if_neg h2,if_neg h3];have h1:jy n g=0:=Classical.byContradiction fun h9=>h1 (.inl h9);have h1:=Pv.1 h1;generalize(pq n g k).toNat=m at h3
    have hid: ∀j,(if j=m then(sD (g m) b d).1 else g j).ID=(g j).ID:=fun j=>by split;(rename_i e;rw[e];rfl);rfl
    refine⟨Pv.2 ⟨h1.1,fun i hi=>Ie.2 ?_⟩,fun x hx=> ?_⟩
    ·have h4:=Ie.1 (h1.2 i hi);refine⟨?_,fun h0=> ?_⟩
     ·show xF (if i=m then(sD (g m) b d).1 else g i)=0
      split
      ·simp only[Bool.not_eq_false] at h3;have h3':=h3;unfold sD at h3';simp only[Bool.and_eq_true,decide_eq_true_eq] at h3';exact h3'.2
      ·exact h4.1
     ·show(if i-1=m then(sD (g m) b d).1 else g (i-1)).ID<(if i=m then(sD (g m) b d).1 else g i).ID
      rw[hid,hid];exact h4.2 h0
    ·obtain⟨i,hi,h4⟩:=CV.1 hx;refine CV.2 ⟨i,hi,?_⟩;show(if i=m then(sD (g m) b d).1 else g i).ID=x
     rw[hid];exact h4
theorem D6{n:Nat}{g:Nat->jG} :kT n g=0↔n<=64/\∀i,i<n->MC (g i)=true/\(0<i->(g (i-1)).ID<(g i).ID):=by
 have he: ∀i,QL g i=0↔MC (g i)=true/\(0<i->(g (i-1)).ID<(g i).ID):=fun i=>by
  unfold QL;constructor
  ·intro h;split at h
   ·cases h
   ·rename_i h1;split at h
    ·cases h
    ·exact⟨by simpa using h1,fun h0=>by omega⟩
  ·rintro⟨h1,h2⟩;rw[if_neg (by simp[h1]),if_neg (by rintro⟨a,b⟩;have:=h2 a;omega)]
 unfold kT;constructor
 ·intro h;split at h
  ·cases h
  ·exact⟨by omega,fun i hi=>(he i).1 (jf.1 h i hi)⟩
 ·rintro⟨h1,h2⟩;rw[if_neg (by omega)];exact jf.2 fun i hi=>(he i).2 (h2 i hi)
theorem grant_chk{n:Nat}{g:Nat->jG}{p:jG}(h:kV n g p=0):kT (n+1) (aV g n p)=0:=by
 unfold kV at h;split at h
 ·cases h
 ·rename_i h1;split at h
  ·cases h
  ·rename_i h2;split at h
   ·cases h
   ·rename_i h3;split at h
    ·cases h
    ·rename_i h4;have h1:=D6.1 (Classical.byContradiction h1);refine D6.2 ⟨by omega,fun i hi=> ?_⟩;by_cases hn:i<n
     ·rw[iZ hn,iZ (by omega)];exact h1.2 i hn
     ·obtain rfl:i=n:=by omega
      rw[oL];refine⟨by simpa using h2,fun h0=> ?_⟩;rw[iZ (by omega)];omega
theorem zI{α:Type}{f:α->Int}{g:Nat->α}{n:Nat}(h: ∀i,i<n->0<i->f (g (i-1))<f (g i)){a b:Nat}(hab:a<b)(hb:b<n):f (g a)<f (g b):=by
 induction b with
 |zero=>omega
 |succ b ih=>
  have h1:=h (b+1) hb (by omega);rw[Nat.add_sub_cancel] at h1;by_cases h2:a=b
  ·rw[h2];exact h1
  ·exact Int.lt_trans (ih (by omega) (by omega)) h1
theorem revoke_chk{n:Nat}{g:Nat->jG}{k d:Int}(h:TK n g k d=0):kT (rvN n g k d) (rvG g (pIx n g k).toNat d)=0:=by
 have h9:=h;unfold TK at h;split at h
 ·cases h
 ·rename_i h1;split at h
  ·cases h
  ·rename_i h2;split at h
   ·cases h
   ·rename_i h3;split at h
    ·cases h
    ·rename_i h4;have h1:=D6.1 (Classical.byContradiction h1);have hm:(pIx n g k).toNat<n:=by have:=pIx_lt n g k;omega
     unfold rvN rvG;rw[if_neg (by simp[h9])];generalize(pIx n g k).toNat=m at hm h4
     split
     ·refine D6.2 ⟨by omega,fun i hi=> ?_⟩;have hs:skip m i<n:=by unfold skip;split<;>omega
      refine⟨(h1.2 _ hs).1,fun h0=> ?_⟩;exact zI (f:=jG.ID) (fun i hi=>(h1.2 i hi).2) (by unfold skip;split<;>split<;>omega) hs
     ·rename_i h5;refine D6.2 ⟨h1.1,fun i hi=> ?_⟩;have h6:=h1.2 i hi;have hid: ∀j,(iD g m { g m with In:=⟨(g m).In.From,d⟩ } j).ID=(g j).ID:=fun j=>by unfold iD;split;(rename_i e;rw[e]);rfl
      refine⟨?_,fun h0=>by rw[hid,hid];exact h6.2 h0⟩;unfold iD;split
      ·rename_i e;subst e;have h7:=h6.1;unfold MC yM at h7⊢;simp only[Bool.and_eq_true,decide_eq_true_eq] at h7⊢;refine⟨h7.1,?_⟩;omega
      ·exact h6.1
theorem r_cl{u:Use}{e:Ev}(hr:aP u)(h:clE u e=0):aP (clU u e):=by
 unfold clE at h;split at h
 ·cases h
 ·exact nY hr (pol_cl hr.pol h)
theorem r_ec{u:Use}{e:Ev}(hr:aP u)(h:ecE u e=0):aP (ecU u e):=by
 unfold ecE at h;split at h
 ·cases h
 ·exact nY hr (pol_cl hr.pol (end_chk h))
theorem r_ap{u:Use}{e:Ev}(hr:aP u)(h:apE u e=0):aP (apU u e):=by
 refine nY hr (pol_pr hr.pol h fun k hk=> ?_);obtain⟨i,hi,h1⟩:=CV.1 hk;exact CV.2 ⟨i,by omega,by rw[iZ hi];exact h1⟩
theorem r_le{u:Use}{e:Ev}(hr:aP u)(h:(leR u e).2=0):aP (leU u e):=
 nY hr (pol_pr hr.pol (Vb h).1 (Vb h).2)
theorem r_aa{u:Use}{e:Ev}(hr:aP u)(h:aaE u e=0):aP (aaU u e):=by
 unfold aaE at h;split at h
 ·cases h
 ·exact nY hr (pol_ag hr.pol h)
theorem r_gr{u:Use}{e:Ev}(hr:aP u)(h:pgE u e=0):aP (grU u e):=by
 unfold pgE at h;split at h
 ·cases h
 ·exact nY hr (pol_pm hr.pol (grant_chk h))
theorem r_rv{u:Use}{e:Ev}(hr:aP u)(h:TK u.P.nm u.P.gm (e.gn 0) e.Day=0):aP (rvU u e):=
 nY hr (pol_pm hr.pol (revoke_chk h))
theorem r_ss{u:Use}{e:Ev}(hr:aP u)(h:ssE u e=0):aP (ssU u e):=nY hr h
theorem Gs{g:Nat->Cnt} : ∀{k i:Nat} {ks ks':List Key},vg g i ks k=some ks'->(∀p,i<=p->p<i+k->Key.i (g p).Unit∉ks)/\(∀p q,i<=p->p<q->q<i+k->(g p).Unit≠(g q).Unit)/\∀x,Key.i x∈ks'↔Key.i x∈ks\/∃p,i<=p/\p<i+k/\(g p).Unit=x
 |0,i,ks,ks',h=>by
  rw[vg] at h;cases h
  refine⟨fun p h1 h2=>by omega,fun p q h1 h2 h3=>by omega,fun x=>⟨.inl,?_⟩⟩;rintro(h|⟨p,h1,h2,_⟩)
  ·exact h
  ·omega
 |k+1,i,ks,ks',h=>by
  rw[vg] at h;split at h
  ·cases h
  ·rename_i h0;obtain⟨h1,h2,h3⟩:=Gs h;refine⟨fun p a b=> ?_,fun p q a b c=> ?_,fun x=> ?_⟩
   ·by_cases hp:p=i
    ·rw[hp];exact h0
    ·exact fun h9=>h1 p (by omega) (by omega) (gW.2 (.inr h9))
   ·by_cases hp:p=i
    ·subst hp;exact fun h9=>h1 q (by omega) (by omega) (gW.2 (.inl (by rw[h9])))
    ·exact h2 p q (by omega) b (by omega)
   ·rw[h3 x,gW];constructor
    ·rintro((h9|h9)|⟨p,a,b,c⟩)
     ·cases h9;exact .inr ⟨i,Nat.le_refl _,by omega,rfl⟩
     ·exact .inl h9
     ·exact .inr ⟨p,by omega,by omega,c⟩
    ·rintro(h9|⟨p,a,b,c⟩)
     ·exact .inl (.inr h9)
     ·by_cases hp:p=i
      ·subst hp;exact .inl (.inl (by rw[c]))
      ·exact .inr ⟨p,by omega,by omega,c⟩
theorem cntGo_ex{g:Nat->Cnt} : ∀{k i:Nat} {ks:List Key},(∀p,i<=p->p<i+k->Key.i (g p).Unit∉ks)->(∀p q,i<=p->p<q->q<i+k->(g p).Unit≠(g q).Unit)->∃ks',vg g i ks k=some ks'
 |0,i,ks,_,_=>⟨ks,rfl⟩
 |k+1,i,ks,h1,h2=>by
  rw[vg,if_neg (h1 i (Nat.le_refl _) (by omega))];refine cntGo_ex (fun p a b h9=> ?_) fun p q a b c=>h2 p q (by omega) b (by omega);rcases gW.1 h9 with h9|h9
  ·injection h9 with h9
   exact h2 i p (Nat.le_refl _) (by omega) (by omega) h9.symm
  ·exact h1 p (by omega) (by omega) h9
structure BxsR(g:Nat->Bx)(i n:Nat)(ks:List Key):Prop where
 f: ∀q,i<=q->q<n->Uo (g q)=0
 asc: ∀q,i<=q->q<n->0<q->(g (q-1)).ID<(g q).ID
 ks: ∀q p,i<=q->q<n->p<(g q).nc->Key.i ((g q).gc p).Unit∉ks
 uni: ∀q q' p p',i<=q->q<n->i<=q'->q'<n->p<(g q).nc->p'<(g q').nc->((g q).gc p).Unit=((g q').gc p').Unit->q=q'/\p=p'
theorem JQ{g:Nat->Bx} : ∀{k i:Nat} {ks:List Key},LJ g i ks k=0↔BxsR g i (i+k) ks
 |0,i,ks=>by
  simp only[LJ,true_iff];exact⟨fun q _ _=>by omega,fun q _ _=>by omega,fun q p _ _=>by omega,fun q q' p p' _ _=>by omega⟩
 |k+1,i,ks=>by
  rw[LJ];constructor
  ·intro h;split at h
   ·rename_i h1;exact absurd h h1
   ·rename_i h1;split at h
    ·cases h
    ·rename_i h2;split at h
     ·cases h
     ·rename_i ks' h3;obtain⟨a,b,c⟩:=Gs h3;have hr:=JQ.1 h;rw[show i+1+k=i+(k+1) by omega] at hr;refine⟨fun q x y=> ?_,fun q x y z=> ?_,fun q p x y z=> ?_,fun q q' p p' x y x' y' z z' hu=> ?_⟩
      ·by_cases hq:q=i
       ·rw[hq];exact Classical.byContradiction h1
       ·exact hr.f q (by omega) y
      ·by_cases hq:q=i
       ·subst hq;omega
       ·exact hr.asc q (by omega) y z
      ·by_cases hq:q=i
       ·subst hq;exact a p (Nat.zero_le _) (by omega)
       ·exact fun h9=>hr.ks q p (by omega) y z ((c _).2 (.inl h9))
      ·by_cases hq:q=i
       ·subst hq;by_cases hq':q'=q
        ·subst hq';refine⟨rfl,?_⟩;rcases Nat.lt_trichotomy p p' with h4|h4|h4
         ·exact absurd hu (b p p' (Nat.zero_le _) h4 (by omega))
         ·exact h4
         ·exact absurd hu.symm (b p' p (Nat.zero_le _) h4 (by omega))
        ·exact absurd ((c _).2 (.inr ⟨p,Nat.zero_le _,by omega,hu⟩)) (hr.ks q' p' (by omega) y' z')
       ·by_cases hq':q'=i
        ·subst hq';exact absurd ((c _).2 (.inr ⟨p',Nat.zero_le _,by omega,hu.symm⟩)) (hr.ks q p (by omega) y z)
        ·exact hr.uni q q' p p' (by omega) y (by omega) y' z z' hu
  ·intro h;rw[if_neg (by simp[h.f i (Nat.le_refl _) (by omega)]),if_neg (by rintro⟨a,b⟩;have:=h.asc i (Nat.le_refl _) (by omega) a;omega)];obtain⟨ks',hk⟩:=cntGo_ex (g:=(g i).gc) (k:=(g i).nc) (i:=0) (ks:=ks) (fun p _ hp=>h.ks i p (Nat.le_refl _) (by omega) (by omega)) fun p q _ hpq hq hu=>by
    have:=(h.uni i i p q (Nat.le_refl _) (by omega) (Nat.le_refl _) (by omega) (by omega) (by omega) hu).2;omega
   rw[hk];obtain⟨a,b,c⟩:=Gs hk;refine JQ.2 ⟨fun q x y=>h.f q (by omega) (by omega),fun q x y z=>h.asc q (by omega) (by omega) z,fun q p x y z h9=> ?_,fun q q' p p' x y x' y'=>h.uni q q' p p' (by omega) (by omega) (by omega) (by omega)⟩;rcases(c _).1 h9 with h9|⟨p',h10,h11,h12⟩
   ·exact h.ks q p (by omega) (by omega) z h9
   ·have:=(h.uni i q p' p (Nat.le_refl _) (by omega) (by omega) (by omega) (by omega) z h12).1;omega
theorem LH{n:Nat}{g:Nat->Bx} :fO n g=0↔n<=128/\BxsR g 0 n []:=by
 unfold fO;constructor
 ·intro h;split at h
  ·cases h
  ·exact⟨by omega,by have:=JQ.1 h;rwa [Nat.zero_add] at this⟩
 ·rintro⟨h1,h2⟩;rw[if_neg (by omega)];exact JQ.2 (by rw[Nat.zero_add];exact h2)
theorem PO{b:Bx} :Uo b=0↔Gx b=true/\b.nc<=32/\yH b.gc b.nc<=b.Room:=by
 constructor
 ·intro h;have:=rO h;exact⟨this.1,this.2.1,this.2.2.1⟩
 ·rintro⟨h1,h2,h3⟩;unfold Uo;rw[if_neg (by simp[h1]),if_neg (by omega),if_neg (by omega)]
theorem JO{b:Bx} :Gx b=true↔(qc b.ID 1 1073741824=true/\qc b.Width 1 10000=true/\qc b.Room 1 b.Width=true/\qc b.cO 0 7=true)/\∀i,i<b.nc->pJ (b.gc i)=true:=by
 unfold Gx Gt;simp only[Bool.and_eq_true,Bool.not_eq_true',LU,Bool.not_eq_false'];exact⟨fun h=>⟨⟨h.1.1.1.1,h.1.1.1.2,h.1.1.2,h.1.2⟩,h.2⟩,fun h=>⟨⟨⟨⟨h.1.1,h.1.2.1⟩,h.1.2.2.1⟩,h.1.2.2.2⟩,h.2⟩⟩
theorem wh_none{g:Nat->Bx}{u:Int} : ∀{k i:Nat},(GN g u i k).1<0->∀q p,i<=q->q<i+k->p<(g q).nc->((g q).gc p).Unit≠u
 |0,i,_=>fun q p h1 h2=>by omega
 |k+1,i,h=>by
  rw[GN] at h;split at h
  ·dsimp only at h;omega
  ·rename_i h1;intro q p h2 h3 h4;by_cases hq:q=i
   ·subst hq;have:=PE (p:=fun c:Cnt=>c.Unit==u) (n:=(g q).nc) (g:=(g q).gc) (by unfold cIx at h1;omega) p h4;simpa using this
   ·exact wh_none h q p (by omega) (by omega) h4
theorem thk_ins{g:Nat->Cnt}{i:Nat}{x:Cnt} : ∀{n:Nat},(n<=i->yH (lU g i x) n=yH g n)/\(i<=n->yH (lU g i x) (n+1)=yH g n+x.J6)
 |0=>⟨fun _=>rfl,fun h=>by
  obtain rfl:i=0:=by omega
  simp only[yH,lU];simp⟩
 |n+1=>by
  have ih:=thk_ins (g:=g) (i:=i) (x:=x) (n:=n);refine⟨fun h=>by rw[yH,yH,ih.1 (by omega)];unfold lU;rw[if_pos (by omega)],fun h=> ?_⟩;rw[yH];by_cases hi:i=n+1
  ·rw[yH,ih.1 (by omega),yH];unfold lU;rw[if_pos (by omega),if_neg (by omega),if_pos (by omega)]
  ·rw[ih.2 (by omega),yH];unfold lU;rw[if_neg (by omega),if_neg (by omega)];rw[Nat.add_sub_cancel];omega
theorem thk_wo{g:Nat->Cnt}{i:Nat} : ∀{n:Nat},(n<=i->yH (without g i) n=yH g n)/\(i<=n->yH (without g i) n+(g i).J6=yH g (n+1))
 |0=>⟨fun _=>rfl,fun h=>by
  obtain rfl:i=0:=by omega
  simp only[yH]⟩
 |n+1=>by
  have ih:=thk_wo (g:=g) (i:=i) (n:=n);refine⟨fun h=>by rw[yH,yH,ih.1 (by omega)];unfold without skip;rw[if_pos (by omega)],fun h=> ?_⟩;by_cases hi:i=n+1
  ·subst hi;rw[yH,ih.1 (by omega),yH,yH];unfold without skip;rw[if_pos (by omega)]
  ·rw[yH.eq_2 g (n+1),←ih.2 (by omega),yH];unfold without skip;rw[if_neg (by omega)];omega
theorem UQ{u:Use}{g:Nat->Bx}(hr:aP u)(hb:fO u.nb g=0)(hg: ∀q,(g q).ID=(u.gb q).ID/\(g q).Width=(u.gb q).Width/\(g q).cO=(u.gb q).cO):aP { u with gb:=g } :=by
 have hi: ∀k,lQ u.nb g k=lQ u.nb u.gb k:=fun k=>ix_congr fun i _=>by rw[(hg i).1]
 refine⟨hr.pol,hb,hr.shf,hr.mov,hr.req,hr.bkg,hr.VE,hr.lnk,hr.shw,hr.day,hr.nt,hr.nl,hr.nw,fun q hq=> ?_,jo hr rfl (fun i _=>hg i) (fun _=>rfl) (fun _ _=>rfl),⟨hr.vY.day,hr.vY.out,fun i h hk=> ?_⟩⟩
 ·have:=hr.mvs q hq;unfold EH at this⊢;show(decide (u.Changed<(u.gv q).Day)||decide (lQ u.nb g (u.gv q).Box<0)|| !CP u (u.gv q).From|| !CP u (u.gv q).To)=false
  rw[hi];exact this
 ·show ∃j,j<u.nr/\(u.gr j).State=2/\(u.gr j).Box=(g i).ID
  rw[(hg i).1];refine hr.vY.box i h ?_;have:(aW u (g i).ID).Kind=3:=hk;rwa [(hg i).1] at this
theorem put_chk{n:Nat}{g:Nat->Bx}{k a:Int}{c:Cnt}(h:wR n g k a c=0):fO n (putG g (lQ n g k).toNat a.toNat c)=0:=by
 unfold wR at h;split at h
 ·cases h
 ·rename_i h1;split at h
  ·cases h
  ·rename_i h2;split at h
   ·cases h
   ·rename_i h3;split at h
    ·cases h
    ·rename_i h4;split at h
     ·cases h
     ·rename_i h5;split at h
      ·cases h
      ·rename_i h6;obtain⟨hn,hb⟩:=LH.1 (Classical.byContradiction h1);have hm:=DC (n:=n) (g:=g) (s:=k) (by omega);obtain⟨ha,hc⟩:qc a 0 ((g (lQ n g k).toNat).nc:Int)=true/\pJ c=true:=by
        constructor
        ·exact Classical.byContradiction fun h=>h3 (.inl (by simpa using h))
        ·exact Classical.byContradiction fun h=>h3 (.inr (by simpa using h))
       have ha:=fJ.1 ha;generalize(lQ n g k).toNat=m at hm ha h5 h6
       obtain⟨t,ht⟩: ∃t,t=a.toNat:=⟨_,rfl⟩;rw[←ht];have ht:t<=(g m).nc:=by omega
       have hw: ∀q p,q<n->p<(g q).nc->((g q).gc p).Unit≠c.Unit:=fun q p hq hp=>wh_none (i:=0) (k:=n) (by unfold N8 at h4;omega) q p (Nat.zero_le _) (by omega) hp;obtain⟨f,hf⟩: ∃f,f=putG g m t c:=⟨_,rfl⟩;have f1:f m= { g m with nc:=(g m).nc+1,gc:=lU (g m).gc t c } :=by rw[hf];exact if_pos rfl
       have f2: ∀q,q≠m->f q=g q:=fun q hq=>by rw[hf];exact if_neg hq
       have hid: ∀q,(f q).ID=(g q).ID:=fun q=>by
        by_cases hq:q=m
        ·rw[hq,f1]
        ·rw[f2 q hq]
       have hcm:=PO.1 (hb.f m (Nat.zero_le _) hm.1);have hcm1:=JO.1 hcm.1;have hold: ∀q p,q<n->p<(f q).nc->(q=m/\p=t/\(f q).gc p=c)\/∃p',p'<(g q).nc/\(f q).gc p=(g q).gc p'/\(q=m->(p<t/\p'=p)\/(t<p/\p=p'+1))/\(q≠m->p'=p):=by
        intro q p hq hp;by_cases hqm:q=m
        ·subst hqm;rw[f1] at hp⊢;dsimp only at hp⊢;unfold lU;by_cases h7:p<t
         ·exact .inr ⟨p,by omega,if_pos h7,fun _=> .inl ⟨h7,rfl⟩,fun _=>rfl⟩
         ·by_cases h8:p=t
          ·exact .inl ⟨rfl,h8,by rw[if_neg h7,if_pos h8]⟩
          ·exact .inr ⟨p-1,by omega,by rw[if_neg h7,if_neg h8],fun _=> .inr ⟨by omega,by omega⟩,fun h9=>absurd rfl h9⟩
        ·rw[f2 q hqm] at hp⊢;exact .inr ⟨p,hp,rfl,fun h9=>absurd h9 hqm,fun _=>rfl⟩
       rw[←hf];refine LH.2 ⟨hn,⟨fun q _ hq=> ?_,fun q _ hq h0=> ?_,fun q p _ _ _ h9=>(nomatch h9),fun q q' p p' _ hq _ hq' hp hp' hu=> ?_⟩⟩
       ·by_cases hqm:q=m
        ·subst hqm;rw[f1];refine PO.2 ⟨JO.2 ⟨hcm1.1,fun i hi=> ?_⟩,by dsimp only;omega,?_⟩
         ·dsimp only at hi⊢;unfold lU;split
          ·exact hcm1.2 i (by omega)
          ·split
           ·exact hc
           ·exact hcm1.2 (i-1) (by omega)
         ·dsimp only;rw[thk_ins.2 ht];omega
        ·rw[f2 q hqm];exact hb.f q (Nat.zero_le _) hq
       ·rw[hid,hid];exact hb.asc q (Nat.zero_le _) hq h0
       ·rcases hold q p hq hp with⟨a1,a2,a3⟩|⟨r,a1,a2,a3,a4⟩
        ·rcases hold q' p' hq' hp' with⟨b1,b2,b3⟩|⟨r',b1,b2,b3,b4⟩
         ·exact⟨by omega,by omega⟩
         ·rw[a3,b2] at hu;exact absurd hu.symm (hw q' r' hq' b1)
        ·rcases hold q' p' hq' hp' with⟨b1,b2,b3⟩|⟨r',b1,b2,b3,b4⟩
         ·rw[b3,a2] at hu;exact absurd hu (hw q r hq a1)
         ·rw[a2,b2] at hu;obtain⟨c1,c2⟩:=hb.uni q q' r r' (Nat.zero_le _) hq (Nat.zero_le _) hq' a1 b1 hu;subst c1;refine⟨rfl,?_⟩;by_cases hqm:q=m
          ·have:=a3 hqm;have:=b3 hqm;omega
          ·have:=a4 hqm;have:=b4 hqm;omega
theorem take_chk{n:Nat}{g:Nat->Bx}{k:Int}(h:vM n g k=0):fO n (Uz g (N8 n g k).1.toNat (N8 n g k).2.toNat)=0:=by
 unfold vM at h;split at h
 ·cases h
 ·rename_i h1;split at h
  ·cases h
  ·rename_i h2;obtain⟨hn,hb⟩:=LH.1 (Classical.byContradiction h1);obtain⟨m,t,hm,ht,e1,e2⟩:=whR_at h2;rw[e1,e2,Int.toNat_natCast,Int.toNat_natCast];obtain⟨f,hf⟩: ∃f,f=Uz g m t:=⟨_,rfl⟩;have f1:f m= { g m with nc:=(g m).nc-1,gc:=without (g m).gc t } :=by rw[hf];exact if_pos rfl
   have f2: ∀q,q≠m->f q=g q:=fun q hq=>by rw[hf];exact if_neg hq
   have hid: ∀q,(f q).ID=(g q).ID:=fun q=>by
    by_cases hq:q=m
    ·rw[hq,f1]
    ·rw[f2 q hq]
   have hcm:=PO.1 (hb.f m (Nat.zero_le _) hm);have hcm1:=JO.1 hcm.1;have hs: ∀p,skip t p=if p<t then p else p+1:=fun _=>rfl
   have hold: ∀q p,q<n->p<(f q).nc->∃p',p'<(g q).nc/\(f q).gc p=(g q).gc p'/\(q=m->p'=skip t p)/\(q≠m->p'=p):=by
    intro q p hq hp;by_cases hqm:q=m
    ·subst hqm;rw[f1] at hp⊢;dsimp only at hp⊢;exact⟨skip t p,by rw[hs];split<;>omega,rfl,fun _=>rfl,fun h9=>absurd rfl h9⟩
    ·rw[f2 q hqm] at hp⊢;exact⟨p,hp,rfl,fun h9=>absurd h9 hqm,fun _=>rfl⟩
   rw[←hf];refine LH.2 ⟨hn,⟨fun q _ hq=> ?_,fun q _ hq h0=> ?_,fun q p _ _ _ h9=>(nomatch h9),fun q q' p p' _ hq _ hq' hp hp' hu=> ?_⟩⟩
   ·by_cases hqm:q=m
    ·subst hqm;rw[f1];refine PO.2 ⟨JO.2 ⟨hcm1.1,fun i hi=> ?_⟩,by dsimp only;omega,?_⟩
     ·dsimp only at hi⊢;exact hcm1.2 _ (by rw[hs];split<;>omega)
     ·dsimp only;have h5:=(thk_wo (g:=(g q).gc) (i:=t) (n:=(g q).nc-1)).2 (by omega);have h6:=hcm1.2 t ht;unfold pJ at h6;simp only[Bool.and_eq_true,fJ] at h6;rw[show(g q).nc-1+1=(g q).nc by omega] at h5;omega
    ·rw[f2 q hqm];exact hb.f q (Nat.zero_le _) hq
   ·rw[hid,hid];exact hb.asc q (Nat.zero_le _) hq h0
   ·obtain⟨r,a1,a2,a3,a4⟩:=hold q p hq hp;obtain⟨r',b1,b2,b3,b4⟩:=hold q' p' hq' hp';rw[a2,b2] at hu;obtain⟨c1,c2⟩:=hb.uni q q' r r' (Nat.zero_le _) hq (Nat.zero_le _) hq' a1 b1 hu;subst c1;refine⟨rfl,?_⟩;by_cases hqm:q=m
    ·have h7:=a3 hqm;have h8:=b3 hqm;rw[hs] at h7 h8;split at h7<;>split at h8<;>omega
    ·have:=a4 hqm;have:=b4 hqm;omega
theorem aap{g:Nat->Bx}{m:Nat}{c:Nat}{f:Nat->Cnt}(q:Nat):(iD g m { g m with nc:=c,gc:=f } q).ID=(g q).ID/\(iD g m { g m with nc:=c,gc:=f } q).Width=(g q).Width/\(iD g m { g m with nc:=c,gc:=f } q).cO=(g q).cO:=by
 unfold iD;split
 ·rename_i h;rw[h];exact⟨rfl,rfl,rfl⟩
 ·exact⟨rfl,rfl,rfl⟩
theorem r_pu{u:Use}{e:Ev}(hr:aP u)(h:puE u e=0):aP (puU u e):=by
 unfold puE at h;split at h
 ·cases h
 ·exact UQ hr (put_chk h) fun q=>aap q
theorem r_ta{u:Use}{e:Ev}(hr:aP u)(h:taE u e=0):aP (taU u e):=by
 unfold taE at h;split at h
 ·cases h
 ·split at h
  ·cases h
  ·exact UQ hr (take_chk h) fun q=>aap q
theorem r_ab{u:Use}{e:Ev}(hr:aP u)(h:abE u e=0):aP (abU u e):=by
 unfold abE at h;have hb:=(LH.1 h).2;have hold: ∀q,q<u.nb->aV u.gb u.nb (gI e) q=u.gb q:=fun q hq=>iZ hq;have hlt: ∀q,q<u.nb->(u.gb q).ID<(gI e).ID:=fun q hq=>by
  have:=zI (f:=Bx.ID) (g:=aV u.gb u.nb (gI e)) (n:=u.nb+1) (fun i hi h0=>hb.asc i (Nat.zero_le _) hi h0) hq (by omega);rwa [hold q hq,oL] at this
 have hmv: ∀q,q<u.nv->0<=lQ u.nb u.gb (u.gv q).Box:=fun q hq=>by
  have:=hr.mvs q hq;unfold EH at this;simp only[Bool.or_eq_false_iff,decide_eq_false_iff_not] at this;omega
 have hno:aW u (gI e).ID=⟨0,0⟩:=Zg fun q hq he=>by
  have h1:=DC (hmv q hq);have h2:=hlt _ h1.1;omega
 have hsum: ∀s,fC (abU u e) s u.nb=fC u s u.nb:=fun s=>vN fun i hi=>by
  show aW u (aV u.gb u.nb (gI e) i).ID=_/\(aV u.gb u.nb (gI e) i).Width=_
  rw[hold i hi];exact⟨rfl,rfl⟩
 refine⟨hr.pol,h,hr.shf,hr.mov,hr.req,hr.bkg,hr.VE,hr.lnk,hr.shw,hr.day,hr.nt,hr.nl,hr.nw,fun q hq=> ?_,⟨fun i hi hk=> ?_,fun i hi hk=> ?_⟩,⟨hr.vY.day,hr.vY.out,fun i hi hk=> ?_⟩⟩
 ·have:=hr.mvs q hq;unfold EH at this⊢;show(decide (u.Changed<(u.gv q).Day)||decide (lQ (u.nb+1) (aV u.gb u.nb (gI e)) (u.gv q).Box<0)|| !CP u (u.gv q).From|| !CP u (u.gv q).To)=false
  rw[show lQ (u.nb+1) (aV u.gb u.nb (gI e)) (u.gv q).Box=lQ u.nb u.gb (u.gv q).Box from ix_snoc (hmv q hq)];exact this
 ·by_cases hin:i<u.nb
  ·have h1:(aW u (aV u.gb u.nb (gI e) i).ID).Kind=1:=hk;show(AL u (aW u (aV u.gb u.nb (gI e) i).ID).Of).cO=(aV u.gb u.nb (gI e) i).cO
   rw[hold i hin] at h1⊢;exact hr.hld.cli i hin h1
  ·have h1:(aW u (aV u.gb u.nb (gI e) i).ID).Kind=1:=hk;have hi:i<u.nb+1:=hi;obtain rfl:i=u.nb:=by omega
   rw[oL,hno] at h1;cases h1
 ·by_cases hin:i<u.nb
  ·have h1:(aW u (aV u.gb u.nb (gI e) i).ID).Kind=1:=hk;show fC (abU u e) (aW u (aV u.gb u.nb (gI e) i).ID).Of (u.nb+1)<=(AL u (aW u (aV u.gb u.nb (gI e) i).ID).Of).Length
   rw[hold i hin] at h1⊢;rw[fC,hsum,if_neg (by
    show ¬aW u (aV u.gb u.nb (gI e) u.nb).ID=_
    rw[oL,hno];intro h9;cases h9)]
   have:=hr.hld.sum i hin h1;omega
  ·have h1:(aW u (aV u.gb u.nb (gI e) i).ID).Kind=1:=hk;have hi:i<u.nb+1:=hi;obtain rfl:i=u.nb:=by omega
   rw[oL,hno] at h1;cases h1
 ·have h1:(aW u (aV u.gb u.nb (gI e) i).ID).Kind=3:=hk;show ∃j,j<u.nr/\(u.gr j).State=2/\(u.gr j).Box=(aV u.gb u.nb (gI e) i).ID
  by_cases hin:i<u.nb
  ·rw[hold i hin] at h1⊢;exact hr.vY.box i hin h1
  ·have hi:i<u.nb+1:=hi;obtain rfl:i=u.nb:=by omega
   rw[oL,hno] at h1;cases h1
theorem Iy{u:Use}{m:iE} :EH u m=false↔m.Day<=u.Changed/\0<=lQ u.nb u.gb m.Box/\CP u m.From=true/\CP u m.To=true:=by
 unfold EH;simp only[Bool.or_eq_false_iff,decide_eq_false_iff_not,Bool.not_eq_false'];constructor
 ·rintro⟨⟨⟨a,b⟩,c⟩,d⟩;exact⟨by omega,by omega,c,d⟩
 ·rintro⟨a,b,c,d⟩;exact⟨⟨⟨by omega,by omega⟩,c⟩,d⟩
theorem Xh{u:Use}{p:rU} :CP u p=true↔(p.Kind=1->0<=rV u.nf u.gf p.Of):=by
 unfold CP;simp only[Bool.or_eq_true,bne_iff_ne,decide_eq_true_eq];constructor
 ·rintro(h|h) h1
  ·exact absurd h1 h
  ·exact h
 ·intro h;by_cases h1:p.Kind=1
  ·exact .inr (h h1)
  ·exact .inl h1
theorem r_as{u:Use}{e:Ev}(hr:aP u)(h:asE u e=0):aP (asU u e):=by
 have hs: ∀s,0<=rV u.nf u.gf s->rV (u.nf+1) (aV u.gf u.nf (zO e)) s=rV u.nf u.gf s:=fun s h=>ix_snoc h;refine⟨hr.pol,hr.box,h,hr.mov,hr.req,hr.bkg,hr.VE,hr.lnk,hr.shw,hr.day,hr.nt,hr.nl,hr.nw,fun q hq=> ?_,jo hr rfl (fun _ _=>⟨rfl,rfl,rfl⟩) (fun _=>rfl) (fun s hs1=> ?_),⟨hr.vY.day,hr.vY.out,hr.vY.box⟩⟩
 ·obtain⟨a,b,c,d⟩:=Iy.1 (hr.mvs q hq);have hk: ∀p,CP u p=true->CP (asU u e) p=true:=fun p hp=>by
   rw[Xh] at hp⊢;intro h1;show 0<=rV (u.nf+1) (aV u.gf u.nf (zO e)) p.Of
   rw[hs _ (hp h1)];exact hp h1
  exact Iy.2 ⟨a,b,hk _ c,hk _ d⟩
 ·show aV u.gf u.nf (zO e) (rV (u.nf+1) (aV u.gf u.nf (zO e)) s).toNat=_
  rw[hs s hs1,iZ (Ws hs1).1];rfl
theorem KH{u:Use}{e:Ev}{k:Int}{tp:rU}{g:Nat->dU}(hr:aP u)(hd:u.Changed=e.Day)(hc:kJ u e k tp=0)(hk:0<=lQ u.nb u.gb k)(ht:tp.Kind=1->0<=rV u.nf u.gf tp.Of)(hq:gJ u.nr g=0)(hl:LentS { jE u e k tp with gr:=g })
  (hh:tp.Kind=1->(∀i,i<u.nb->(u.gb i).ID=k->(AL u tp.Of).cO=(u.gb i).cO)/\fC (jE u e k tp) tp.Of u.nb<=(AL u tp.Of).Length):aP { jE u e k tp with gr:=g } :=by
 have hp: ∀x,aW { jE u e k tp with gr:=g } x=if x=k then tp else aW u x:=fun x=>qV hc x
 have hp1: ∀x,aW (jE u e k tp) x=if x=k then tp else aW u x:=fun x=>qV hc x
 have hsum: ∀s,tp≠⟨1,s⟩->∀n,n<=u.nb->fC { jE u e k tp with gr:=g } s n<=fC u s n:=fun s hs n=>by
  induction n with
  |zero=>intro _;exact Int.le_refl _
  |succ n ih=>
   intro hn;have hw:=Dy hr.box (i:=n) (by omega);have:=ih (by omega);rw[fC,fC,hp];show fC _ s n+(if(if(u.gb n).ID=k then tp else aW u (u.gb n).ID)=⟨1,s⟩ then(u.gb n).Width else 0)<=_
   by_cases h1:(u.gb n).ID=k
   ·rw[if_pos h1,if_neg hs];split<;>omega
   ·rw[if_neg h1];split<;>omega
 have hsame: ∀s n,fC { jE u e k tp with gr:=g } s n=fC (jE u e k tp) s n:=fun s n=>vN fun _ _=>⟨rfl,rfl⟩;have hn1: ∀q,q<u.nv->aV u.gv u.nv ⟨e.Day,k,aW u k,tp⟩ q=u.gv q:=fun q h=>iZ h;refine⟨hr.pol,hr.box,hr.shf,car_chk hc,hq,hr.bkg,hr.VE,hr.lnk,hr.shw,hr.day,hr.nt,hr.nl,hr.nw,fun q h=> ?_,⟨fun i hi h1=> ?_,fun i hi h1=> ?_⟩,hl⟩
 ·have h:q<u.nv+1:=h;show EH u (aV u.gv u.nv ⟨e.Day,k,aW u k,tp⟩ q)=false
  by_cases CU:q<u.nv
  ·rw[hn1 q CU];exact hr.mvs q CU
  ·obtain rfl:q=u.nv:=by omega
   rw[oL];exact Iy.2 ⟨by show e.Day<=_;omega,hk,Xh.2 fun h1=>BM hr h1,Xh.2 ht⟩
 ·rw[hp] at h1⊢;show(AL u (if(u.gb i).ID=k then tp else aW u (u.gb i).ID).Of).cO=(u.gb i).cO
  have h1:(if(u.gb i).ID=k then tp else aW u (u.gb i).ID).Kind=1:=h1;by_cases hx:(u.gb i).ID=k
  ·rw[if_pos hx] at h1⊢;exact(hh h1).1 i hi hx
  ·rw[if_neg hx] at h1⊢;exact hr.hld.cli i hi h1
 ·rw[hp] at h1⊢;show fC { jE u e k tp with gr:=g } (if(u.gb i).ID=k then tp else aW u (u.gb i).ID).Of u.nb<=(AL u (if(u.gb i).ID=k then tp else aW u (u.gb i).ID).Of).Length
  have h1:(if(u.gb i).ID=k then tp else aW u (u.gb i).ID).Kind=1:=h1;by_cases hx:(u.gb i).ID=k
  ·rw[if_pos hx] at h1⊢;rw[hsame];exact(hh h1).2
  ·rw[if_neg hx] at h1⊢;by_cases ht1:tp=⟨1,(aW u (u.gb i).ID).Of⟩
   ·have:=(hh (by rw[ht1])).2;rw[ht1] at this;rw[hsame,ht1];exact this
   ·exact Int.le_trans (hsum _ ht1 _ (Nat.le_refl _)) (hr.hld.sum i hi h1)
def zN(u:Use)(s k:Int):Nat->Int
 |0=>0
 |i+1=>zN u s k i+if(u.gb i).ID≠k/\aW u (u.gb i).ID=⟨1,s⟩ then(u.gb i).Width else 0
theorem Ej{n:Nat}{g:Nat->Bx}(h:fO n g=0){i:Nat}(hi:i<n):1<=(g i).Width/\(g i).Width<=10000:=by
 have:=(rO ((kZ h).2 i hi)).1;unfold Gx at this;simp only[Bool.and_eq_true,fJ] at this;omega
theorem YG{u:Use}{s k:Int}(h:fO u.nb u.gb=0): ∀{n:Nat},n<=u.nb->0<=zN u s k n/\zN u s k n<=10000*(n:Int)
 |0,_=>by simp[zN]
 |n+1,hn=>by
  have:=YG (s:=s) (k:=k) h (n:=n) (by omega);have:=Ej h (i:=n) (by omega);rw[zN];split<;>omega
theorem UC{u:Use}{s k t:Int}(h:fO u.nb u.gb=0)(h1:0<=t)(h2:t<=10000): ∀{n i:Nat},i+n=u.nb->nG u s k i (t+zN u s k i) n=t+zN u s k u.nb
 |0,i,hi=>by rw[nG,show i=u.nb by omega]
 |n+1,i,hi=>by
  have hb:=(kZ h).1;have h3:=YG (s:=s) (k:=k) h (n:=i) (by omega);have h4:=Ej h (i:=i) (by omega);rw[nG];have h5:=UC (s:=s) (k:=k) h h1 h2 (n:=n) (i:=i+1) (by omega);rw[zN] at h5;split
  ·rename_i h6;rw[if_pos h6] at h5;rw[aH (by omega) (by omega),Int.add_assoc];exact h5
  ·rename_i h6;rw[if_neg h6,Int.add_zero] at h5;exact h5
theorem bx_uni{n:Nat}{g:Nat->Bx}(h:fO n g=0){i j:Nat}(hi:i<n)(hj:j<n)(he:(g i).ID=(g j).ID):i=j:=by
 have hb:=(LH.1 h).2;have ha: ∀i,i<n->0<i->(g (i-1)).ID<(g i).ID:=fun i hi h0=>hb.asc i (Nat.zero_le _) hi h0;rcases Nat.lt_trichotomy i j with h1|h1|h1
 ·have:=zI (f:=Bx.ID) ha h1 hj;omega
 ·exact h1
 ·have:=zI (f:=Bx.ID) ha h1 hi;omega
theorem car_sum{u:Use}{e:Ev}{k s:Int}(hr:aP u)(hc:kJ u e k ⟨1,s⟩=0){b:Nat}(hb:b<u.nb)(hk:(u.gb b).ID=k): ∀{n:Nat},n<=u.nb->fC (jE u e k ⟨1,s⟩) s n=zN u s k n+if b<n then(u.gb b).Width else 0
 |0,_=>by simp[fC,zN]
 |n+1,hn=>by
  rw[fC,zN,car_sum hr hc hb hk (n:=n) (by omega),qV hc];show _+(if(if(u.gb n).ID=k then(⟨1,s⟩:rU) else aW u (u.gb n).ID)=⟨1,s⟩ then(u.gb n).Width else 0)=_
  by_cases h1:(u.gb n).ID=k
  ·obtain rfl:n=b:=bx_uni hr.box (by omega) hb (by rw[h1,hk]);rw[if_pos h1,if_pos rfl,if_neg (Nat.lt_irrefl _),if_neg (by intro h9;exact h9.1 h1),if_pos (by omega)];try omega
  ·have hne:n≠b:=fun h9=>h1 (by rw[h9];exact hk);rw[if_neg h1];have h2:(b<n)=(b<n+1):=by apply propext;omega
   simp only[h2];by_cases h3:aW u (u.gb n).ID=⟨1,s⟩
   ·rw[if_pos h3,if_pos (show(u.gb n).ID≠k/\aW u (u.gb n).ID=⟨1,s⟩ from⟨h1,h3⟩)];omega
   ·rw[if_neg h3,if_neg (show ¬((u.gb n).ID≠k/\aW u (u.gb n).ID=⟨1,s⟩) from fun h9=>h3 h9.2)];omega
theorem r_mv{u:Use}{e:Ev}(hr:aP u)(hd:u.Changed=e.Day)(h:TS u e=0):aP (jE u e (e.gn 0) ⟨e.gn 1,e.gn 2⟩):=by
 unfold TS at h;split at h
 ·cases h
 ·rename_i h1;split at h
  ·cases h
  ·rename_i h2;split at h
   ·rename_i h3;exact absurd h h3.2
   ·rename_i h3;have hk:0<=lQ u.nb u.gb (e.gn 0):=by omega
    have hka:=DC hk;refine KH (g:=u.gr) hr hd h hk (fun h4=> ?_) hr.req ⟨hr.vY.day,fun i hi hs=> ?_,fun i hi hk3=> ?_⟩ fun h4=> ?_
    ·have h4:e.gn 1=1:=h4;show 0<=rV u.nf u.gf (e.gn 2);omega
    ·show aW (jE u e (e.gn 0) ⟨e.gn 1,e.gn 2⟩) (u.gr i).Box=_
     have h5:=hr.vY.out i hi hs;rw[qV h,if_neg (by intro h6;rw[←h6,h5] at h2;exact h2 (.inl rfl))];exact h5
    ·have h5:(aW (jE u e (e.gn 0) ⟨e.gn 1,e.gn 2⟩) (u.gb i).ID).Kind=3:=hk3;rw[qV h] at h5;split at h5
     ·exact absurd (.inr h5) h2
     ·exact hr.vY.box i hi h5
    ·have h4:e.gn 1=1:=h4;have h5:Gh u (u.gf (rV u.nf u.gf (e.gn 2)).toNat) (u.gb (lQ u.nb u.gb (e.gn 0)).toNat)=0:=Classical.byContradiction fun h6=>h3 ⟨h4,h6⟩;have hs0:0<=rV u.nf u.gf (e.gn 2):=by omega
     have hsa:=Ws hs0;unfold Gh at h5;split at h5
     ·cases h5
     ·rename_i h6;split at h5
      ·cases h5
      ·rename_i h7;have hw:=Ej hr.box hka.1;rw[hsa.2,hka.2] at h7;have h8:=UC (s:=e.gn 2) (k:=e.gn 0) hr.box (t:=(u.gb (lQ u.nb u.gb (e.gn 0)).toNat).Width) (by omega) (by omega) (n:=u.nb) (i:=0) (by omega);rw[zN,Int.add_zero] at h8;rw[h8] at h7;refine⟨fun i hi hi1=> ?_,?_⟩
       ·obtain rfl:=bx_uni hr.box hi hka.1 (by rw[hi1,hka.2]);exact Classical.byContradiction h6
       ·show fC (jE u e (e.gn 0) ⟨e.gn 1,e.gn 2⟩) (e.gn 2) u.nb<=_
        rw[h4] at h⊢;rw[car_sum hr h hka.1 hka.2 (Nat.le_refl _),if_pos hka.1];show _<=(u.gf (rV u.nf u.gf (e.gn 2)).toNat).Length
        omega
theorem vT{r:dU} :D5 r=true↔(mD r.ID=true/\mD r.Reader=true/\mD r.Unit=true/\mD r.Box=true/\uX r.Day=true)/\1<=r.State/\r.State<=5/\r.Day<=r.Changed/\uX r.Changed=true/\(r.State=1->r.Changed=r.Day):=by
 unfold D5;simp only[Bool.and_eq_true,decide_eq_true_eq,Bool.or_eq_true,bne_iff_ne,beq_iff_eq];constructor
 ·rintro⟨⟨⟨⟨⟨⟨⟨⟨⟨a,b⟩,c⟩,d⟩,f⟩,g⟩,h⟩,i⟩,j⟩,k⟩;exact⟨⟨a,b,c,d,f⟩,g,h,i,j,fun h1=>k.elim (fun h2=>absurd h1 h2) id⟩
 ·rintro⟨⟨a,b,c,d,f⟩,g,h,i,j,k⟩;refine⟨⟨⟨⟨⟨⟨⟨⟨⟨a,b⟩,c⟩,d⟩,f⟩,g⟩,h⟩,i⟩,j⟩,?_⟩;by_cases h1:r.State=1
  ·exact .inr (k h1)
  ·exact .inl h1
theorem yP{n:Nat}{g:Nat->dU} :gJ n g=0↔n<=256/\∀i,i<n->AP g i=0:=by
 refine⟨req_all,fun⟨h1,h2⟩=> ?_⟩;unfold gJ;rw[if_neg (by omega)];exact jf.2 h2
theorem Zk{r:dU} :oQ r=true↔r.State=1\/r.State=2:=by unfold oQ;simp
theorem WA{n:Nat}{g:Nat->dU}{i:Nat}{st d:Int}(h:gJ n g=0)(hi:i<n)(hs:2<=st/\st<=5)(h1:(g i).Changed<=d)(h2:d<=1048575)(h3:st=2->(g i).State=1/\∀j,j<n->(g j).State=2->(g j).Box≠(g i).Box):gJ n (iL g i st d)=0:=by
 obtain⟨hn,ha⟩:=yP.1 h;obtain⟨f,hf⟩: ∃f,f=iL g i st d:=⟨_,rfl⟩;have f1:f i= { g i with State:=st,Changed:=d } :=by rw[hf];exact if_pos rfl
 have f2: ∀q,q≠i->f q=g q:=fun q hq=>by rw[hf];exact if_neg hq
 have hid: ∀q,(f q).ID=(g q).ID/\(f q).Day=(g q).Day/\(f q).Box=(g q).Box/\(f q).Reader=(g q).Reader/\(f q).Unit=(g q).Unit:=fun q=>by
  by_cases hq:q=i
  ·rw[hq,f1];exact⟨rfl,rfl,rfl,rfl,rfl⟩
  ·rw[f2 q hq];exact⟨rfl,rfl,rfl,rfl,rfl⟩
 have hop: ∀q,oQ (f q)=true->oQ (g q)=true:=fun q h9=>by
  by_cases hq:q=i
  ·rw[hq,f1] at h9;rw[Zk] at h9;dsimp only at h9;rw[hq,Zk];exact .inl (h3 (by omega)).1
  ·rwa [f2 q hq] at h9
 rw[←hf];refine yP.2 ⟨hn,fun q hq=> ?_⟩;obtain⟨a1,a2,a3,a4⟩:=og.1 (ha q hq);refine og.2 ⟨?_,fun h0=> ?_,fun hst j hj hsj=> ?_,fun ho j hj hoj=> ?_⟩
 ·by_cases hqi:q=i
  ·subst hqi;rw[f1];obtain⟨b1,b2,b3,b4,b5,b6⟩:=vT.1 a1;have:=fJ.1 b1.2.2.2.2;have:=fJ.1 b5;exact vT.2 ⟨b1,by dsimp only;omega,by dsimp only;omega,by dsimp only;omega,fJ.2 ⟨by dsimp only;omega,h2⟩,fun h9=>by dsimp only at h9;omega⟩
  ·rw[f2 q hqi];exact a1
 ·rw[(hid q).1,(hid q).2.1,(hid (q-1)).1,(hid (q-1)).2.1];exact a2 h0
 ·rw[(hid j).2.2.1,(hid q).2.2.1];by_cases hqi:q=i
  ·subst hqi;rw[f1] at hst;rw[f2 j (by omega)] at hsj;exact(h3 hst).2 j (by omega) hsj
  ·rw[f2 q hqi] at hst;by_cases hji:j=i
   ·subst hji;rw[f1] at hsj;exact fun h9=>(h3 hsj).2 q hq hst h9.symm
   ·rw[f2 j hji] at hsj;exact a3 hst j hj hsj
 ·rw[(hid j).2.2.2.1,(hid q).2.2.2.1,(hid j).2.2.2.2,(hid q).2.2.2.2];exact a4 (hop q ho) j hj (hop j hoj)
theorem SQ{can:Nat->Bool}{n:Nat}{g:Nat->dU}{k d:Int}(h:kD can n g k d=0):gJ n g=0/\∃i:Nat,i<n/\nZ n g k=(i:Int)/\(g i).ID=k/\(g i).Changed<=d/\d<=1048575/\can i=true:=by
 unfold kD at h;split at h
 ·cases h
 ·rename_i h1;split at h
  ·cases h
  ·rename_i h2;split at h
   ·cases h
   ·rename_i h3;split at h
    ·cases h
    ·rename_i h4;obtain⟨i,a,b,c,_⟩:=o8 (p:=fun r:dU=>r.ID==k) (n:=n) (g:=g) (by unfold nZ at h2;omega);have hb:nZ n g k=(i:Int):=b;rw[hb,Int.toNat_natCast] at h3 h4;exact⟨Classical.byContradiction h1,i,a,hb,by simpa using c,by omega,by omega,by simpa using h4⟩
theorem req_uni{n:Nat}{g:Nat->dU}(h:gJ n g=0){i j:Nat}(hi:i<n)(hj:j<n)(he:(g i).ID=(g j).ID):i=j:=by
 have ha: ∀i,i<n->0<i->(g (i-1)).ID<(g i).ID:=fun i hi h0=>((og.1 ((yP.1 h).2 i hi)).2.1 h0).1;rcases Nat.lt_trichotomy i j with h1|h1|h1
 ·have:=zI (f:=dU.ID) ha h1 hj;omega
 ·exact h1
 ·have:=zI (f:=dU.ID) ha h1 hi;omega
theorem r_ak{u:Use}{m:Nat}{rg:Nat->Row}{e:Ev}(hr:aP u)(hd:u.Changed=e.Day)(h:akE u m rg e=0):aP (akU u e):=by
 unfold akE at h;split at h
 ·cases h
 ·split at h
  ·cases h
  ·unfold oP at h;split at h
   ·cases h
   ·split at h
    ·cases h
    ·rename_i h1;split at h
     ·cases h
     ·rename_i h2;split at h
      ·cases h
      ·rename_i h3;split at h
       ·cases h
       ·rename_i h4;obtain⟨hn,ha⟩:=yP.1 hr.req;simp only[Bool.not_eq_false,Bool.and_eq_true] at h1;have hlt: ∀q,q<u.nr->aV u.gr u.nr (qA (qj u e)) q=u.gr q:=fun q hq=>iZ hq;have hat:aV u.gr u.nr (qA (qj u e)) u.nr=qA (qj u e):=oL;have hd1:=fJ.1 h1.2;have hq:gJ (u.nr+1) (aV u.gr u.nr (qA (qj u e)))=0:=by
         refine yP.2 ⟨by omega,fun q hq=>og.2 ?_⟩;by_cases CU:q<u.nr
         ·obtain⟨a1,a2,a3,a4⟩:=og.1 (ha q CU);rw[hlt q CU];refine⟨a1,fun h0=>by rw[hlt _ (by omega)];exact a2 h0,fun hs j hj=>by rw[hlt j (by omega)];exact a3 hs j hj,fun hs j hj=>by rw[hlt j (by omega)];exact a4 hs j hj⟩
         ·obtain rfl:q=u.nr:=by omega
          rw[hat];refine⟨vT.2 ⟨⟨h1.1.1.1.1,h1.1.1.1.2,h1.1.1.2,h1.1.2,h1.2⟩,Int.le_refl _,by show(1:Int)<=5;decide,Int.le_refl _,h1.2,fun _=>rfl⟩,fun h0=> ?_,fun hs=> ?_,fun _ j hj ho h5 h6=> ?_⟩
          ·rw[hlt _ (by omega)];show(u.gr (u.nr-1)).ID<(qj u e).ID/\(u.gr (u.nr-1)).Day<=(qj u e).Day
           omega
          ·have hs:(1:Int)=2:=hs;omega
          ·rw[hlt j hj] at ho h5 h6;refine h3 (PV.2 ⟨j,hj,?_⟩);unfold dblP;simp only[Bool.and_eq_true,beq_iff_eq];exact⟨⟨ho,h5⟩,h6⟩
        refine⟨hr.pol,hr.box,hr.shf,hr.mov,hq,hr.bkg,hr.VE,hr.lnk,hr.shw,hr.day,hr.nt,hr.nl,hr.nw,hr.mvs,jo hr rfl (fun _ _=>⟨rfl,rfl,rfl⟩) (fun _=>rfl) (fun _ _=>rfl),⟨fun i hi=> ?_,fun i hi hs=> ?_,fun i hi hk=> ?_⟩⟩
        ·show(aV u.gr u.nr (qA (qj u e)) i).Changed<=u.Changed
         have hi:i<u.nr+1:=hi;by_cases hin:i<u.nr
         ·rw[hlt i hin];exact hr.vY.day i hin
         ·obtain rfl:i=u.nr:=by omega
          rw[hat,hd];exact Int.le_refl _
        ·have hi:i<u.nr+1:=hi;have hs:(aV u.gr u.nr (qA (qj u e)) i).State=2:=hs;show aW u (aV u.gr u.nr (qA (qj u e)) i).Box=⟨3,(aV u.gr u.nr (qA (qj u e)) i).Reader⟩
         by_cases hin:i<u.nr
         ·rw[hlt i hin] at hs⊢;exact hr.vY.out i hin hs
         ·obtain rfl:i=u.nr:=by omega
          rw[hat] at hs;have hs:(1:Int)=2:=hs;omega
        ·obtain⟨j,a,b,c⟩:=hr.vY.box i hi hk;refine⟨j,Nat.lt_succ_of_lt a,?_,?_⟩
         ·show(aV u.gr u.nr (qA (qj u e)) j).State=2
          rw[hlt j a];exact b
         ·show(aV u.gr u.nr (qA (qj u e)) j).Box=_
          rw[hlt j a];exact c
theorem fnd_at{u:Use}{k:Int}{i:Nat}(h:nZ u.nr u.gr k=(i:Int)):jq u k=(u.gr i,true):=by
 unfold jq;have:QC u k=(i:Int):=h;rw[this,if_neg (by omega),Int.toNat_natCast]
theorem WU{u:Use}(hr:aP u){x:Int}(h:(aW u x).Kind≠0):0<=lQ u.nb u.gb x:=by
 obtain⟨q,h1,h2⟩:=plc_moved h;have:=(Iy.1 (hr.mvs q h1)).2.1;rwa [h2] at this
theorem r_en{u:Use}{e:Ev}(hr:aP u)(hd:u.Changed=e.Day)(h:enE u e=0):aP (enU u e):=by
 unfold enE at h;unfold enU;split at h
 ·rename_i h0;rw[if_pos h0];split at h
  ·rename_i h1;exact absurd h h1
  ·rename_i h1;obtain⟨hq,i,hi,e1,e2,e3,e4,e5⟩:=SQ (Classical.byContradiction h1);have hf:=fnd_at e1;rw[hf] at h⊢;unfold RZ at h⊢;rw[e1,Int.toNat_natCast] at h⊢;have hst:(u.gr i).State=2:=by unfold vw at e5;simpa using e5
   have ho:=hr.vY.out i hi hst;have h:kJ u e (u.gr i).Box ⟨2,0⟩=0:=h;have Z4:(iL u.gr i 3 e.Day i).State=3:=by unfold iL iD;rw[if_pos rfl]
   have hne: ∀j,j≠i->iL u.gr i 3 e.Day j=u.gr j:=fun j hj=>if_neg hj;refine KH (g:=iL u.gr i 3 e.Day) hr hd h (WU hr (by rw[ho];show(3:Int)≠0;decide)) (fun h9=> ?_) (WA hq hi (by decide) e3 e4 (fun h9=>absurd h9 (by decide))) ⟨fun j hj=> ?_,fun j hj hs=> ?_,fun b hb hk=> ?_⟩ (fun h9=> ?_)
   ·cases h9
   ·show(iL u.gr i 3 e.Day j).Changed<=u.Changed
    by_cases hji:j=i
    ·subst hji;unfold iL iD;rw[if_pos rfl,hd];exact Int.le_refl _
    ·rw[hne j hji];exact hr.vY.day j hj
   ·have hs:(iL u.gr i 3 e.Day j).State=2:=hs;show aW (jE u e (u.gr i).Box ⟨2,0⟩) (iL u.gr i 3 e.Day j).Box=⟨3,(iL u.gr i 3 e.Day j).Reader⟩
    by_cases hji:j=i
    ·subst hji;rw[Z4] at hs;cases hs
    ·rw[hne j hji] at hs⊢;rw[qV h,if_neg (fun h9=>hji (ZF hq hj hi hs hst h9))];exact hr.vY.out j hj hs
   ·have hk:(aW (jE u e (u.gr i).Box ⟨2,0⟩) (u.gb b).ID).Kind=3:=hk;rw[qV h] at hk;split at hk
    ·cases hk
    ·rename_i h7;obtain⟨j,a,b1,c⟩:=hr.vY.box b hb hk;have hji:j≠i:=fun h9=>h7 (by rw[←c,h9]);exact⟨j,a,by show(iL u.gr i 3 e.Day j).State=2;rw[hne j hji];exact b1,by show(iL u.gr i 3 e.Day j).Box=_;rw[hne j hji];exact c⟩
   ·cases h9
 ·rename_i h0;rw[if_neg h0];split at h
  ·obtain⟨hq,i,hi,e1,e2,e3,e4,e5⟩:=SQ h;rw[e1,Int.toNat_natCast];have hst:(u.gr i).State=1:=by unfold mZ at e5;simpa using e5
   obtain⟨st,hs⟩: ∃st:Int,st=if(e.gn 1==1)=true then 4 else 5:=⟨_,rfl⟩
   have hs1:st=4\/st=5:=by rw[hs];split;exact .inl rfl;exact .inr rfl
   rw[←hs];have Z4:(iL u.gr i st e.Day i).State=st:=by unfold iL iD;rw[if_pos rfl]
   have hne: ∀j,j≠i->iL u.gr i st e.Day j=u.gr j:=fun j hj=>if_neg hj;refine⟨hr.pol,hr.box,hr.shf,hr.mov,WA hq hi (by omega) e3 e4 (fun h9=>by omega),hr.bkg,hr.VE,hr.lnk,hr.shw,hr.day,hr.nt,hr.nl,hr.nw,hr.mvs,jo hr rfl (fun _ _=>⟨rfl,rfl,rfl⟩) (fun _=>rfl) (fun _ _=>rfl),⟨fun j hj=> ?_,fun j hj hs=> ?_,fun b hb hk=> ?_⟩⟩
   ·show(iL u.gr i st e.Day j).Changed<=u.Changed
    by_cases hji:j=i
    ·subst hji;unfold iL iD;rw[if_pos rfl,hd];exact Int.le_refl _
    ·rw[hne j hji];exact hr.vY.day j hj
   ·have hs:(iL u.gr i st e.Day j).State=2:=hs;show aW u (iL u.gr i st e.Day j).Box=⟨3,(iL u.gr i st e.Day j).Reader⟩
    by_cases hji:j=i
    ·subst hji;rw[Z4] at hs;omega
    ·rw[hne j hji] at hs⊢;exact hr.vY.out j hj hs
   ·obtain⟨j,a,b1,c⟩:=hr.vY.box b hb hk;have hji:j≠i:=fun h9=>by rw[h9,hst] at b1;cases b1
    exact⟨j,a,by show(iL u.gr i st e.Day j).State=2;rw[hne j hji];exact b1,by show(iL u.gr i st e.Day j).Box=_;rw[hne j hji];exact c⟩
  ·cases h
theorem r_ld{u:Use}{m:Nat}{rg:Nat->Row}{e:Ev}(hr:aP u)(hd:u.Changed=e.Day)(h:GL u m rg e=0):aP (ldU u e):=by
 unfold GL at h;split at h
 ·cases h
 ·rename_i h0;unfold xJ at h;split at h
  ·cases h
  ·split at h
   ·cases h
   ·split at h
    ·cases h
    ·rename_i h1;split at h
     ·rename_i h2;exact absurd h h2
     ·rename_i h2;split at h
      ·rename_i h3;exact absurd h h3
      ·rename_i h3;split at h
       ·cases h
       ·rename_i h4;obtain⟨hq,i,hi,e1,e2,e3,e4,e5⟩:=SQ (Classical.byContradiction h2);have h3:=Classical.byContradiction h3;unfold ldU Xf;obtain⟨r,hrr⟩: ∃r,r=(jq u (e.gn 0)).1:=⟨_,rfl⟩;have hix:0<=QC u (e.gn 0):=by
         apply Classical.byContradiction;intro h9;exact h0 (by unfold jq;rw[if_pos (by omega)])
        obtain⟨i',a1,a2,a3,_⟩:=o8 (p:=fun r:dU=>r.ID==e.gn 0) (n:=u.nr) (g:=u.gr) hix;have hf:=fnd_at (u:=u) (k:=e.gn 0) (i:=i') a2;rw[hf] at hrr e1 e2 h1 h3 h4⊢;have hrr:r=u.gr i':=hrr;dsimp only at e1 e2 h1 h3 h4⊢;obtain rfl:i=i':=req_uni hq hi a1 e2;rw[e1,Int.toNat_natCast];unfold kN Zn at e5;have hlb:MJ u.nr u.gr (u.gr i).Box=false:=by
         cases hb:MJ u.nr u.gr (u.gr i).Box with
         |false=>rfl
         |true=>rw[if_pos hb] at e5;simp at e5
        rw[if_neg (by rw[hlb];decide)] at e5;have hno: ∀j,j<u.nr->(u.gr j).State=2->(u.gr j).Box≠(u.gr i).Box:=fun j hj hs hb=>by
         have:=LU.1 hlb j hj;unfold Rn at this;simp[hs,hb] at this
        have hst:(u.gr i).State=1:=by
         have e5:idxFrom (PY (u.gr i).Box) (lst u.nr u.gr) 0=(i:Int):=by simpa using e5
         obtain⟨q,b1,b2,b3,_⟩:=o8 (p:=PY (u.gr i).Box) (n:=u.nr) (g:=u.gr) (by omega);obtain rfl:q=i:=by omega
         unfold PY at b3;simp at b3;exact b3
        have Z4:(iL u.gr i 2 e.Day i).State=2/\(iL u.gr i 2 e.Day i).Box=(u.gr i).Box/\(iL u.gr i 2 e.Day i).Reader=(u.gr i).Reader:=by unfold iL iD;rw[if_pos rfl];exact⟨rfl,rfl,rfl⟩
        have hne: ∀j,j≠i->iL u.gr i 2 e.Day j=u.gr j:=fun j hj=>if_neg hj;have hv:=KH (g:=iL u.gr i 2 e.Day) hr hd h3 (WU hr h1) (fun h9=>nomatch h9) (WA hq hi (by decide) e3 e4 (fun _=>⟨hst,hno⟩)) ⟨fun j hj=>by
          show(iL u.gr i 2 e.Day j).Changed<=u.Changed
          by_cases hji:j=i
          ·subst hji;unfold iL iD;rw[if_pos rfl,hd];exact Int.le_refl _
          ·rw[hne j hji];exact hr.vY.day j hj,
         fun j hj hs=>by
          have hs:(iL u.gr i 2 e.Day j).State=2:=hs;show aW (jE u e (u.gr i).Box ⟨3,(u.gr i).Reader⟩) (iL u.gr i 2 e.Day j).Box=⟨3,(iL u.gr i 2 e.Day j).Reader⟩
          by_cases hji:j=i
          ·subst hji;rw[Z4.2.1,Z4.2.2,qV h3,if_pos rfl]
          ·rw[hne j hji] at hs⊢;rw[qV h3,if_neg (hno j hj hs)];exact hr.vY.out j hj hs,
         fun b hb hk=>by
          have hk:(aW (jE u e (u.gr i).Box ⟨3,(u.gr i).Reader⟩) (u.gb b).ID).Kind=3:=hk;rw[qV h3] at hk;split at hk
          ·rename_i h7;exact⟨i,hi,Z4.1,by show(iL u.gr i 2 e.Day i).Box=(u.gb b).ID;rw[Z4.2.1];exact h7.symm⟩
          ·obtain⟨j,a,b1,c⟩:=hr.vY.box b hb hk;have hji:j≠i:=fun h9=>by rw[h9,hst] at b1;cases b1
           exact⟨j,a,by show(iL u.gr i 2 e.Day j).State=2;rw[hne j hji];exact b1,by show(iL u.gr i 2 e.Day j).Box=_;rw[hne j hji];exact c⟩⟩ (fun h9=>nomatch h9)
        have hform:=(vT.1 (og.1 ((yP.1 hq).2 i hi)).1).1;have hcn: ∀q,q<(MN u (u.gr i).Box).1->mD ((MN u (u.gr i).Box).2 q).Unit=true:=fun q hq=>by
         unfold MN at hq⊢;split at hq
         ·exact absurd hq (Nat.not_lt_zero _)
         ·rename_i h9;rw[if_neg h9];have hb:=DC (n:=u.nb) (g:=u.gb) (s:=(u.gr i).Box) (by omega);have:=(rO ((kZ hr.box).2 _ hb.1)).2.2.2 q hq;unfold pJ at this;rw[Bool.and_eq_true] at this;exact this.1
        have hlo: ∀q,q<u.nw->uD u e (u.gr i) (MN u (u.gr i).Box).2 q=u.gw q:=fun q hq=>if_pos hq;have hhi: ∀q,¬q<u.nw->uD u e (u.gr i) (MN u (u.gr i).Box).2 q=⟨(u.gr i).Reader,((MN u (u.gr i).Box).2 (q-u.nw)).Unit,e.Day⟩:=fun q hq=>if_neg hq;have hday:=fJ.1 hr.day;refine⟨hv.pol,hv.box,hv.shf,hv.mov,hv.req,hv.bkg,hv.VE,hv.lnk,fun q hq=> ?_,hv.day,hv.nt,hv.nl,by show u.nw+_<=1024;omega,hv.mvs,jo hv rfl (fun _ _=>⟨rfl,rfl,rfl⟩) (fun _=>rfl) (fun _ _=>rfl),⟨hv.vY.day,hv.vY.out,hv.vY.box⟩⟩;have hq:q<u.nw+(MN u (u.gr i).Box).1:=hq;show mD (uD u e (u.gr i) (MN u (u.gr i).Box).2 q).Reader=true/\mD (uD u e (u.gr i) (MN u (u.gr i).Box).2 q).Unit=true/\qc (uD u e (u.gr i) (MN u (u.gr i).Box).2 q).Day 0 u.Changed=true/\(0<q->(uD u e (u.gr i) (MN u (u.gr i).Box).2 (q-1)).Day<=(uD u e (u.gr i) (MN u (u.gr i).Box).2 q).Day)
        by_cases CU:q<u.nw
        ·rw[hlo q CU];obtain⟨b1,b2,b3,b4⟩:=hr.shw q CU;exact⟨b1,b2,b3,fun h9=>by rw[hlo _ (by omega)];exact b4 h9⟩
        ·rw[hhi q CU];refine⟨hform.2.1,hcn _ (by omega),fJ.2 ⟨by dsimp only;omega,by dsimp only;omega⟩,fun h9=> ?_⟩;by_cases hq1:q-1<u.nw
         ·rw[hlo _ hq1];have:=fJ.1 (hr.shw _ hq1).2.2.1;dsimp only;omega
         ·rw[hhi _ hq1];exact Int.le_refl _
theorem r_bo{u:Use}{e:Ev}(hr:aP u)(h:boE u e=0):aP (boU u e):=by
 unfold boE at h;split at h
 ·cases h
 ·unfold LV at h;split at h
  ·cases h
  ·rename_i h1;split at h
   ·cases h
   ·rename_i h2;have hb:qh u.lT u.nk u.gk=0:=Classical.byContradiction h1;have hc:qh u.lT (u.nk+1) (aV u.gk u.nk (FB e))=0:=by
     unfold qh at hb⊢;split at hb
     ·cases hb
     ·rename_i h3;split at hb
      ·cases hb
      ·rw[if_neg h3,if_neg (by omega)];rw[jf] at hb⊢;have hl: ∀q,q<=u.nk->∀b,Us u.lT q (aV u.gk u.nk (FB e)) b=Us u.lT q u.gk b:=fun q hq b=>by
        have h5:lst q (aV u.gk u.nk (FB e))=lst q u.gk:=List.map_congr_left fun i hi=>iZ (by have:=List.mem_range.1 hi;omega);have h6: ∀s k,k<=q->BG (aV u.gk u.nk (FB e)) s k=BG u.gk s k:=fun s k=>by
         induction k with
         |zero=>intro _;rfl
         |succ k ih=>intro hk;rw[BG,BG,ih (by omega),iZ (by omega)]
        have h7: ∀d k,k<=q->l7 (aV u.gk u.nk (FB e)) d k=l7 u.gk d k:=fun d k=>by
         induction k with
         |zero=>intro _;rfl
         |succ k ih=>intro hk;rw[l7,l7,ih (by omega),iZ (by omega)]
        unfold Us busyB fullB;rw[h5,h6 _ q (Nat.le_refl _)];simp only[h7 _ q (Nat.le_refl _)];by_cases h0:0<q
        ·rw[iZ (g:=u.gk) (by omega)]
        ·simp only[h0,false_and]
       intro q hq;rw[hl q (by omega)];by_cases CU:q<u.nk
       ·rw[iZ CU];exact hb q CU
       ·obtain rfl:q=u.nk:=by omega
        rw[oL];exact h
    exact⟨hr.pol,hr.box,hr.shf,hr.mov,hr.req,hc,hr.VE,hr.lnk,hr.shw,hr.day,hr.nt,hr.nl,hr.nw,hr.mvs,jo hr rfl (fun _ _=>⟨rfl,rfl,rfl⟩) (fun _=>rfl) (fun _ _=>rfl),⟨hr.vY.day,hr.vY.out,hr.vY.box⟩⟩
theorem UR{u:Use}{n:Nat}{g:Nat->fU}(hr:aP u)(hn:n<=64)(hb: ∀i,i<n->lK (g i)=0/\(0<i->(g (i-1)).ID<(g i).ID)):aP { u with nt:=n,gt:=g } :=
 ⟨hr.pol,hr.box,hr.shf,hr.mov,hr.req,hr.bkg,hb,hr.lnk,hr.shw,hr.day,hn,hr.nl,hr.nw,hr.mvs,jo hr rfl (fun _ _=>⟨rfl,rfl,rfl⟩) (fun _=>rfl) (fun _ _=>rfl),⟨hr.vY.day,hr.vY.out,hr.vY.box⟩⟩
theorem Dv{x:fU} :lK x=0↔Oz x=true/\(qO x.u x.nu=true/\qO x.b x.nb=true)/\badB x=false/\qg x=true:=by
 constructor
 ·intro h;unfold lK at h;split at h
  ·cases h
  ·rename_i h1;split at h
   ·cases h
   ·rename_i h2;split at h
    ·cases h
    ·rename_i h3;split at h
     ·cases h
     ·rename_i h4;simp only[Bool.or_eq_true,Bool.not_eq_true',not_or,Bool.not_eq_false] at h2;exact⟨by simpa using h1,h2,by simpa using h3,by simpa using h4⟩
 ·rintro⟨h1,h2,h3,h4⟩;exact chk_0 h1 (by rw[h2.1,h2.2];rfl) h3 h4
theorem setG_id{g:Nat->fU}{i:Nat}{x:fU}(h:x.ID=(g i).ID)(q:Nat):(iD g i x q).ID=(g q).ID:=by
 unfold iD;split
 ·rename_i h1;rw[h1];exact h
 ·rfl
theorem UO{u:Use}{i:Nat}{x:fU}(hr:aP u)(hi:i<u.nt)(hx:lK x=0)(hid:x.ID=(u.gt i).ID):aP { u with gt:=iD u.gt i x } :=by
 refine UR hr hr.nt fun q hq=>⟨?_,fun h0=> ?_⟩
 ·unfold iD;split
  ·exact hx
  ·exact(hr.VE q hq).1
 ·rw[setG_id hid,setG_id hid];exact(hr.VE q hq).2 h0
theorem r_ad{u:Use}{e:Ev}(hr:aP u)(h:adE u e=0):aP (adU u e):=by
 unfold adE at h;split at h
 ·cases h
 ·rename_i h1;split at h
  ·cases h
  ·rename_i h2;have hx:lK (adP u e).1=0/\(adP u e).1.ID=e.gn 0:=by
    unfold adP IC at h⊢;split at h
    ·rename_i h3;exact absurd h h3
    ·rename_i h3;rw[if_neg h3];exact⟨Classical.byContradiction h3,rfl⟩
   refine UR hr (by omega) fun q hq=> ?_;by_cases CU:q<u.nt
   ·rw[iZ CU,iZ (by omega)];exact hr.VE q CU
   ·obtain rfl:q=u.nt:=by omega
    rw[oL];refine⟨hx.1,fun h0=> ?_⟩;rw[iZ (by omega),hx.2];omega
theorem bt_at{u:Use}{e:Ev}(h: ¬sJ u e<0):(sJ u e).toNat<u.nt:=by have:=XZ u e;omega
theorem Y2{x:fU}(h:(nS x).2=0):lK (nS x).1=0/\(nS x).1.ID=x.ID:=by
 unfold nS at h⊢;split at h
 ·cases h
 ·rename_i h1;split at h
  ·cases h
  ·rename_i h2;split at h
   ·cases h
   ·rename_i h3;rw[if_neg h1,if_neg h2,if_neg h3];refine⟨?_,rfl⟩;have h1:=Classical.byContradiction h1;have hr:=zy h1;obtain⟨a1,a2,a3,a4⟩:=Dv.1 h1;refine Dv.2 ⟨(Hy _).2 ⟨hr.id1,hr.id2,hr.d1,hr.d2,?_,?_,hr.n1,hr.n2,hr.u1,hr.s1,hr.s2,hr.a1,hr.a2⟩,⟨a2.1,rfl⟩,?_,?_⟩
    ·have:=hr.r1;show 0<=x.Round+1;omega
    ·have:=hr.r2;show x.Round+1<=1024;omega
    ·unfold badB Y3;simp
    ·unfold qg Y3;have:=hr.r1;simp;omega
theorem RF{x:fU}{m:Nat}{h:Nat->Int}(h0:(l9 x m h).2=0):lK (l9 x m h).1=0/\(l9 x m h).1.ID=x.ID:=by
 unfold l9 at h0⊢;split at h0
 ·cases h0
 ·rename_i h1;split at h0
  ·cases h0
  ·rename_i h2;split at h0
   ·cases h0
   ·rename_i h3;split at h0
    ·cases h0
    ·rename_i h4;rw[if_neg h1,if_neg h2,if_neg h3,if_neg h4];refine⟨?_,rfl⟩;have h1:=Classical.byContradiction h1;have h2:=Classical.byContradiction h2;have hr:=zy h1;obtain⟨a1,a2,a3,a4⟩:=Dv.1 h1;have hrd:1<=x.Round:=by
      unfold qg at a4;rw[if_neg (by omega),if_pos h2] at a4;simp only[Bool.and_eq_true,decide_eq_true_eq] at a4;exact a4.1
     refine Dv.2 ⟨(Hy _).2 ⟨hr.id1,hr.id2,hr.d1,hr.d2,hr.r1,hr.r2,hr.n1,hr.n2,hr.u1,hr.s1,hr.s2,hr.a1,hr.a2⟩,⟨a2.1,(by simpa using h3:qO h m=true)⟩,?_,?_⟩
     ·show(decide (0<m)&& !YJ (lN (IV x m h) x.Round).length (nth (lN (IV x m h) x.Round)) m h)=false
      rw[show lN (IV x m h) x.Round=lN x x.Round from rfl];rw[show YJ (lN x x.Round).length (nth (lN x x.Round)) m h=true by simpa using h4];simp
     ·unfold qg IV;by_cases h5:x.Accept<(m:Int)
      ·simp[h5,hrd]
      ·simp[h5,hrd];omega
theorem r_sc{u:Use}{e:Ev}(hr:aP u)(h:scE u e=0):aP (scU u e):=by
 unfold scE at h;split at h
 ·cases h
 ·rename_i h1;exact UO hr (bt_at h1) (Y2 h).1 (Y2 h).2
theorem link_zero{g:Nat->lD}{n:Nat}{x:fU}{f:Int}(h:jZ g n x f=0): ¬(f<1\/1073741824-(x.nu:Int)+1<f)/\¬(0<n/\f<=(g (n-1)).mM)/\¬1024<n+x.nu:=by
 unfold jZ at h;split at h
 ·cases h
 ·split at h
  ·cases h
  ·split at h
   ·cases h
   ·rename_i h6;split at h
    ·cases h
    ·rename_i h7;split at h
     ·cases h
     ·split at h
      ·cases h
      ·rename_i h9;exact⟨h6,h7,h9⟩
theorem r_ip{u:Use}{e:Ev}(hr:aP u)(h:ZO u e=0):aP (ipU u e):=by
 unfold ZO at h;split at h
 ·cases h
 ·rename_i h1;split at h
  ·rename_i h2;exact absurd h h2
  ·rename_i h2;have h2:(vZ u e).2=0:=Classical.byContradiction h2;have hs:=UO hr (bt_at h1) (RF h2).1 (RF h2).2;unfold ipU;split at h
   ·rename_i h3;rw[if_pos h3];exact hs
   ·rename_i h3;rw[if_neg h3];have hn:=ZC h;obtain⟨h6,h7,h9⟩:=link_zero h;have hx:=zy (RF h2).1;have hx:Rng (vZ u e).1:=hx;refine⟨hs.pol,hs.box,hs.shf,hs.mov,hs.req,hs.bkg,hs.VE,fun i hi=> ?_,hs.shw,hs.day,hs.nt,by show CG _ _ _ _<=1024;rw[hn];omega,hs.nw,hs.mvs,jo hs rfl (fun _ _=>⟨rfl,rfl,rfl⟩) (fun _=>rfl) (fun _ _=>rfl),⟨hs.vY.day,hs.vY.out,hs.vY.box⟩⟩;have hi:i<CG u.gl u.nl (vZ u e).1 (Yk u):=hi;rw[hn] at hi;show mD (xI u.gl u.nl (vZ u e).1.u (Yk u) i).mM=true/\mD (xI u.gl u.nl (vZ u e).1.u (Yk u) i).Unit=true/\(0<i->(xI u.gl u.nl (vZ u e).1.u (Yk u) (i-1)).mM<(xI u.gl u.nl (vZ u e).1.u (Yk u) i).mM)
    by_cases hin:i<u.nl
    ·rw[II hin];obtain⟨b1,b2,b3⟩:=hr.lnk i hin;exact⟨b1,b2,fun h0=>by rw[II (by omega)];exact b3 h0⟩
    ·obtain⟨j,rfl⟩: ∃j,i=u.nl+j:=⟨i-u.nl,by omega⟩;rw[Rl];refine⟨fJ.2 ⟨by dsimp only;omega,by dsimp only;omega⟩,fJ.2 (hx.u1 j (by omega)),fun h0=> ?_⟩;cases j with
     |zero=>rw[II (by omega)];dsimp only;simp only[Nat.add_zero];omega
     |succ j=>rw[show u.nl+(j+1)-1=u.nl+j by omega,Rl];dsimp only;omega
theorem right_ev{u:Use}{m:Nat}{rg:Nat->Row}{e:Ev}(hr:aP u)(hd:u.Changed=e.Day)(h:Vp u m rg e=0):aP (Ny u e):=by
 unfold Vp at h;unfold Ny;by_cases k40:e.Kind=40
 ·rw[if_pos k40] at h⊢;exact r_cl hr h
 rw[if_neg k40] at h⊢;by_cases k41:e.Kind=41
 ·rw[if_pos k41] at h⊢;exact r_ec hr h
 rw[if_neg k41] at h⊢;by_cases k42:e.Kind=42
 ·rw[if_pos k42] at h⊢;exact r_ap hr h
 rw[if_neg k42] at h⊢;by_cases k43:e.Kind=43
 ·rw[if_pos k43] at h⊢;exact r_le hr h
 rw[if_neg k43] at h⊢;by_cases k44:e.Kind=44
 ·rw[if_pos k44] at h⊢;exact r_aa hr h
 rw[if_neg k44] at h⊢;by_cases k45:e.Kind=45
 ·rw[if_pos k45] at h⊢;exact r_gr hr h
 rw[if_neg k45] at h⊢;by_cases k46:e.Kind=46
 ·rw[if_pos k46] at h⊢;exact r_rv hr h
 rw[if_neg k46] at h⊢;by_cases k47:e.Kind=47
 ·rw[if_pos k47] at h⊢;exact r_ss hr h
 rw[if_neg k47] at h⊢;by_cases k48:e.Kind=48
 ·rw[if_pos k48] at h⊢;exact r_ab hr h
 rw[if_neg k48] at h⊢;by_cases k49:e.Kind=49
 ·rw[if_pos k49] at h⊢;exact r_pu hr h
 rw[if_neg k49] at h⊢;by_cases k50:e.Kind=50
 ·rw[if_pos k50] at h⊢;exact r_ta hr h
 rw[if_neg k50] at h⊢;by_cases k51:e.Kind=51
 ·rw[if_pos k51] at h⊢;exact r_as hr h
 rw[if_neg k51] at h⊢;by_cases k52:e.Kind=52
 ·rw[if_pos k52] at h⊢;exact r_mv hr hd h
 rw[if_neg k52] at h⊢;by_cases k53:e.Kind=53
 ·rw[if_pos k53] at h⊢;exact r_ak hr hd h
 rw[if_neg k53] at h⊢;by_cases k54:e.Kind=54
 ·rw[if_pos k54] at h⊢;exact r_ld hr hd h
 rw[if_neg k54] at h⊢;by_cases k55:e.Kind=55
 ·rw[if_pos k55] at h⊢;exact r_en hr hd h
 rw[if_neg k55] at h⊢;by_cases k56:e.Kind=56
 ·rw[if_pos k56] at h⊢;exact r_bo hr h
 rw[if_neg k56] at h⊢;by_cases k57:e.Kind=57
 ·rw[if_pos k57] at h⊢;exact r_ad hr h
 rw[if_neg k57] at h⊢;by_cases k58:e.Kind=58
 ·rw[if_pos k58] at h⊢;exact r_sc hr h
 rw[if_neg k58] at h⊢;by_cases k59:e.Kind=59
 ·rw[if_pos k59] at h⊢;exact r_ip hr h
 rw[if_neg k59] at h⊢;exact hr
theorem Qh(u:Use)(d s k:Int): ∀(n i:Nat) (t:Int),nG { u with Changed:=d } s k i t n=nG u s k i t n
 |0,_,_=>rfl
 |n+1,i,t=>by
  rw[nG,nG];exact Qh u d s k n (i+1) _
theorem mvE_day(u:Use)(e:Ev)(d:Int):TS { u with Changed:=d } e=TS u e:=by
 have h: ∀s b,Gh { u with Changed:=d } s b=Gh u s b:=fun s b=>by
  unfold Gh;rw[Qh]
 unfold TS;simp only[h];rfl
theorem evU_day(u:Use)(e:Ev)(d:Int):({ Ny u e with Changed:=d } :Use)=Ny { u with Changed:=d } e:=by
 unfold Ny;by_cases k40:e.Kind=40
 ·rw[if_pos k40,if_pos k40];rfl
 rw[if_neg k40,if_neg k40];by_cases k41:e.Kind=41
 ·rw[if_pos k41,if_pos k41];rfl
 rw[if_neg k41,if_neg k41];by_cases k42:e.Kind=42
 ·rw[if_pos k42,if_pos k42];rfl
 rw[if_neg k42,if_neg k42];by_cases k43:e.Kind=43
 ·rw[if_pos k43,if_pos k43];rfl
 rw[if_neg k43,if_neg k43];by_cases k44:e.Kind=44
 ·rw[if_pos k44,if_pos k44];rfl
 rw[if_neg k44,if_neg k44];by_cases k45:e.Kind=45
 ·rw[if_pos k45,if_pos k45];rfl
 rw[if_neg k45,if_neg k45];by_cases k46:e.Kind=46
 ·rw[if_pos k46,if_pos k46];rfl
 rw[if_neg k46,if_neg k46];by_cases k47:e.Kind=47
 ·rw[if_pos k47,if_pos k47];rfl
 rw[if_neg k47,if_neg k47];by_cases k48:e.Kind=48
 ·rw[if_pos k48,if_pos k48];rfl
 rw[if_neg k48,if_neg k48];by_cases k49:e.Kind=49
 ·rw[if_pos k49,if_pos k49];rfl
 rw[if_neg k49,if_neg k49];by_cases k50:e.Kind=50
 ·rw[if_pos k50,if_pos k50];rfl
 rw[if_neg k50,if_neg k50];by_cases k51:e.Kind=51
 ·rw[if_pos k51,if_pos k51];rfl
 rw[if_neg k51,if_neg k51];by_cases k52:e.Kind=52
 ·rw[if_pos k52,if_pos k52];rfl
 rw[if_neg k52,if_neg k52];by_cases k53:e.Kind=53
 ·rw[if_pos k53,if_pos k53];rfl
 rw[if_neg k53,if_neg k53];by_cases k54:e.Kind=54
 ·rw[if_pos k54,if_pos k54];rfl
 rw[if_neg k54,if_neg k54];by_cases k55:e.Kind=55
 ·rw[if_pos k55,if_pos k55];(unfold enU;split<;>rfl)
 rw[if_neg k55,if_neg k55];by_cases k56:e.Kind=56
 ·rw[if_pos k56,if_pos k56];rfl
 rw[if_neg k56,if_neg k56];by_cases k57:e.Kind=57
 ·rw[if_pos k57,if_pos k57];rfl
 rw[if_neg k57,if_neg k57];by_cases k58:e.Kind=58
 ·rw[if_pos k58,if_pos k58];rfl
 rw[if_neg k58,if_neg k58];by_cases k59:e.Kind=59
 ·rw[if_pos k59,if_pos k59];(unfold ipU;by_cases h:(vZ u e).1.State≠3;(rw[if_pos h,if_pos (show(vZ { u with Changed:=d } e).1.State≠3 from h)];rfl);(rw[if_neg h,if_neg (show ¬(vZ { u with Changed:=d } e).1.State≠3 from h)];rfl))
 rw[if_neg k59,if_neg k59]
theorem evE_day(u:Use)(m:Nat)(rg:Nat->Row)(e:Ev)(d:Int):Vp { u with Changed:=d } m rg e=Vp u m rg e:=by
 unfold Vp;by_cases k40:e.Kind=40
 ·rw[if_pos k40,if_pos k40];try rfl
 rw[if_neg k40,if_neg k40];by_cases k41:e.Kind=41
 ·rw[if_pos k41,if_pos k41];try rfl
 rw[if_neg k41,if_neg k41];by_cases k42:e.Kind=42
 ·rw[if_pos k42,if_pos k42];try rfl
 rw[if_neg k42,if_neg k42];by_cases k43:e.Kind=43
 ·rw[if_pos k43,if_pos k43];try rfl
 rw[if_neg k43,if_neg k43];by_cases k44:e.Kind=44
 ·rw[if_pos k44,if_pos k44];try rfl
 rw[if_neg k44,if_neg k44];by_cases k45:e.Kind=45
 ·rw[if_pos k45,if_pos k45];try rfl
 rw[if_neg k45,if_neg k45];by_cases k46:e.Kind=46
 ·rw[if_pos k46,if_pos k46];try rfl
 rw[if_neg k46,if_neg k46];by_cases k47:e.Kind=47
 ·rw[if_pos k47,if_pos k47];try rfl
 rw[if_neg k47,if_neg k47];by_cases k48:e.Kind=48
 ·rw[if_pos k48,if_pos k48];try rfl
 rw[if_neg k48,if_neg k48];by_cases k49:e.Kind=49
 ·rw[if_pos k49,if_pos k49];try rfl
 rw[if_neg k49,if_neg k49];by_cases k50:e.Kind=50
 ·rw[if_pos k50,if_pos k50];try rfl
 rw[if_neg k50,if_neg k50];by_cases k51:e.Kind=51
 ·rw[if_pos k51,if_pos k51];try rfl
 rw[if_neg k51,if_neg k51];by_cases k52:e.Kind=52
 ·rw[if_pos k52,if_pos k52];exact mvE_day u e d
 rw[if_neg k52,if_neg k52];by_cases k53:e.Kind=53
 ·rw[if_pos k53,if_pos k53];try rfl
 rw[if_neg k53,if_neg k53];by_cases k54:e.Kind=54
 ·rw[if_pos k54,if_pos k54];try rfl
 rw[if_neg k54,if_neg k54];by_cases k55:e.Kind=55
 ·rw[if_pos k55,if_pos k55];try rfl
 rw[if_neg k55,if_neg k55];by_cases k56:e.Kind=56
 ·rw[if_pos k56,if_pos k56];try rfl
 rw[if_neg k56,if_neg k56];by_cases k57:e.Kind=57
 ·rw[if_pos k57,if_pos k57];try rfl
 rw[if_neg k57,if_neg k57];by_cases k58:e.Kind=58
 ·rw[if_pos k58,if_pos k58];try rfl
 rw[if_neg k58,if_neg k58];by_cases k59:e.Kind=59
 ·rw[if_pos k59,if_pos k59];try rfl
 rw[if_neg k59,if_neg k59]
theorem UE{u:Use}{m:Nat}{rg:Nat->Row}{e:Ev}(h:qo u m rg e=0):okB e=true/\u.Changed<=e.Day/\e.Day<=1048575/\Vp u m rg e=0:=by
 unfold qo at h;split at h
 ·cases h
 ·rename_i h1;split at h
  ·cases h
  ·split at h
   ·cases h
   ·exact⟨by simpa using h1,by omega,by omega,h⟩
theorem UN{u:Use}{m:Nat}{rg:Nat->Row}{e:Ev}(hr:aP u)(h:qo u m rg e=0):aP (Ot u e):=by
 obtain⟨_,h1,h2,h3⟩:=UE h;unfold Ot;rw[evU_day];exact right_ev (m:=m) (rg:=rg) (right_day hr h1 h2) rfl (by rw[evE_day];exact h3)
theorem named_sz{s:ByteArray}(h:F8 s=true):s.size<=64:=by
 unfold F8 at h;simp only[Bool.and_eq_true,decide_eq_true_eq] at h;omega
theorem sub_len{p:oC}(h:eP p=0){i:Nat}(hi:i<p.ns):(p.gs i).np<=p.np:=by
 obtain⟨⟨_,hp,_⟩,_,hs⟩:=qC.1 h;have h1:=(Wl.1 hs).2 i hi;unfold Hl at h1;split at h1
 ·cases h1
 ·split at h1
  ·cases h1
  ·split at h1
   ·cases h1
   ·rename_i h2;have ha:qO (p.gs i).ps (p.gs i).np=true:=by simpa using fun h9=>h2 (.inr h9)
    have ha:=(DI _ _).1 ha;unfold YI at h1;rw[jf] at h1;have hf: ∀q,q<(p.gs i).np->∃j,j<p.np/\(p.gp j).ID=(p.gs i).ps q:=fun q hq=>by
     have:=h1 q hq;split at this
     ·cases this
     ·rename_i h3;exact CV.1 (by simpa using h3)
    have hasc: ∀j,j<p.np->0<j->(p.gp (j-1)).ID<(p.gp j).ID:=fun j hj=>(Ie.1 ((Pv.1 hp).2 j hj)).2;have key: ∀q,q<(p.gs i).np->∀j,j<p.np->(p.gp j).ID=(p.gs i).ps q->q<=j:=by
     intro q;induction q with
     |zero=>intro _ j _ _;exact Nat.zero_le _
     |succ q ih=>
      intro hq j hj he;obtain⟨k,hk,hke⟩:=hf q (by omega);have h5:=ih (by omega) k hk hke;have h6:=ha (q+1) (by omega) hq;rw[Nat.add_sub_cancel] at h6;have: ¬j<=k:=fun h7=>by
       rcases Nat.lt_or_eq_of_le h7 with h8|h8
       ·have:=zI (f:=iq.ID) hasc h8 hk;omega
       ·rw[h8] at he;omega
      omega
    by_cases h0:(p.gs i).np=0
    ·omega
    ·obtain⟨j,hj,he⟩:=hf ((p.gs i).np-1) (by omega);have:=key _ (by omega) j hj he;omega
theorem bat_len{x:fU}(h:lK x=0):x.nu<=60/\x.nb<=60:=by
 have hr:=zy h;obtain⟨_,a2,a3,_⟩:=Dv.1 h;have hn:=hr.n2;have hn:x.nu<=60:=by omega
 refine⟨hn,?_⟩;by_cases h0:x.nb=0
 ·omega
 ·unfold badB at a3;simp only[Bool.and_eq_false_iff,decide_eq_false_iff_not,Bool.not_eq_false'] at a3;have hs:=(subB_iff _ _ _ _).1 (a3.resolve_left (by omega));have ha:=(DI _ _).1 a2.2;have hl:=Si x x.Round;have key: ∀(L:List Int) (n:Nat) (g:Nat->Int),(∀i,i<n->g i∈L)->(∀i j,i<j->j<n->g i≠g j)->n<=L.length:=by
   intro L;induction L with
   |nil=>
    intro n g hm _;cases n with
    |zero=>exact Nat.zero_le _
    |succ n=>exact absurd (hm 0 (by omega)) (by simp)
   |cons y L ih=>
    intro n g hm hd;by_cases hy: ∃i,i<n/\g i=y
    ·obtain⟨i,hi,hiy⟩:=hy;have hsk: ∀q,skip i q=if q<i then q else q+1:=fun _=>rfl
     have:=ih (n-1) (fun q=>g (skip i q)) (fun q hq=>by
      have hq1:skip i q<n:=by rw[hsk];split<;>omega
      rcases List.mem_cons.1 (hm _ hq1) with h1|h1
      ·exfalso;rcases Nat.lt_trichotomy (skip i q) i with h2|h2|h2
       ·exact hd _ _ h2 hi (by rw[h1,hiy])
       ·rw[hsk] at h2;split at h2<;>omega
       ·exact hd _ _ h2 hq1 (by rw[h1,hiy])
      ·exact h1) (fun a b hab hb=>hd _ _ (by rw[hsk,hsk];split<;>split<;>omega) (by rw[hsk];split<;>omega))
     simp only[List.length_cons];omega
    ·have:=ih n g (fun q hq=>(List.mem_cons.1 (hm q hq)).resolve_left fun h1=>hy ⟨q,hq,h1⟩) hd;simp only[List.length_cons];omega
  have hb:=key (lN x x.Round) x.nb x.b (fun i hi=>by
   obtain⟨q,h1,h2⟩:=(memI_iff _ _ _).1 (hs i hi);rw[←h2,KX h1];exact List.getElem_mem h1) (fun i j hij hj=>by
   have:=zI (f:=id) (g:=x.b) (n:=x.nb) (fun q hq h0=>ha q h0 hq) hij hj;simp only[id] at this;omega)
  omega
theorem oO{u:Use}(hr:aP u):dB u/\u.P.ns<=256:=by
 have hp:=qC.1 hr.pol;have hs:=(Wl.1 hp.2.2).1;have hpr:=Pv.1 hp.1.2.1;have hc:=(LD.1 hp.1.1).1;have hm:=(D6.1 hp.1.2.2.2).1;have hag:u.P.na<=64:=by
  have:=hp.1.2.2.1;unfold lC at this;split at this
  ·cases this
  ·omega
 have hbx:=kZ hr.box;have hsh:u.nf<=32:=by
  have:=hr.shf;unfold kG at this;split at this
  ·cases this
  ·omega
 have hmv:=Iu hr.mov;have hrq:=(yP.1 hr.req).1;have hbk:u.nk<=1024:=by
  have:=hr.bkg;unfold qh at this;split at this
  ·cases this
  ·split at this
   ·cases this
   ·omega
 have hnt:=hr.nt;have hnl:=hr.nl;have hnw:=hr.nw;refine⟨⟨⟨by omega,by omega,by omega,by omega,by omega,fun i hi=>by have:=sub_len hr.pol hi;omega,fun i hi=> ?_⟩,by omega,fun i hi=>by have:=(rO (hbx.2 i hi)).2.1;omega,by omega,by omega,by omega,by omega,by omega,fun i hi=>by have:=bat_len (hr.VE i hi).1;omega,fun i hi=>by have:=bat_len (hr.VE i hi).1;omega,by omega,by omega⟩,hs⟩;have h1:=(Ie.1 (hpr.2 i hi)).1;unfold xF at h1;split at h1
 ·cases h1
 ·split at h1
  ·cases h1
  ·rename_i h2;have:=named_sz (by simpa using h2);omega
theorem BL{u:Use}{m:Nat}{e:Ev}(hr:aP u)(hm:m<=30)(he:pz e=true):J7 u m e:=by
 obtain⟨h1,h2⟩:=oO hr;unfold pz BJ at he;simp only[Bool.and_eq_true,List.all_eq_true,decide_eq_true_eq] at he;exact⟨h1,by omega,by omega,by omega,fun i hi=>by have:=he.2 _ (List.mem_map.2 ⟨i,by simpa using hi,rfl⟩);omega,by omega⟩
theorem shows_ev{u:Use}{m:Nat}{rg:Nat->Row}{e:Ev}(h:Vp u m rg e=0){q:Nat}(h1:u.nw<=q)(h2:q<(Ny u e).nw):((Ny u e).gw q).Day=e.Day/\yC (Ny u e) m rg e ((Ny u e).gw q).Reader ((Ny u e).gw q).Unit=true/\(lst (Ny u e).nk (Ny u e).gk).any (xu ((Ny u e).gw q).Reader e.Day)=true:=by
 by_cases hk:e.Kind=54
 ·have hE:Vp u m rg e=GL u m rg e:=by unfold Vp;simp[hk]
  have hU:Ny u e=ldU u e:=by unfold Ny;simp[hk]
  rw[hE] at h;rw[hU] at h2⊢;unfold GL at h;split at h
  ·cases h
  ·obtain⟨r,hr⟩: ∃r,r=(jq u (e.gn 0)).1:=⟨_,rfl⟩;rw[←hr] at h;obtain⟨n,hn⟩: ∃n,n=(MN u r.Box).1:=⟨_,rfl⟩;obtain⟨g,hg⟩: ∃g,g=(MN u r.Box).2:=⟨_,rfl⟩;have hw: ∀q,u.nw<=q->(ldU u e).gw q=⟨r.Reader,(g (q-u.nw)).Unit,e.Day⟩:=fun q hq=>by rw[hg,hr];exact if_neg (by omega)
   have h2:q<u.nw+n:=by rw[hn,hr];exact h2
   rw[←hn,←hg] at h;rw[hw q h1];unfold xJ at h;split at h
   ·cases h
   ·rename_i h3;split at h
    ·cases h
    ·rename_i h4;have h4:(lst u.nk u.gk).any (xu r.Reader e.Day)=true:=(Bool.not_eq_false _).mp h4;have h3:((lst n g).any fun x=> !yC u m rg e r.Reader x.Unit)=false:=(Bool.not_eq_true _).mp h3;refine⟨rfl,?_,h4⟩;have h3:=LU.1 h3 (q-u.nw) (by omega);show yC u m rg e r.Reader (g (q-u.nw)).Unit=true
     simpa using h3
 ·exfalso;have:(Ny u e).nw=u.nw:=by
   unfold Ny;rw[apply_ite Use.nw];iterate 19 rw[apply_ite Use.nw]
   unfold enU ipU;simp only[apply_ite Use.nw];simp[hk,clU,ecU,apU,leU,aaU,grU,rvU,ssU,abU,puU,taU,asU,jE,akU,boU,adU,scU,ipU1,RZ]
  omega
def Kw(u:Use):Nat:=(gather (tC u) u.nf).length
def fD(u:Use):Nat->Std:=nth (gather (tC u) u.nf)
theorem Vk{β:Type}[Inhabited β]{f:Nat->List β}(h1: ∀i,(f i).length<=1): ∀{n j:Nat},j<(gather f n).length->∃i,i<n/\f i=[nth (gather f n) j]/\(gather f i).length=j
 |0,j,h=>absurd h (Nat.not_lt_zero _)
 |n+1,j,h=>by
  rw[gather] at h⊢;rw[List.length_append] at h;by_cases hj:j<(gather f n).length
  ·obtain⟨i,a,b,c⟩:=Vk h1 hj;refine⟨i,by omega,?_,c⟩;rw[b];unfold nth;rw[List.getElem?_append_left hj]
  ·have h2:=h1 n;refine⟨n,by omega,?_,by omega⟩;unfold nth;rw[List.getElem?_append_right (by omega),show j-(gather f n).length=0 by omega];cases hf:f n with
   |nil=>rw[hf] at h;simp at h;omega
   |cons x l=>
    rw[hf] at h2;cases l with
    |nil=>rfl
    |cons y l=>simp at h2
theorem aaf{β:Type}{f:Nat->List β}{a b:Nat}(h:a<=b):(gather f a).length<=(gather f b).length:=by
 induction b with
 |zero=>
  obtain rfl:a=0:=by omega
  exact Nat.le_refl _
 |succ b ih=>
  by_cases h1:a=b+1
  ·rw[h1];exact Nat.le_refl _
  ·have:=ih (by omega);rw[gather,List.length_append];omega
theorem stdF_len'(u:Use)(i:Nat):(tC u i).length<=1:=by unfold tC;split<;>simp
theorem Wp{u:Use}{j:Nat}(h:j<Kw u): ∃i,i<u.nf/\fD u j=OU u (u.gf i).ID/\0<(OU u (u.gf i).ID).n/\(gather (tC u) i).length=j:=by
 obtain⟨i,a,b,c⟩:=Vk (stdF_len' u) h;refine⟨i,a,?_,?_,c⟩
 ·unfold tC at b;split at b
  ·injection b with b;exact b.symm
  ·cases b
 ·unfold tC at b;split at b
  ·assumption
  ·cases b
theorem shf_asc{n:Nat}{g:Nat->sO}(h:kG n g=0): ∀i,i<n->0<i->(g (i-1)).ID<(g i).ID:=fun i hi h0=>by
 unfold kG at h;split at h
 ·cases h
 ·have:=jf.1 h i hi;unfold Ov at this;split at this
  ·cases this
  ·split at this
   ·cases this
   ·omega
theorem std_ne{u:Use}(hr:aP u){j k:Nat}(hj:j<k)(hk:k<Kw u):(fD u j).Shelf≠(fD u k).Shelf:=by
 obtain⟨a,a1,a2,a3,a4⟩:=Wp (u:=u) (j:=j) (by omega);obtain⟨b,b1,b2,b3,b4⟩:=Wp hk;rw[a2,b2];show(u.gf a).ID≠(u.gf b).ID
 have hab:a<b:=by
  apply Classical.byContradiction;intro h;have:=aaf (f:=tC u) (a:=b) (b:=a) (by omega);omega
 have:=zI (f:=sO.ID) (shf_asc hr.shf) hab b1;omega
theorem Q8{g:Nat->iE}{x:Int} : ∀{k i:Nat} {s:N7},Key.i x∈(eG g i s k).2.ks->Key.i x∈s.ks\/mD x=true
 |0,i,s,h=> .inl h
 |k+1,i,s,h=>by
  rw[eG] at h;split at h
  ·exact .inl h
  ·rename_i h0;have h0:=Classical.byContradiction h0;rcases Q8 h with h1|h1
   ·unfold qG at h1;rw[if_pos h0] at h1;rcases gW.1 h1 with h2|h2
    ·injection h2 with h2
     rw[h2];exact .inr (Ed h0).2.1
    ·exact .inl h2
   ·exact .inr h1
theorem insK_nd{k:Key}{ks:List Key}(h:ks.Nodup):(kU k ks).Nodup:=by
 unfold kU;split
 ·exact h
 ·rename_i h1;rw[List.nodup_append];exact⟨h,by simp,fun a ha b hb=>by simp at hb;subst hb;exact fun h2=>h1 (h2▸ha)⟩
theorem Zv{g:Nat->iE} : ∀{k i:Nat} {s:N7},s.ks.Nodup->(eG g i s k).2.ks.Nodup
 |0,i,s,h=>h
 |k+1,i,s,h=>by
  rw[eG];split
  ·exact h
  ·apply Zv;unfold qG;split
   ·exact insK_nd h
   ·exact h
theorem atOf_mem{pl:Int->rU}{p:rU}{ks:List Key}(hk: ∀k∈ks,k.str=false){x:Int}(h:x∈oD pl p ks):Key.i x∈ks/\pl x=p:=by
 unfold oD at h;obtain⟨k,h1,h2⟩:=List.mem_map.1 h;obtain⟨h3,h4⟩:=List.mem_filter.1 h1;have h5:=hk k h3;cases k with
 |s b=>cases h5
 |i y=>
  have h2:y=x:=h2;subst h2;exact⟨h3,(show p=pl y from of_decide_eq_true h4).symm⟩
theorem atOf_nd{pl:Int->rU}{p:rU} : ∀{ks:List Key},(∀k∈ks,k.str=false)->ks.Nodup->(oD pl p ks).Nodup
 |[],_,_=>List.nodup_nil
 |k::ks,hk,h=>by
  have h1:=List.nodup_cons.1 h;have ih:=atOf_nd (pl:=pl) (p:=p) (ks:=ks) (fun k' h'=>hk k' (List.mem_cons_of_mem _ h')) h1.2;unfold oD at ih⊢;rw[List.filter_cons];split
  ·rw[List.map_cons,List.nodup_cons];refine⟨fun hm=> ?_,ih⟩;have hm:kI k∈oD pl p ks:=hm;have h2:=(atOf_mem (fun k' h'=>hk k' (List.mem_cons_of_mem _ h')) hm).1;have h5:=hk k (List.mem_cons_self);cases k with
   |s b=>cases h5
   |i y=>exact h1.1 h2
  ·exact ih
theorem atL_mem{u:Use}(hm:jm u.nv u.gv=0){p:rU}{x:Int}(h:x∈Ut u.nv u.gv p):aW u x=p/\mD x=true:=by
 have hn:=Iu hm;have hr:bF u.nv u.gv=eG u.gv 0 zf u.nv:=if_neg (by omega);unfold Ut at h;have h:=(List.mergeSort_perm _ _).mem_iff.1 h;obtain⟨h1,h2⟩:=atOf_mem (BQ u.nv u.gv).kind h;have h3:mD x=true:=by
  rw[hr] at h1;rcases Q8 h1 with h3|h3
  ·exact absurd h3 (by simp[zf])
  ·exact h3
 rw[WT hm,if_pos h3];exact⟨h2,h3⟩
theorem atL_nd(u:Use)(p:rU):(Ut u.nv u.gv p).Nodup:=by
 unfold Ut;refine(List.mergeSort_perm _ _).nodup_iff.2 (atOf_nd (BQ u.nv u.gv).kind ?_);unfold bF;split
 ·exact List.nodup_nil
 ·exact Zv List.nodup_nil
theorem QX{u:Use}(hr:aP u){s:Int}{q:Nat}(h:q<(OU u s).n):aW u ((OU u s).g q)=⟨1,s⟩/\mD ((OU u s).g q)=true/\0<=lQ u.nb u.gb ((OU u s).g q)/\(OU u s).g q∈Ut u.nv u.gv ⟨1,s⟩:=by
 have hq:q<(Ut u.nv u.gv ⟨1,s⟩).length:=by
  have h:q<if atE u.nv u.gv ⟨1,s⟩=0 then(Ut u.nv u.gv ⟨1,s⟩).length else 0:=h
  split at h
  ·exact h
  ·omega
 have hm:nth (Ut u.nv u.gv ⟨1,s⟩) q∈Ut u.nv u.gv ⟨1,s⟩:=by rw[KX hq];exact List.getElem_mem hq
 have h1:=atL_mem hr.mov hm;exact⟨h1.1,h1.2,WU hr (by show(aW u (nth (Ut u.nv u.gv ⟨1,s⟩) q)).Kind≠0;rw[h1.1];show(1:Int)≠0;decide),hm⟩
theorem onS_ne{u:Use}{s:Int}{p q:Nat}(hp:p<q)(h:q<(OU u s).n):(OU u s).g p≠(OU u s).g q:=by
 have hq:q<(Ut u.nv u.gv ⟨1,s⟩).length:=by
  have h:q<if atE u.nv u.gv ⟨1,s⟩=0 then(Ut u.nv u.gv ⟨1,s⟩).length else 0:=h
  split at h
  ·exact h
  ·omega
 show nth (Ut u.nv u.gv ⟨1,s⟩) p≠nth (Ut u.nv u.gv ⟨1,s⟩) q
 rw[KX hq,KX (show p<_ by omega)];exact List.pairwise_iff_getElem.1 (List.nodup_iff_pairwise_ne.1 (atL_nd u ⟨1,s⟩)) p q (by omega) hq hp
def AB(u:Use)(g:Nat->Int):Nat->Int
 |0=>0
 |q+1=>AB u g q+(u.gb (lQ u.nb u.gb (g q)).toNat).Width
theorem perm_sum{L M:List Int}(h:L.Perm M):L.sum=M.sum:=by
 induction h with
 |nil=>rfl
 |cons x _ ih=>simp only[List.sum_cons];rw[ih]
 |swap x y l=>simp only[List.sum_cons];omega
 |trans _ _ h1 h2=>exact h1.trans h2
theorem Qd{w:Nat->Int}(hw: ∀i,0<=w i): ∀(L:List Nat) (n:Nat),L.Nodup->(∀i∈L,i<n)->(L.map w).sum<=((List.range n).map w).sum
 |L,0,_,h=>by
  cases L with
  |nil=>exact Int.le_refl _
  |cons x L=>exact absurd (h x (List.mem_cons_self)) (Nat.not_lt_zero _)
 |L,n+1,hd,h=>by
  rw[List.range_succ,List.map_append,List.sum_append];simp only[List.map_cons,List.map_nil,List.sum_cons,List.sum_nil,Int.add_zero];by_cases hn:n∈L
  ·have h1:=List.perm_cons_erase hn;have h2:=perm_sum (h1.map w);rw[h2];simp only[List.map_cons,List.sum_cons];have h3:=Qd hw (L.erase n) n (hd.erase n) (fun i hi=>by
    have h4:=h i (List.mem_of_mem_erase hi);have h5:i≠n:=fun h6=>by rw[h6] at hi;exact(List.Nodup.not_mem_erase hd) hi
    omega)
   omega
  ·have h3:=Qd hw L n hd (fun i hi=>by
    have h4:=h i hi;have h5:i≠n:=fun h6=>by rw[h6] at hi;exact hn hi
    omega)
   have:=hw n;omega
theorem Qg(u:Use)(s:Int): ∀n,fC u s n=((List.range n).map fun i=>if aW u (u.gb i).ID=⟨1,s⟩ then(u.gb i).Width else 0).sum
 |0=>rfl
 |n+1=>by
  rw[fC,Qg u s n,List.range_succ,List.map_append,List.sum_append];simp
theorem Qe{w:Nat->Int} : ∀(L:List Nat) (v:Nat->Int),(∀i∈L,w i=v i)->(L.map w).sum=(L.map v).sum
 |[],_,_=>rfl
 |x::L,v,h=>by
  simp only[List.map_cons,List.sum_cons];rw[h x (List.mem_cons_self),Qe L v fun i hi=>h i (List.mem_cons_of_mem _ hi)]
theorem Uw(u:Use)(g:Nat->Int): ∀n,AB u g n=(((List.range n).map fun q=>(lQ u.nb u.gb (g q)).toNat).map fun i=>(u.gb i).Width).sum
 |0=>rfl
 |n+1=>by
  rw[AB,Uw u g n,List.range_succ,List.map_append,List.map_append,List.sum_append];simp
theorem wsum_le{u:Use}(hr:aP u){s:Int} : ∀{q:Nat},q<=(OU u s).n->AB u (OU u s).g q<=fC u s u.nb:=by
 intro q hq;rw[Uw,Qg];obtain⟨w,hw⟩: ∃w:Nat->Int,w=fun i=>if i<u.nb/\aW u (u.gb i).ID=⟨1,s⟩ then(u.gb i).Width else 0:=⟨_,rfl⟩
 have hat: ∀p,p<q->(lQ u.nb u.gb ((OU u s).g p)).toNat<u.nb/\(u.gb (lQ u.nb u.gb ((OU u s).g p)).toNat).ID=(OU u s).g p:=fun p hp=>DC (QX hr (by omega)).2.2.1;have h1:((List.range u.nb).map fun i=>if aW u (u.gb i).ID=⟨1,s⟩ then(u.gb i).Width else 0).sum=((List.range u.nb).map w).sum:=Qe _ _ fun i hi=>by
  have:=List.mem_range.1 hi;rw[hw];simp[this]
 rw[h1,Qe (v:=w) _ fun i hi=>by
  obtain⟨p,hp,rfl⟩:=List.mem_map.1 hi;have hp:=List.mem_range.1 hp;obtain⟨a,b⟩:=hat p hp;rw[hw];dsimp only;rw[b,if_pos ⟨a,(QX hr (by omega)).1⟩]]
 refine Qd (fun i=> ?_) _ _ ?_ fun i hi=> ?_
 ·rw[hw];dsimp only;split
  ·rename_i h;exact Dy hr.box h.1
  ·exact Int.le_refl _
 ·rw[List.nodup_iff_pairwise_ne,List.pairwise_map];refine List.Pairwise.imp_of_mem (R:=fun a b=>a<b) (fun {a b} ha hb hab he=> ?_) List.pairwise_lt_range;have ha:=List.mem_range.1 ha;have hb:=List.mem_range.1 hb;refine onS_ne (u:=u) (s:=s) hab (by omega) ?_;rw[←(hat a ha).2,←(hat b hb).2,he]
 ·obtain⟨p,hp,rfl⟩:=List.mem_map.1 hi;exact(hat p (List.mem_range.1 hp)).1
theorem wsum_nn{u:Use}(hr:aP u){s:Int} : ∀{q:Nat},q<=(OU u s).n->0<=AB u (OU u s).g q
 |0,_=>Int.le_refl _
 |q+1,h=>by
  have:=wsum_nn hr (s:=s) (q:=q) (by omega);have h1:=Dy hr.box (DC (QX hr (q:=q) h).2.2.1).1;rw[AB];omega
theorem shf_len{n:Nat}{g:Nat->sO}(h:kG n g=0){i:Nat}(hi:i<n):(g i).Length<=10000:=by
 unfold kG at h;split at h
 ·cases h
 ·have:=jf.1 h i hi;unfold Ov at this;split at this
  ·cases this
  ·rename_i h1;have h1:Qq (g i)=true:=by simpa using h1
   unfold Qq at h1;simp only[Bool.and_eq_true,fJ] at h1;exact h1.1.2.2
theorem YP{u:Use}(hr:aP u){j:Nat}(hj:j<Kw u):0<=rV u.nf u.gf (fD u j).Shelf/\(AL u (fD u j).Shelf).Length<=10000/\∀q,q<=(fD u j).n->0<=AB u (fD u j).g q/\AB u (fD u j).g q<=(AL u (fD u j).Shelf).Length:=by
 obtain⟨i,hi,h1,h2,_⟩:=Wp hj;rw[h1];have h3:0<=rV u.nf u.gf (u.gf i).ID:=ix_ex hi (by simp);refine⟨h3,shf_len hr.shf (Ws h3).1,fun q hq=>⟨wsum_nn hr hq,Int.le_trans (wsum_le hr hq) ?_⟩⟩;obtain⟨a,b,c,_⟩:=QX hr h2;have hb:=DC c;have hp:aW u (u.gb (lQ u.nb u.gb ((OU u (u.gf i).ID).g 0)).toNat).ID=⟨1,(u.gf i).ID⟩:=by rw[hb.2];exact a
 have:=hr.hld.sum _ hb.1 (by rw[hp]);rw[hp] at this;exact this
theorem BF{u:Use}(hr:aP u){j q:Nat}(hj:j<Kw u)(hq:q<(fD u j).n):aW u ((fD u j).g q)=⟨1,(fD u j).Shelf⟩/\0<=lQ u.nb u.gb ((fD u j).g q)/\(∀p,p<q->(fD u j).g p≠(fD u j).g q):=by
 obtain⟨i,hi,h1,h2,_⟩:=Wp hj;rw[h1] at hq⊢;obtain⟨a,b,c,_⟩:=QX hr hq;exact⟨a,c,fun p hp=>onS_ne hp hq⟩
theorem stand_two{u:Use}(hr:aP u){j k p q:Nat}(hjk:k<j)(hj:j<Kw u)(hq:q<(fD u j).n)(hp:p<(fD u k).n):(fD u k).g p≠(fD u j).g q:=by
 have h1:=(BF hr hj hq).1;have h2:=(BF hr (j:=k) (by omega) hp).1;intro h3;rw[h3,h1] at h2;injection h2 with _ h2
 exact std_ne hr hjk hj h2.symm
theorem UD{u:Use}{m:Nat}{rg:Nat->Row}{e:Ev}(h:(iQ u m rg e).2=0):qo u m rg e=0/\(iQ u m rg e).1=Ot u e:=by
 unfold iQ at h⊢;split at h
 ·rename_i h1;exact absurd h h1
 ·rename_i h1;rw[if_neg h1];exact⟨Classical.byContradiction h1,rfl⟩
theorem xA{u:Use}{m:Nat}{rg:Nat->Row}{g:Nat->Ev}(hr:aP u): ∀{i:Nat},(∀q,q<i->pX m rg g u q=0)->aP (gU m rg g u i)
 |0,_=>hr
 |i+1,h=>by
  have h1:=UD (h i (by omega));show aP (iQ (gU m rg g u i) m rg (g i)).1
  rw[h1.2];exact UN (xA hr fun q hq=>h q (by omega)) h1.1
theorem Wv{u:Use}{m:Nat}{rg:Nat->Row}{g:Nat->Ev}{n:Nat}(hm:m<=30)(he: ∀i,i<n->pz (g i)=true):dD u=true->∀i,i<n->(∀q,q<i->pX m rg g u q=0)->J7 (gU m rg g u i) m (g i):=
 fun hr i hi h=>BL (xA (iT.1 hr) h) hm (he i hi)
theorem Qz{u:Use}{m:Nat}{rg:Nat->Row}{g:Nat->Ev}{a:Nat} : ∀k,gU m rg (fun i=>g (a+i)) (gU m rg g u a) k=gU m rg g u (a+k)
 |0=>rfl
 |k+1=>by
  rw[gU,Qz k];rfl
theorem runE_add{u:Use}{m:Nat}{rg:Nat->Row}{g:Nat->Ev}{a k:Nat} :pX m rg (fun i=>g (a+i)) (gU m rg g u a) k=pX m rg g u (a+k):=by
 unfold pX;rw[Qz]
theorem UK{u:Use}{m:Nat}{rg:Nat->Row}{g:Nat->Ev}{a:Nat} : ∀{k i:Nat},(dV m rg g u (a+i) k).2=(dV m rg (fun i=>g (a+i)) (gU m rg g u a) i k).2/\((dV m rg g u (a+i) k).2≠0->(dV m rg g u (a+i) k).1=(dV m rg (fun i=>g (a+i)) (gU m rg g u a) i k).1+(a:Int))
 |0,i=>⟨rfl,fun h=>absurd rfl h⟩
 |k+1,i=>by
  rw[dV,dV,runE_add];by_cases h:pX m rg g u (a+i)≠0
  ·rw[if_pos h,if_pos h];exact⟨rfl,fun _=>by dsimp only;omega⟩
  ·rw[if_neg h,if_neg h];exact UK (k:=k) (i:=i+1)
theorem Hu{u:Use}{m:Nat}{rg:Nat->Row}{g:Nat->Ev} : ∀{k i:Nat},(dV m rg g u i k).2=0↔∀q,i<=q->q<i+k->pX m rg g u q=0
 |0,i=>⟨fun _ q h1 h2=>by omega,fun _=>rfl⟩
 |k+1,i=>by
  rw[dV];constructor
  ·intro h;split at h
   ·rename_i h1;exact absurd h h1
   ·rename_i h1;intro q h2 h3;by_cases hq:q=i
    ·rw[hq];exact Classical.byContradiction h1
    ·exact Hu.1 h q (by omega) (by omega)
  ·intro h;rw[if_neg (by simp[h i (Nat.le_refl _) (by omega)])];exact Hu.2 fun q h1 h2=>h q (by omega) (by omega)
theorem KG{u:Use}{m:Nat}{rg:Nat->Row}{g:Nat->Ev} : ∀{a b i:Nat},dV m rg g u i (a+b)=if(dV m rg g u i a).2≠0 then dV m rg g u i a else dV m rg g u (i+a) b
 |0,b,i=>by rw[Nat.zero_add,if_neg (by simp[dV]),Nat.add_zero]
 |a+1,b,i=>by
  rw[show a+1+b=(a+b)+1 by omega,dV,dV];by_cases h:pX m rg g u i≠0
  ·rw[if_pos h,if_pos h,if_pos h]
  ·rw[if_neg h,if_neg h,KG,show i+1+a=i+(a+1) by omega]
theorem parts_bad{u:Use}{m:Nat}{rg:Nat->Row}{g:Nat->Ev}{a n:Nat}(ha:a<=n)(h:(gu u m rg a g).2.2≠0):(gu u m rg n g).2=(gu u m rg a g).2:=by
 unfold gu at h⊢;by_cases h1:dD u=false\/cu m rg≠0
 ·rw[if_pos h1,if_pos h1]
 ·rw[if_neg h1] at h⊢;rw[if_neg h1];by_cases h2:(dV m rg g u 0 a).2≠0
  ·have h3:=KG (m:=m) (rg:=rg) (g:=g) (u:=u) (a:=a) (b:=n-a) (i:=0);rw[if_pos h2,show a+(n-a)=n by omega] at h3;rw[if_pos h2,h3,if_pos h2]
  ·rw[if_neg h2] at h;exact absurd rfl h
theorem D9{u:Use}{m:Nat}{rg:Nat->Row}{g:Nat->Ev}{a:Nat}(h:(gu u m rg a g).2.2=0):(dD u=true/\cu m rg=0)/\(∀q,q<a->pX m rg g u q=0)/\gu u m rg a g=(gU m rg g u a,-1,0):=by
 unfold gu at h⊢;by_cases h1:dD u=false\/cu m rg≠0
 ·rw[if_pos h1] at h;cases h
 ·rw[if_neg h1] at h⊢;by_cases h2:(dV m rg g u 0 a).2≠0
  ·rw[if_pos h2] at h;exact absurd h h2
  ·rw[if_neg h2];refine⟨⟨by simpa using fun h3=>h1 (.inl h3),Classical.byContradiction fun h3=>h1 (.inr h3)⟩,fun q hq=>Hu.1 (Classical.byContradiction h2) q (Nat.zero_le _) (by omega),rfl⟩
theorem parts_two{u:Use}{m:Nat}{rg:Nat->Row}{g:Nat->Ev}{a n:Nat}(ha:a<=n)(h:(gu u m rg a g).2.2=0):(gu u m rg n g).1=(gu (gu u m rg a g).1 m rg (n-a) (fun i=>g (a+i))).1/\(gu u m rg n g).2.2=(gu (gu u m rg a g).1 m rg (n-a) (fun i=>g (a+i))).2.2/\
  ((gu u m rg n g).2.2≠0->(gu u m rg n g).2.1=(gu (gu u m rg a g).1 m rg (n-a) (fun i=>g (a+i))).2.1+(a:Int)):=by
 obtain⟨⟨h1,h2⟩,h3,h4⟩:=D9 h;rw[h4];have h5:dD (gU m rg g u a)=true:=iT.2 (xA (iT.1 h1) h3);have h6:(dV m rg g u 0 a).2=0:=Hu.2 fun q _ hq=>h3 q (by omega);have h7:=KG (m:=m) (rg:=rg) (g:=g) (u:=u) (a:=a) (b:=n-a) (i:=0);rw[if_neg (by simp[h6]),show a+(n-a)=n by omega,show 0+a=a+0 by omega] at h7;have h8:=UK (m:=m) (rg:=rg) (g:=g) (u:=u) (a:=a) (k:=n-a) (i:=0);rw[←h7] at h8;have hc: ∀v:Use,dD v=true->¬(dD v=false\/cu m rg≠0):=fun v hv=>by simp[hv,h2]
 have e1:gu u m rg n g=if(dV m rg g u 0 n).2≠0 then(jL,dV m rg g u 0 n) else(gU m rg g u n,-1,0):=if_neg (hc u h1)
 have e2:gu (gU m rg g u a) m rg (n-a) (fun i=>g (a+i))=if(dV m rg (fun i=>g (a+i)) (gU m rg g u a) 0 (n-a)).2≠0 then(jL,dV m rg (fun i=>g (a+i)) (gU m rg g u a) 0 (n-a)) else(gU m rg (fun i=>g (a+i)) (gU m rg g u a) (n-a),-1,0):=if_neg (hc _ h5)
 show(gu u m rg n g).1=(gu (gU m rg g u a) m rg (n-a) (fun i=>g (a+i))).1/\(gu u m rg n g).2.2=(gu (gU m rg g u a) m rg (n-a) (fun i=>g (a+i))).2.2/\((gu u m rg n g).2.2≠0->(gu u m rg n g).2.1=(gu (gU m rg g u a) m rg (n-a) (fun i=>g (a+i))).2.1+(a:Int))
 rw[e1,e2];by_cases h9:(dV m rg g u 0 n).2≠0
 ·rw[if_pos h9,if_pos (by rw[←h8.1];exact h9)];exact⟨rfl,h8.1,fun _=>h8.2 h9⟩
 ·rw[if_neg h9,if_neg (by rw[←h8.1];exact h9)];refine⟨?_,rfl,fun h10=>absurd rfl h10⟩;show gU m rg g u n=gU m rg (fun i=>g (a+i)) (gU m rg g u a) (n-a)
  rw[Qz,show a+(n-a)=n by omega]
theorem QA{u:Use}{m:Nat}{rg:Nat->Row}{g:Nat->Ev}{a:Nat}(h:(gu u m rg a g).2.2=0):(gu u m rg a g).2.1= -1:=by
 rw[(D9 h).2.2]
noncomputable def sF(m:Nat)(rg:Nat->Row)(g:Nat->Ev)(u:Use):Nat->Use
 |0=>u
 |k+1=>if(ig (sF m rg g u k) m rg (g k)).2=0 then(ig (sF m rg g u k) m rg (g k)).1 else sF m rg g u k
theorem VQ{u:Use}{m:Nat}{rg:Nat->Row}{e:Ev}(h:(ig u m rg e).2=0):aP u/\cu m rg=0/\qo u m rg e=0/\(ig u m rg e).1=Ot u e/\aP (Ot u e):=by
 have h0:=Ho h;unfold ig at h;split at h
 ·cases h
 ·rename_i h1;have h2:=UD h;have hr:aP u:=iT.1 (by simpa using fun h3=>h1 (.inl h3));exact⟨hr,Classical.byContradiction fun h3=>h1 (.inr h3),h2.1,h0,UN hr h2.1⟩
theorem RN{u:Use}{m:Nat}{rg:Nat->Row}{g:Nat->Ev}(hr:aP u): ∀i,aP (sF m rg g u i)
 |0=>hr
 |i+1=>by
  rw[sF];split
  ·rename_i h;obtain⟨_,_,_,h1,h2⟩:=VQ h;rw[h1];exact h2
  ·exact RN hr i
theorem aad{u:Use}{m:Nat}{rg:Nat->Row}{g:Nat->Ev}{i:Nat}(h:(ig (sF m rg g u i) m rg (g i)).2=0):sF m rg g u (i+1)=(ig (sF m rg g u i) m rg (g i)).1:=by rw[sF,if_pos h]
theorem goS_bad{u:Use}{m:Nat}{rg:Nat->Row}{g:Nat->Ev}{i:Nat}(h:(ig (sF m rg g u i) m rg (g i)).2≠0):sF m rg g u (i+1)=sF m rg g u i:=by rw[sF,if_neg h]
theorem shows_stp{u:Use}{m:Nat}{rg:Nat->Row}{e:Ev}(h:(ig u m rg e).2=0){q:Nat}(h1:u.nw<=q)(h2:q<(ig u m rg e).1.nw):((ig u m rg e).1.gw q).Day=e.Day/\yC (ig u m rg e).1 m rg e ((ig u m rg e).1.gw q).Reader ((ig u m rg e).1.gw q).Unit=true/\(lst (ig u m rg e).1.nk (ig u m rg e).1.gk).any (xu ((ig u m rg e).1.gw q).Reader e.Day)=true:=by
 obtain⟨_,_,h3,h4,_⟩:=VQ h;rw[h4] at h2⊢;exact shows_ev (UE h3).2.2.2 h1 h2
end Go.Proofs.YtmahphgjkpgidaaGreatDoor
