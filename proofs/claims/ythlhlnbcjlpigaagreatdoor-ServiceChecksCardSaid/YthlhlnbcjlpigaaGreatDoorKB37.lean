/- Contracts and lemmas, joined out of smaller texts by a program; no conditions. -/
import Derived.Test.YthlhlnbcjlpigaaGreatDoorKB36
set_option linter.unusedVariables false
set_option linter.unusedSimpArgs false
set_option maxHeartbeats 4000000
set_option maxRecDepth 100000
namespace Go.Proofs.YthlhlnbcjlpigaaGreatDoor
open Go.aU Go.bY Go.Proofs.Tryz
variable (σ : List aC)
theorem Qx(c:Option Nat)(n:Nat)(g:Nat->Bx)(hn:n<1000000000)(hc: ∀i,i<n->(g i).nc<1000000000):ay prog 31 [.d (SL c 5 Bx.enc n g)] σ (.d (SL none 5 Bx.enc n g)):=by
 refine ay.be func31 fun hwf=> ?_;refine ak fun K hK=>sm ?_;refine hK _ ?_;refine ak fun K hK=> ?_;simp[go_sem];repeat refine⟨by omega,?_⟩
 refine hK _ ?_;refine aK ?_;refine ak fun K hK=>sm ?_;refine hK _ ?_;refine aN ?_;refine bF [3,9,10] (by simp[go_sem,bf];rfl) ?_;refine bU (α:=Nat) (fun i=>[(10,.d (I i))]) (fun i=>σ++[.arr 5 n (fun q=>Bx.enc (g q))]) (fun i=>i<=n) (fun i=>n-i) 0 (by simp[go_sem]) (rfl) (by simp) ?_;rintro i hi;refine ak fun K hK=>sm ?_;refine hK _ ?_;refine aK ?_;refine pW [3,9,10,11] ?_;refine ig ?_ ?_<;>intro c0 d0
 ·have hi0:i<n:=by omega
  have hc0:=hc i hi0;refine aV ?_;refine aK ?_;refine aN ?_;refine ak fun K hK=> ?_;simp[go_sem,d0];refine hK _ ?_;refine Apd.Zp 8 (by rintro o ⟨⟩;rfl) fun K hK=> ?_;simp[go_sem,d0];repeat refine⟨by omega,?_⟩
  refine hK _ ?_;refine bC σ.length (fun q=>Bx.enc (g q)) (by simp[go_sem];exact⟨rfl,rfl,rfl⟩) (by intro q hq;by_cases h:q=i<;>simp[h,Bx.enc,Cnt.enc]) (by simp[go_sem];rfl) ?_;refine aQ fun K hK=> ?_;simp[go_sem];try simp(disch:=omega) only[aA]
  refine hK _ ?_;refine⟨i+1,bK (by simp[go_sem]) ((au (by simp[go_sem]))) (by(simp[go_sem]<;>omega)),by omega,by first|omega|(dsimp only;omega)⟩
 ·obtain rfl:i=n:=by omega
  refine dh ?_;refine ak fun K hK=> ?_;simp[go_sem];refine hK _ ?_;refine dM (σ.length) (by simp[go_sem];exact⟨rfl,rfl,rfl⟩) (by simp[go_sem];rfl) (by simp[go_sem,hwf.uN,hwf.yL];rfl) ?_;exact aj sc
theorem uq(u:Use)(hu:dR u):ay prog 8 [.agg (u.cells u.dw)] σ (.agg (u.cells u.dw)):=by
 have b0:=hu.P.ns;have b9:=hu.P.nc;have b10:=hu.P.np;have b11:=hu.P.na;have b12:=hu.P.nm;have b1:=hu.nb;have b2:=hu.nf;have b3:=hu.nv;have b4:=hu.nr;have b5:=hu.nk;have b6:=hu.nt;have b7:=hu.nl;have b8:=hu.nw;refine ay.be func8 fun hwf=> ?_;refine ak fun K hK=>sm ?_;refine hK _ ?_;refine ak fun K hK=>sm ?_;refine hK _ ?_;refine ak fun K hK=> ?_;simp[go_sem];repeat refine⟨by omega,?_⟩
 refine hK _ ?_;refine aK ?_;refine ak fun K hK=>sm ?_;refine hK _ ?_;refine aN ?_;refine bF [1,2,3,20,21] (by simp[go_sem,bf];rfl) ?_;refine bU (α:=Nat) (fun i=>[(21,.d (I i))]) (fun i=>(σ++[.var ((u.cells u.dw).set 0 (.ms (σ.length+2) 5 0 u.P.ns)),.var zU,.arr 5 u.P.ns (fun q=>nV.enc (u.P.gs q))])) (fun i=>i<=u.P.ns) (fun i=>u.P.ns-i) 0 (by simp[go_sem]) (rfl) (by simp) ?_;rintro i hi;refine ak fun K hK=>sm ?_;refine hK _ ?_;refine aK ?_;refine pW [1,2,3,20,21,22] ?_;refine ig ?_ ?_<;>intro c0 d0
 ·have hi0:i<u.P.ns:=by omega
  have g0:=hu.P.ps i hi0;refine aV ?_;refine aK ?_;refine aN ?_;refine ak fun K hK=> ?_;simp[go_sem,d0];refine hK _ ?_;refine T.dr 17 fun K hK=> ?_;simp[go_sem,d0];repeat refine⟨by omega,?_⟩
  refine hK _ ?_;refine bC (σ.length+2) (fun q=>nV.enc (u.P.gs q)) (by simp[go_sem];exact⟨rfl,rfl,rfl⟩) (by intro q hq;by_cases h:q=i<;>simp[h,nV.enc,encI]) (by simp[go_sem];rfl) ?_;refine aQ fun K hK=> ?_;simp[go_sem];try simp(disch:=omega) only[aA]
  refine hK _ ?_;refine⟨i+1,bK (by simp[go_sem]) ((au (by simp[go_sem]))) (by(simp[go_sem]<;>omega)),by omega,by first|omega|(dsimp only;omega)⟩
 ·obtain rfl:i=u.P.ns:=by omega
  refine aF hwf (σ.length+2) ?_;refine dh ?_;apply Mix.gJ 20 [(16,none),(19,none)] [[0,2,3,4,5,6,7,8,9,10,11,12,13,14,15],[0,1,2,3,4,5,6,7,8,9,10,11,12,13,14,15,17,18]] [(.undef,(σ++[.var (u.cells u.dw),.var zU,.dead])),(.undef,(σ++[.var (u.cells u.dw),.var zU,.dead]))] T.mixed (by kernel_rfl)
  ·intro K hK;simp[go_sem];repeat refine⟨by omega,?_⟩
   exact hK _ _
  ·refine Mix.bM ?_ (Mix.bM ?_ (Mix.iY))
   ·intro K hK;simp[go_sem];exact hK _ _
   ·intro K hK;simp[go_sem];exact hK _ _
  ·refine Mix.cu ?_ (Mix.cu ?_ (Mix.kC))
   ·simp[go_sem];all_goals first|rfl|omega|skip
   ·simp[go_sem];all_goals first|rfl|omega|skip
  intro K hK;simp[go_sem];refine hK _ ?_;apply Mix.gJ 20 [(16,none),(19,none)] [[0,2,3,4,5,6,7,8,9,10,11,12,13,14,15],[0,1,2,3,4,5,6,7,8,9,10,11,12,13,14,15,17,18]] [(.undef,(σ++[.var (u.cells u.dw),.var zU,.dead])),(.undef,(σ++[.var (u.cells u.dw),.var zU,.dead]))] T.mixed (by kernel_rfl)
  ·intro K hK;simp[go_sem];repeat refine⟨by omega,?_⟩
   exact hK _ _
  ·refine Mix.bM ?_ (Mix.bM ?_ (Mix.iY))
   ·intro K hK;simp[go_sem];exact hK _ _
   ·intro K hK;simp[go_sem];exact hK _ _
  ·refine Mix.cu ?_ (Mix.cu ?_ (Mix.kC))
   ·simp[go_sem];all_goals first|rfl|omega|skip
   ·simp[go_sem];all_goals first|rfl|omega|skip
  intro K hK;simp[go_sem];refine hK _ ?_;refine qI 6 T.mixed (by kernel_rfl) fun K hK=> ?_;simp[go_sem];refine dS.mk (Qx _ none u.nb u.gb (by omega) (fun i hi=>by have:=hu.bx i hi;omega)) ?_;simp[go_sem];repeat refine⟨by omega,?_⟩
  refine hK _ ?_;refine aF hwf (σ.length+3) ?_;apply Mix.gJ 10 [(9,none)] [[0,1,2,3,4,5,6,7,8]] [(.undef,(σ++[.var (u.cells u.dw),.var zU,.dead,.dead]))] T.mixed (by kernel_rfl)
  ·intro K hK;simp[go_sem];repeat refine⟨by omega,?_⟩
   exact hK _ _
  ·refine Mix.bM ?_ (Mix.iY)
   ·intro K hK;simp[go_sem];exact hK _ _
  ·refine Mix.cu ?_ (Mix.kC)
   ·simp[go_sem];all_goals first|rfl|omega|skip
  intro K hK;simp[go_sem];refine hK _ ?_;apply Mix.gJ 10 [(7,some 104),(9,none)] [[0,1,2,3,4,5,6],[0,1,2,3,4,5,6,8]] [(.ms (σ.length+4) 8 0 u.nt,(σ++[.var (u.cells u.dw),.var zU,.dead,.dead,.arr 8 u.nt (fun q=>nJ.enc (u.gt q))])),(.undef,(σ++[.var (u.cells u.dw),.var zU,.dead,.dead,.arr 8 u.nt (fun q=>nJ.enc (u.gt q))]))] T.mixed (by kernel_rfl)
  ·intro K hK;simp[go_sem];repeat refine⟨by omega,?_⟩
   exact hK _ _
  ·refine Mix.bM ?_ (Mix.bM ?_ (Mix.iY))
   ·intro K hK;simp[go_sem];exact hK _ _
   ·intro K hK;simp[go_sem];exact hK _ _
  ·refine Mix.cu ?_ (Mix.cu ?_ (Mix.kC))
   ·simp[go_sem];all_goals first|rfl|omega|skip
   ·simp[go_sem];all_goals first|rfl|omega|skip
  intro K hK;simp[go_sem];refine hK _ ?_;refine aK ?_;refine ak fun K hK=> ?_;simp[go_sem];refine hK _ ?_;refine aN ?_;refine bF [1,2,109,110] (by simp[go_sem,bf];rfl) ?_;refine bU (α:=Nat) (fun i=>[(110,.d (I i))]) (fun i=>(σ++[.var ((u.cells u.dw).set 12 (.ms (σ.length+4) 8 0 u.nt)),.var zU,.dead,.dead,.arr 8 u.nt (fun q=>nJ.enc (u.gt q))])) (fun i=>i<=u.nt) (fun i=>u.nt-i) 0 (by simp[go_sem]) (rfl) (by simp) ?_;rintro i hi;refine ak fun K hK=> ?_;simp[go_sem];refine hK _ ?_;refine aK ?_;refine pW [1,2,109,110,111] ?_;refine ig ?_ ?_<;>intro c1 d1
  ·have hi0:i<u.nt:=by omega
   have g0:=hu.bu i hi0;have g1:=hu.bb i hi0;refine aV ?_;refine aK ?_;refine aN ?_;refine ak fun K hK=> ?_;simp[go_sem,d1];refine hK _ ?_;refine T.dr 9 fun K hK=> ?_;simp[go_sem,d1];refine dS.mk (Qp _ (u.gt i) (by omega) (by omega)) ?_;simp[go_sem,d1];refine hK _ ?_;refine bC (σ.length+4) (fun q=>nJ.enc (u.gt q)) (by simp[go_sem];exact⟨rfl,rfl,rfl⟩) (by intro q hq;by_cases h:q=i<;>simp[h,nJ.enc]) (by simp[go_sem];rfl) ?_;refine aQ fun K hK=> ?_;simp[go_sem];try simp(disch:=omega) only[aA]
   refine hK _ ?_;refine⟨i+1,bK (by simp[go_sem]) ((au (by simp[go_sem]))) (by(simp[go_sem]<;>omega)),by omega,by first|omega|(dsimp only;omega)⟩
  ·obtain rfl:i=u.nt:=by omega
   refine aF hwf (σ.length+4) ?_;refine dh ?_;apply Mix.gJ 10 [(9,none)] [[0,1,2,3,4,5,6,7,8]] [(.undef,(σ++[.var (u.cells u.dw),.var zU,.dead,.dead,.dead]))] T.mixed (by kernel_rfl)
   ·intro K hK;simp[go_sem];repeat refine⟨by omega,?_⟩
    exact hK _ _
   ·refine Mix.bM ?_ (Mix.iY)
    ·intro K hK;simp[go_sem];exact hK _ _
   ·refine Mix.cu ?_ (Mix.kC)
    ·simp[go_sem];all_goals first|rfl|omega|skip
   intro K hK;simp[go_sem];refine hK _ ?_;refine ak fun K hK=> ?_;simp[go_sem];refine hK _ ?_;exact aj sc
structure Std where
 Shelf:Int
 n:Nat
 g:Nat->Int
instance:Inhabited Std:=⟨⟨0,0,fun _=>0⟩⟩
def Std.enc(s:Std):List D:=[I s.Shelf,SL none 1 encI s.n s.g]
attribute [go_sem] Std.enc
def onS(u:Use)(k:Int):Std:=⟨k,if atE u.nv u.gv ⟨1,k⟩=0 then(atL u.nv u.gv ⟨1,k⟩).length else 0,nth (atL u.nv u.gv ⟨1,k⟩)⟩
def mM(u:Use)(i:Nat):List Std:=if 0<(onS u (u.gf i).ID).n then[onS u (u.gf i).ID] else[]
theorem WW(u:Use)(i:Nat):(mM u i).length<=1:=by unfold mM;split<;>simp
theorem Dw(u:Use)(hu:dR u)(h0:σ[0]? =some (.tab 0 iR))(h1:σ[1]? =some (.loc 1)):ay prog 10 [.agg (u.cells u.dw)] σ (.eX [.d (SL none 2 Std.enc (if bT u=true then(gather (mM u) u.nf).length else 0) (nth (gather (mM u) u.nf))),.d (I (if bT u=true then 0 else 1))]):=by
 have b2:=hu.nf;have b3:=hu.nv;refine ay.be func10 fun hwf=> ?_;refine ak fun K hK=>sm ?_;refine hK _ ?_;refine aK ?_;refine ak fun K hK=>sm ?_;refine aW.mk (mJ _ u hu (aO h0) (aO h1)) (sm ?_);refine hK _ ?_;refine pW [1,11] ?_;refine ig ?_ ?_<;>intro c0 d0
 ·have hz:bT u=false:=by simpa using d0
  refine ak fun K hK=> ?_;simp[go_sem,d0];refine hK _ ?_;refine aj ?_;rw[hz];simp[go_sem,Go.aU.dD]
 ·have hz:bT u=true:=by simpa using d0
  refine aV ?_;refine ak fun K hK=> ?_;simp[go_sem,d0];refine hK _ ?_;refine aK ?_;refine ak fun K hK=> ?_;simp[go_sem];refine hK _ ?_;refine aN ?_;refine dn 4 2 (fun i=>Std.enc (nth ([]:List Std) i)) (by simp[go_sem]) (by simp[go_sem];rfl) ?_;refine bF [1,4,13,14,15] (by simp[go_sem,bf];rfl) ?_;refine qg [σ.length+1] (by simp) ?_;refine bU (α:=Nat) (fun q=>[(4,.ms (σ.length+1) 2 0 (gather (mM u) q).length),(15,.d (I q))]) (fun q=>σ++[.var (u.cells u.dw),.arr 2 (gather (mM u) q).length (fun k=>Std.enc (nth (gather (mM u) q) k))]) (fun q=>q<=u.nf) (fun q=>u.nf-q) 0 (by simp[go_sem,gather]) (by simp[go_sem,gather]) (by simp) ?_;rintro q hq;refine ak fun K hK=> ?_;simp[go_sem];refine hK _ ?_;refine aK ?_;refine pW [1,4,13,14,15,16] ?_;refine ig ?_ ?_<;>intro c1 d1
  ·have hq0:q<u.nf:=by omega
   have hl:=iT (WW u) q;refine aV ?_;refine aK ?_;refine aN ?_;refine ak fun K hK=> ?_;simp[go_sem,d1];refine hK _ ?_;refine ak fun K hK=> ?_;simp[go_sem];refine aW.mk (QX _ none u.nv u.gv ⟨1,(u.gf q).ID⟩ (by omega)) ?_;simp[go_sem];refine hK _ ?_;refine ak fun K hK=> ?_;simp[go_sem];refine hK _ ?_;refine pW [1,4,6,7,13,14,15,30] ?_;refine ig ?_ ?_<;>intro c2 d2
   ·have hg:gather (mM u) (q+1)=gather (mM u) q++[onS u (u.gf q).ID]:=by rw[gather,mM,if_pos (by simpa[onS] using d2)]
    refine aQ fun K hK=> ?_;simp[go_sem,d2,hwf.one];repeat refine⟨by omega,?_⟩
    refine hK _ ?_;refine bC (σ.length+1) (fun k=>Std.enc (nth (gather (mM u) q++[onS u (u.gf q).ID]) k)) (by simp[go_sem];exact⟨rfl,rfl,rfl⟩) (by exact fun k hk=>qF (enc:=Std.enc) (x:=onS u (u.gf q).ID) rfl hk) (by simp[go_sem];rfl) ?_;refine aQ fun K hK=> ?_;simp[go_sem];try simp(disch:=omega) only[aA]
    refine hK _ ?_;refine⟨q+1,bK (by simp[go_sem,hg]) ((au (by simp[go_sem]))) (by(simp[go_sem,hg]<;>omega)),by omega,by first|omega|(dsimp only;omega)⟩
   ·have hg:gather (mM u) (q+1)=gather (mM u) q:=by rw[gather,mM,if_neg (by simpa[onS] using d2)];simp
    refine aV ?_;refine aQ fun K hK=> ?_;simp[go_sem,c2];try simp(disch:=omega) only[aA]
    refine hK _ ?_;refine⟨q+1,bK (by simp[go_sem,hg]) ((au (by simp[go_sem]))) (by(simp[go_sem,hg]<;>omega)),by omega,by first|omega|(dsimp only;omega)⟩
  ·obtain rfl:q=u.nf:=by omega
   refine dh ?_;refine ak fun K hK=> ?_;simp[go_sem];refine hK _ ?_;refine aF hwf (σ.length+1) ?_;rw[if_pos hz,if_pos hz];exact aj sc
end Go.Proofs.YthlhlnbcjlpigaaGreatDoor
