/- Contracts and lemmas, joined out of smaller texts by a program; no conditions. -/
import Derived.Test.YtmahphgjkpgidaaGreatDoorKB32
import Derived.Test.YtmahphgjkpgidaaGreatDoorKB33
set_option linter.unusedVariables false
set_option linter.unusedSimpArgs false
set_option maxHeartbeats 1000000
set_option maxRecDepth 100000
namespace Go.Proofs.YtmahphgjkpgidaaGreatDoor
open Go.aU Go.dh Go.Proofs.Tryz
variable (σ : List aG)
structure sN where
 Reader:Int
 Unit:Int
 Day:Int
instance:Inhabited sN:=⟨⟨0,0,0⟩⟩
def sN.enc(s:sN):List D:=[I s.Reader,I s.Unit,I s.Day]
structure Use where
 P:oC
 nb:Nat
 gb:Nat->Bx
 nf:Nat
 gf:Nat->sO
 nv:Nat
 gv:Nat->iE
 nr:Nat
 gr:Nat->dU
 lT:Int
 nk:Nat
 gk:Nat->jH
 nt:Nat
 gt:Nat->fU
 nl:Nat
 gl:Nat->lD
 nw:Nat
 gw:Nat->sN
 Changed:Int
def Use.cells(u:Use)(w:AV):List AV:=[.d (SL none 5 kP.enc u.P.ns u.P.gs),.d (SL none 6 Rule.enc u.P.nc u.P.gc),.d (SL none 6 iq.enc u.P.np u.P.gp),.d (I u.P.jI),.d (SL none 6 jW.enc u.P.na u.P.ga),.d (SL none 6 jG.enc u.P.nm u.P.gm),
 .d (SL none 5 Bx.enc u.nb u.gb),.d (SL none 4 sO.enc u.nf u.gf),.d (SL none 6 iE.enc u.nv u.gv),.d (SL none 7 dU.enc u.nr u.gr),.d (I u.lT),.d (SL none 4 jH.enc u.nk u.gk),.d (SL none 8 fU.enc u.nt u.gt),.d (SL none 2 lD.enc u.nl u.gl),w,.d (I u.Changed)]
def Use.bG(u:Use):AV:= .d (SL none 3 sN.enc u.nw u.gw)
def zU:List AV:=[.d (.v (.slice none 0 0)),.d (.v (.slice none 0 0)),.d (.v (.slice none 0 0)),.d (I 0),.d (.v (.slice none 0 0)),.d (.v (.slice none 0 0)),.d (.v (.slice none 0 0)),.d (.v (.slice none 0 0)),.d (.v (.slice none 0 0)),.d (.v (.slice none 0 0)),.d (I 0),.d (.v (.slice none 0 0)),.d (.v (.slice none 0 0)),.d (.v (.slice none 0 0)),.d (.v (.slice none 0 0)),.d (I 0)]
attribute [go_sem] sN.enc Use.cells Use.bG zU
structure Ev where
 ID:Int
 Day:Int
 Kind:Int
 cn:Option Nat
 nn:Nat
 gn:Nat->Int
 ct:Option Nat
 nt:Nat
 gt:Nat->ByteArray
def encS(s:ByteArray):List D:=[Sb s]
def Ev.enc(e:Ev):List D:=[I e.ID,I e.Day,I e.Kind,SL e.cn 1 encI e.nn e.gn,SL e.ct 1 encS e.nt e.gt]
instance:Inhabited Ev:=⟨⟨0,0,0,none,0,fun _=>0,none,0,fun _=> .empty⟩⟩
attribute [go_sem] encS Ev.enc
structure dB(u:Use):Prop where
 P:kF u.P
 nb:u.nb<=1000000
 bx: ∀i,i<u.nb->(u.gb i).nc<=1000000
 nf:u.nf<=1000000
 nv:u.nv<=1000000
 nr:u.nr<=1000000
 nk:u.nk<=1000000
 nt:u.nt<=1000000
 bu: ∀i,i<u.nt->(u.gt i).nu<=1000000
 bb: ∀i,i<u.nt->(u.gt i).nb<=1000000
 nl:u.nl<=1000000
 nw:u.nw<=1000000
def rV(n:Nat)(g:Nat->sO)(k:Int):Int:=idxFrom (fun s:sO=>s.ID==k) (lst n g) 0
theorem sIx_lt(n:Nat)(g:Nat->sO)(k:Int):rV n g k<n:=mX _ n g
def aW(u:Use)(k:Int):rU:=(ql u.nv u.gv k).1
def CP(u:Use)(p:rU):Bool:=(p.Kind !=1)||decide (0<=rV u.nf u.gf p.Of)
def EH(u:Use)(m:iE):Bool:=decide (u.Changed<m.Day)||decide (lQ u.nb u.gb m.Box<0)|| !CP u m.From|| !CP u m.To
def oZ(u:Use):Bool:= !(lst u.nv u.gv).any (EH u)
def WR(u:Use)(i:Nat):Int:=if i=0 then eP u.P else if i=1 then fO u.nb u.gb else if i=2 then kG u.nf u.gf else if i=3 then jm u.nv u.gv else if i=4 then gJ u.nr u.gr else qh u.lT u.nk u.gk
def BatR(u:Use)(i:Nat):Prop:=lK (u.gt i)=0/\(0<i->(u.gt (i-1)).ID<(u.gt i).ID)
def LnkS(u:Use)(i:Nat):Prop:=mD (u.gl i).mM=true/\mD (u.gl i).Unit=true/\(0<i->(u.gl (i-1)).mM<(u.gl i).mM)
def ShwR(u:Use)(i:Nat):Prop:=mD (u.gw i).Reader=true/\mD (u.gw i).Unit=true/\qc (u.gw i).Day 0 u.Changed=true/\(0<i->(u.gw (i-1)).Day<=(u.gw i).Day)
structure PartsR(u:Use):Prop where
 chk: ∀i,i<6->WR u i=0
 VE: ∀i,i<u.nt->BatR u i
 lnk: ∀i,i<u.nl->LnkS u i
 shw: ∀i,i<u.nw->ShwR u i
 day:qc u.Changed 0 1048575=true
 nt:u.nt<=64
 nl:u.nl<=1024
 nw:u.nw<=1024
open Classical in
noncomputable def rZ(u:Use):Bool:=decide (PartsR u)
theorem qF{u:Use} :rZ u=true↔PartsR u:=by simp[rZ]
theorem Ea{u:Use}(h: ¬PartsR u):rZ u=false:=by rw[←Bool.not_eq_true,qF];exact h
theorem lu{p:Nat->Prop}{i:Nat}(h: ∀q,q<i->p q)(hi:p i): ∀q,q<i+1->p q:=fun q hq=>by
 rcases Nat.lt_or_eq_of_le (Nat.le_of_lt_succ hq) with h9|h9
 ·exact h q h9
 ·rw[h9];exact hi
theorem cloneClM_cs(c:Option Nat)(n:Nat)(g:Nat->Rule)(hn:n<1000000000):CS prog 77 [.d (SL c 6 Rule.enc n g)] σ (fun r σ' X=>r= .ms σ.length 6 0 n/\σ'=σ++[.arr 6 n fun i=>Rule.enc (g i)]/\X=[]):=by
 refine CS.VD true func77 fun hwf=> ?_;simp[go_sem,-Bool.forall_bool];try intro b1 hb1
 refine fZ ?_ ?_<;>intro c0 d0
 ·simp[go_sem];refine dG 2 6 (fun i=>Rule.enc (g i)) (by simp[go_sem]) (by simp[go_sem];rfl) ?_;refine aj ?_;obtain rfl:=hb1 c0;simp[go_sem]
 ·simp[go_sem];repeat refine⟨by omega,?_⟩
  exact aj so
theorem XT(c:Option Nat)(n:Nat)(g:Nat->jW)(hn:n<1000000000):CS prog 79 [.d (SL c 6 jW.enc n g)] σ (fun r σ' X=>r= .ms σ.length 6 0 n/\σ'=σ++[.arr 6 n fun i=>jW.enc (g i)]/\X=[]):=by
 refine CS.VD true func79 fun hwf=> ?_;simp[go_sem,-Bool.forall_bool];try intro b1 hb1
 refine fZ ?_ ?_<;>intro c0 d0
 ·simp[go_sem];refine dG 2 6 (fun i=>jW.enc (g i)) (by simp[go_sem]) (by simp[go_sem];rfl) ?_;refine aj ?_;obtain rfl:=hb1 c0;simp[go_sem]
 ·simp[go_sem];repeat refine⟨by omega,?_⟩
  exact aj so
theorem XL(c:Option Nat)(n:Nat)(g:Nat->sO)(hn:n<1000000000):CS prog 83 [.d (SL c 4 sO.enc n g)] σ (fun r σ' X=>r= .ms σ.length 4 0 n/\σ'=σ++[.arr 4 n fun i=>sO.enc (g i)]/\X=[]):=by
 refine CS.VD true func83 fun hwf=> ?_;simp[go_sem,-Bool.forall_bool];try intro b1 hb1
 refine fZ ?_ ?_<;>intro c0 d0
 ·simp[go_sem];refine dG 2 4 (fun i=>sO.enc (g i)) (by simp[go_sem]) (by simp[go_sem];rfl) ?_;refine aj ?_;obtain rfl:=hb1 c0;simp[go_sem]
 ·simp[go_sem];repeat refine⟨by omega,?_⟩
  exact aj so
theorem XR(c:Option Nat)(n:Nat)(g:Nat->fU)(hn:n<1000000000):CS prog 87 [.d (SL c 8 fU.enc n g)] σ (fun r σ' X=>r= .ms σ.length 8 0 n/\σ'=σ++[.arr 8 n fun i=>fU.enc (g i)]/\X=[]):=by
 refine CS.VD true func87 fun hwf=> ?_;simp[go_sem,-Bool.forall_bool];try intro b1 hb1
 refine fZ ?_ ?_<;>intro c0 d0
 ·simp[go_sem];refine dG 2 8 (fun i=>fU.enc (g i)) (by simp[go_sem]) (by simp[go_sem];rfl) ?_;refine aj ?_;obtain rfl:=hb1 c0;simp[go_sem]
 ·simp[go_sem];repeat refine⟨by omega,?_⟩
  exact aj so
theorem XK(c:Option Nat)(n:Nat)(g:Nat->sN)(hn:n<1000000000):CS prog 89 [.d (SL c 3 sN.enc n g)] σ (fun r σ' X=>r= .ms σ.length 3 0 n/\σ'=σ++[.arr 3 n fun i=>sN.enc (g i)]/\X=[]):=by
 refine CS.VD true func89 fun hwf=> ?_;simp[go_sem,-Bool.forall_bool];try intro b1 hb1
 refine fZ ?_ ?_<;>intro c0 d0
 ·simp[go_sem];refine dG 2 3 (fun i=>sN.enc (g i)) (by simp[go_sem]) (by simp[go_sem];rfl) ?_;refine aj ?_;obtain rfl:=hb1 c0;simp[go_sem]
 ·simp[go_sem];repeat refine⟨by omega,?_⟩
  exact aj so
theorem JG(c:Option Nat)(n:Nat)(g:Nat->iE)(hn:n<1000000000):aA prog 84 [.d (SL c 6 iE.enc n g)] σ (.d (SL none 6 iE.enc n g)):=by
 refine aA.bd true func84 fun hwf=> ?_;simp[go_sem,-Bool.forall_bool];try intro b1 hb1
 refine fZ ?_ ?_<;>intro c0 d0
 ·simp[go_sem];refine aj ?_;have:=hb1 c0;simp[go_sem,this]
 ·simp[go_sem];repeat refine⟨by omega,?_⟩
  refine bK (σ.length) (by simp[go_sem];exact⟨rfl,rfl,rfl⟩) (by simp[go_sem];rfl) (by simp[go_sem,hwf.sZ,hwf.qH];rfl) ?_;exact aj so
theorem JD(c:Option Nat)(n:Nat)(g:Nat->dU)(hn:n<1000000000):aA prog 85 [.d (SL c 7 dU.enc n g)] σ (.d (SL none 7 dU.enc n g)):=by
 refine aA.bd true func85 fun hwf=> ?_;simp[go_sem,-Bool.forall_bool];try intro b1 hb1
 refine fZ ?_ ?_<;>intro c0 d0
 ·simp[go_sem];refine aj ?_;have:=hb1 c0;simp[go_sem,this]
 ·simp[go_sem];repeat refine⟨by omega,?_⟩
  refine bK (σ.length) (by simp[go_sem];exact⟨rfl,rfl,rfl⟩) (by simp[go_sem];rfl) (by simp[go_sem,hwf.sZ,hwf.qH];rfl) ?_;exact aj so
theorem JJ(c:Option Nat)(n:Nat)(g:Nat->jH)(hn:n<1000000000):aA prog 86 [.d (SL c 4 jH.enc n g)] σ (.d (SL none 4 jH.enc n g)):=by
 refine aA.bd true func86 fun hwf=> ?_;simp[go_sem,-Bool.forall_bool];try intro b1 hb1
 refine fZ ?_ ?_<;>intro c0 d0
 ·simp[go_sem];refine aj ?_;have:=hb1 c0;simp[go_sem,this]
 ·simp[go_sem];repeat refine⟨by omega,?_⟩
  refine bK (σ.length) (by simp[go_sem];exact⟨rfl,rfl,rfl⟩) (by simp[go_sem];rfl) (by simp[go_sem,hwf.sZ,hwf.qH];rfl) ?_;exact aj so
theorem JH(c:Option Nat)(n:Nat)(g:Nat->lD)(hn:n<1000000000):aA prog 88 [.d (SL c 2 lD.enc n g)] σ (.d (SL none 2 lD.enc n g)):=by
 refine aA.bd true func88 fun hwf=> ?_;simp[go_sem,-Bool.forall_bool];try intro b1 hb1
 refine fZ ?_ ?_<;>intro c0 d0
 ·simp[go_sem];refine aj ?_;have:=hb1 c0;simp[go_sem,this]
 ·simp[go_sem];repeat refine⟨by omega,?_⟩
  refine bK (σ.length) (by simp[go_sem];exact⟨rfl,rfl,rfl⟩) (by simp[go_sem];rfl) (by simp[go_sem,hwf.sZ,hwf.qH];rfl) ?_;exact aj so
theorem pO(c:Option Nat)(n:Nat)(g:Nat->jG)(hn:n<1000000000):aA prog 80 [.d (SL c 6 jG.enc n g)] σ (.d (SL none 6 jG.enc n g)):=by
 refine aA.bd true func80 fun hwf=> ?_;simp[go_sem,-Bool.forall_bool];try intro b1 hb1
 refine fZ ?_ ?_<;>intro c0 d0
 ·simp[go_sem];refine aj ?_;have:=hb1 c0;simp[go_sem,this]
 ·simp[go_sem];repeat refine⟨by omega,?_⟩
  refine bK (σ.length) (by simp[go_sem];exact⟨rfl,rfl,rfl⟩) (by simp[go_sem];rfl) (by simp[go_sem,hwf.sZ,hwf.qH];rfl) ?_;exact aj so
theorem uf(c:Option Nat)(n:Nat)(g:Nat->Int)(hn:n<1000000000):aA prog 43 [.d (SL c 1 encI n g)] σ (.d (SL none 1 encI n g)):=by
 refine aA.bd true func43 fun hwf=> ?_;simp[go_sem,-Bool.forall_bool];try intro b1 hb1
 refine fZ ?_ ?_<;>intro c0 d0
 ·simp[go_sem];refine aj ?_;have:=hb1 c0;simp[go_sem,this]
 ·simp[go_sem];repeat refine⟨by omega,?_⟩
  refine bK (σ.length) (by simp[go_sem];exact⟨rfl,rfl,rfl⟩) (by simp[go_sem];rfl) (by simp[go_sem,hwf.sZ,hwf.qH];rfl) ?_;exact aj so
theorem qm(n a b:Int):aA prog 58 [.d (I n),.d (I a),.d (I b)] σ (.d (B (qc n a b))):=by
 refine aA.bs true func58 fun hwf=> ?_;refine aj ?_;simp[go_sem,qc]<;>omega
theorem DV(n:Int):aA prog 107 [.d (I n)] σ (.d (B (mD n))):=by
 refine aA.bs true func107 fun hwf=> ?_;refine aO.mk (qm _ _ _ _) (sm ?_);refine aj ?_;simp[go_sem,mD]<;>omega
theorem Qa(τ:List aG)(r:Bx)(k:Int):aA prog 95 [.agg (r.enc.map .d),.ptr σ.length 0] (σ++ .var [.d (I k)]::τ) (.d (B (r.ID==k))):=by
 refine aA.bs true func95 fun hwf=> ?_;exact aj so
theorem svc_sh1_cs(τ:List aG)(r:sO)(k:Int):aA prog 150 [.agg (r.enc.map .d),.ptr σ.length 0] (σ++ .var [.d (I k)]::τ) (.d (B (r.ID==k))):=by
 refine aA.bs true func150 fun hwf=> ?_;exact aj so
theorem Ku(u:Use)(k:Int)(hn:u.nb<1000000000):aA prog 53 [.agg (u.cells u.bG),.d (I k)] σ (.d (I (lQ u.nb u.gb k))):=by
 refine aA.bs true func53 fun hwf=> ?_;refine aO.mk (uO _ none u.nb u.gb _ _ (fun r=>r.ID==k) hn (fun i hi=>by have h:=nA (Qa (σ++[.var (u.cells u.bG)]) [] (u.gb i) k);exact h)) ?_;simp[go_sem];refine aj ?_;simp[go_sem,lQ]<;>omega
theorem Kt(u:Use)(k:Int)(hn:u.nf<1000000000):aA prog 109 [.agg (u.cells u.bG),.d (I k)] σ (.d (I (rV u.nf u.gf k))):=by
 refine aA.bs true func109 fun hwf=> ?_;refine aO.mk (MQ _ none u.nf u.gf _ _ (fun r=>r.ID==k) hn (fun i hi=>by have h:=nA (svc_sh1_cs (σ++[.var (u.cells u.bG)]) [] (u.gf i) k);exact h)) ?_;simp[go_sem];refine aj ?_;simp[go_sem,rV]<;>omega
theorem nD(u:Use)(k:Int)(hn:u.nv<1000000000):aA prog 54 [.agg (u.cells u.bG),.d (I k)] σ (.agg ((aW u k).enc.map .d)):=by
 refine aA.bs true func54 fun hwf=> ?_;refine aO.mk (x9 _ none u.nv u.gv k hn) (sm ?_);refine aj ?_;simp[go_sem,aW]<;>omega
theorem svc_bxM_cs(u:Use)(b:Nat)(k:Int)(hn:u.nb<1000000000):aA prog 53 [.agg (u.cells (.ms b 3 0 u.nw)),.d (I k)] σ (.d (I (lQ u.nb u.gb k))):=by
 refine aA.bs true func53 fun hwf=> ?_;refine aO.mk (uO _ none u.nb u.gb _ _ (fun r=>r.ID==k) hn (fun i hi=>by have h:=nA (Qa (σ++[.var (u.cells (.ms b 3 0 u.nw))]) [] (u.gb i) k);exact h)) ?_;simp[go_sem];refine aj ?_;simp[go_sem,lQ]<;>omega
theorem Bz(u:Use)(b:Nat)(k:Int)(hn:u.nv<1000000000):aA prog 54 [.agg (u.cells (.ms b 3 0 u.nw)),.d (I k)] σ (.agg ((aW u k).enc.map .d)):=by
 refine aA.bs true func54 fun hwf=> ?_;refine aO.mk (x9 _ none u.nv u.gv k hn) (sm ?_);refine aj ?_;simp[go_sem,aW]<;>omega
theorem V6(u:Use)(hu:dB u)(h0:σ[0]? =some (.tab 0 gK))(h1:σ[1]? =some (.loc 1)):aA prog 63 [.agg (u.cells u.bG)] σ (.d (B (rZ u))):=by
 have b1:=hu.nb;have b2:=hu.nf;have b3:=hu.nv;have b4:=hu.nr;have b5:=hu.nk;have b6:=hu.nt;have b7:=hu.nl;have b8:=hu.nw;refine aA.bs true func63 fun hwf=> ?_;refine T.dr 23 fun K hK=>sm ?_;refine dF.mk (mP _ u.P hu.P (aC h1)) (sm ?_);refine dF.mk (pU _ none u.nb u.gb (by omega) (fun i hi=>by have:=hu.bx i hi;omega)) ?_;simp[go_sem];refine dF.mk (xq _ none u.nf u.gf (by omega)) (sm ?_);refine dF.mk (qK _ none u.nv u.gv (by omega)) (sm ?_);refine dF.mk (qy _ none u.nr u.gr (by omega)) (sm ?_);refine dF.mk (xE _ u.lT none u.nk u.gk (by omega)) (sm ?_);refine hK _ ?_;refine go true (sm ?_);refine kQ (α:=Nat) true [1,31,32,33] (fun i=>[(33,.d (I i))]) (fun i=>_) (fun i=>i<=6/\∀q,q<i->WR u q=0) (fun i=>6-i) 0 ?_;rintro i ⟨hi,hx⟩;simp[go_sem];refine aJ [1,31,32,33] ?_ ?_<;>intro c0 d0
 ·have hcs:i=0\/i=1\/i=2\/i=3\/i=4\/i=5:=by omega
  have hrow:rowsOf 1 [I (eP u.P),I (fO u.nb u.gb),I (kG u.nf u.gf),I (jm u.nv u.gv),I (gJ u.nr u.gr),I (qh u.lT u.nk u.gk)] i=[I (WR u i)]:=by
   rcases hcs with rfl|rfl|rfl|rfl|rfl|rfl<;>rfl
  simp[go_sem,hrow];repeat refine⟨by omega,?_⟩
  refine aJ [1,31,32,33] ?_ ?_<;>intro c1 d1
  ·have hz:rZ u=false:=Ea fun h=>d1 (h.chk i (by omega));simp[go_sem];rw[hz];exact aj sc
  ·have hz1:WR u i=0:=by simpa using d1
   simp(disch:=first|omega|simp) [go_sem,aH];refine gB (i+1) ⟨by omega,lu hx hz1⟩ (h:=by simp[go_sem]<;>omega)
 ·obtain rfl:i=6:=by omega
  simp[go_sem];refine go true (sm ?_);refine kQ (α:=Nat) true [1,41,42,43] (fun q=>[(43,.d (I q))]) (fun q=>_) (fun q=>q<=u.nt/\∀k,k<q->BatR u k) (fun q=>u.nt-q) 0 ?_;rintro q ⟨hq,hb⟩;have hwq:=dn (i:=q) (by omega);simp[go_sem];refine aJ [1,41,42,43] ?_ ?_<;>intro c2 d2
  ·have hi2:q<u.nt:=by omega
   have g1:=hu.bu q hi2;have g2:=hu.bb q hi2;simp[go_sem,hi2];refine T.dr 19 fun K hK=> ?_;simp[go_sem];refine dF.mk (jk _ (u.gt q) (by omega) (by omega) (aC h0)) ?_;simp[go_sem,hwq];repeat refine⟨by omega,?_⟩
   refine hK _ ?_;refine go true ?_;simp[go_sem];refine aJ [1,41,42,43] ?_ ?_<;>intro c3 d3
   ·have hz:rZ u=false:=Ea fun h=>by
     have⟨h3,h4⟩:=h.VE q hi2;simp[h3] at d3;omega
    simp[go_sem];rw[hz];exact aj sc
   ·have hr3:BatR u q:=⟨d3.1,fun h=>by have:=d3.2;omega⟩;simp(disch:=first|omega|simp) [go_sem,aH];refine gB (q+1) ⟨by omega,lu hb hr3⟩ (h:=by simp[go_sem]<;>omega)
  ·obtain rfl:q=u.nt:=by omega
   simp[go_sem];refine go true ?_;simp[go_sem];refine kQ (α:=Nat) true [1,69,70,71] (fun r=>[(71,.d (I r))]) (fun r=>_) (fun r=>r<=u.nl/\∀k,k<r->LnkS u k) (fun r=>u.nl-r) 0 ?_;rintro r ⟨hr,hl⟩;have hwr:=dn (i:=r) (by omega);simp[go_sem];refine aJ [1,69,70,71] ?_ ?_<;>intro c4 d4
   ·have hi4:r<u.nl:=by omega
    simp[go_sem,hi4];refine T.dr 26 fun K hK=> ?_;simp[go_sem];refine dF.mk (DV _ (u.gl r).mM) ?_;simp[go_sem];refine dF.mk (DV _ (u.gl r).Unit) ?_;simp[go_sem,hwr];repeat refine⟨by omega,?_⟩
    refine hK _ ?_;refine go true ?_;simp[go_sem];refine aJ [1,69,70,71] ?_ ?_<;>intro c5 d5
    ·have hz:rZ u=false:=Ea fun h=>by
      have⟨h3,h4,h5⟩:=h.lnk r hi4;simp[h3,h4] at d5;omega
     simp[go_sem];rw[hz];exact aj sc
    ·have hr5:LnkS u r:=⟨d5.1.1,d5.1.2,fun h=>by have:=d5.2;omega⟩;simp(disch:=first|omega|simp) [go_sem,aH];refine gB (r+1) ⟨by omega,lu hl hr5⟩ (h:=by simp[go_sem]<;>omega)
   ·obtain rfl:r=u.nl:=by omega
    simp[go_sem];refine go true ?_;simp[go_sem];refine kQ (α:=Nat) true [1,104,105,106] (fun s=>[(106,.d (I s))]) (fun s=>_) (fun s=>s<=u.nw/\∀k,k<s->ShwR u k) (fun s=>u.nw-s) 0 ?_;rintro s ⟨hs,hw⟩;have hws:=dn (i:=s) (by omega);simp[go_sem];refine aJ [1,104,105,106] ?_ ?_<;>intro c6 d6
    ·have hi6:s<u.nw:=by omega
     simp[go_sem,hi6];refine T.dr 34 fun K hK=> ?_;simp[go_sem];refine dF.mk (DV _ (u.gw s).Reader) ?_;simp[go_sem];refine dF.mk (DV _ (u.gw s).Unit) ?_;simp[go_sem];refine dF.mk (qm _ (u.gw s).Day 0 u.Changed) ?_;simp[go_sem,hws];repeat refine⟨by omega,?_⟩
     refine hK _ ?_;refine go true ?_;simp[go_sem];refine aJ [1,104,105,106] ?_ ?_<;>intro c7 d7
     ·have hz:rZ u=false:=Ea fun h=>by
       have⟨h3,h4,h5,h6⟩:=h.shw s hi6;simp[h3,h4,h5] at d7;omega
      simp[go_sem];rw[hz];exact aj sc
     ·have hr7:ShwR u s:=⟨d7.1.1.1,d7.1.1.2,d7.1.2,fun h=>by have:=d7.2;omega⟩;simp(disch:=first|omega|simp) [go_sem,aH];refine gB (s+1) ⟨by omega,lu hw hr7⟩ (h:=by simp[go_sem]<;>omega)
    ·obtain rfl:s=u.nw:=by omega
     have hz:rZ u=(qc u.Changed 0 1048575&&decide ((u.nt:Int)<=64)&&decide ((u.nl:Int)<=1024)&&decide ((u.nw:Int)<=1024)):=by
      rw[Bool.eq_iff_iff,qF];simp only[Bool.and_eq_true,decide_eq_true_eq];exact⟨fun h=>⟨⟨⟨h.day,by have:=h.nt;omega⟩,by have:=h.nl;omega⟩,by have:=h.nw;omega⟩,fun h=>⟨hx,hb,hl,hw,h.1.1.1,by have:=h.1.1.2;omega,by have:=h.1.2;omega,by have:=h.2;omega⟩⟩
     simp[go_sem];refine go true ?_;simp[go_sem];refine aO.mk (qm _ u.Changed 0 1048575) ?_;simp[go_sem];rw[hz];exact aj sc
theorem P7(u:Use)(p:rU)(τ:List aG)(hn:u.nf<1000000000):aA prog 108 [.agg (p.enc.map .d),.ptr σ.length 0] (σ++ .var (u.cells u.bG)::τ) (.d (B (CP u p))):=by
 refine aA.bs true func108 fun hwf=> ?_;refine fM.mk' (.d (I (rV u.nf u.gf p.Of))) (fun _=>Kt _ u p.Of hn) (sm ?_);refine aj ?_;simp[go_sem,CP]
theorem svc_mv2_cs(u:Use)(m:iE)(τ:List aG)(hb:u.nb<1000000000)(hn:u.nf<1000000000):aA prog 111 [.agg (m.enc.map .d),.ptr σ.length 0,.ptr (σ.length+1) 0] (σ++ .var (u.cells u.bG):: .var [.clo (.func 108) [] [.ptr σ.length 0]]::τ) (.d (B (EH u m))):=by
 refine aA.bs true func111 fun hwf=> ?_;refine fM.mk' (.d (I (lQ u.nb u.gb m.Box))) (fun _=>Ku _ u m.Box hb) (sm ?_);refine fM.mk' (.d (B (CP u m.From))) (fun _=>by have h:=P7 σ u m.From (.var [.clo (.func 108) [] [.ptr σ.length 0]]::(τ++[.var (m.enc.map .d)])) hn;simpa[go_sem] using h) ?_;simp[go_sem];refine fM.mk' (.d (B (CP u m.To))) (fun _=>by have h:=P7 σ u m.To (.var [.clo (.func 108) [] [.ptr σ.length 0]]::(τ++[.var (m.enc.map .d)])) hn;simpa[go_sem] using h) ?_;simp[go_sem];refine aj ?_;simp[go_sem,EH]
theorem V7(u:Use)(hu:dB u):aA prog 64 [.agg (u.cells u.bG)] σ (.d (B (oZ u))):=by
 have b1:=hu.nb;have b2:=hu.nf;have b3:=hu.nv;refine aA.bs true func64 fun hwf=> ?_;refine aO.mk (SE _ none u.nv u.gv _ _ (EH u) (by omega) (fun i hi=>by have h:=svc_mv2_cs σ u (u.gv i) [] (by omega) (by omega);exact h)) ?_;simp[go_sem];refine aj ?_;simp[go_sem,oZ]
def iF(f:Int->Int):Key->D
 | .i x=>I (f x)
 | .s _=>I 0
theorem iF_i(f:Int->Int)(x:Int):iF f (.i x)=I (f x):=rfl
attribute [go_sem] iF_i
def AO(f:Int->Int)(x v:Int):Int->Int:=fun y=>if y=x then v else f y
theorem VW(f:Int->Int)(x v:Int):lX (fun k=>AV.d (iF f k)) (.i x) (.d (I v))=fun k=> .d (iF (AO f x v) k):=by
 funext k
 unfold lX;cases k with
 |i y=>
  by_cases h:y=x
  ·subst h;simp[iF,AO]
  ·simp[iF,AO,h]
 |s b=>simp[iF]
theorem setI_at(f:Int->Int)(x v:Int):AO f x v x=v:=if_pos rfl
theorem Qu{f:Int->Int}{ks:List Key}{x v:Int}(h: ∀y,Key.i y∉ks->f y=0): ∀y,Key.i y∉kU (.i x) ks->AO f x v y=0:=fun y hy=>by
 rw[gW] at hy;unfold AO;rw[if_neg (fun e=>hy (.inl (by rw[e])))];exact h y (fun e=>hy (.inr e))
theorem Kz{ks:List Key}{x:Int}(h: ∀k∈ks,k.str=false): ∀k∈kU (.i x) ks,k.str=false:=fun k hk=>by
 rcases gW.1 hk with rfl|hk
 ·rfl
 ·exact h k hk
theorem movS_to(s:N7)(m:iE)(x:Int):(qG s m).pl x=s.pl x\/(qG s m).pl x=m.To:=by
 unfold qG;split
 ·show FN s.pl m.Box m.To x=_\/FN s.pl m.Box m.To x=_
  unfold FN;split
  ·exact .inr rfl
  ·exact .inl rfl
 ·exact .inl rfl
theorem Zt{g:Nat->iE}(x:Int): ∀{k i:Nat} {s:N7},(eG g i s k).2.pl x=s.pl x\/∃q,i<=q/\q<i+k/\(eG g i s k).2.pl x=(g q).To
 |0,i,s=> .inl rfl
 |k+1,i,s=>by
  rw[eG];split
  ·exact .inl rfl
  ·rename_i h;rcases Zt x (k:=k) (i:=i+1) (s:=qG s (g i)) with h1|⟨q,h1,h2,h3⟩
   ·rw[h1];rcases movS_to s (g i) x with h2|h2
    ·exact .inl h2
    ·exact .inr ⟨i,Nat.le_refl _,by omega,h2⟩
   ·exact .inr ⟨q,by omega,by omega,h3⟩
theorem plc_to(u:Use)(k:Int):aW u k=⟨0,0⟩\/∃q,q<u.nv/\aW u k=(u.gv q).To:=by
 unfold aW ql;by_cases h1:jm u.nv u.gv≠0
 ·rw[if_pos h1];exact .inl rfl
 ·rw[if_neg h1];by_cases h2:mD k=false
  ·rw[if_pos h2];exact .inl rfl
  ·rw[if_neg h2];unfold bF;split
   ·exact .inl rfl
   ·rcases Zt (g:=u.gv) k (k:=u.nv) (i:=0) (s:=zf) with h|⟨q,_,h3,h4⟩
    ·left;exact h
    ·exact .inr ⟨q,by omega,h4⟩
theorem movesB_at{u:Use}(h:oZ u=true){q:Nat}(hq:q<u.nv):EH u (u.gv q)=false:=by
 unfold oZ at h;have h1:(lst u.nv u.gv).any (EH u)=false:=by simpa using h
 rw[List.any_eq_false] at h1;have:=h1 (u.gv q) (List.mem_map.2 ⟨q,by simpa using hq,rfl⟩);simpa using this
theorem D7{u:Use}(hm:oZ u=true){k:Int}(h:(aW u k).Kind=1):0<=rV u.nf u.gf (aW u k).Of:=by
 rcases plc_to u k with h1|⟨q,hq,h1⟩
 ·rw[h1] at h;cases h
 ·have h2:=movesB_at hm hq;unfold EH at h2;simp only[Bool.or_eq_false_iff,Bool.not_eq_false'] at h2;have h3:=h2.2;unfold CP at h3;rw[←h1,h] at h3;simpa using h3
def uS(u:Use)(i:Nat)(f:Int->Int):Nat->Bool
 |0=>true
 |k+1=>if(aW u (u.gb i).ID).Kind≠1 then uS u (i+1) f k
  else if(u.gf (rV u.nf u.gf (aW u (u.gb i).ID).Of).toNat).Length<f (u.gf (rV u.nf u.gf (aW u (u.gb i).ID).Of).toNat).ID+(u.gb i).Width\/(u.gf (rV u.nf u.gf (aW u (u.gb i).ID).Of).toNat).cO≠(u.gb i).cO then false
  else uS u (i+1) (AO f (u.gf (rV u.nf u.gf (aW u (u.gb i).ID).Of).toNat).ID (f (u.gf (rV u.nf u.gf (aW u (u.gb i).ID).Of).toNat).ID+(u.gb i).Width)) k
theorem Z9{u:Use}{i:Nat}{f:Int->Int}{n:Nat}(h:i<n):uS u i f (n-i)=if(aW u (u.gb i).ID).Kind≠1 then uS u (i+1) f (n-(i+1))
  else if(u.gf (rV u.nf u.gf (aW u (u.gb i).ID).Of).toNat).Length<f (u.gf (rV u.nf u.gf (aW u (u.gb i).ID).Of).toNat).ID+(u.gb i).Width\/(u.gf (rV u.nf u.gf (aW u (u.gb i).ID).Of).toNat).cO≠(u.gb i).cO then false
  else uS u (i+1) (AO f (u.gf (rV u.nf u.gf (aW u (u.gb i).ID).Of).toNat).ID (f (u.gf (rV u.nf u.gf (aW u (u.gb i).ID).Of).toNat).ID+(u.gb i).Width)) (n-(i+1)):=by
 obtain⟨k,hk⟩: ∃k,n-i=k+1:=⟨n-i-1,by omega⟩;rw[hk,uS,show n-(i+1)=k by omega]
def xM(u:Use):Bool:=uS u 0 (fun _=>0) u.nb
def fV(u:Use):Nat->List Key×(Int->Int)
 |0=>([],fun _=>0)
 |i+1=>if(u.gr i).State=2 then(kU (.i (u.gr i).Box) (fV u i).1,AO (fV u i).2 (u.gr i).Box (u.gr i).Reader) else fV u i
theorem Ip(u:Use): ∀i y,Key.i y∉(fV u i).1->(fV u i).2 y=0
 |0,_,_=>rfl
 |i+1,y,h=>by
  unfold fV at h⊢;split at h
  ·rename_i h1;rw[if_pos h1];exact Qu (Ip u i) y h
  ·rename_i h1;rw[if_neg h1];exact Ip u i y h
theorem KW(u:Use): ∀i,∀k∈(fV u i).1,k.str=false
 |0,k,h=>nomatch h
 |i+1,k,h=>by
  unfold fV at h;split at h
  ·exact Kz (KW u i) k h
  ·exact KW u i k h
structure LentR(u:Use):Prop where
 day: ∀i,i<u.nr->(u.gr i).Changed<=u.Changed
 out: ∀x,Key.i x∈(fV u u.nr).1->aW u x=⟨3,(fV u u.nr).2 x⟩
 box: ∀i,i<u.nb->(aW u (u.gb i).ID).Kind=3->(fV u u.nr).2 (u.gb i).ID=(aW u (u.gb i).ID).Of
open Classical in
noncomputable def IG(u:Use):Bool:=decide (LentR u)
theorem Cm{u:Use} :IG u=true↔LentR u:=by simp[IG]
theorem lntB_no{u:Use}(h: ¬LentR u):IG u=false:=by rw[←Bool.not_eq_true,Cm];exact h
def Va(u:Use)(b:Bx):Bool:=((aW u b.ID).Kind==3)&&((fV u u.nr).2 b.ID !=(aW u b.ID).Of)
noncomputable def dD(u:Use):Bool:=rZ u&&oZ u&&xM u&&IG u
theorem YC(u:Use)(hu:dB u)(hm:oZ u=true)(hc:fO u.nb u.gb=0):aA prog 65 [.agg (u.cells u.bG)] σ (.d (B (xM u))):=by
 have b1:=hu.nb;have b2:=hu.nf;have b3:=hu.nv;have hbx:=kZ hc;refine aA.bd false func65 fun hwf=> ?_;simp[go_sem];refine go false ?_;simp[go_sem];refine En (σ.length+1) (ks':=[]) (f':=fun k=> .d (iF (fun _=>0) k)) (by simp[go_sem];exact⟨rfl,rfl⟩) (.refl _) (fun k hk=>nomatch hk) (fun k=>rfl) (by first|(simp[go_sem];rfl)|rfl) ?_;refine go false ?_;simp[go_sem];refine go true ?_;simp[go_sem];refine Pz (α:=Nat×List Key×(Int->Int)) true [1,3,10,11,12] (fun x=>[(12,.d (I x.1))]) (fun x=>σ++[.var (u.cells u.bG),.mp false x.2.1 (fun k=> .d (iF x.2.2 k))]) (fun x=>x.1<=u.nb/\xM u=uS u x.1 x.2.2 (u.nb-x.1)/\(∀y,Key.i y∉x.2.1->x.2.2 y=0)/\(∀k∈x.2.1,k.str=false)/\∀y,0<=x.2.2 y/\x.2.2 y<=10000*(x.1:Int)) (fun x=>u.nb-x.1) (0,[],fun _=>0) (by simp[go_sem]) (rfl) (⟨by simp,by simp[xM],fun _ _=>rfl,fun k hk=>(nomatch hk),fun y=>⟨by simp,by simp⟩⟩) ?_;rintro⟨i,ks,f⟩ ⟨hi,hx,ho,hk,hf⟩;dsimp only at hi hx ho hk hf;simp[go_sem];refine aJ [1,3,10,11,12] ?_ ?_<;>intro c0 d0
 ·have hst:=Z9 (u:=u) (f:=f) d0;have hwd:=(rO (hbx.2 i d0)).1;simp only[Gx,Bool.and_eq_true] at hwd;have hwd:=fJ.1 hwd.1.1.1.2;simp[go_sem];repeat refine⟨by omega,?_⟩
  refine aO.mk (nD _ u (u.gb i).ID (by omega)) ?_;simp[go_sem];refine aJ [1,3,5,6,10,11,12] ?_ ?_<;>intro c1 d1
  ·simp(disch:=first|omega|simp) [go_sem,aH];refine gB ((i+1,ks,f)) ⟨by dsimp only;omega,by dsimp only;rw[hx,hst,if_pos d1],ho,hk,fun y=>⟨(hf y).1,by have:=(hf y).2;dsimp only;omega⟩⟩ (h:=by simp[go_sem]<;>omega) (hσ:=by simp[go_sem]) (hb:=au (by simp[go_sem]))
  ·have hkd:(aW u (u.gb i).ID).Kind=1:=by simpa using d1
   have hsi:=D7 hm hkd;have hsl:=sIx_lt u.nf u.gf (aW u (u.gb i).ID).Of;obtain⟨s,hs,hsn⟩: ∃s:Nat,rV u.nf u.gf (aW u (u.gb i).ID).Of=(s:Int)/\s<u.nf:=⟨(rV u.nf u.gf (aW u (u.gb i).ID).Of).toNat,by omega,by omega⟩;have hst2:=hst;rw[if_neg (by simpa using hkd),hs,Int.toNat_natCast] at hst2;have e1:cond (decide (Key.i (u.gf s).ID∈ks)) (f (u.gf s).ID) 0=f (u.gf s).ID:=by
    by_cases h:Key.i (u.gf s).ID∈ks
    ·simp[h]
    ·simp[h,ho _ h]
   have hw2:IntKind.i64.wrap (f (u.gf s).ID+(u.gb i).Width)=f (u.gf s).ID+(u.gb i).Width:=by
    have:=hf (u.gf s).ID;simp(disch:=omega) only[aH]
   have hin:Key.i (u.gf s).ID∈kU (.i (u.gf s).ID) ks:=gW.2 (.inl rfl);simp[go_sem];apply bW 9 8 10 T.mixed (by kernel_rfl)
   ·intro τ K hK;simp[go_sem];refine dF.mk (Kt _ u (aW u (u.gb i).ID).Of (by omega)) ?_;simp[go_sem,hs,hsn];exact hK _ _
   intro K hK;simp[go_sem];refine hK _ ?_;refine go true ?_;simp(disch:=first|omega|simp) [go_sem,VW,setI_at,e1,hw2,hin];refine aJ [1,3,10,11,12] ?_ ?_<;>intro c2 d2
   ·have hz:xM u=false:=by rw[hx,hst2,if_pos (by simpa using d2)]
    simp[go_sem];rw[hz];exact aj sc
   ·have hd2: ¬((u.gf s).Length<f (u.gf s).ID+(u.gb i).Width\/(u.gf s).cO≠(u.gb i).cO):=by simpa using d2
    simp(disch:=first|omega|simp) [go_sem,aH];refine gB ((i+1,kU (.i (u.gf s).ID) ks,AO f (u.gf s).ID (f (u.gf s).ID+(u.gb i).Width))) ⟨by dsimp only;omega,by dsimp only;rw[hx,hst2,if_neg hd2],Qu ho,Kz hk,fun y=>by dsimp only;unfold AO;have:=hf y;have:=hf (u.gf s).ID;split<;>omega⟩ (h:=by simp[go_sem]<;>omega) (hσ:=by simp[go_sem]) (hb:=au (by simp[go_sem]))
 ·have hz:xM u=true:=by rw[hx,show u.nb-i=0 by omega];rfl
  simp[go_sem];refine go true ?_;simp[go_sem];rw[hz];exact aj sc
theorem V8(u:Use)(b:Bx)(τ:List aG)(b1:aG)(hn:u.nv<1000000000):aA prog 113 [.agg (b.enc.map .d),.ptr σ.length 0,.ptr (σ.length+2) 0] (σ++ .var (u.cells u.bG)::b1:: .var [.fm false (fV u u.nr).1 (iF (fV u u.nr).2)]::τ) (.d (B (Va u b))):=by
 have e1:cond (decide (Key.i b.ID∈(fV u u.nr).1)) ((fV u u.nr).2 b.ID) 0=(fV u u.nr).2 b.ID:=by
  by_cases h:Key.i b.ID∈(fV u u.nr).1
  ·simp[h]
  ·simp[h,Ip u _ _ h]
 refine aA.bd true func113 fun hwf=> ?_;simp[go_sem];refine aO.mk (nD _ u b.ID hn) ?_;simp[go_sem,e1];refine aj ?_;simp[go_sem,Va]
theorem YA(u:Use)(hu:dB u):aA prog 66 [.agg (u.cells u.bG)] σ (.d (B (IG u))):=by
 have b1:=hu.nb;have b3:=hu.nv;have b4:=hu.nr;refine aA.be func66 fun hwf=> ?_;refine ak fun K hK=> ?_;simp[go_sem];refine hK _ ?_;refine ak fun K hK=> ?_;simp[go_sem];refine hK _ ?_;refine aK ?_;refine En (σ.length+1) (ks':=[]) (f':=fun k=> .d (iF (fun _=>0) k)) (by simp[go_sem];exact⟨rfl,rfl⟩) (.refl _) (fun k hk=>nomatch hk) (fun k=>rfl) (by first|(simp[go_sem];rfl)|rfl) ?_;refine ak fun K hK=> ?_;simp[go_sem];refine hK _ ?_;refine aS ?_;refine bZ [1,3,10,11,12] (by simp[go_sem,bD];rfl) ?_;refine dO (α:=Nat) (fun i=>[(12,.d (I i))]) (fun i=>σ++[.var (u.cells u.bG),.mp false (fV u i).1 (fun k=> .d (iF (fV u i).2 k)),.var [.mp (σ.length+1)]]) (fun i=>i<=u.nr/\∀q,q<i->(u.gr q).Changed<=u.Changed) (fun i=>u.nr-i) 0 (by simp[go_sem]) (rfl) (by simp) ?_;rintro i ⟨hi,hx⟩;refine ak fun K hK=> ?_;simp[go_sem];refine hK _ ?_;refine aK ?_;refine tq [1,3,10,11,12,13] ?_;refine jr ?_ ?_<;>intro c0 d0
 ·have hi0:i<u.nr:=by omega
  refine aX ?_;refine aK ?_;refine aS ?_;refine ak fun K hK=> ?_;simp[go_sem,d0];refine hK _ ?_;refine aK ?_;refine ak fun K hK=> ?_;simp[go_sem];refine hK _ ?_;refine tq [1,3,5,10,11,12,20] ?_;refine jr ?_ ?_<;>intro c1 d1
  ·have hz:IG u=false:=lntB_no fun h=>by have:=h.day i hi0;omega
   refine ak fun K hK=> ?_;simp[go_sem,d1];refine hK _ ?_;rw[hz];exact aj sc
  ·refine aX ?_;refine ak fun K hK=> ?_;simp[go_sem,c1];refine hK _ ?_;refine tq [1,3,5,10,11,12,23] ?_;refine jr ?_ ?_<;>intro c2 d2
   ·have ho2:fV u (i+1)=(kU (.i (u.gr i).Box) (fV u i).1,AO (fV u i).2 (u.gr i).Box (u.gr i).Reader):=by rw[fV,if_pos (by simpa using d2)]
    refine aZ fun K hK=> ?_;simp[go_sem,VW,d2];refine hK _ ?_;refine aZ fun K hK=> ?_;simp[go_sem];try simp(disch:=omega) only[aH]
    refine hK _ ?_;refine⟨i+1,dI (by simp[go_sem,ho2]) ((au (by simp[go_sem]))) (by(simp[go_sem]<;>omega)),⟨by omega,lu hx (by omega)⟩,by first|omega|(dsimp only;omega)⟩
   ·have ho2:fV u (i+1)=fV u i:=by rw[fV,if_neg (by simpa using d2)]
    refine aX ?_;refine aZ fun K hK=> ?_;simp[go_sem,c2];try simp(disch:=omega) only[aH]
    refine hK _ ?_;refine⟨i+1,dI (by simp[go_sem,ho2]) ((au (by simp[go_sem]))) (by(simp[go_sem]<;>omega)),⟨by omega,lu hx (by omega)⟩,by first|omega|(dsimp only;omega)⟩
 ·obtain rfl:i=u.nr:=by omega
  have hkn:=KW u u.nr;refine fF ?_;refine aK ?_;refine awp_fm (σ.length+1) (d:=false) (ks:=(fV u u.nr).1) (f:=iF (fV u u.nr).2) (by simp[go_sem]<;>first|exact⟨rfl,rfl,rfl⟩|exact⟨rfl,rfl⟩|rfl) (by simp[go_sem];rfl) (by simp[go_sem,hwf.fm,hwf.fm0];rfl) ?_;refine ak fun K hK=> ?_;simp[go_sem];refine hK _ ?_;refine aS ?_;refine bZ [1,3,31] (by simp[go_sem,bD];rfl) ?_;refine zG [σ.length+1,σ.length+3] (by simp) ?_;refine dO (α:=List Key×List Key×Option Key) (fun x=>[]) (fun x=>σ++[.var (u.cells u.bG),.dead,.var [.fm false (fV u u.nr).1 (iF (fV u u.nr).2)],.it x.1 x.2.2 (fun k=> .d (iF (fV u u.nr).2 k))]) (fun x=>(x.1++x.2.1).Perm (fV u u.nr).1/\∀k∈x.2.1,aW u (kI k)=⟨3,(fV u u.nr).2 (kI k)⟩) (fun x=>x.1.length) ((fV u u.nr).1,[],none) (by simp[go_sem]) (rfl) (⟨by simp,fun k hk=>nomatch hk⟩) ?_;rintro⟨L,sn,cur⟩ ⟨hp,hr⟩;dsimp only at hp hr;refine ak fun K hK=> ?_;simp[go_sem,Ry,MP,Key.v];intro o ho1 ho2;refine hK _ ?_;refine aK ?_;refine tq [1,3,31,33] ?_;refine jr ?_ ?_<;>intro c3 d3
  ·obtain⟨k,rfl⟩:=Option.isSome_iff_exists.1 d3;have hk:=ho2 k rfl;have hks:=hp.mem_iff.1 (List.mem_append_left _ hk);obtain⟨v,rfl⟩: ∃v,k= .i v:=by
    have:=hkn k hks;cases k with
    |i v=>exact⟨v,rfl⟩
    |s b=>cases this
   refine aX ?_;refine aS ?_;refine ak fun K hK=> ?_;simp[go_sem,Key.v,c3];refine hK _ ?_;refine ak fun K hK=> ?_;simp[go_sem];refine aO.mk (nD _ u v (by omega)) ?_;simp[go_sem];refine hK _ ?_;refine tq [1,3,31,42] ?_;refine jr ?_ ?_<;>intro c4 d4
   ·have hz:IG u=false:=lntB_no fun h=>by
     have:=h.out v hks;rw[this] at d4;simp at d4
    refine ak fun K hK=> ?_;simp[go_sem,c4];refine hK _ ?_;rw[hz];exact aj sc
   ·have hpv:aW u v=⟨3,(fV u u.nr).2 v⟩:=by rw[QM];simpa using d4
    refine aX ?_;refine⟨(L.erase (.i v),sn++[.i v],some (Key.i v)),dI (by simp[go_sem]) ((au (by simp[go_sem]))) (by(simp[go_sem,d4]<;>omega)),⟨Gn hp hk,fun k hk=>by dsimp only at hk⊢;rcases List.mem_append.1 hk with h|h;exact hr k h;rw[List.mem_singleton.1 h];exact hpv⟩,by have h1:=List.length_erase_of_mem hk;have h2:=List.length_pos_of_mem hk;dsimp only;omega⟩
  ·obtain rfl:o=none:=by simpa using d3
   obtain rfl:=ho1 rfl;rw[List.nil_append] at hp;have hall: ∀x,Key.i x∈(fV u u.nr).1->aW u x=⟨3,(fV u u.nr).2 x⟩:=fun x h=>hr (.i x) (hp.mem_iff.2 h);refine fF ?_;refine ak fun K hK=> ?_;simp[go_sem,c3];refine aO.mk (Um _ none u.nb u.gb _ _ (Va u) (by omega) (fun i hi=>by have h:=V8 σ u (u.gb i) [.it [] cur (fun k=> .d (iF (fV u u.nr).2 k))] .dead (by omega);simpa[go_sem] using h)) ?_;simp[go_sem];refine hK _ ?_;refine aj ?_;have hz:IG u= !(lst u.nb u.gb).any (Va u):=by
    rw[Bool.eq_iff_iff,Cm,Bool.not_eq_true',List.any_eq_false];constructor
    ·intro h b hb;obtain⟨i,hi,rfl⟩:=List.mem_map.1 hb;have:=h.box i (by simpa using hi);unfold Va;simp only[Bool.and_eq_true,beq_iff_eq,bne_iff_ne,ne_eq,not_and,Decidable.not_not];exact this
    ·intro h;refine⟨hx,hall,fun i hi hk=> ?_⟩;have:=h (u.gb i) (List.mem_map.2 ⟨i,by simpa using hi,rfl⟩);unfold Va at this;simp only[Bool.and_eq_true,beq_iff_eq,bne_iff_ne,ne_eq,not_and,Decidable.not_not] at this;exact this hk
   rw[hz];simp[go_sem]
theorem oJ(u:Use)(hu:dB u)(h0:σ[0]? =some (.tab 0 gK))(h1:σ[1]? =some (.loc 1)):aA prog 37 [.agg (u.cells u.bG)] σ (.d (B (dD u))):=by
 refine aA.bs true func37 fun hwf=> ?_;refine aO.mk (V6 _ u hu (aC h0) (aC h1)) (sm ?_);refine fM.mk' (.d (B (oZ u))) (fun _=>V7 _ u hu) (sm ?_);refine fM.mk' (.d (B (xM u))) (fun hg=>YC _ u hu (by simp_all) (by have h:=(qF.1 (show rZ u=true by simp_all)).chk 1 (by omega);exact h)) ?_;simp[go_sem];refine fM.mk' (.d (B (IG u))) (fun _=>YA _ u hu) (sm ?_);refine aj ?_;simp[go_sem,dD]
theorem yK(u:Use)(hu:dB u)(h0:σ[0]? =some (.tab 0 gK))(h1:σ[1]? =some (.loc 1)):aA prog 18 [.agg (u.cells u.bG)] σ (.d (I (if dD u=true then 0 else 1))):=by
 refine aA.bs true func18 fun hwf=> ?_;refine aO.mk (oJ _ u hu (aC h0) (aC h1)) (sm ?_);refine fZ ?_ ?_<;>intro c0 d0
 ·simp[go_sem];exact aj so
 ·simp[go_sem];exact aj so
theorem kd_sameD(a b d:Int)(c:Bool)(f:FuncId):Same (.agg [.d (I a),.d (I b),.d (B c),.d (I d),.clo (.func f) [] []]) (.d (.v (.agg #[.int .i64 a,.int .i64 b,.bool c,.int .i64 d,.func (.func f) #[] #[]]))):=fun w j v h=>by
 cases h with
 |agg vs hs h=>
  have e:vs= #[.int .i64 a,.int .i64 b,.bool c,.int .i64 d,.func (.func f) #[] #[]]:=by
   have h0:=lM (h 0 (by simp));have h1:=lM (h 1 (by simp));have h2:=lM (h 2 (by simp));have h3:=lM (h 3 (by simp));have h4:=R_clo0 (h 4 (by simp));apply Array.ext
   ·simpa using hs
   ·intro i hi1 hi2;have hi:i<5:=by simpa using hi2
    rcases i with _|_|_|_|_|i
    ·simpa[Array.getD_eq_getD_getElem?,hi1] using h0
    ·simpa[Array.getD_eq_getD_getElem?,hi1] using h1
    ·simpa[Array.getD_eq_getD_getElem?,hi1] using h2
    ·simpa[Array.getD_eq_getD_getElem?,hi1] using h3
    ·simpa[Array.getD_eq_getD_getElem?,hi1] using h4
    ·omega
  rw[e];exact .d (.v _)
def dM(x:Int):Int×Int×Bool×Int×Nat:=
 if x=40 then(6,0,false,3,152)
 else if x=41 then(2,0,false,-1,153)
 else if x=42 then(5,1,false,-1,154)
 else if x=43 then(5,0,false,-1,155)
 else if x=44 then(6,0,false,3,156)
 else if x=45 then(6,0,false,-1,157)
 else if x=46 then(1,0,false,-1,158)
 else if x=47 then(4,0,true,-1,159)
 else if x=48 then(4,0,false,-1,160)
 else if x=49 then(4,0,false,-1,161)
 else if x=50 then(1,0,false,-1,162)
 else if x=51 then(4,0,false,-1,163)
 else if x=52 then(3,0,false,-1,164)
 else if x=53 then(3,0,false,-1,165)
 else if x=54 then(1,0,false,-1,166)
 else if x=55 then(2,0,false,-1,167)
 else if x=56 then(4,0,false,-1,168)
 else if x=57 then(3,0,true,-1,169)
 else if x=58 then(1,0,false,-1,170)
 else if x=59 then(1,0,true,-1,171)
 else(0,0,false,0,0)
def kKs:List Key:=[.i 40,.i 41,.i 42,.i 43,.i 44,.i 45,.i 46,.i 47,.i 48,.i 49,.i 50,.i 51,.i 52,.i 53,.i 54,.i 55,.i 56,.i 57,.i 58,.i 59]
def kdF:Key->AV
 | .i x=> .agg [.d (I (dM x).1),.d (I (dM x).2.1),.d (B (dM x).2.2.1),.d (I (dM x).2.2.2.1),.d (Fn0 (dM x).2.2.2.2)]
 | .s _=> .undef
theorem kdF_i(x:Int):kdF (.i x)= .agg [.d (I (dM x).1),.d (I (dM x).2.1),.d (B (dM x).2.2.1),.d (I (dM x).2.2.2.1),.d (Fn0 (dM x).2.2.2.2)]:=rfl
def kdD:Key->D
 | .i x=> .v (.agg #[.int .i64 (dM x).1,.int .i64 (dM x).2.1,.bool (dM x).2.2.1,.int .i64 (dM x).2.2.2.1,.func (.func (dM x).2.2.2.2) #[] #[]])
 | .s _=>I 0
theorem kdD_i(x:Int):kdD (.i x)= .v (.agg #[.int .i64 (dM x).1,.int .i64 (dM x).2.1,.bool (dM x).2.2.1,.int .i64 (dM x).2.2.2.1,.func (.func (dM x).2.2.2.2) #[] #[]]):=rfl
def kd0:AV:= .agg [.d (I 0),.d (I 0),.d (B false),.d (I 0),.d (.v .nilFunc)]
attribute [go_sem] kd0
theorem kKs_iff{x:Int} :Key.i x∈kKs↔40<=x/\x<=59:=by
 unfold kKs;simp only[List.mem_cons,Key.i.injEq,List.not_mem_nil,or_false];omega
theorem kGet_flag{x:Int}(h:Key.i x∈kKs):(dM x).2.2.2.1= -1\/((dM x).2.2.2.1=3/\(dM x).1=6):=by
 rw[kKs_iff] at h;have:x=40\/x=41\/x=42\/x=43\/x=44\/x=45\/x=46\/x=47\/x=48\/x=49\/x=50\/x=51\/x=52\/x=53\/x=54\/x=55\/x=56\/x=57\/x=58\/x=59:=by omega
 rcases this with rfl|rfl|rfl|rfl|rfl|rfl|rfl|rfl|rfl|rfl|rfl|rfl|rfl|rfl|rfl|rfl|rfl|rfl|rfl|rfl<;>simp[dM]
def okS(e:Ev):Bool:=decide (Key.i e.Kind∈kKs)&&decide ((e.nt:Int)=(dM e.Kind).2.1)&&decide ((dM e.Kind).1<=(e.nn:Int))&&(decide ((e.nn:Int)<=(dM e.Kind).1)||(dM e.Kind).2.2.1)
def okB(e:Ev):Bool:=okS e&&(decide ((dM e.Kind).2.2.2.1<0)||qc (e.gn (dM e.Kind).2.2.2.1.toNat) 0 1)
def kdR(e:Ev):AV:=if okS e=true then kdF (.i e.Kind) else kd0
@[go_sem] theorem kdR_under(e:Ev)(n:Nat):(kdR e).under n:=by
 unfold kdR;split
 ·exact⟨trivial,trivial,trivial,trivial,trivial,trivial⟩
 ·exact⟨trivial,trivial,trivial,trivial,trivial,trivial⟩
theorem okS_hk{e:Ev}(h:okS e=true):Key.i e.Kind∈kKs:=by
 unfold okS at h;simp only[Bool.and_eq_true,decide_eq_true_eq] at h;exact h.1.1.1
def Use.own(u:Use)(b:Nat):List AV:=[.d (SL none 5 kP.enc u.P.ns u.P.gs),.ms b 6 0 u.P.nc,.ms (b+1) 6 0 u.P.np,.d (I u.P.jI),.ms (b+2) 6 0 u.P.na,.d (SL none 6 jG.enc u.P.nm u.P.gm),
 .ms (b+3) 5 0 u.nb,.ms (b+4) 4 0 u.nf,.d (SL none 6 iE.enc u.nv u.gv),.d (SL none 7 dU.enc u.nr u.gr),.d (I u.lT),.d (SL none 4 jH.enc u.nk u.gk),.ms (b+5) 8 0 u.nt,.d (SL none 2 lD.enc u.nl u.gl),.ms (b+6) 3 0 u.nw,.d (I u.Changed)]
def Use.blks(u:Use):List aG:=[.arr 6 u.P.nc (fun i=>Rule.enc (u.P.gc i)),.arr 6 u.P.np (fun i=>iq.enc (u.P.gp i)),.arr 6 u.P.na (fun i=>jW.enc (u.P.ga i)),.arr 5 u.nb (fun i=>Bx.enc (u.gb i)),.arr 4 u.nf (fun i=>sO.enc (u.gf i)),.arr 8 u.nt (fun i=>fU.enc (u.gt i)),.arr 3 u.nw (fun i=>sN.enc (u.gw i))]
attribute [go_sem] Use.own Use.blks
theorem G6:aA prog 117 [] σ (.fm false kKs kdD):=by
 refine aA.bs true func117 fun hwf=> ?_;refine En σ.length (ks':=kKs) (f':=fun k=> .d (kdD k)) (by simp[go_sem,kU];exact⟨rfl,rfl,rfl⟩) (.refl _) (fun k hk=>by
  unfold kKs at hk;simp only[List.mem_cons,List.not_mem_nil,or_false] at hk;rcases hk with rfl|rfl|rfl|rfl|rfl|rfl|rfl|rfl|rfl|rfl|rfl|rfl|rfl|rfl|rfl|rfl|rfl|rfl|rfl|rfl<;>exact kd_sameD _ _ _ _ _) (fun k=>rfl) (by simp[go_sem,kU];first|rfl|skip) ?_
 refine awp_fm σ.length (d:=false) (ks:=kKs) (f:=kdD) (by simp[go_sem]<;>first|exact⟨rfl,rfl,rfl⟩|exact⟨rfl,rfl⟩|rfl) (by simp[go_sem];rfl) (by simp[go_sem,hwf.fm,hwf.fm0];rfl) ?_;exact aj sc
theorem P8(e:Ev)(hn:e.nn<1000000000)(hk:Key.i e.Kind∈kKs):aA prog 70 [.agg (e.enc.map .d)] σ (.eU [kdR e,.d (B (okB e))]):=by
 have hf:=kGet_flag hk;have hw: ∀x:Int,okS e=true->0<=(dM e.Kind).2.2.2.1->(dM e.Kind).2.2.2.1.toNat<e.nn/\(dM e.Kind).2.2.2.1<(e.nn:Int):=fun _ hz h0=>by
  unfold okS at hz;simp only[Bool.and_eq_true,decide_eq_true_eq] at hz;have:=hz.1.2;omega
 refine aA.bd true func70 fun hwf=> ?_;simp[go_sem];apply bW 9 7 8 T.mixed (by kernel_rfl)
 ·intro τ K hK;simp[go_sem];refine dF.mk (G6 _) ?_;simp[go_sem,kdD_i,hk];exact hK _ _
 intro K hK;simp[go_sem];refine hK _ ?_;refine go true ?_;simp[go_sem];refine aJ [1,2,4] ?_ ?_<;>intro c0 d0
 ·have hz:okS e=false:=by
   rw[←Bool.not_eq_true];intro h;unfold okS at h;simp only[Bool.and_eq_true,Bool.or_eq_true,decide_eq_true_eq] at h;obtain⟨⟨⟨h1,h2⟩,h3⟩,h4⟩:=h;rcases h4 with h4|h4<;>simp[h2,h4] at d0<;>omega
  have hr:kdR e=kd0:=if_neg (by rw[hz];decide);simp[go_sem];refine aj ?_;rw[hr];simp[go_sem,okB,hz]
 ·have hz:okS e=true:=by
   unfold okS;cases hm:(dM e.Kind).2.2.1<;>simp[hm,hk] at d0⊢<;>omega
  have hnn:=hw 0 hz;have hr:kdR e=kdF (.i e.Kind):=if_pos hz;simp[go_sem];apply JX 14 13 T.mixed (by kernel_rfl)
  ·intro K hK;simp[go_sem];repeat refine⟨by omega,?_⟩
   refine dF.mk' (.d (B (qc (e.gn (dM e.Kind).2.2.2.1.toNat) 0 1))) (fun _=>qm _ _ 0 1) ?_;simp[go_sem];exact hK _ _
  ·simp[go_sem];rfl
  ·intro K hK;simp[go_sem];repeat refine⟨by omega,?_⟩
   refine dF.mk' (.d (B (qc (e.gn (dM e.Kind).2.2.2.1.toNat) 0 1))) (fun _=>qm _ _ 0 1) ?_;simp[go_sem];exact hK _ _
  intro K hK;simp[go_sem];refine hK _ ?_;refine go true ?_;simp[go_sem];refine aj ?_;rw[hr];simp[go_sem,okB,hz,kdF_i]
theorem P9(e:Ev)(hn:e.nn<1000000000)(hk:Key.i e.Kind∉kKs):aA prog 70 [.agg (e.enc.map .d)] σ (.eU [kd0,.d (B false)]):=by
 refine aA.bd true func70 fun hwf=> ?_;simp[go_sem];apply bW 9 7 8 T.mixed (by kernel_rfl)
 ·intro τ K hK;simp[go_sem];refine dF.mk (G6 _) ?_;simp[go_sem,kdD_i,hk];exact hK _ _
 intro K hK;simp[go_sem];refine hK _ ?_;refine go true ?_;simp[go_sem];refine cn [1,2,4] rfl ?_ ?_<;>intro c0 d0<;>try simp at d0
 ·simp[go_sem];refine aj ?_;simp[go_sem]<;>omega
theorem ER(e:Ev)(hn:e.nn<1000000000):aA prog 70 [.agg (e.enc.map .d)] σ (.eU [kdR e,.d (B (okB e))]):=by
 by_cases hk:Key.i e.Kind∈kKs
 ·exact P8 σ e hn hk
 ·have hz:okS e=false:=by unfold okS;simp[hk]
  have h:=P9 σ e hn hk;have hr:kdR e=kd0:=if_neg (by rw[hz];decide);rw[hr,show okB e=false by simp[okB,hz]];exact h
end Go.Proofs.YtmahphgjkpgidaaGreatDoor
