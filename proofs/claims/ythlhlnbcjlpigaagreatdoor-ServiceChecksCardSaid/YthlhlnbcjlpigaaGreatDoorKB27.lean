/- Contracts and lemmas, joined out of smaller texts by a program; no conditions. -/
import Derived.Test.YthlhlnbcjlpigaaGreatDoorKB25
import Derived.Test.YthlhlnbcjlpigaaGreatDoorKB26
set_option linter.unusedVariables false
set_option linter.unusedSimpArgs false
set_option maxHeartbeats 1000000
set_option maxRecDepth 100000
namespace Go.Proofs.YthlhlnbcjlpigaaGreatDoor
open Go.aU Go.bY Go.Proofs.Tryz
variable (σ : List aC)
structure sG where
 Reader:Int
 Unit:Int
 Day:Int
instance:Inhabited sG:=⟨⟨0,0,0⟩⟩
def sG.enc(s:sG):List D:=[I s.Reader,I s.Unit,I s.Day]
structure Use where
 P:qw
 nb:Nat
 gb:Nat->Bx
 nf:Nat
 gf:Nat->nU
 nv:Nat
 gv:Nat->fJ
 nr:Nat
 gr:Nat->eU
 nI:Int
 nk:Nat
 gk:Nat->iy
 nt:Nat
 gt:Nat->nJ
 nl:Nat
 gl:Nat->H6
 nw:Nat
 gw:Nat->sG
 Changed:Int
def Use.cells(u:Use)(w:AV):List AV:=[.d (SL none 5 nV.enc u.P.ns u.P.gs),.d (SL none 6 Rule.enc u.P.nc u.P.gc),.d (SL none 6 iU.enc u.P.np u.P.gp),.d (I u.P.jg),.d (SL none 6 kP.enc u.P.na u.P.ga),.d (SL none 6 qJ.enc u.P.nm u.P.gm),
 .d (SL none 5 Bx.enc u.nb u.gb),.d (SL none 4 nU.enc u.nf u.gf),.d (SL none 6 fJ.enc u.nv u.gv),.d (SL none 7 eU.enc u.nr u.gr),.d (I u.nI),.d (SL none 4 iy.enc u.nk u.gk),.d (SL none 8 nJ.enc u.nt u.gt),.d (SL none 2 H6.enc u.nl u.gl),w,.d (I u.Changed)]
def Use.dw(u:Use):AV:= .d (SL none 3 sG.enc u.nw u.gw)
def zU:List AV:=[.d (.v (.slice none 0 0)),.d (.v (.slice none 0 0)),.d (.v (.slice none 0 0)),.d (I 0),.d (.v (.slice none 0 0)),.d (.v (.slice none 0 0)),.d (.v (.slice none 0 0)),.d (.v (.slice none 0 0)),.d (.v (.slice none 0 0)),.d (.v (.slice none 0 0)),.d (I 0),.d (.v (.slice none 0 0)),.d (.v (.slice none 0 0)),.d (.v (.slice none 0 0)),.d (.v (.slice none 0 0)),.d (I 0)]
attribute [go_sem] sG.enc Use.cells Use.dw zU
structure Ev where
 ID:Int
 Day:Int
 Kind:Int
 cn:Option Nat
 nn:Nat
 gn:Nat->Int
 ct:Option Nat
 nt:Nat
 gt:Nat->ByteArray
def encS(s:ByteArray):List D:=[Sb s]
def Ev.enc(e:Ev):List D:=[I e.ID,I e.Day,I e.Kind,SL e.cn 1 encI e.nn e.gn,SL e.ct 1 encS e.nt e.gt]
instance:Inhabited Ev:=⟨⟨0,0,0,none,0,fun _=>0,none,0,fun _=> .empty⟩⟩
attribute [go_sem] encS Ev.enc
structure dR(u:Use):Prop where
 P:jJ u.P
 nb:u.nb<=1000000
 bx: ∀i,i<u.nb->(u.gb i).nc<=1000000
 nf:u.nf<=1000000
 nv:u.nv<=1000000
 nr:u.nr<=1000000
 nk:u.nk<=1000000
 nt:u.nt<=1000000
 bu: ∀i,i<u.nt->(u.gt i).nu<=1000000
 bb: ∀i,i<u.nt->(u.gt i).nb<=1000000
 nl:u.nl<=1000000
 nw:u.nw<=1000000
def uU(n:Nat)(g:Nat->nU)(k:Int):Int:=idxFrom (fun s:nU=>s.ID==k) (lst n g) 0
theorem sIx_lt(n:Nat)(g:Nat->nU)(k:Int):uU n g k<n:=qB _ n g
def aY(u:Use)(k:Int):sH:=(nX u.nv u.gv k).1
def Ew(u:Use)(p:sH):Bool:=(p.Kind !=1)||decide (0<=uU u.nf u.gf p.Of)
def yG(u:Use)(m:fJ):Bool:=decide (u.Changed<m.Day)||decide (qc u.nb u.gb m.Box<0)|| !Ew u m.From|| !Ew u m.To
def iC(u:Use):Bool:= !(lst u.nv u.gv).any (yG u)
def NW(u:Use)(i:Nat):Int:=if i=0 then fP u.P else if i=1 then dQ u.nb u.gb else if i=2 then eF u.nf u.gf else if i=3 then dL u.nv u.gv else if i=4 then fO u.nr u.gr else je u.nI u.nk u.gk
def BatR(u:Use)(i:Nat):Prop:=G5 (u.gt i)=0/\(0<i->(u.gt (i-1)).ID<(u.gt i).ID)
def LnkS(u:Use)(i:Nat):Prop:=jS (u.gl i).BD=true/\jS (u.gl i).Unit=true/\(0<i->(u.gl (i-1)).BD<(u.gl i).BD)
def Q8(u:Use)(i:Nat):Prop:=jS (u.gw i).Reader=true/\jS (u.gw i).Unit=true/\jy (u.gw i).Day 0 u.Changed=true/\(0<i->(u.gw (i-1)).Day<=(u.gw i).Day)
structure PartsR(u:Use):Prop where
 chk: ∀i,i<6->NW u i=0
 ZG: ∀i,i<u.nt->BatR u i
 lnk: ∀i,i<u.nl->LnkS u i
 shw: ∀i,i<u.nw->Q8 u i
 day:jy u.Changed 0 1048575=true
 nt:u.nt<=64
 nl:u.nl<=1024
 nw:u.nw<=1024
open Classical in
noncomputable def pU(u:Use):Bool:=decide (PartsR u)
theorem lK{u:Use} :pU u=true↔PartsR u:=by simp[pU]
theorem BO{u:Use}(h: ¬PartsR u):pU u=false:=by rw[←Bool.not_eq_true,lK];exact h
theorem nH{p:Nat->Prop}{i:Nat}(h: ∀q,q<i->p q)(hi:p i): ∀q,q<i+1->p q:=fun q hq=>by
 rcases Nat.lt_or_eq_of_le (Nat.le_of_lt_succ hq) with h9|h9
 ·exact h q h9
 ·rw[h9];exact hi
theorem Y1(c:Option Nat)(n:Nat)(g:Nat->Rule)(hn:n<1000000000):CS prog 96 [.d (SL c 6 Rule.enc n g)] σ (fun r σ' X=>r= .ms σ.length 6 0 n/\σ'=σ++[.arr 6 n fun i=>Rule.enc (g i)]/\X=[]):=by
 refine CS.Zh true func96 fun hwf=> ?_;simp[go_sem,-Bool.forall_bool];try intro b1 hb1
 refine jT ?_ ?_<;>intro c0 d0
 ·simp[go_sem];refine dn 2 6 (fun i=>Rule.enc (g i)) (by simp[go_sem]) (by simp[go_sem];rfl) ?_;refine aj ?_;obtain rfl:=hb1 c0;simp[go_sem]
 ·simp[go_sem];repeat refine⟨by omega,?_⟩
  exact aj so
theorem VL(c:Option Nat)(n:Nat)(g:Nat->kP)(hn:n<1000000000):CS prog 98 [.d (SL c 6 kP.enc n g)] σ (fun r σ' X=>r= .ms σ.length 6 0 n/\σ'=σ++[.arr 6 n fun i=>kP.enc (g i)]/\X=[]):=by
 refine CS.Zh true func98 fun hwf=> ?_;simp[go_sem,-Bool.forall_bool];try intro b1 hb1
 refine jT ?_ ?_<;>intro c0 d0
 ·simp[go_sem];refine dn 2 6 (fun i=>kP.enc (g i)) (by simp[go_sem]) (by simp[go_sem];rfl) ?_;refine aj ?_;obtain rfl:=hb1 c0;simp[go_sem]
 ·simp[go_sem];repeat refine⟨by omega,?_⟩
  exact aj so
theorem VD(c:Option Nat)(n:Nat)(g:Nat->nU)(hn:n<1000000000):CS prog 103 [.d (SL c 4 nU.enc n g)] σ (fun r σ' X=>r= .ms σ.length 4 0 n/\σ'=σ++[.arr 4 n fun i=>nU.enc (g i)]/\X=[]):=by
 refine CS.Zh true func103 fun hwf=> ?_;simp[go_sem,-Bool.forall_bool];try intro b1 hb1
 refine jT ?_ ?_<;>intro c0 d0
 ·simp[go_sem];refine dn 2 4 (fun i=>nU.enc (g i)) (by simp[go_sem]) (by simp[go_sem];rfl) ?_;refine aj ?_;obtain rfl:=hb1 c0;simp[go_sem]
 ·simp[go_sem];repeat refine⟨by omega,?_⟩
  exact aj so
theorem VK(c:Option Nat)(n:Nat)(g:Nat->nJ)(hn:n<1000000000):CS prog 107 [.d (SL c 8 nJ.enc n g)] σ (fun r σ' X=>r= .ms σ.length 8 0 n/\σ'=σ++[.arr 8 n fun i=>nJ.enc (g i)]/\X=[]):=by
 refine CS.Zh true func107 fun hwf=> ?_;simp[go_sem,-Bool.forall_bool];try intro b1 hb1
 refine jT ?_ ?_<;>intro c0 d0
 ·simp[go_sem];refine dn 2 8 (fun i=>nJ.enc (g i)) (by simp[go_sem]) (by simp[go_sem];rfl) ?_;refine aj ?_;obtain rfl:=hb1 c0;simp[go_sem]
 ·simp[go_sem];repeat refine⟨by omega,?_⟩
  exact aj so
theorem VB(c:Option Nat)(n:Nat)(g:Nat->sG)(hn:n<1000000000):CS prog 109 [.d (SL c 3 sG.enc n g)] σ (fun r σ' X=>r= .ms σ.length 3 0 n/\σ'=σ++[.arr 3 n fun i=>sG.enc (g i)]/\X=[]):=by
 refine CS.Zh true func109 fun hwf=> ?_;simp[go_sem,-Bool.forall_bool];try intro b1 hb1
 refine jT ?_ ?_<;>intro c0 d0
 ·simp[go_sem];refine dn 2 3 (fun i=>sG.enc (g i)) (by simp[go_sem]) (by simp[go_sem];rfl) ?_;refine aj ?_;obtain rfl:=hb1 c0;simp[go_sem]
 ·simp[go_sem];repeat refine⟨by omega,?_⟩
  exact aj so
theorem GX(c:Option Nat)(n:Nat)(g:Nat->fJ)(hn:n<1000000000):ay prog 104 [.d (SL c 6 fJ.enc n g)] σ (.d (SL none 6 fJ.enc n g)):=by
 refine ay.bd true func104 fun hwf=> ?_;simp[go_sem,-Bool.forall_bool];try intro b1 hb1
 refine jT ?_ ?_<;>intro c0 d0
 ·simp[go_sem];refine aj ?_;have:=hb1 c0;simp[go_sem,this]
 ·simp[go_sem];repeat refine⟨by omega,?_⟩
  refine dM (σ.length) (by simp[go_sem];exact⟨rfl,rfl,rfl⟩) (by simp[go_sem];rfl) (by simp[go_sem,hwf.uN,hwf.yL];rfl) ?_;exact aj so
theorem GV(c:Option Nat)(n:Nat)(g:Nat->eU)(hn:n<1000000000):ay prog 105 [.d (SL c 7 eU.enc n g)] σ (.d (SL none 7 eU.enc n g)):=by
 refine ay.bd true func105 fun hwf=> ?_;simp[go_sem,-Bool.forall_bool];try intro b1 hb1
 refine jT ?_ ?_<;>intro c0 d0
 ·simp[go_sem];refine aj ?_;have:=hb1 c0;simp[go_sem,this]
 ·simp[go_sem];repeat refine⟨by omega,?_⟩
  refine dM (σ.length) (by simp[go_sem];exact⟨rfl,rfl,rfl⟩) (by simp[go_sem];rfl) (by simp[go_sem,hwf.uN,hwf.yL];rfl) ?_;exact aj so
theorem GZ(c:Option Nat)(n:Nat)(g:Nat->iy)(hn:n<1000000000):ay prog 106 [.d (SL c 4 iy.enc n g)] σ (.d (SL none 4 iy.enc n g)):=by
 refine ay.bd true func106 fun hwf=> ?_;simp[go_sem,-Bool.forall_bool];try intro b1 hb1
 refine jT ?_ ?_<;>intro c0 d0
 ·simp[go_sem];refine aj ?_;have:=hb1 c0;simp[go_sem,this]
 ·simp[go_sem];repeat refine⟨by omega,?_⟩
  refine dM (σ.length) (by simp[go_sem];exact⟨rfl,rfl,rfl⟩) (by simp[go_sem];rfl) (by simp[go_sem,hwf.uN,hwf.yL];rfl) ?_;exact aj so
theorem GY(c:Option Nat)(n:Nat)(g:Nat->H6)(hn:n<1000000000):ay prog 108 [.d (SL c 2 H6.enc n g)] σ (.d (SL none 2 H6.enc n g)):=by
 refine ay.bd true func108 fun hwf=> ?_;simp[go_sem,-Bool.forall_bool];try intro b1 hb1
 refine jT ?_ ?_<;>intro c0 d0
 ·simp[go_sem];refine aj ?_;have:=hb1 c0;simp[go_sem,this]
 ·simp[go_sem];repeat refine⟨by omega,?_⟩
  refine dM (σ.length) (by simp[go_sem];exact⟨rfl,rfl,rfl⟩) (by simp[go_sem];rfl) (by simp[go_sem,hwf.uN,hwf.yL];rfl) ?_;exact aj so
theorem nC(c:Option Nat)(n:Nat)(g:Nat->qJ)(hn:n<1000000000):ay prog 99 [.d (SL c 6 qJ.enc n g)] σ (.d (SL none 6 qJ.enc n g)):=by
 refine ay.bd true func99 fun hwf=> ?_;simp[go_sem,-Bool.forall_bool];try intro b1 hb1
 refine jT ?_ ?_<;>intro c0 d0
 ·simp[go_sem];refine aj ?_;have:=hb1 c0;simp[go_sem,this]
 ·simp[go_sem];repeat refine⟨by omega,?_⟩
  refine dM (σ.length) (by simp[go_sem];exact⟨rfl,rfl,rfl⟩) (by simp[go_sem];rfl) (by simp[go_sem,hwf.uN,hwf.yL];rfl) ?_;exact aj so
theorem xJ(c:Option Nat)(n:Nat)(g:Nat->Int)(hn:n<1000000000):ay prog 100 [.d (SL c 1 encI n g)] σ (.d (SL none 1 encI n g)):=by
 refine ay.bd true func100 fun hwf=> ?_;simp[go_sem,-Bool.forall_bool];try intro b1 hb1
 refine jT ?_ ?_<;>intro c0 d0
 ·simp[go_sem];refine aj ?_;have:=hb1 c0;simp[go_sem,this]
 ·simp[go_sem];repeat refine⟨by omega,?_⟩
  refine dM (σ.length) (by simp[go_sem];exact⟨rfl,rfl,rfl⟩) (by simp[go_sem];rfl) (by simp[go_sem,hwf.uN,hwf.yL];rfl) ?_;exact aj so
theorem nY(n a b:Int):ay prog 36 [.d (I n),.d (I a),.d (I b)] σ (.d (B (jy n a b))):=by
 refine ay.bs true func36 fun hwf=> ?_;refine aj ?_;simp[go_sem,jy]<;>omega
theorem BI(n:Int):ay prog 117 [.d (I n)] σ (.d (B (jS n))):=by
 refine ay.bs true func117 fun hwf=> ?_;refine aW.mk (nY _ _ _ _) (sm ?_);refine aj ?_;simp[go_sem,jS]<;>omega
theorem MF(τ:List aC)(r:Bx)(k:Int):ay prog 66 [.agg (r.enc.map .d),.ptr σ.length 0] (σ++ .var [.d (I k)]::τ) (.d (B (r.ID==k))):=by
 refine ay.bs true func66 fun hwf=> ?_;exact aj so
theorem ZP(τ:List aC)(r:nU)(k:Int):ay prog 176 [.agg (r.enc.map .d),.ptr σ.length 0] (σ++ .var [.d (I k)]::τ) (.d (B (r.ID==k))):=by
 refine ay.bs true func176 fun hwf=> ?_;exact aj so
theorem Ia(u:Use)(k:Int)(hn:u.nb<1000000000):ay prog 29 [.agg (u.cells u.dw),.d (I k)] σ (.d (I (qc u.nb u.gb k))):=by
 refine ay.bs true func29 fun hwf=> ?_;refine aW.mk (xw _ none u.nb u.gb _ _ (fun r=>r.ID==k) hn (fun i hi=>by have h:=nA (MF (σ++[.var (u.cells u.dw)]) [] (u.gb i) k);exact h)) ?_;simp[go_sem];refine aj ?_;simp[go_sem,qc]<;>omega
theorem H9(u:Use)(k:Int)(hn:u.nf<1000000000):ay prog 119 [.agg (u.cells u.dw),.d (I k)] σ (.d (I (uU u.nf u.gf k))):=by
 refine ay.bs true func119 fun hwf=> ?_;refine aW.mk (X4 _ none u.nf u.gf _ _ (fun r=>r.ID==k) hn (fun i hi=>by have h:=nA (ZP (σ++[.var (u.cells u.dw)]) [] (u.gf i) k);exact h)) ?_;simp[go_sem];refine aj ?_;simp[go_sem,uU]<;>omega
theorem lI(u:Use)(k:Int)(hn:u.nv<1000000000):ay prog 30 [.agg (u.cells u.dw),.d (I k)] σ (.agg ((aY u k).enc.map .d)):=by
 refine ay.bs true func30 fun hwf=> ?_;refine aW.mk (vY _ none u.nv u.gv k hn) (sm ?_);refine aj ?_;simp[go_sem,aY]<;>omega
theorem ZT(u:Use)(b:Nat)(k:Int)(hn:u.nb<1000000000):ay prog 29 [.agg (u.cells (.ms b 3 0 u.nw)),.d (I k)] σ (.d (I (qc u.nb u.gb k))):=by
 refine ay.bs true func29 fun hwf=> ?_;refine aW.mk (xw _ none u.nb u.gb _ _ (fun r=>r.ID==k) hn (fun i hi=>by have h:=nA (MF (σ++[.var (u.cells (.ms b 3 0 u.nw))]) [] (u.gb i) k);exact h)) ?_;simp[go_sem];refine aj ?_;simp[go_sem,qc]<;>omega
theorem yT(u:Use)(b:Nat)(k:Int)(hn:u.nv<1000000000):ay prog 30 [.agg (u.cells (.ms b 3 0 u.nw)),.d (I k)] σ (.agg ((aY u k).enc.map .d)):=by
 refine ay.bs true func30 fun hwf=> ?_;refine aW.mk (vY _ none u.nv u.gv k hn) (sm ?_);refine aj ?_;simp[go_sem,aY]<;>omega
theorem TW(u:Use)(hu:dR u)(h0:σ[0]? =some (.tab 0 iR))(h1:σ[1]? =some (.loc 1)):ay prog 61 [.agg (u.cells u.dw)] σ (.d (B (pU u))):=by
 have b1:=hu.nb;have b2:=hu.nf;have b3:=hu.nv;have b4:=hu.nr;have b5:=hu.nk;have b6:=hu.nt;have b7:=hu.nl;have b8:=hu.nw;refine ay.bs true func61 fun hwf=> ?_;refine T.dr 23 fun K hK=>sm ?_;refine dS.mk (yw _ u.P hu.P (aO h1)) (sm ?_);refine dS.mk (qG _ none u.nb u.gb (by omega) (fun i hi=>by have:=hu.bx i hi;omega)) ?_;simp[go_sem];refine dS.mk (uS _ none u.nf u.gf (by omega)) (sm ?_);refine dS.mk (oK _ none u.nv u.gv (by omega)) (sm ?_);refine dS.mk (ou _ none u.nr u.gr (by omega)) (sm ?_);refine dS.mk (uY _ u.nI none u.nk u.gk (by omega)) (sm ?_);refine hK _ ?_;refine go true (sm ?_);refine gy (α:=Nat) true [1,31,32,33] (fun i=>[(33,.d (I i))]) (fun i=>_) (fun i=>i<=6/\∀q,q<i->NW u q=0) (fun i=>6-i) 0 ?_;rintro i ⟨hi,hx⟩;simp[go_sem];refine aH [1,31,32,33] ?_ ?_<;>intro c0 d0
 ·have hcs:i=0\/i=1\/i=2\/i=3\/i=4\/i=5:=by omega
  have hrow:rowsOf 1 [I (fP u.P),I (dQ u.nb u.gb),I (eF u.nf u.gf),I (dL u.nv u.gv),I (fO u.nr u.gr),I (je u.nI u.nk u.gk)] i=[I (NW u i)]:=by
   rcases hcs with rfl|rfl|rfl|rfl|rfl|rfl<;>rfl
  simp[go_sem,hrow];repeat refine⟨by omega,?_⟩
  refine aH [1,31,32,33] ?_ ?_<;>intro c1 d1
  ·have hz:pU u=false:=BO fun h=>d1 (h.chk i (by omega));simp[go_sem];rw[hz];exact aj sc
  ·have hz1:NW u i=0:=by simpa using d1
   simp(disch:=first|omega|simp) [go_sem,aA];refine dB (i+1) ⟨by omega,nH hx hz1⟩ (h:=by simp[go_sem]<;>omega)
 ·obtain rfl:i=6:=by omega
  simp[go_sem];refine go true (sm ?_);refine gy (α:=Nat) true [1,41,42,43] (fun q=>[(43,.d (I q))]) (fun q=>_) (fun q=>q<=u.nt/\∀k,k<q->BatR u k) (fun q=>u.nt-q) 0 ?_;rintro q ⟨hq,hb⟩;have hwq:=aZ (i:=q) (by omega);simp[go_sem];refine aH [1,41,42,43] ?_ ?_<;>intro c2 d2
  ·have hi2:q<u.nt:=by omega
   have g1:=hu.bu q hi2;have g2:=hu.bb q hi2;simp[go_sem,hi2];refine T.dr 19 fun K hK=> ?_;simp[go_sem];refine dS.mk (Gv _ (u.gt q) (by omega) (by omega) (aO h0)) ?_;simp[go_sem,hwq];repeat refine⟨by omega,?_⟩
   refine hK _ ?_;refine go true ?_;simp[go_sem];refine aH [1,41,42,43] ?_ ?_<;>intro c3 d3
   ·have hz:pU u=false:=BO fun h=>by
     have⟨h3,h4⟩:=h.ZG q hi2;simp[h3] at d3;omega
    simp[go_sem];rw[hz];exact aj sc
   ·have hr3:BatR u q:=⟨d3.1,fun h=>by have:=d3.2;omega⟩;simp(disch:=first|omega|simp) [go_sem,aA];refine dB (q+1) ⟨by omega,nH hb hr3⟩ (h:=by simp[go_sem]<;>omega)
  ·obtain rfl:q=u.nt:=by omega
   simp[go_sem];refine go true ?_;simp[go_sem];refine gy (α:=Nat) true [1,69,70,71] (fun r=>[(71,.d (I r))]) (fun r=>_) (fun r=>r<=u.nl/\∀k,k<r->LnkS u k) (fun r=>u.nl-r) 0 ?_;rintro r ⟨hr,hl⟩;have hwr:=aZ (i:=r) (by omega);simp[go_sem];refine aH [1,69,70,71] ?_ ?_<;>intro c4 d4
   ·have hi4:r<u.nl:=by omega
    simp[go_sem,hi4];refine T.dr 26 fun K hK=> ?_;simp[go_sem];refine dS.mk (BI _ (u.gl r).BD) ?_;simp[go_sem];refine dS.mk (BI _ (u.gl r).Unit) ?_;simp[go_sem,hwr];repeat refine⟨by omega,?_⟩
    refine hK _ ?_;refine go true ?_;simp[go_sem];refine aH [1,69,70,71] ?_ ?_<;>intro c5 d5
    ·have hz:pU u=false:=BO fun h=>by
      have⟨h3,h4,h5⟩:=h.lnk r hi4;simp[h3,h4] at d5;omega
     simp[go_sem];rw[hz];exact aj sc
    ·have hr5:LnkS u r:=⟨d5.1.1,d5.1.2,fun h=>by have:=d5.2;omega⟩;simp(disch:=first|omega|simp) [go_sem,aA];refine dB (r+1) ⟨by omega,nH hl hr5⟩ (h:=by simp[go_sem]<;>omega)
   ·obtain rfl:r=u.nl:=by omega
    simp[go_sem];refine go true ?_;simp[go_sem];refine gy (α:=Nat) true [1,104,105,106] (fun s=>[(106,.d (I s))]) (fun s=>_) (fun s=>s<=u.nw/\∀k,k<s->Q8 u k) (fun s=>u.nw-s) 0 ?_;rintro s ⟨hs,hw⟩;have hws:=aZ (i:=s) (by omega);simp[go_sem];refine aH [1,104,105,106] ?_ ?_<;>intro c6 d6
    ·have hi6:s<u.nw:=by omega
     simp[go_sem,hi6];refine T.dr 34 fun K hK=> ?_;simp[go_sem];refine dS.mk (BI _ (u.gw s).Reader) ?_;simp[go_sem];refine dS.mk (BI _ (u.gw s).Unit) ?_;simp[go_sem];refine dS.mk (nY _ (u.gw s).Day 0 u.Changed) ?_;simp[go_sem,hws];repeat refine⟨by omega,?_⟩
     refine hK _ ?_;refine go true ?_;simp[go_sem];refine aH [1,104,105,106] ?_ ?_<;>intro c7 d7
     ·have hz:pU u=false:=BO fun h=>by
       have⟨h3,h4,h5,h6⟩:=h.shw s hi6;simp[h3,h4,h5] at d7;omega
      simp[go_sem];rw[hz];exact aj sc
     ·have hr7:Q8 u s:=⟨d7.1.1.1,d7.1.1.2,d7.1.2,fun h=>by have:=d7.2;omega⟩;simp(disch:=first|omega|simp) [go_sem,aA];refine dB (s+1) ⟨by omega,nH hw hr7⟩ (h:=by simp[go_sem]<;>omega)
    ·obtain rfl:s=u.nw:=by omega
     have hz:pU u=(jy u.Changed 0 1048575&&decide ((u.nt:Int)<=64)&&decide ((u.nl:Int)<=1024)&&decide ((u.nw:Int)<=1024)):=by
      rw[Bool.eq_iff_iff,lK];simp only[Bool.and_eq_true,decide_eq_true_eq];exact⟨fun h=>⟨⟨⟨h.day,by have:=h.nt;omega⟩,by have:=h.nl;omega⟩,by have:=h.nw;omega⟩,fun h=>⟨hx,hb,hl,hw,h.1.1.1,by have:=h.1.1.2;omega,by have:=h.1.2;omega,by have:=h.2;omega⟩⟩
     simp[go_sem];refine go true ?_;simp[go_sem];refine aW.mk (nY _ u.Changed 0 1048575) ?_;simp[go_sem];rw[hz];exact aj sc
theorem L9(u:Use)(p:sH)(τ:List aC)(hn:u.nf<1000000000):ay prog 118 [.agg (p.enc.map .d),.ptr σ.length 0] (σ++ .var (u.cells u.dw)::τ) (.d (B (Ew u p))):=by
 refine ay.bs true func118 fun hwf=> ?_;refine fA.mk' (.d (I (uU u.nf u.gf p.Of))) (fun _=>H9 _ u p.Of hn) (sm ?_);refine aj ?_;simp[go_sem,Ew]
theorem ZR(u:Use)(m:fJ)(τ:List aC)(hb:u.nb<1000000000)(hn:u.nf<1000000000):ay prog 121 [.agg (m.enc.map .d),.ptr σ.length 0,.ptr (σ.length+1) 0] (σ++ .var (u.cells u.dw):: .var [.clo (.func 118) [] [.ptr σ.length 0]]::τ) (.d (B (yG u m))):=by
 refine ay.bs true func121 fun hwf=> ?_;refine fA.mk' (.d (I (qc u.nb u.gb m.Box))) (fun _=>Ia _ u m.Box hb) (sm ?_);refine fA.mk' (.d (B (Ew u m.From))) (fun _=>by have h:=L9 σ u m.From (.var [.clo (.func 118) [] [.ptr σ.length 0]]::(τ++[.var (m.enc.map .d)])) hn;simpa[go_sem] using h) ?_;simp[go_sem];refine fA.mk' (.d (B (Ew u m.To))) (fun _=>by have h:=L9 σ u m.To (.var [.clo (.func 118) [] [.ptr σ.length 0]]::(τ++[.var (m.enc.map .d)])) hn;simpa[go_sem] using h) ?_;simp[go_sem];refine aj ?_;simp[go_sem,yG]
theorem TY(u:Use)(hu:dR u):ay prog 62 [.agg (u.cells u.dw)] σ (.d (B (iC u))):=by
 have b1:=hu.nb;have b2:=hu.nf;have b3:=hu.nv;refine ay.bs true func62 fun hwf=> ?_;refine aW.mk (Px _ none u.nv u.gv _ _ (yG u) (by omega) (fun i hi=>by have h:=ZR σ u (u.gv i) [] (by omega) (by omega);exact h)) ?_;simp[go_sem];refine aj ?_;simp[go_sem,iC]
end Go.Proofs.YthlhlnbcjlpigaaGreatDoor
