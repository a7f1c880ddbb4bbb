/- Lemmas, no conditions. -/
import Derived.Test.YthpplckmbbachaaGreatDoorKB26
import Derived.Test.YthpplckmbbachaaGreatDoorKB27
set_option linter.unusedVariables false
set_option linter.unusedSimpArgs false
set_option maxHeartbeats 1000000
set_option maxRecDepth 100000
namespace Go.Proofs.YthpplckmbbachaaGreatDoor
open Go.aI Go.bI Go.Proofs.Tryz
variable (σ : List aZ)
structure ke where
 Reader:Int
 Unit:Int
 Day:Int
instance:Inhabited ke:=⟨⟨0,0,0⟩⟩
def ke.enc(s:ke):List D:=[I s.Reader,I s.Unit,I s.Day]
structure Use where
 P:u5
 nb:Nat
 gb:Nat->Bx
 nf:Nat
 gf:Nat->l4
 nv:Nat
 gv:Nat->hY
 nr:Nat
 gr:Nat->cT
 gq:Int
 nk:Nat
 gk:Nat->ju
 nt:Nat
 gt:Nat->ek
 nl:Nat
 gl:Nat->kE
 nw:Nat
 gw:Nat->ke
 Changed:Int
def Use.cells(u:Use)(w:AV):List AV:=[.d (SL none 5 ej.enc u.P.ns u.P.gs),.d (SL none 6 Rule.enc u.P.nc u.P.gc),.d (SL none 6 dF.enc u.P.np u.P.gp),.d (I u.P.dE),.d (SL none 6 fM.enc u.P.na u.P.ga),.d (SL none 6 fu.enc u.P.nm u.P.gm),
 .d (SL none 5 Bx.enc u.nb u.gb),.d (SL none 4 l4.enc u.nf u.gf),.d (SL none 6 hY.enc u.nv u.gv),.d (SL none 7 cT.enc u.nr u.gr),.d (I u.gq),.d (SL none 4 ju.enc u.nk u.gk),.d (SL none 8 ek.enc u.nt u.gt),.d (SL none 2 kE.enc u.nl u.gl),w,.d (I u.Changed)]
def Use.aX(u:Use):AV:= .d (SL none 3 ke.enc u.nw u.gw)
def zU:List AV:=[.d (.v (.slice none 0 0)),.d (.v (.slice none 0 0)),.d (.v (.slice none 0 0)),.d (I 0),.d (.v (.slice none 0 0)),.d (.v (.slice none 0 0)),.d (.v (.slice none 0 0)),.d (.v (.slice none 0 0)),.d (.v (.slice none 0 0)),.d (.v (.slice none 0 0)),.d (I 0),.d (.v (.slice none 0 0)),.d (.v (.slice none 0 0)),.d (.v (.slice none 0 0)),.d (.v (.slice none 0 0)),.d (I 0)]
def nU:List AV:=[.undef,.undef,.undef,.undef,.undef,.undef,.undef,.undef,.undef,.undef,.undef,.undef,.undef,.undef,.undef,.undef]
attribute [go_sem] ke.enc Use.cells Use.aX zU nU
structure Ev where
 ID:Int
 Day:Int
 Kind:Int
 cn:Option Nat
 nn:Nat
 gn:Nat->Int
 ct:Option Nat
 nt:Nat
 gt:Nat->ByteArray
def encS(s:ByteArray):List D:=[Sb s]
def Ev.enc(e:Ev):List D:=[I e.ID,I e.Day,I e.Kind,SL e.cn 1 encI e.nn e.gn,SL e.ct 1 encS e.nt e.gt]
instance:Inhabited Ev:=⟨⟨0,0,0,none,0,fun _=>0,none,0,fun _=> .empty⟩⟩
attribute [go_sem] encS Ev.enc
structure br(u:Use):Prop where
 P:dT u.P
 nb:u.nb<=1000000
 bx: ∀i,i<u.nb->(u.gb i).nc<=1000000
 nf:u.nf<=1000000
 nv:u.nv<=1000000
 nr:u.nr<=1000000
 nk:u.nk<=1000000
 nt:u.nt<=1000000
 bu: ∀i,i<u.nt->(u.gt i).nu<=1000000
 bb: ∀i,i<u.nt->(u.gt i).nb<=1000000
 nl:u.nl<=1000000
 nw:u.nw<=1000000
def ky(n:Nat)(g:Nat->l4)(k:Int):Int:=idxFrom (fun s:l4=>s.ID==k) (lst n g) 0
theorem PL(n g k):ky n g k<n:=iR _ n g
def aM(u:Use)(k:Int):yK:=(kG u.nv u.gv k).1
def pz(u:Use)(p:yK):Bool:=(p.Kind !=1)||decide (0<=ky u.nf u.gf p.Of)
def oi(u:Use)(m:hY):Bool:=decide (u.Changed<m.Day)||decide (hZ u.nb u.gb m.Box<0)|| !pz u m.From|| !pz u m.To
def eI(u:Use):Bool:= !(lst u.nv u.gv).any (oi u)
def Ep(u:Use)(i:Nat):Int:=if i=0 then bL u.P else if i=1 then bW u.nb u.gb else if i=2 then dp u.nf u.gf else if i=3 then bX u.nv u.gv else if i=4 then cr u.nr u.gr else dM u.gq u.nk u.gk
def KW(u:Use)(i:Nat):Prop:=eK (u.gt i)=0/\(0<i->(u.gt (i-1)).ID<(u.gt i).ID)
def Q6(u:Use)(i:Nat):Prop:=fc (u.gl i).fx=true/\fc (u.gl i).Unit=true/\(0<i->(u.gl (i-1)).fx<(u.gl i).fx)
def G7(u:Use)(i:Nat):Prop:=fc (u.gw i).Reader=true/\fc (u.gw i).Unit=true/\gD (u.gw i).Day 0 u.Changed=true/\(0<i->(u.gw (i-1)).Day<=(u.gw i).Day)
structure Q4(u:Use):Prop where
 chk: ∀i,i<6->Ep u i=0
 uh: ∀i,i<u.nt->KW u i
 HN: ∀i,i<u.nl->Q6 u i
 shw: ∀i,i<u.nw->G7 u i
 day:gD u.Changed 0 1048575=true
 nt:u.nt<=64
 nl:u.nl<=1024
 nw:u.nw<=1024
open Classical in
noncomputable def mj(u:Use):Bool:=decide (Q4 u)
theorem iW{u} :mj u=true↔Q4 u:=by simp[mj]
theorem tl{u}(h: ¬Q4 u):mj u=false:=by grind [iW]
theorem gi{p:Nat->Prop}{i}(h: ∀q,q<i->p q)(hi:p i): ∀q,q<i+1->p q:=fun q hq=>by
 grind
theorem OD(c n g)(hn:n<1000000000):CS prog 107 [.d (SL c 6 Rule.enc n g)] σ (fun r σ' X=>r= .ms σ.length 6 0 n/\σ'=σ++[.arr 6 n fun i=>Rule.enc (g i)]/\X=[]):=by
 refine CS.Ik true func107 fun hwf=> ?_;simp[go_sem,-Bool.forall_bool];try intro b1 hb1
 refine fX ?_ ?_<;>intro c0 d0
 ·simp[go_sem];refine bq 2 6 (fun i=>Rule.enc (g i)) au aN ?_;refine af ?_;obtain rfl:=hb1 c0;simp[go_sem]
 ·refine wB ?_;exact af so
theorem KA(c n g)(hn:n<1000000000):CS prog 109 [.d (SL c 6 fM.enc n g)] σ (fun r σ' X=>r= .ms σ.length 6 0 n/\σ'=σ++[.arr 6 n fun i=>fM.enc (g i)]/\X=[]):=by
 refine CS.Ik true func109 fun hwf=> ?_;simp[go_sem,-Bool.forall_bool];try intro b1 hb1
 refine fX ?_ ?_<;>intro c0 d0
 ·simp[go_sem];refine bq 2 6 (fun i=>fM.enc (g i)) au aN ?_;refine af ?_;obtain rfl:=hb1 c0;simp[go_sem]
 ·refine wB ?_;exact af so
theorem Kt(c n g)(hn:n<1000000000):CS prog 113 [.d (SL c 4 l4.enc n g)] σ (fun r σ' X=>r= .ms σ.length 4 0 n/\σ'=σ++[.arr 4 n fun i=>l4.enc (g i)]/\X=[]):=by
 refine CS.Ik true func113 fun hwf=> ?_;simp[go_sem,-Bool.forall_bool];try intro b1 hb1
 refine fX ?_ ?_<;>intro c0 d0
 ·simp[go_sem];refine bq 2 4 (fun i=>l4.enc (g i)) au aN ?_;refine af ?_;obtain rfl:=hb1 c0;simp[go_sem]
 ·refine wB ?_;exact af so
theorem Kz(c n g)(hn:n<1000000000):CS prog 117 [.d (SL c 8 ek.enc n g)] σ (fun r σ' X=>r= .ms σ.length 8 0 n/\σ'=σ++[.arr 8 n fun i=>ek.enc (g i)]/\X=[]):=by
 refine CS.Ik true func117 fun hwf=> ?_;simp[go_sem,-Bool.forall_bool];try intro b1 hb1
 refine fX ?_ ?_<;>intro c0 d0
 ·simp[go_sem];refine bq 2 8 (fun i=>ek.enc (g i)) au aN ?_;refine af ?_;obtain rfl:=hb1 c0;simp[go_sem]
 ·refine wB ?_;exact af so
theorem Ks(c n g)(hn:n<1000000000):CS prog 119 [.d (SL c 3 ke.enc n g)] σ (fun r σ' X=>r= .ms σ.length 3 0 n/\σ'=σ++[.arr 3 n fun i=>ke.enc (g i)]/\X=[]):=by
 refine CS.Ik true func119 fun hwf=> ?_;simp[go_sem,-Bool.forall_bool];try intro b1 hb1
 refine fX ?_ ?_<;>intro c0 d0
 ·simp[go_sem];refine bq 2 3 (fun i=>ke.enc (g i)) au aN ?_;refine af ?_;obtain rfl:=hb1 c0;simp[go_sem]
 ·refine wB ?_;exact af so
theorem yn(c n g)(hn:n<1000000000):ak prog 114 [.d (SL c 6 hY.enc n g)] σ (.d (SL none 6 hY.enc n g)):=by
 refine ak.bd true func114 fun hwf=> ?_;simp[go_sem,-Bool.forall_bool];try intro b1 hb1
 refine fX ?_ ?_<;>intro c0 d0
 ·refine wA ?_;have:=hb1 c0;simp[go_sem,this]
 ·refine wB ?_;refine bg (σ.length) bj aN eS ?_;exact af so
theorem yk(c n g)(hn:n<1000000000):ak prog 115 [.d (SL c 7 cT.enc n g)] σ (.d (SL none 7 cT.enc n g)):=by
 refine ak.bd true func115 fun hwf=> ?_;simp[go_sem,-Bool.forall_bool];try intro b1 hb1
 refine fX ?_ ?_<;>intro c0 d0
 ·refine wA ?_;have:=hb1 c0;simp[go_sem,this]
 ·refine wB ?_;refine bg (σ.length) bj aN eS ?_;exact af so
theorem yq(c n g)(hn:n<1000000000):ak prog 116 [.d (SL c 4 ju.enc n g)] σ (.d (SL none 4 ju.enc n g)):=by
 refine ak.bd true func116 fun hwf=> ?_;simp[go_sem,-Bool.forall_bool];try intro b1 hb1
 refine fX ?_ ?_<;>intro c0 d0
 ·refine wA ?_;have:=hb1 c0;simp[go_sem,this]
 ·refine wB ?_;refine bg (σ.length) bj aN eS ?_;exact af so
theorem yo(c n g)(hn:n<1000000000):ak prog 118 [.d (SL c 2 kE.enc n g)] σ (.d (SL none 2 kE.enc n g)):=by
 refine ak.bd true func118 fun hwf=> ?_;simp[go_sem,-Bool.forall_bool];try intro b1 hb1
 refine fX ?_ ?_<;>intro c0 d0
 ·refine wA ?_;have:=hb1 c0;simp[go_sem,this]
 ·refine wB ?_;refine bg (σ.length) bj aN eS ?_;exact af so
theorem jW(c n g)(hn:n<1000000000):ak prog 110 [.d (SL c 6 fu.enc n g)] σ (.d (SL none 6 fu.enc n g)):=by
 refine ak.bd true func110 fun hwf=> ?_;simp[go_sem,-Bool.forall_bool];try intro b1 hb1
 refine fX ?_ ?_<;>intro c0 d0
 ·refine wA ?_;have:=hb1 c0;simp[go_sem,this]
 ·refine wB ?_;refine bg (σ.length) bj aN eS ?_;exact af so
theorem mL(c n g)(hn:n<1000000000):ak prog 34 [.d (SL c 1 encI n g)] σ (.d (SL none 1 encI n g)):=by
 refine ak.bd true func34 fun hwf=> ?_;simp[go_sem,-Bool.forall_bool];try intro b1 hb1
 refine fX ?_ ?_<;>intro c0 d0
 ·refine wA ?_;have:=hb1 c0;simp[go_sem,this]
 ·refine wB ?_;refine bg (σ.length) bj aN eS ?_;exact af so
theorem kJ(n a b):ak prog 51 [.d (I n),.d (I a),.d (I b)] σ (.d (B (gD n a b))):=by
 refine ak.bt func51 ?_;refine af ?_;simp[go_sem,gD]<;>omega
theorem tc(n):ak prog 134 [.d (I n)] σ (.d (B (fc n))):=by
 refine ak.bt func134 ?_;refine az.mk (kJ _ _ _ _) (sm ?_);refine af ?_;simp[go_sem,fc]<;>omega
theorem Dx(τ)(r:Bx)(k):ak prog 126 [.agg (r.enc.map .d),.ptr σ.length 0] (σ++ .var [.d (I k)]::τ) (.d (B (r.ID==k))):=by
 refine ak.bt func126 ?_;exact af so
theorem Pv(τ)(r:l4)(k):ak prog 204 [.agg (r.enc.map .d),.ptr σ.length 0] (σ++ .var [.d (I k)]::τ) (.d (B (r.ID==k))):=by
 refine ak.bt func204 ?_;exact af so
theorem yO(u:Use)(k)(hn:u.nb<1000000000):ak prog 53 [.agg (u.cells u.aX),.d (I k)] σ (.d (I (hZ u.nb u.gb k))):=by
 refine ak.bt func53 ?_;refine az.mk (qz _ none u.nb u.gb _ _ (fun r=>r.ID==k) hn (fun i hi=>by have h:=nA (Dx (σ++[.var (u.cells u.aX)]) [] (u.gb i) k);exact h)) ?_;refine wA ?_;simp[go_sem,hZ]<;>omega
theorem yN(u:Use)(k)(hn:u.nf<1000000000):ak prog 136 [.agg (u.cells u.aX),.d (I k)] σ (.d (I (ky u.nf u.gf k))):=by
 refine ak.bt func136 ?_;refine az.mk (NA _ none u.nf u.gf _ _ (fun r=>r.ID==k) hn (fun i hi=>by have h:=nA (Pv (σ++[.var (u.cells u.aX)]) [] (u.gf i) k);exact h)) ?_;refine wA ?_;simp[go_sem,ky]<;>omega
theorem iV(u k)(hn:u.nv<1000000000):ak prog 54 [.agg (u.cells u.aX),.d (I k)] σ (.agg ((aM u k).enc.map .d)):=by
 refine ak.bt func54 ?_;refine az.mk (pL _ none u.nv u.gv k hn) (sm ?_);refine af ?_;simp[go_sem,aM]<;>omega
theorem Pz(u:Use)(b k)(hn:u.nb<1000000000):ak prog 53 [.agg (u.cells (.ms b 3 0 u.nw)),.d (I k)] σ (.d (I (hZ u.nb u.gb k))):=by
 refine ak.bt func53 ?_;refine az.mk (qz _ none u.nb u.gb _ _ (fun r=>r.ID==k) hn (fun i hi=>by have h:=nA (Dx (σ++[.var (u.cells (.ms b 3 0 u.nw))]) [] (u.gb i) k);exact h)) ?_;refine wA ?_;simp[go_sem,hZ]<;>omega
theorem rO(u b k)(hn:u.nv<1000000000):ak prog 54 [.agg (u.cells (.ms b 3 0 u.nw)),.d (I k)] σ (.agg ((aM u k).enc.map .d)):=by
 refine ak.bt func54 ?_;refine az.mk (pL _ none u.nv u.gv k hn) (sm ?_);refine af ?_;simp[go_sem,aM]<;>omega
theorem IL(u)(hu:br u)(h0:σ[0]? =some (.tab 0 dG))(h1:σ[1]? =some (.loc 1)):ak prog 59 [.agg (u.cells u.aX)] σ (.d (B (mj u))):=by
 have b1:=hu.nb;have b2:=hu.nf;have b3:=hu.nv;have b4:=hu.nr;have b5:=hu.nk;have b6:=hu.nt;have b7:=hu.nl;have b8:=hu.nw;refine ak.bt func59 ?_;refine T.dr 23 fun K hK=>sm ?_;refine bK.mk (iN _ u.P hu.P (ay h1)) (sm ?_);refine bK.mk (jY _ none u.nb u.gb aa (fun i hi=>AB)) ?_;simp[go_sem];refine bK.mk (pg _ none u.nf u.gf aa) (sm ?_);refine bK.mk (lk _ none u.nv u.gv aa) (sm ?_);refine bK.mk (kQ _ none u.nr u.gr aa) (sm ?_);refine bK.mk (pr _ u.gq none u.nk u.gk aa) (sm ?_);refine hK _ ?_;refine go true (sm ?_);refine dm (α:=Nat) true [1,31,32,33] (fun i=>[(33,.d (I i))]) (fun i=>_) (fun i=>i<=6/\∀q,q<i->Ep u q=0) (fun i=>6-i) 0 ?_;rintro i ⟨hi,hx⟩;refine gc [1,31,32,33] ?_ ?_<;>intro d0
 ·have hcs:i=0\/i=1\/i=2\/i=3\/i=4\/i=5:=aa;have hrow:rowsOf 1 [I (bL u.P),I (bW u.nb u.gb),I (dp u.nf u.gf),I (bX u.nv u.gv),I (cr u.nr u.gr),I (dM u.gq u.nk u.gk)] i=[I (Ep u i)]:=by
   rcases hcs with rfl|rfl|rfl|rfl|rfl|rfl<;>rfl
  simp[go_sem,hrow];repeat refine⟨aa,?_⟩
  refine dH [1,31,32,33] ?_ ?_<;>intro d1
  ·have hz:mj u=false:=tl fun h=>d1 (h.chk i aa);exact sx hz
  ·have hz1:Ep u i=0:=ai;refine wC ?_;refine bF (i+1) ⟨aa,gi hx hz1⟩ (h:=aR)
 ·obtain rfl:i=6:=by omega
  refine wF ?_;refine dm (α:=Nat) true [1,41,42,43] (fun q=>[(43,.d (I q))]) (fun q=>_) (fun q=>q<=u.nt/\∀k,k<q->KW u k) (fun q=>u.nt-q) 0 ?_;rintro q ⟨hq,hb⟩;have hwq:=aT (i:=q) aa;refine gc [1,41,42,43] ?_ ?_<;>intro d2
  ·have hi2:q<u.nt:=aa;have g1:=hu.bu q hi2;have g2:=hu.bb q hi2;simp[go_sem,hi2];refine T.dr 19 fun K hK=> ?_;simp[go_sem];refine bK.mk (e7 _ (u.gt q) aa aa (ay h0)) ?_;simp[go_sem,hwq];refine wK hK ?_;refine gc [1,41,42,43] ?_ ?_<;>intro d3
   ·have hz:mj u=false:=tl fun h=>by
     have⟨h3,h4⟩:=h.uh q hi2;grind
    exact sx hz
   ·have hr3:KW u q:=⟨d3.1,fun h=>ai⟩;refine wC ?_;refine bF (q+1) ⟨aa,gi hb hr3⟩ (h:=aR)
  ·obtain rfl:q=u.nt:=by omega
   refine wL ?_;refine dm (α:=Nat) true [1,69,70,71] (fun r=>[(71,.d (I r))]) (fun r=>_) (fun r=>r<=u.nl/\∀k,k<r->Q6 u k) (fun r=>u.nl-r) 0 ?_;rintro r ⟨hr,hl⟩;have hwr:=aT (i:=r) aa;refine gc [1,69,70,71] ?_ ?_<;>intro d4
   ·have hi4:r<u.nl:=aa;simp[go_sem,hi4];refine T.dr 26 fun K hK=> ?_;simp[go_sem];refine bK.mk (tc _ (u.gl r).fx) ?_;simp[go_sem];refine bK.mk (tc _ (u.gl r).Unit) ?_;simp[go_sem,hwr];refine wK hK ?_;refine gc [1,69,70,71] ?_ ?_<;>intro d5
    ·have hz:mj u=false:=tl fun h=>by
      have⟨h3,h4,h5⟩:=h.HN r hi4;grind
     exact sx hz
    ·have hr5:Q6 u r:=⟨d5.1.1,d5.1.2,fun h=>ai⟩;refine wC ?_;refine bF (r+1) ⟨aa,gi hl hr5⟩ (h:=aR)
   ·obtain rfl:r=u.nl:=by omega
    refine wL ?_;refine dm (α:=Nat) true [1,104,105,106] (fun s=>[(106,.d (I s))]) (fun s=>_) (fun s=>s<=u.nw/\∀k,k<s->G7 u k) (fun s=>u.nw-s) 0 ?_;rintro s ⟨hs,hw⟩;have hws:=aT (i:=s) aa;refine gc [1,104,105,106] ?_ ?_<;>intro d6
    ·have XY:s<u.nw:=aa;simp[go_sem,XY];refine T.dr 34 fun K hK=> ?_;simp[go_sem];refine bK.mk (tc _ (u.gw s).Reader) ?_;simp[go_sem];refine bK.mk (tc _ (u.gw s).Unit) ?_;simp[go_sem];refine bK.mk (kJ _ (u.gw s).Day 0 u.Changed) ?_;simp[go_sem,hws];refine wK hK ?_;refine gc [1,104,105,106] ?_ ?_<;>intro d7
     ·have hz:mj u=false:=tl fun h=>by
       have⟨h3,h4,h5,h6⟩:=h.shw s XY;grind
      exact sx hz
     ·have hr7:G7 u s:=⟨d7.1.1.1,d7.1.1.2,d7.1.2,fun h=>ai⟩;refine wC ?_;refine bF (s+1) ⟨aa,gi hw hr7⟩ (h:=aR)
    ·obtain rfl:s=u.nw:=by omega
     have hz:mj u=(gD u.Changed 0 1048575&&decide ((u.nt:Int)<=64)&&decide ((u.nl:Int)<=1024)&&decide ((u.nw:Int)<=1024)):=by
      rw[Bool.eq_iff_iff,iW];simp only[Bool.and_eq_true,decide_eq_true_eq];exact⟨fun h=>⟨⟨⟨h.day,by have:=h.nt;omega⟩,by have:=h.nl;omega⟩,by have:=h.nw;omega⟩,fun h=>⟨hx,hb,hl,hw,h.1.1.1,ai,ai,ai⟩⟩
     refine wL ?_;refine az.mk (kJ _ u.Changed 0 1048575) ?_;exact sx hz
theorem Du(u p τ)(hn:u.nf<1000000000):ak prog 135 [.agg (p.enc.map .d),.ptr σ.length 0] (σ++ .var (u.cells u.aX)::τ) (.d (B (pz u p))):=by
 refine ak.bt func135 ?_;refine cE.mk' (.d (I (ky u.nf u.gf p.Of))) (fun _=>yN _ u p.Of hn) (sm ?_);refine af ?_;simp[go_sem,pz]
theorem Px(u m τ)(hb:u.nb<1000000000)(hn:u.nf<1000000000):ak prog 138 [.agg (m.enc.map .d),.ptr σ.length 0,.ptr (σ.length+1) 0] (σ++ .var (u.cells u.aX):: .var [.clo (.func 135) [] [.ptr σ.length 0]]::τ) (.d (B (oi u m))):=by
 refine ak.bt func138 ?_;refine cE.mk' (.d (I (hZ u.nb u.gb m.Box))) (fun _=>yO _ u m.Box hb) (sm ?_);refine cE.mk' (.d (B (pz u m.From))) (fun _=>by have h:=Du σ u m.From (.var [.clo (.func 135) [] [.ptr σ.length 0]]::(τ++[.var (m.enc.map .d)])) hn;simpa[go_sem] using h) ?_;simp[go_sem];refine cE.mk' (.d (B (pz u m.To))) (fun _=>by have h:=Du σ u m.To (.var [.clo (.func 135) [] [.ptr σ.length 0]]::(τ++[.var (m.enc.map .d)])) hn;simpa[go_sem] using h) ?_;refine wA ?_;simp[go_sem,oi]
theorem IM(u)(hu:br u):ak prog 60 [.agg (u.cells u.aX)] σ (.d (B (eI u))):=by
 have b1:=hu.nb;have b2:=hu.nf;have b3:=hu.nv;refine ak.bt func60 ?_;refine az.mk (FB _ none u.nv u.gv _ _ (oi u) aa (fun i hi=>by have h:=Px σ u (u.gv i) [] aa aa;exact h)) ?_;refine wA ?_;simp[go_sem,eI]
def iF(f:Int->Int):Key->D
 | .i x=>I (f x)
 | .s _=>I 0
theorem agR(f x):iF f (.i x)=I (f x):=rfl
attribute [go_sem] agR
def xe(f:Int->Int)(x v:Int):Int->Int:=fun y=>if y=x then v else f y
theorem Rk(f x v):iC (fun k=>AV.d (iF f k)) (.i x) (.d (I v))=fun k=> .d (iF (xe f x v) k):=by
 funext k
 unfold iC;cases k<;>grind [iF,xe]
theorem ZR(f x v):xe f x v x=v:=if_pos rfl
theorem LN{f ks x v}(h: ∀y,Key.i y∉ks->f y=0): ∀y,Key.i y∉iX (.i x) ks->xe f x v y=0:=fun y hy=>by
 grind [eV,xe]
theorem Hp{ks x}(h: ∀k∈ks,k.str=false): ∀k∈iX (.i x) ks,k.str=false:=fun k hk=>by
 rcases eV.1 hk with rfl|hk
 ·rfl
 grind
theorem aac(s m x):(kV s m).pl x=s.pl x\/(kV s m).pl x=m.To:=by
 unfold kV;split;all_goals grind [xd]
theorem MP{g}(x): ∀{k i s},(cX g i s k).2.pl x=s.pl x\/∃q,i<=q/\q<i+k/\(cX g i s k).2.pl x=(g q).To
 |0,i,s=> .inl rfl
 |k+1,i,s=>by
  rw[cX];split
  ·grind
  ·rename_i h;rcases MP x (k:=k) (i:=i+1) (s:=kV s (g i)) with h1|⟨q,h1,h2,h3⟩
   ·rw[h1];grind [aac]
   grind
theorem W8(u k):aM u k=⟨0,0⟩\/∃q,q<u.nv/\aM u k=(u.gv q).To:=by
 unfold aM kG;by_cases h1:bX u.nv u.gv≠0
 ·grind
 ·rw[if_neg h1];by_cases h2:fc k=false
  ·grind
  ·rw[if_neg h2];unfold bo;split;all_goals grind [MP,vw]
theorem Ud{u}(h:eI u=true){q}(hq:q<u.nv):oi u (u.gv q)=false:=by
 grind [eI,lst]
theorem mN{u}(hm:eI u=true){k}(h:(aM u k).Kind=1):0<=ky u.nf u.gf (aM u k).Of:=by
 grind [W8,Ud,oi,pz]
def nJ(u:Use)(i:Nat)(f:Int->Int):Nat->Bool
 |0=>true
 |k+1=>if(aM u (u.gb i).ID).Kind≠1 then nJ u (i+1) f k
  else if(u.gf (ky u.nf u.gf (aM u (u.gb i).ID).Of).toNat).Length<f (u.gf (ky u.nf u.gf (aM u (u.gb i).ID).Of).toNat).ID+(u.gb i).Width\/(u.gf (ky u.nf u.gf (aM u (u.gb i).ID).Of).toNat).bH≠(u.gb i).bH then false
  else nJ u (i+1) (xe f (u.gf (ky u.nf u.gf (aM u (u.gb i).ID).Of).toNat).ID (f (u.gf (ky u.nf u.gf (aM u (u.gb i).ID).Of).toNat).ID+(u.gb i).Width)) k
theorem NM{u i f n}(h:i<n):nJ u i f (n-i)=if(aM u (u.gb i).ID).Kind≠1 then nJ u (i+1) f (n-(i+1))
  else if(u.gf (ky u.nf u.gf (aM u (u.gb i).ID).Of).toNat).Length<f (u.gf (ky u.nf u.gf (aM u (u.gb i).ID).Of).toNat).ID+(u.gb i).Width\/(u.gf (ky u.nf u.gf (aM u (u.gb i).ID).Of).toNat).bH≠(u.gb i).bH then false
  else nJ u (i+1) (xe f (u.gf (ky u.nf u.gf (aM u (u.gb i).ID).Of).toNat).ID (f (u.gf (ky u.nf u.gf (aM u (u.gb i).ID).Of).toNat).ID+(u.gb i).Width)) (n-(i+1)):=by
 obtain⟨k,hk⟩: ∃k,n-i=k+1:=⟨n-i-1,aa⟩;grind [nJ]
def pC(u:Use):Bool:=nJ u 0 (fun _=>0) u.nb
def dO(u:Use):Nat->List Key×(Int->Int)
 |0=>([],fun _=>0)
 |i+1=>if(u.gr i).State=2 then(iX (.i (u.gr i).Box) (dO u i).1,xe (dO u i).2 (u.gr i).Box (u.gr i).Reader) else dO u i
theorem xE(u): ∀i y,Key.i y∉(dO u i).1->(dO u i).2 y=0
 |0,_,_=>rfl
 |i+1,y,h=>by
  unfold dO at h⊢;split at h
  ·rename_i h1;rw[if_pos h1];exact LN (xE u i) y h
  ·rename_i h1;rw[if_neg h1];exact xE u i y h
theorem zt(u): ∀i,∀k∈(dO u i).1,k.str=false
 |0,k,h=>nomatch h
 |i+1,k,h=>by
  unfold dO at h;split at h
  ·exact Hp (zt u i) k h
  ·exact zt u i k h
structure Tc(u:Use):Prop where
 day: ∀i,i<u.nr->(u.gr i).Changed<=u.Changed
 out: ∀x,Key.i x∈(dO u u.nr).1->aM u x=⟨3,(dO u u.nr).2 x⟩
 box: ∀i,i<u.nb->(aM u (u.gb i).ID).Kind=3->(dO u u.nr).2 (u.gb i).ID=(aM u (u.gb i).ID).Of
open Classical in
noncomputable def xP(u:Use):Bool:=decide (Tc u)
theorem sA{u} :xP u=true↔Tc u:=by simp[xP]
theorem R4{u}(h: ¬Tc u):xP u=false:=by grind [sA]
def HS(u:Use)(b:Bx):Bool:=((aM u b.ID).Kind==3)&&((dO u u.nr).2 b.ID !=(aM u b.ID).Of)
noncomputable def ck(u:Use):Bool:=mj u&&eI u&&pC u&&xP u
theorem Ls(u)(hu:br u)(hm:eI u=true)(hc:bW u.nb u.gb=0):ak prog 61 [.agg (u.cells u.aX)] σ (.d (B (pC u))):=by
 have b1:=hu.nb;have b2:=hu.nf;have b3:=hu.nv;have hbx:=e9 hc;refine ak.bd false func61 fun hwf=> ?_;refine wX ?_;refine yA (σ.length+1) (ks':=[]) (f':=fun k=> .d (iF (fun _=>0) k)) v7 (.refl _) (fun k hk=>nomatch hk) (fun k=>rfl) Q8 ?_;refine wa ?_;refine mA (α:=Nat×List Key×(Int->Int)) true [1,3,10,11,12] (fun x=>[(12,.d (I x.1))]) (fun x=>σ++[.var (u.cells u.aX),.mp false x.2.1 (fun k=> .d (iF x.2.2 k))]) (fun x=>x.1<=u.nb/\pC u=nJ u x.1 x.2.2 (u.nb-x.1)/\(∀y,Key.i y∉x.2.1->x.2.2 y=0)/\(∀k∈x.2.1,k.str=false)/\∀y,0<=x.2.2 y/\x.2.2 y<=10000*(x.1:Int)) (fun x=>u.nb-x.1) (0,[],fun _=>0) au (rfl) (⟨an,by simp[pC],fun _ _=>rfl,fun k hk=>(nomatch hk),fun y=>⟨an,an⟩⟩) ?_;rintro⟨i,ks,f⟩ ⟨hi,hx,ho,hk,hf⟩;dsimp only at hi hx ho hk hf;refine gc [1,3,10,11,12] ?_ ?_<;>intro d0
 ·have hst:=NM (u:=u) (f:=f) d0;have hwd:=(jX (hbx.2 i d0)).1;simp only[rz,Bool.and_eq_true] at hwd;have hwd:=bO.1 hwd.1.1.1.2;refine wB ?_;refine az.mk (iV _ u (u.gb i).ID aa) ?_;refine gc [1,3,5,6,10,11,12] ?_ ?_<;>intro d1
  ·refine wC ?_;refine bF ((i+1,ks,f)) ⟨ai,ai,ho,hk,fun y=>⟨(hf y).1,ai⟩⟩ (h:=aR) (hσ:=aP) (hb:=ae au)
  ·have hkd:(aM u (u.gb i).ID).Kind=1:=ai;have hsi:=mN hm hkd;have hsl:=PL u.nf u.gf (aM u (u.gb i).ID).Of;obtain⟨s,hs,hsn⟩: ∃s:Nat,ky u.nf u.gf (aM u (u.gb i).ID).Of=(s:Int)/\s<u.nf:=⟨(ky u.nf u.gf (aM u (u.gb i).ID).Of).toNat,aa,aa⟩;have hst2:=hst;rw[if_neg ai,hs,Int.toNat_natCast] at hst2;have e1:cond (decide (Key.i (u.gf s).ID∈ks)) (f (u.gf s).ID) 0=f (u.gf s).ID:=by
    grind
   have hw2:IntKind.i64.wrap (f (u.gf s).ID+(u.gb i).Width)=f (u.gf s).ID+(u.gb i).Width:=by
    grind [aS]
   have hin:Key.i (u.gf s).ID∈iX (.i (u.gf s).ID) ks:=eV.2 (.inl rfl);simp[go_sem];apply cU 9 8 10 T.mixed aD
   ·intro τ K hK;simp[go_sem];refine bK.mk (yN _ u (aM u (u.gb i).ID).Of aa) ?_;simp[go_sem,hs,hsn];exact hK _ _
   intro K hK;refine wc hK ?_;simp(disch:=first|omega|simp) [go_sem,Rk,ZR,e1,hw2,hin];refine dH [1,3,10,11,12] ?_ ?_<;>intro d2
   ·have hz:pC u=false:=ai;exact sx hz
   ·have hd2: ¬((u.gf s).Length<f (u.gf s).ID+(u.gb i).Width\/(u.gf s).bH≠(u.gb i).bH):=ai;refine wC ?_;refine bF ((i+1,iX (.i (u.gf s).ID) ks,xe f (u.gf s).ID (f (u.gf s).ID+(u.gb i).Width))) ⟨ai,ai,LN ho,Hp hk,fun y=>by grind [xe]⟩ (h:=aR) (hσ:=aP) (hb:=ae au)
 ·have hz:pC u=true:=by rw[hx,show u.nb-i=0 by omega];rfl
  refine wR ?_;exact sx hz
theorem IN(u b τ b1)(hn:u.nv<1000000000):ak prog 140 [.agg (b.enc.map .d),.ptr σ.length 0,.ptr (σ.length+2) 0] (σ++ .var (u.cells u.aX)::b1:: .var [.fm false (dO u u.nr).1 (iF (dO u u.nr).2)]::τ) (.d (B (HS u b))):=by
 have e1:cond (decide (Key.i b.ID∈(dO u u.nr).1)) ((dO u u.nr).2 b.ID) 0=(dO u u.nr).2 b.ID:=by
  grind [xE]
 refine ak.bd true func140 fun hwf=> ?_;simp[go_sem];refine az.mk (iV _ u b.ID hn) ?_;simp[go_sem,e1];refine af ?_;simp[go_sem,HS]
theorem Lq(u)(hu:br u):ak prog 62 [.agg (u.cells u.aX)] σ (.d (B (xP u))):=by
 have b1:=hu.nb;have b3:=hu.nv;have b4:=hu.nr;refine ak.be func62 fun hwf=> ?_;refine wE ?_;refine wE ?_;refine aq ?_;refine yA (σ.length+1) (ks':=[]) (f':=fun k=> .d (iF (fun _=>0) k)) v7 (.refl _) (fun k hk=>nomatch hk) (fun k=>rfl) Q8 ?_;refine wE ?_;refine aB ?_;refine ba [1,3,10,11,12] eE ?_;refine bB (α:=Nat) (fun i=>[(12,.d (I i))]) (fun i=>σ++[.var (u.cells u.aX),.mp false (dO u i).1 (fun k=> .d (iF (dO u i).2 k)),.var [.mp (σ.length+1)]]) (fun i=>i<=u.nr/\∀q,q<i->(u.gr q).Changed<=u.Changed) (fun i=>u.nr-i) 0 au (rfl) an ?_;rintro i ⟨hi,hx⟩;refine wE ?_;refine aq ?_;refine gF [1,3,10,11,12,13] ?_;refine ko ?_ ?_<;>intro d0
 ·have hi0:i<u.nr:=aa;refine aJ ?_;refine aq ?_;refine aB ?_;refine aj fun K hK=> ?_;simp[go_sem,d0];refine hK _ ?_;refine aq ?_;refine wE ?_;refine gF [1,3,5,10,11,12,20] ?_;refine fL ?_ ?_<;>intro c1 d1
  ·have hz:xP u=false:=R4 fun h=>by have:=h.day i hi0;omega
   refine aj fun K hK=> ?_;simp[go_sem,d1];refine hK _ ?_;exact sy hz
  ·refine aJ ?_;refine aj fun K hK=> ?_;simp[go_sem,c1];refine hK _ ?_;refine gF [1,3,5,10,11,12,23] ?_;refine fL ?_ ?_<;>intro c2 d2
   ·have ho2:dO u (i+1)=(iX (.i (u.gr i).Box) (dO u i).1,xe (dO u i).2 (u.gr i).Box (u.gr i).Reader):=by grind [dO]
    refine aE fun K hK=> ?_;simp[go_sem,Rk,d2];refine hK _ ?_;refine aE fun K hK=> ?_;simp[go_sem];try simp(disch:=omega) only[aS]
    refine hK _ ?_;refine⟨i+1,bp (by simp[go_sem,ho2]) ((ae au)) iv,⟨aa,gi hx aa⟩,ai⟩
   ·have ho2:dO u (i+1)=dO u i:=by grind [dO]
    refine aJ ?_;refine aE fun K hK=> ?_;simp[go_sem,c2];try simp(disch:=omega) only[aS]
    refine hK _ ?_;refine⟨i+1,bp (by simp[go_sem,ho2]) ((ae au)) iv,⟨aa,gi hx aa⟩,ai⟩
 ·obtain rfl:i=u.nr:=by omega
  have hkn:=zt u u.nr;refine bN ?_;refine aq ?_;refine Y0 (σ.length+1) (d:=false) (ks:=(dO u u.nr).1) (f:=iF (dO u u.nr).2) ai aN (by simp[go_sem,hwf.fm,hwf.fm0];rfl) ?_;refine wE ?_;refine aB ?_;refine ba [1,3,31] eE ?_;refine mo [σ.length+1,σ.length+3] an ?_;refine bB (α:=List Key×List Key×Option Key) (fun x=>[]) (fun x=>σ++[.var (u.cells u.aX),.dead,.var [.fm false (dO u u.nr).1 (iF (dO u u.nr).2)],.it x.1 x.2.2 (fun k=> .d (iF (dO u u.nr).2 k))]) (fun x=>(x.1++x.2.1).Perm (dO u u.nr).1/\∀k∈x.2.1,aM u (kI k)=⟨3,(dO u u.nr).2 (kI k)⟩) (fun x=>x.1.length) ((dO u u.nr).1,[],none) au (rfl) (⟨an,fun k hk=>nomatch hk⟩) ?_;rintro⟨L,sn,cur⟩ ⟨hp,hr⟩;dsimp only at hp hr;refine aj fun K hK=> ?_;simp[go_sem,E3,AZ,Key.v];intro o ho1 ho2;refine hK _ ?_;refine aq ?_;refine gF [1,3,31,33] ?_;refine fL ?_ ?_<;>intro c3 d3
  ·obtain⟨k,rfl⟩:=Option.isSome_iff_exists.1 d3;have hk:=ho2 k rfl;have hks:=hp.mem_iff.1 (List.mem_append_left _ hk);obtain⟨v,rfl⟩: ∃v,k= .i v:=by
    have:=hkn k hks;cases k with
    |i v=>grind
    |s b=>cases this
   refine aJ ?_;refine aB ?_;refine aj fun K hK=> ?_;simp[go_sem,Key.v,c3];refine wY hK fun K hK=> ?_;refine az.mk (iV _ u v aa) ?_;refine wD hK ?_;refine gF [1,3,31,42] ?_;refine fL ?_ ?_<;>intro c4 d4
   ·have hz:xP u=false:=R4 fun h=>by
     have:=h.out v hks;grind
    refine aj fun K hK=> ?_;simp[go_sem,c4];refine hK _ ?_;exact sy hz
   ·have hpv:aM u v=⟨3,(dO u u.nr).2 v⟩:=by simp_all [JD]
    refine aJ ?_;refine⟨(L.erase (.i v),sn++[.i v],some (Key.i v)),bp au ((ae au)) (by(simp[go_sem,d4]<;>omega)),⟨vE hp hk,fun k hk=>by dsimp only at hk⊢;rcases List.mem_append.1 hk with h|h;exact hr k h;rw[List.mem_singleton.1 h];exact hpv⟩,ai⟩
  ·obtain rfl:o=none:=by grind
   obtain rfl:=ho1 rfl;rw[List.nil_append] at hp;have hall: ∀x,Key.i x∈(dO u u.nr).1->aM u x=⟨3,(dO u u.nr).2 x⟩:=fun x h=>hr (.i x) (hp.mem_iff.2 h);refine bN ?_;refine aj fun K hK=> ?_;simp[go_sem,c3];refine az.mk (G4 _ none u.nb u.gb _ _ (HS u) aa (fun i hi=>by have h:=IN σ u (u.gb i) [.it [] cur (fun k=> .d (iF (dO u u.nr).2 k))] .dead aa;simpa[go_sem] using h)) ?_;refine wD hK ?_;refine af ?_;have hz:xP u= !(lst u.nb u.gb).any (HS u):=by
    rw[Bool.eq_iff_iff,sA,Bool.not_eq_true',List.any_eq_false];constructor
    ·intro h b hb;obtain⟨i,hi,rfl⟩:=List.mem_map.1 hb;have:=h.box i ai;grind [HS]
    ·intro h;refine⟨hx,hall,fun i hi hk=> ?_⟩;have:=h (u.gb i) (List.mem_map.2 ⟨i,ai,rfl⟩);grind [HS]
   rw[hz];simp[go_sem]
theorem mE(u)(hu:br u)(h0:σ[0]? =some (.tab 0 dG))(h1:σ[1]? =some (.loc 1)):ak prog 28 [.agg (u.cells u.aX)] σ (.d (B (ck u))):=by
 refine ak.bt func28 ?_;refine az.mk (IL _ u hu (ay h0) (ay h1)) (sm ?_);refine cE.mk' (.d (B (eI u))) (fun _=>IM _ u hu) (sm ?_);refine cE.mk' (.d (B (pC u))) (fun hg=>Ls _ u hu aP (by have h:=(iW.1 (show mj u=true by simp_all)).chk 1 aa;exact h)) ?_;simp[go_sem];refine cE.mk' (.d (B (xP u))) (fun _=>Lq _ u hu) (sm ?_);refine af ?_;simp[go_sem,ck]
theorem XF(a b d c f):Same (.agg [.d (I a),.d (I b),.d (B c),.d (I d),.clo (.func f) [] []]) (.d (.v (.agg #[.int .i64 a,.int .i64 b,.bool c,.int .i64 d,.func (.func f) #[] #[]]))):=fun w j v h=>by
 cases h with
 |agg vs hs h=>
  have e:vs= #[.int .i64 a,.int .i64 b,.bool c,.int .i64 d,.func (.func f) #[] #[]]:=by
   have h0:=iu (h 0 an);have h1:=iu (h 1 an);have h2:=iu (h 2 an);have h3:=iu (h 3 an);have h4:=Q3 (h 4 an);apply Array.ext
   ·grind
   ·intro i hi1 hi2;have hi:i<5:=ai;rcases i with _|_|_|_|_|i
    ·simp_all
    ·simp_all
    ·simp_all
    ·simp_all
    ·simp_all
    ·omega
  rw[e];exact .d (.v _)
def cx(x:Int):Int×Int×Bool×Int×Nat:=
 if x=40 then(6,0,false,3,206)
 else if x=41 then(2,0,false,-1,207)
 else if x=42 then(5,1,false,-1,208)
 else if x=43 then(5,0,false,-1,209)
 else if x=44 then(6,0,false,3,210)
 else if x=45 then(6,0,false,-1,211)
 else if x=46 then(1,0,false,-1,212)
 else if x=47 then(4,0,true,-1,213)
 else if x=48 then(4,0,false,-1,214)
 else if x=49 then(4,0,false,-1,215)
 else if x=50 then(1,0,false,-1,216)
 else if x=51 then(4,0,false,-1,217)
 else if x=52 then(3,0,false,-1,218)
 else if x=53 then(3,0,false,-1,219)
 else if x=54 then(1,0,false,-1,220)
 else if x=55 then(2,0,false,-1,221)
 else if x=56 then(4,0,false,-1,222)
 else if x=57 then(3,0,true,-1,223)
 else if x=58 then(1,0,false,-1,224)
 else if x=59 then(1,0,true,-1,225)
 else(0,0,false,0,0)
def Sj:List Key:=[.i 40,.i 41,.i 42,.i 43,.i 44,.i 45,.i 46,.i 47,.i 48,.i 49,.i 50,.i 51,.i 52,.i 53,.i 54,.i 55,.i 56,.i 57,.i 58,.i 59]
def kdF:Key->AV
 | .i x=> .agg [.d (I (cx x).1),.d (I (cx x).2.1),.d (B (cx x).2.2.1),.d (I (cx x).2.2.2.1),.d (Fn0 (cx x).2.2.2.2)]
 | .s _=> .undef
theorem ab9(x):kdF (.i x)= .agg [.d (I (cx x).1),.d (I (cx x).2.1),.d (B (cx x).2.2.1),.d (I (cx x).2.2.2.1),.d (Fn0 (cx x).2.2.2.2)]:=rfl
def kdD:Key->D
 | .i x=> .v (.agg #[.int .i64 (cx x).1,.int .i64 (cx x).2.1,.bool (cx x).2.2.1,.int .i64 (cx x).2.2.2.1,.func (.func (cx x).2.2.2.2) #[] #[]])
 | .s _=>I 0
theorem aca(x):kdD (.i x)= .v (.agg #[.int .i64 (cx x).1,.int .i64 (cx x).2.1,.bool (cx x).2.2.1,.int .i64 (cx x).2.2.2.1,.func (.func (cx x).2.2.2.2) #[] #[]]):=rfl
def kd0:AV:= .agg [.d (I 0),.d (I 0),.d (B false),.d (I 0),.d (.v .nilFunc)]
attribute [go_sem] kd0
theorem xS{x} :Key.i x∈Sj↔40<=x/\x<=59:=by
 unfold Sj;simp only[List.mem_cons,Key.i.injEq,List.not_mem_nil,or_false];omega
theorem Uj{x}(h:Key.i x∈Sj):(cx x).2.2.2.1= -1\/((cx x).2.2.2.1=3/\(cx x).1=6):=by
 rw[xS] at h;have:x=40\/x=41\/x=42\/x=43\/x=44\/x=45\/x=46\/x=47\/x=48\/x=49\/x=50\/x=51\/x=52\/x=53\/x=54\/x=55\/x=56\/x=57\/x=58\/x=59:=aa;rcases this with rfl|rfl|rfl|rfl|rfl|rfl|rfl|rfl|rfl|rfl|rfl|rfl|rfl|rfl|rfl|rfl|rfl|rfl|rfl|rfl<;>simp[cx]
def okS(e:Ev):Bool:=decide (Key.i e.Kind∈Sj)&&decide ((e.nt:Int)=(cx e.Kind).2.1)&&decide ((cx e.Kind).1<=(e.nn:Int))&&(decide ((e.nn:Int)<=(cx e.Kind).1)||(cx e.Kind).2.2.1)
def okB(e:Ev):Bool:=okS e&&(decide ((cx e.Kind).2.2.2.1<0)||gD (e.gn (cx e.Kind).2.2.2.1.toNat) 0 1)
def kdR(e:Ev):AV:=if okS e=true then kdF (.i e.Kind) else kd0
@[go_sem] theorem ael(e n):(kdR e).under n:=by
 unfold kdR;split
 ·exact⟨trivial,trivial,trivial,trivial,trivial,trivial⟩
 ·exact⟨trivial,trivial,trivial,trivial,trivial,trivial⟩
theorem ado{e}(h:okS e=true):Key.i e.Kind∈Sj:=by
 grind [okS]
def Use.own(u:Use)(b:Nat):List AV:=[.d (SL none 5 ej.enc u.P.ns u.P.gs),.ms b 6 0 u.P.nc,.ms (b+1) 6 0 u.P.np,.d (I u.P.dE),.ms (b+2) 6 0 u.P.na,.d (SL none 6 fu.enc u.P.nm u.P.gm),
 .ms (b+3) 5 0 u.nb,.ms (b+4) 4 0 u.nf,.d (SL none 6 hY.enc u.nv u.gv),.d (SL none 7 cT.enc u.nr u.gr),.d (I u.gq),.d (SL none 4 ju.enc u.nk u.gk),.ms (b+5) 8 0 u.nt,.d (SL none 2 kE.enc u.nl u.gl),.ms (b+6) 3 0 u.nw,.d (I u.Changed)]
def Use.blks(u:Use):List aZ:=[.arr 6 u.P.nc (fun i=>Rule.enc (u.P.gc i)),.arr 6 u.P.np (fun i=>dF.enc (u.P.gp i)),.arr 6 u.P.na (fun i=>fM.enc (u.P.ga i)),.arr 5 u.nb (fun i=>Bx.enc (u.gb i)),.arr 4 u.nf (fun i=>l4.enc (u.gf i)),.arr 8 u.nt (fun i=>ek.enc (u.gt i)),.arr 3 u.nw (fun i=>ke.enc (u.gw i))]
attribute [go_sem] Use.own Use.blks
theorem wx:ak prog 144 [] σ (.fm false Sj kdD):=by
 refine ak.bs true func144 fun hwf=> ?_;refine yA σ.length (ks':=Sj) (f':=fun k=> .d (kdD k)) (by simp[go_sem,iX];exact⟨rfl,rfl,rfl⟩) (.refl _) (fun k hk=>by
  unfold Sj at hk;simp only[List.mem_cons,List.not_mem_nil,or_false] at hk;rcases hk with rfl|rfl|rfl|rfl|rfl|rfl|rfl|rfl|rfl|rfl|rfl|rfl|rfl|rfl|rfl|rfl|rfl|rfl|rfl|rfl<;>exact XF _ _ _ _ _) (fun k=>rfl) (by simp[go_sem,iX];first|rfl|skip) ?_
 refine Y0 σ.length (d:=false) (ks:=Sj) (f:=kdD) ai aN (by simp[go_sem,hwf.fm,hwf.fm0];rfl) ?_;exact af sc
theorem Dv(e)(hn:e.nn<1000000000)(hk:Key.i e.Kind∈Sj):ak prog 66 [.agg (e.enc.map .d)] σ (.cj [kdR e,.d (B (okB e))]):=by
 have hf:=Uj hk;have hw: ∀x:Int,okS e=true->0<=(cx e.Kind).2.2.2.1->(cx e.Kind).2.2.2.1.toNat<e.nn/\(cx e.Kind).2.2.2.1<(e.nn:Int):=fun _ hz h0=>by
  grind [okS]
 refine ak.bd true func66 fun hwf=> ?_;simp[go_sem];apply cU 9 7 8 T.mixed aD
 ·intro τ K hK;simp[go_sem];refine bK.mk (wx _) ?_;simp[go_sem,aca,hk];exact hK _ _
 intro K hK;refine wc hK ?_;refine gc [1,2,4] ?_ ?_<;>intro d0
 ·have hz:okS e=false:=by
   grind [okS]
  have hr:kdR e=kd0:=if_neg ai;refine wA ?_;rw[hr];simp[go_sem,okB,hz]
 ·have hz:okS e=true:=by
   grind [okS]
  have hnn:=hw 0 hz;have hr:kdR e=kdF (.i e.Kind):=if_pos hz;simp[go_sem];apply mM 14 13 T.mixed aD
  ·intro K hK;refine wB ?_;refine bK.mk' (.d (B (gD (e.gn (cx e.Kind).2.2.2.1.toNat) 0 1))) (fun _=>kJ _ _ 0 1) ?_;simp[go_sem];exact hK _ _
  ·simp[go_sem];rfl
  ·intro K hK;refine wB ?_;refine bK.mk' (.d (B (gD (e.gn (cx e.Kind).2.2.2.1.toNat) 0 1))) (fun _=>kJ _ _ 0 1) ?_;simp[go_sem];grind
  intro K hK;refine wQ hK ?_;rw[hr];simp[go_sem,okB,hz,ab9]
theorem Dw(e:Ev)(hn:e.nn<1000000000)(hk:Key.i e.Kind∉Sj):ak prog 66 [.agg (e.enc.map .d)] σ (.cj [kd0,.d (B false)]):=by
 refine ak.bd true func66 fun hwf=> ?_;simp[go_sem];apply cU 9 7 8 T.mixed aD
 ·intro τ K hK;simp[go_sem];refine bK.mk (wx _) ?_;simp[go_sem,aca,hk];exact hK _ _
 intro K hK;refine wg hK ?_;refine cn [1,2,4] rfl ?_ ?_<;>intro c0 d0<;>try simp at d0
 ·refine wA ?_;simp[go_sem]<;>omega
theorem uq(e)(hn:e.nn<1000000000):ak prog 66 [.agg (e.enc.map .d)] σ (.cj [kdR e,.d (B (okB e))]):=by
 by_cases hk:Key.i e.Kind∈Sj
 ·exact Dv σ e hn hk
 ·have hz:okS e=false:=by grind [okS]
  grind [Dw,kdR,okB]
end Go.Proofs.YthpplckmbbachaaGreatDoor
