/- Lemmas, no conditions. -/
import Derived.Test.YthpplckmbbachaaGreatDoorKB18
set_option linter.unusedVariables false
set_option linter.unusedSimpArgs false
set_option maxHeartbeats 1000000
set_option maxRecDepth 100000
namespace Go.Proofs.YthpplckmbbachaaGreatDoor
open Go.aI Go.bI Go.Proofs.Tryz
variable (σ : List aZ)
structure yK where
 Kind:Int
 Of:Int
 deriving DecidableEq
instance:Inhabited yK:=⟨⟨0,0⟩⟩
def yK.enc(p:yK):List D:=[I p.Kind,I p.Of]
structure hY where
 Day:Int
 Box:Int
 From:yK
 To:yK
instance:Inhabited hY:=⟨⟨0,0,default,default⟩⟩
def hY.enc(m:hY):List D:=[I m.Day,I m.Box,I m.From.Kind,I m.From.Of,I m.To.Kind,I m.To.Of]
attribute [go_sem] yK.enc hY.enc
def fc(n:Int):Bool:=gD n 1 1073741824
def gW(n:Int):Bool:=gD n 0 1048575
def ey(p:yK):Bool:=if p.Kind=0\/p.Kind=2\/p.Kind=4 then p.Of==0 else if p.Kind=1\/p.Kind=3 then fc p.Of else false
structure Zw where
 ks:List Key
 pl:Int->yK
 day:Int
def JF(pl:Int->yK):Key->AV
 | .i x=> .agg [.d (I (pl x).Kind),.d (I (pl x).Of)]
 | .s _=> .undef
attribute [go_sem] JF
def xd(pl:Int->yK)(x:Int)(p:yK):Int->yK:=fun y=>if y=x then p else pl y
theorem Tk(f κ a b):iC (iC f κ a) κ b=iC f κ b:=by grind [iC]
theorem ZF(pl x a b):iC (JF pl) (.i x) (.agg [.d (I a),.d (I b)])=JF (xd pl x ⟨a,b⟩):=by
 funext k
 unfold iC;cases k<;>grind [JF,xd]
theorem W9(pl k):(JF pl k).free=true:=by cases k<;>rfl
structure yH(s:Zw):Prop where
 out: ∀x,Key.i x∉s.ks->s.pl x=⟨0,0⟩
 kind: ∀k∈s.ks,k.str=false
def vw:Zw:=⟨[],fun _=>⟨0,0⟩,0⟩
def kh(s:Zw)(m:hY):Int:=if(gW m.Day&&fc m.Box&&ey m.From&&ey m.To)=false then 2 else if m.From=m.To then 1 else if m.Day<s.day then 5 else if s.pl m.Box≠m.From then 10 else 0
def kV(s:Zw)(m:hY):Zw:=if kh s m=0 then⟨iX (.i m.Box) s.ks,xd s.pl m.Box m.To,m.Day⟩ else s
theorem RW{s}(h:yH s)(m):yH (kV s m):=by
 unfold kV;split
 ·refine⟨fun x hx=> ?_,fun k hk=> ?_⟩
  ·rw[eV] at hx;show xd s.pl m.Box m.To x=_
   unfold xd;rw[if_neg (fun e=>hx (.inl (by rw[e])))];exact h.out x (fun e=>hx (.inr e))
  ·rcases eV.1 hk with rfl|hk
   ·rfl
   ·exact h.kind k hk
 grind
theorem xJ{s m}(h:kh s m≠0):kV s m=s:=by grind [kV]
def cX(g:Nat->hY)(i:Nat)(s:Zw):Nat->Int×Zw
 |0=>(0,s)
 |k+1=>if kh s (g i)≠0 then(kh s (g i),s) else cX g (i+1) (kV s (g i)) k
theorem EJ{g i n s}(h:i<n):cX g i s (n-i)=if kh s (g i)≠0 then(kh s (g i),s) else cX g (i+1) (kV s (g i)) (n-(i+1)):=by
 obtain⟨k,hk⟩: ∃k,n-i=k+1:=⟨n-i-1,aa⟩;grind [cX]
theorem MQ{g} : ∀{k i s},yH s->yH (cX g i s k).2
 |0,_,_,h=>h
 |k+1,i,s,h=>by rw[cX];split;exact h;exact MQ (RW h _)
def bo(n:Nat)(g:Nat->hY):Int×Zw:=if 1024<n then(8,vw) else cX g 0 vw n
theorem Sf:yH vw:=⟨fun _ _=>rfl,fun k hk=>nomatch hk⟩
theorem El(n g):yH (bo n g).2:=by grind [bo,Sf,MQ]
def bX(n:Nat)(g:Nat->hY):Int:=(bo n g).1
theorem tu{s m}(h:kh s m=0):gW m.Day=true/\fc m.Box=true/\ey m.From=true/\ey m.To=true/\m.From≠m.To/\s.day<=m.Day/\s.pl m.Box=m.From:=by
 grind [kh]
theorem HJ{g} : ∀{k i s},(cX g i s k).1=0->∀q,i<=q->q<i+k->gW (g q).Day=true
 |0,i,_,_=>by grind
 |k+1,i,s,h=>by
  rw[cX] at h;split at h
  ·grind
  ·rename_i h1;intro q h2 h3;by_cases hq:q=i
   ·subst hq;exact(tu (Classical.byContradiction fun h9=>h1 h9)).1
   ·exact HJ h q aa aa
theorem OF{n g}(h:bX n g=0):n<=1024/\∀i,i<n->(g i).Day<=1048575:=by
 unfold bX bo at h;split at h
 ·cases h
 ·refine⟨aa,fun i hi=> ?_⟩;have:=HJ h i aa aa;grind [gW,bO]
theorem ND(c n g f cap p)(hn:n<1000000000)(hf: ∀i,i<n->ak prog f (.agg ((g i).enc.map .d)::cap) σ (.d (B (p (g i))))):ak prog 205 [.d (SL c 6 hY.enc n g),.clo (.func f) [] cap] σ (.d (I (idxFrom p (lst n g) 0))):=by
 refine ak.bt func205 ?_;refine dm (α:=Nat) true [0,1,7,8] (fun i=>[(8,.d (I i))]) (fun i=>_) (fun i=>i<=n/\idxFrom p (lst n g) 0=idxFrom p ((lst n g).drop i) i) (fun i=>n-i) 0 ?_;rintro i ⟨hi,hx⟩;refine gc [0,1,7,8] ?_ ?_<;>intro d0
 ·rw[bU d0,idxFrom] at hx;refine wB ?_;refine az.mk (hf i d0) (sm ?_);refine km [0,1,5,7,8] ?_ ?_<;>intro c1 d1
  ·refine wA ?_;simp[go_sem,hx,c1]<;>omega
  ·refine wC ?_;refine bF (i+1) ⟨aa,ai⟩ (h:=aR)
 ·rw[bV d0,idxFrom] at hx;refine wN ?_;simp[go_sem,hx]<;>omega
theorem FB(c n g f cap p)(hn:n<1000000000)(hf: ∀i,i<n->ak prog f (.agg ((g i).enc.map .d)::cap) σ (.d (B (p (g i))))):ak prog 137 [.d (SL c 6 hY.enc n g),.clo (.func f) [] cap] σ (.d (B ((lst n g).any p))):=by
 refine ak.bt func137 ?_;refine az.mk (ND _ c n g f cap p hn hf) (sm ?_);refine af ?_;simp[go_sem,gE]<;>omega
theorem ef(n):ak prog 178 [.d (I n)] σ (.d (B (fc n))):=by
 refine ak.bt func178 ?_;refine af ?_;simp[go_sem,fc,gD]<;>omega
theorem lj(n):ak prog 122 [.d (I n)] σ (.d (B (gW n))):=by
 refine ak.bt func122 ?_;refine af ?_;simp[go_sem,gW,gD]<;>omega
theorem ja(p):ak prog 121 [.agg (p.enc.map .d)] σ (.d (B (ey p))):=by
 refine ak.bt func121 ?_;refine dH [1,4,5] ?_ ?_<;>intro d0
 ·refine gc [1,4] ?_ ?_<;>intro d1
  ·simp[go_sem];refine af (sm ?_);grind [ey]
  ·refine gc [1,4,12] ?_ ?_<;>intro d2
   ·refine gc [1] ?_ ?_<;>intro d3
    ·simp[go_sem];refine az.mk (ef _ _) (sm ?_);refine af (sm ?_);grind
    ·simp[go_sem];refine af (sm ?_);grind
   ·refine gc [1] ?_ ?_<;>intro d4
    ·simp[go_sem];refine az.mk (ef _ _) (sm ?_);refine af (sm ?_);grind
    ·simp[go_sem];refine af (sm ?_);grind
 ·refine gc [1,4,5] ?_ ?_<;>intro d5
  ·refine gc [1,4] ?_ ?_<;>intro d6
   ·simp[go_sem];refine af (sm ?_);grind [ey]
   ·refine gc [1,4,12] ?_ ?_<;>intro d7
    ·refine gc [1] ?_ ?_<;>intro d8
     ·simp[go_sem];refine az.mk (ef _ _) (sm ?_);refine af (sm ?_);grind
     ·simp[go_sem];refine af (sm ?_);grind
    ·refine gc [1] ?_ ?_<;>intro d9
     ·simp[go_sem];refine az.mk (ef _ _) (sm ?_);refine af (sm ?_);grind
     ·simp[go_sem];refine af (sm ?_);grind
  ·refine gc [1,4] ?_ ?_<;>intro d10
   ·simp[go_sem];refine af (sm ?_);grind [ey]
   ·refine gc [1,4,12] ?_ ?_<;>intro d11
    ·refine gc [1] ?_ ?_<;>intro d12
     ·simp[go_sem];refine az.mk (ef _ _) (sm ?_);refine af (sm ?_);grind [ey]
     ·simp[go_sem];refine af (sm ?_);grind
    ·refine gc [1] ?_ ?_<;>intro d13
     ·simp[go_sem];refine az.mk (ef _ _) (sm ?_);refine af (sm ?_);grind [ey]
     ·simp[go_sem];refine af (sm ?_);grind [ey]
theorem uY(τ s m)(hk:yH s):CS prog 247 [.ptr (σ.length+1) 0,.agg (m.enc.map .d)] (σ++ .mp false s.ks (JF s.pl):: .var [.mp σ.length,.d (I s.day)]::τ) (fun r σ' X'=>X'=[]/\r= .d (I (kh s m))/\σ'=σ++ .mp false (kV s m).ks (JF (kV s m).pl):: .var [.mp σ.length,.d (I (kV s m).day)]::τ):=by
 have e1:cond (decide (Key.i m.Box∈s.ks)) (s.pl m.Box).Kind 0=(s.pl m.Box).Kind:=by
  by_cases h:Key.i m.Box∈s.ks
  ·simp[h]
  ·simp[h,hk.out _ h]
 have e2:cond (decide (Key.i m.Box∈s.ks)) (s.pl m.Box).Of 0=(s.pl m.Box).Of:=by
  by_cases h:Key.i m.Box∈s.ks
  ·simp[h]
  ·simp[h,hk.out _ h]
 refine CS.Gc true [] func247 fun hwf=> ?_;simp[go_sem];refine az.mk (lj _ _) ?_;simp[go_sem];refine cE.mk (ef _ _) ?_;simp[go_sem];refine cE.mk' (.d (B (ey m.From))) (fun _=>ja _ m.From) ?_;simp[go_sem];refine cE.mk' (.d (B (ey m.To))) (fun _=>ja _ m.To) ?_;refine gc [0,3] ?_ ?_<;>intro d0
 ·have hz:kh s m=2:=by
   grind [kh]
  have hs:=xJ (s:=s) (m:=m) ai;refine wA ?_;rw[hz,hs];simp[go_sem];exact .refl _
 ·have hf:(gW m.Day&&fc m.Box&&ey m.From&&ey m.To)=true:=by
   cases h1:gW m.Day<;>cases h2:fc m.Box<;>cases h3:ey m.From<;>cases h4:ey m.To<;>simp_all
  refine gc [0,3] ?_ ?_<;>intro d1
  ·have hz:kh s m=1:=by unfold kh;rw[if_neg ai,if_pos (by rcases h1:m.From with⟨a,b⟩;simp_all)]
   have hs:=xJ (s:=s) (m:=m) ai;refine wA ?_;rw[hz,hs];simp[go_sem];exact .refl _
  ·have hne:m.From≠m.To:=fun h=>by grind
   simp[go_sem];refine T.dr 8 fun K hK=> ?_;simp[go_sem,uT];refine hK _ ?_;refine go true ?_;refine gc [0,3] ?_ ?_<;>intro d2
   ·have hz:kh s m=5:=by grind [kh]
    have hs:=xJ (s:=s) (m:=m) ai;refine wA ?_;rw[hz,hs];simp[go_sem];exact .refl _
   ·simp[go_sem];refine T.dr 11 fun K hK=> ?_;simp[go_sem,e1,e2,uT];refine hK _ ?_;refine go true ?_;refine gc [0,3] ?_ ?_<;>intro d3
    ·have hz:kh s m=10:=by grind [kh]
     have hs:=xJ (s:=s) (m:=m) ai;refine wA ?_;rw[hz,hs];simp[go_sem];exact .refl _
    ·have hpl:s.pl m.Box=m.From:=by rcases h1:m.From with⟨a,b⟩;rcases h2:s.pl m.Box with⟨a',b'⟩;simp_all
     have hz:kh s m=0:=by grind [kh]
     have hs:kV s m=⟨iX (.i m.Box) s.ks,xd s.pl m.Box m.To,m.Day⟩:=by grind [kV]
     simp[go_sem];apply Steps.Vg 17 [(11,some 64),(12,some 65),(13,none),(16,none)] (fun q=>[(.cj [.undef,.d (.v (.int .i64 q))],σ++ .GK false (iX (.i m.Box) s.ks) (iC (JF s.pl) (.i m.Box) .undef) (.i m.Box) q:: .var [.mp σ.length,.d (I s.day)]::(τ++[.var (m.enc.map .d)])),(.d (.v (.int .i64 q)),σ++ .GK false (iX (.i m.Box) s.ks) (iC (JF s.pl) (.i m.Box) .undef) (.i m.Box) q:: .var [.mp σ.length,.d (I s.day)]::(τ++[.var (m.enc.map .d)])),
       (.undef,σ++ .mp false (iX (.i m.Box) s.ks) (JF (xd s.pl m.Box m.To)):: .var [.mp σ.length,.d (I s.day)]::(τ++[.var (m.enc.map .d)])),(.undef,σ++ .mp false (iX (.i m.Box) s.ks) (JF (xd s.pl m.Box m.To)):: .var [.mp σ.length,.d (I m.Day)]::(τ++[.var (m.enc.map .d)]))]) (fun σ'=> ∃b y,σ'=σ++b:: .var [.mp σ.length,y]::(τ++[.var (m.enc.map .d)])) T.mixed aD
     ·rintro σ' K ⟨b,y,rfl⟩ hK;simp[go_sem,uT];exact hK _ _
     ·grind [Steps.Qy]
     ·intro q k hk;rcases k with _|_|_|_|_|k
      ·exact⟨_,_,rfl⟩
      ·exact⟨_,_,rfl⟩
      ·exact⟨_,_,rfl⟩
      ·exact⟨_,_,rfl⟩
      ·exact⟨_,_,rfl⟩
      grind
     ·simp[go_sem,Tk,ZF]
     intro q;refine wO ?_;rw[hz,hs];simp[go_sem];exact ae bf
theorem oZ(c n g)(hn:n<1000000000):CS prog 177 [.d (SL c 6 hY.enc n g)] σ (fun r σ' X=> ∃υ,r= .cj [.ptr (σ.length+1) 0,.d (I (bo n g).1)]/\σ'=σ++ .mp false (bo n g).2.ks (JF (bo n g).2.pl):: .var [.mp σ.length,.d (I (bo n g).2.day)]::υ/\X=[]):=by
 refine CS.bsW false func177 fun hwf=> ?_;refine go false (sm ?_);refine yA σ.length (ks':=vw.ks) (f':=JF vw.pl) bj (.refl _) (fun k hk=>nomatch hk) (fun k=>W9 _ k) Q8 ?_;refine go false (sm ?_);refine go true (gc [0,4] ?_ ?_)<;>intro d0
 ·have hz:bo n g=(8,vw):=by grind [bo]
  refine wA ?_;rw[hz];simp[go_sem,vw]
 ·have hz:bo n g=cX g 0 vw (n-0):=by grind [bo]
  simp[go_sem];refine dm (α:=Nat×Zw) true [4,15,16,17] (fun x=>[(17,.d (I x.1))]) (fun x=>σ++[.mp false x.2.ks (JF x.2.pl),.var [.mp σ.length,.d (I x.2.day)]]) (fun x=>x.1<=n/\bo n g=cX g x.1 x.2 (n-x.1)/\yH x.2) (fun x=>n-x.1) (0,vw) ?_ (hx:=⟨an,ai,Sf⟩);rintro⟨i,s⟩ ⟨hi,hx,hok⟩;dsimp only at hi hx hok;refine gc [4,15,16,17] ?_ ?_<;>intro d1
  ·have hst:=EJ (g:=g) (s:=s) d1;refine wB ?_;refine az.gen (uY σ [_] s (g i) hok) ?_;rintro r σ' X ⟨rfl,rfl,rfl⟩;refine gc [4,7,15,16,17] ?_ ?_<;>intro d2
   ·have hz2:bo n g=(kh s (g i),s):=ai;have hs:=xJ (s:=s) (m:=g i) ai;refine wA ?_;rw[hz2];simp[go_sem,hs]
   ·refine wC ?_;refine bF ((i+1,kV s (g i))) ⟨ai,ai,RW hok _⟩ (h:=aR) (hσ:=aP) (hb:=ae au)
  ·have hz2:bo n g=(0,s):=by simp_all [cX]
   refine wF ?_;exact sy hz2
theorem lk(c n g)(hn:n<1000000000):ak prog 120 [.d (SL c 6 hY.enc n g)] σ (.d (I (bX n g))):=by
 refine ak.bt func120 ?_;refine az.gen (oZ σ c n g hn) ?_;rintro r σ' X ⟨υ,rfl,rfl,rfl⟩;refine wA ?_;simp[go_sem,bX]<;>omega
theorem CE(m:hY)(d)(hd:m.Day<=d):ak prog 180 [.agg (m.enc.map .d),.d (I d)] σ (.d (I (-1))):=by
 refine ak.bt func180 ?_;refine ue ?_ ?_<;>intro d0
 ·skip
  simp[go_sem];exact af so
 ·exact absurd hd aa
def aL{α:Type}(g:Nat->α)(n:Nat)(x:α)(q:Nat):α:=if q<n then g q else x
def cJ{α:Type}(g:Nat->α)(i:Nat)(x:α)(q:Nat):α:=if q=i then x else g q
theorem lW{α}{enc:α->List D}{g n sz x}(h:(enc x).length=sz): ∀q,q<n+1->aO n (fun i=>enc (g i)) (rowsOf sz (enc x)) q=enc (aL g n x q):=by
 intro q hq;unfold aO aL;split
 ·rfl
 ·rw[show q-n=0 by omega];grind [rowsOf]
structure cT where
 ID:Int
 Reader:Int
 Unit:Int
 Box:Int
 Day:Int
 State:Int
 Changed:Int
instance:Inhabited cT:=⟨⟨0,0,0,0,0,0,0⟩⟩
def cT.enc(r:cT):List D:=[I r.ID,I r.Reader,I r.Unit,I r.Box,I r.Day,I r.State,I r.Changed]
attribute [go_sem] cT.enc
def lx(r:cT):Bool:=fc r.ID&&fc r.Reader&&fc r.Unit&&fc r.Box&&gW r.Day&&decide (1<=r.State)&&decide (r.State<=5)&&decide (r.Day<=r.Changed)&&gW r.Changed&&(r.State !=1||r.Changed==r.Day)
def gB(r:cT):Bool:=r.State==1||r.State==2
def py(b:Int)(r:cT):Bool:=r.State==2&&r.Box==b
def x7(a u:Int)(r:cT):Bool:=gB r&&r.Reader==a&&r.Unit==u
def pc(b:Int)(r:cT):Bool:=r.State==1&&r.Box==b
def uX(n:Nat)(g:Nat->cT)(b:Int):Bool:=(lst n g).any (py b)
def Oq(n:Nat)(g:Nat->cT)(a u:Int):Bool:=(lst n g).any (x7 a u)
def iD(g:Nat->cT)(i:Nat):Int:=if lx (g i)=false then 2 else if 0<i/\((g i).ID<=(g (i-1)).ID\/(g i).Day<(g (i-1)).Day) then 5 else if(g i).State=2/\uX i g (g i).Box=true then 11 else if gB (g i)=true/\Oq i g (g i).Reader (g i).Unit=true then 6 else 0
def cr(n:Nat)(g:Nat->cT):Int:=if 256<n then 8 else aA (iD g) 0 n
def gL(r:cT):cT:= { r with State:=1,Changed:=r.Day }
def dB(n:Nat)(g:Nat->cT)(r:cT):Int:=if cr n g≠0 then 1 else if(fc r.ID&&fc r.Reader&&fc r.Unit&&fc r.Box&&gW r.Day)=false then 2 else if 0<n/\(r.ID<=(g (n-1)).ID\/r.Day<(g (n-1)).Day) then 5 else if Oq n g r.Reader r.Unit=true then 6 else if 256<=n then 12 else 0
def cP(n:Nat)(g:Nat->cT)(k:Int):Int:=idxFrom (fun r=>r.ID==k) (lst n g) 0
theorem L6(n g k):cP n g k<n:=iR _ n g
def HF(n:Nat)(g:Nat->cT)(b:Int):Int:=if uX n g b=true then-1 else idxFrom (pc b) (lst n g) 0
def cz(can:Nat->Bool)(n:Nat)(g:Nat->cT)(k d:Int):Int:=if cr n g≠0 then 1 else if cP n g k<0 then 7 else if d<(g (cP n g k).toNat).Changed\/1048575<d then 2 else if can (cP n g k).toNat=false then 11 else 0
def dj(g:Nat->cT)(i:Nat)(st d:Int):Nat->cT:=cJ g i { g i with State:=st,Changed:=d }
def cf(n:Nat)(g:Nat->cT)(i:Nat):Bool:=HF n g (g i).Box==(i:Int)
def dU(g:Nat->cT)(i:Nat):Bool:=(g i).State==2
def dv(g:Nat->cT)(i:Nat):Bool:=(g i).State==1
theorem lO(c n g f cap p)(hn:n<1000000000)(hf: ∀i,i<n->ak prog f (.agg ((g i).enc.map .d)::cap) σ (.d (B (p (g i))))):ak prog 352 [.d (SL c 7 cT.enc n g),.clo (.func f) [] cap] σ (.d (I (idxFrom p (lst n g) 0))):=by
 refine ak.bt func352 ?_;refine dm (α:=Nat) true [0,1,7,8] (fun i=>[(8,.d (I i))]) (fun i=>_) (fun i=>i<=n/\idxFrom p (lst n g) 0=idxFrom p ((lst n g).drop i) i) (fun i=>n-i) 0 ?_;rintro i ⟨hi,hx⟩;refine gc [0,1,7,8] ?_ ?_<;>intro d0
 ·rw[bU d0,idxFrom] at hx;refine wB ?_;refine az.mk (hf i d0) (sm ?_);refine km [0,1,5,7,8] ?_ ?_<;>intro c1 d1
  ·refine wA ?_;simp[go_sem,hx,c1]<;>omega
  ·refine wC ?_;refine bF (i+1) ⟨aa,ai⟩ (h:=aR)
 ·rw[bV d0,idxFrom] at hx;refine wN ?_;simp[go_sem,hx]<;>omega
theorem sR(c n g f cap p)(hn:n<1000000000)(hf: ∀i,i<n->ak prog f (.agg ((g i).enc.map .d)::cap) σ (.d (B (p (g i))))):ak prog 276 [.d (SL c 7 cT.enc n g),.clo (.func f) [] cap] σ (.d (B ((lst n g).any p))):=by
 refine ak.bt func276 ?_;refine az.mk (lO _ c n g f cap p hn hf) (sm ?_);refine af ?_;simp[go_sem,gE]<;>omega
theorem acx(c n g)(hn:n<1000000000):ak prog 115 [.d (SL c 7 cT.enc n g)] σ (.d (SL none 7 cT.enc n g)):=by
 refine ak.bd true func115 fun hwf=> ?_;simp[go_sem,-Bool.forall_bool];try intro b1 hb1
 refine fX ?_ ?_<;>intro c0 d0
 ·refine wA ?_;have:=hb1 c0;simp[go_sem,this]
 ·refine wB ?_;refine bg (σ.length) bj aN eS ?_;exact af so
theorem yj(c n g)(hn:n<1000000000):CS prog 115 [.d (SL c 7 cT.enc n g)] σ (fun r σ' X=>r= .ms σ.length 7 0 n/\σ'=σ++[.arr 7 n fun i=>cT.enc (g i)]/\X=[]):=by
 refine CS.Ik true func115 fun hwf=> ?_;simp[go_sem,-Bool.forall_bool];try intro b1 hb1
 refine fX ?_ ?_<;>intro c0 d0
 ·simp[go_sem];refine bq 2 7 (fun i=>cT.enc (g i)) au aN ?_;refine af ?_;obtain rfl:=hb1 c0;simp[go_sem]
 ·refine wB ?_;exact af so
theorem dY(n):ak prog 274 [.d (I n)] σ (.d (B (fc n))):=by
 refine ak.bt func274 ?_;refine af ?_;simp[go_sem,fc,gD]<;>omega
theorem kP(n):ak prog 275 [.d (I n)] σ (.d (B (gW n))):=by
 refine ak.bt func275 ?_;refine af ?_;simp[go_sem,gW,gD]<;>omega
theorem xk(r):ak prog 190 [.agg (r.enc.map .d)] σ (.d (B (lx r))):=by
 refine ak.bt func190 ?_;refine az.mk (dY _ _) (sm ?_);refine cE.mk (dY _ _) (sm ?_);refine cE.mk (dY _ _) (sm ?_);refine cE.mk (dY _ _) (sm ?_);refine cE.mk (kP _ _) (sm ?_);refine cE.mk (kP _ _) (sm ?_);refine af ?_;simp[go_sem,lx]
theorem qX(r):ak prog 192 [.agg (r.enc.map .d)] σ (.d (B (gB r))):=by
 refine ak.bt func192 ?_;refine af ?_;simp[go_sem,gB]<;>omega
theorem xj(τ r b):ak prog 277 [.agg (r.enc.map .d),.ptr σ.length 0] (σ++ .var [.d (I b)]::τ) (.d (B (py b r))):=by
 refine ak.bt func277 ?_;refine af ?_;simp[go_sem,py]<;>omega
theorem xi(τ r b):ak prog 426 [.agg (r.enc.map .d),.ptr σ.length 0] (σ++ .var [.d (I b)]::τ) (.d (B (pc b r))):=by
 refine ak.bt func426 ?_;refine af ?_;simp[go_sem,pc]<;>omega
theorem vd(τ)(r:cT)(k):ak prog 458 [.agg (r.enc.map .d),.ptr σ.length 0] (σ++ .var [.d (I k)]::τ) (.d (B (r.ID==k))):=by
 refine ak.bt func458 ?_;exact af so
theorem r7(τ r a u):ak prog 278 [.agg (r.enc.map .d),.ptr σ.length 0,.ptr (σ.length+1) 0] (σ++ .var [.d (I a)]:: .var [.d (I u)]::τ) (.d (B (x7 a u r))):=by
 refine ak.bt func278 ?_;refine az.mk (qX _ _) (sm ?_);refine af ?_;simp[go_sem,x7]<;>omega
theorem qY(c n g b)(hn:n<1000000000):ak prog 191 [.d (SL c 7 cT.enc n g),.d (I b)] σ (.d (B (uX n g b))):=by
 refine ak.bt func191 ?_;refine az.mk (sR _ c n g _ _ (py b) hn (fun i hi=>xj σ [] (g i) b)) (sm ?_);refine af ?_;simp[go_sem,uX]<;>omega
theorem mZ(c n g a u)(hn:n<1000000000):ak prog 193 [.d (SL c 7 cT.enc n g),.d (I a),.d (I u)] σ (.d (B (Oq n g a u))):=by
 refine ak.bt func193 ?_;refine az.mk (sR _ c n g _ _ (x7 a u) hn (fun i hi=>r7 σ [] (g i) a u)) (sm ?_);refine af ?_;simp[go_sem,Oq]<;>omega
theorem yX(c n g k)(hn:n<1000000000):ak prog 427 [.d (SL c 7 cT.enc n g),.d (I k)] σ (.d (I (cP n g k))):=by
 refine ak.bt func427 ?_;refine az.mk (lO _ c n g _ _ (fun r=>r.ID==k) hn (fun i hi=>vd σ [] (g i) k)) (sm ?_);refine af ?_;simp[go_sem,cP]<;>omega
theorem BT(c n g b)(hn:n<1000000000):ak prog 383 [.d (SL c 7 cT.enc n g),.d (I b)] σ (.d (I (HF n g b))):=by
 refine ak.bt func383 ?_;refine az.mk (qY _ c n g b hn) (sm ?_);refine fX ?_ ?_<;>intro c0 d0
 ·refine wA ?_;simp[go_sem,HF,c0]<;>omega
 ·simp[go_sem];refine az.mk (lO _ c n g _ _ (pc b) hn (fun i hi=>xi σ [] (g i) b)) (sm ?_);refine af ?_;simp[go_sem,HF,c0]<;>omega
theorem kQ(c n g)(hn:n<1000000000):ak prog 131 [.d (SL c 7 cT.enc n g)] σ (.d (I (cr n g))):=by
 refine ak.bt func131 ?_;refine dH [0] ?_ ?_<;>intro d0
 ·have hz:cr n g=8:=by grind [cr]
  exact sx hz
 ·have hz:cr n g=aA (iD g) 0 (n-0):=by grind [cr]
  simp[go_sem];refine dm (α:=Nat) true [0,8,9,10] (fun i=>[(10,.d (I i))]) (fun i=>_) (fun i=>i<=n/\cr n g=aA (iD g) i (n-i)) (fun i=>n-i) 0 ?_ (hx:=⟨an,ai⟩);rintro i ⟨hi,hx⟩;refine gc [0,8,9,10] ?_ ?_<;>intro d1
  ·have hst:=jm (e:=iD g) d1;refine wB ?_;refine az.mk (xk _ _) ?_;refine gc [0,3,4,8,9,10] ?_ ?_<;>intro d2
   ·have he:iD g i=2:=by grind [iD]
    simp[go_sem];rw[hx,hst,he];exact af sc
   ·simp[go_sem];refine T.dr 25 fun K hK=> ?_;simp[go_sem,aT (i:=i) aa];refine wK hK ?_;refine gc [0,3,4,8,9,10] ?_ ?_<;>intro d3
    ·have he:iD g i=5:=by grind [iD]
     simp[go_sem];rw[hx,hst,he];exact af sc
    ·simp[go_sem];refine T.dr 12 fun K hK=> ?_;refine wB ?_;refine bK.mk' (.d (B (uX i g (g i).Box))) (fun _=>qY _ _ i g (g i).Box aa) ?_;refine wc hK ?_;refine gc [0,3,4,8,9,10] ?_ ?_<;>intro d4
     ·have he:iD g i=11:=by grind [iD]
      simp[go_sem];rw[hx,hst,he];exact af sc
     ·simp[go_sem];refine T.dr 13 fun K hK=> ?_;simp[go_sem];refine bK.mk (qX _ _) ?_;refine wB ?_;refine bK.mk' (.d (B (Oq i g (g i).Reader (g i).Unit))) (fun _=>mZ _ _ i g (g i).Reader (g i).Unit aa) ?_;refine wc hK ?_;refine gc [0,8,9,10] ?_ ?_<;>intro d5
      ·have he:iD g i=6:=by grind [iD]
       simp[go_sem];rw[hx,hst,he];exact af sc
      ·have he:iD g i=0:=by grind [iD]
       refine wC ?_;refine bF (i+1) ⟨aa,ai⟩ (h:=aR)
  ·have hz:cr n g=0:=by grind [lg]
   refine wR ?_;exact sx hz
theorem yY(c n g r)(hn:n<1000000000):ak prog 316 [.d (SL c 7 cT.enc n g),.agg (r.enc.map .d)] σ (.cj [.d (SL none 7 cT.enc (if dB n g r=0 then n+1 else 0) (aL g n (gL r))),.d (I (dB n g r))]):=by
 have hwp:=aT (i:=n) aa;refine ak.bd true func316 fun hwf=> ?_;simp[go_sem];refine az.mk (kQ _ _ _ _ ai) ?_;refine gc [0,3,6] ?_ ?_<;>intro d0
 ·have hz:dB n g r=1:=by grind [dB]
  refine wA ?_;rw[hz];simp[go_sem,Go.aI.aK]
 ·simp[go_sem];refine az.mk (dY _ _) ?_;simp[go_sem];refine cE.mk (dY _ _) ?_;simp[go_sem];refine cE.mk (dY _ _) ?_;simp[go_sem];refine cE.mk (dY _ _) ?_;simp[go_sem];refine cE.mk (kP _ _) ?_;refine gc [0,3,6] ?_ ?_<;>intro d1
  ·have hz:dB n g r=2:=by
    grind [dB]
   refine wA ?_;rw[hz];simp[go_sem,Go.aI.aK]
  ·have hf:(fc r.ID&&fc r.Reader&&fc r.Unit&&fc r.Box&&gW r.Day)=true:=by
    cases h1:fc r.ID<;>cases h2:fc r.Reader<;>cases h3:fc r.Unit<;>cases h4:fc r.Box<;>cases h5:gW r.Day<;>simp_all
   simp[go_sem];refine T.dr 25 fun K hK=> ?_;simp[go_sem,hwp];refine wK hK ?_;refine gc [0,3,6] ?_ ?_<;>intro d2
   ·have hz:dB n g r=5:=by grind [dB]
    refine wA ?_;rw[hz];simp[go_sem,Go.aI.aK]
   ·simp[go_sem];refine az.mk (mZ _ _ _ _ _ _ ai) ?_;refine gc [0,3,6] ?_ ?_<;>intro d3
    ·have hz:dB n g r=6:=by grind [dB]
     refine wA ?_;rw[hz];simp[go_sem,Go.aI.aK]
    ·refine gc [0,3] ?_ ?_<;>intro d4
     ·have hz:dB n g r=12:=by grind [dB]
      refine wA ?_;rw[hz];simp[go_sem,Go.aI.aK]
     ·have hz:dB n g r=0:=by grind [dB]
      simp[go_sem];apply jZ 4 1 85 (.ms (σ.length+1) 7 0 n) (.arr 7 n (fun i=>cT.enc (g i))) T.mixed aD
      ·intro τ K hK;simp[go_sem];exact hK _ _
      ·simp[go_sem];exact CS.mono (yj _ c n g hn) (by grind [cT.enc])
      intro K hK;simp[go_sem,hwf.one];refine wZ hK ?_;refine aF hwf (σ.length+1) ?_;refine af ?_;rw[hz];simp[go_sem];exact lW (enc:=cT.enc) (x:=gL r) rfl
theorem xm(c n g i)(hn:n<1000000000)(hi:i<n):ak prog 382 [.d (SL c 7 cT.enc n g),.d (I i)] σ (.d (B (cf n g i))):=by
 refine ak.bt func382 ?_;repeat refine⟨aa,?_⟩
 refine az.mk (BT _ _ _ _ _ ai) (sm ?_);refine af ?_;simp[go_sem,cf]<;>omega
theorem tQ(c n g i)(hn:n<1000000000)(hi:i<n):ak prog 385 [.d (SL c 7 cT.enc n g),.d (I i)] σ (.d (B (dU g i))):=by
 refine ak.bt func385 ?_;repeat refine⟨aa,?_⟩
 refine af ?_;simp[go_sem,dU]<;>omega
theorem ow(c n g i)(hn:n<1000000000)(hi:i<n):ak prog 386 [.d (SL c 7 cT.enc n g),.d (I i)] σ (.d (B (dv g i))):=by
 refine ak.bt func386 ?_;repeat refine⟨aa,?_⟩
 refine af ?_;simp[go_sem,dv]<;>omega
theorem lE(st f can c n g k d)(hn:n<1000000000)(hf: ∀(i:Nat) (υ:List aZ),i<n->ak prog f [.d (SL c 7 cT.enc n g),.d (I i)] (σ++υ) (.d (B (can i)))):ak prog 384 [.agg [.d (I st),.clo (.func f) [] []],.d (SL c 7 cT.enc n g),.d (I k),.d (I d)] σ (.cj [.d (SL none 7 cT.enc (if cz can n g k d=0 then n else 0) (dj g (cP n g k).toNat st d)),.d (I (cz can n g k d))]):=by
 have hlt:=L6 n g k;refine ak.bs false func384 fun hwf=> ?_;refine go false (sm ?_);refine az.mk (kQ _ c n g hn) (sm ?_);refine go false (gc [1,2,3,4] ?_ ?_)<;>intro d0
 ·have hz:cz can n g k d=1:=by grind [cz]
  refine wN ?_;rw[hz];simp[go_sem,Go.aI.aK]
 ·simp[go_sem];refine az.mk (yX _ c n g k hn) (sm ?_);refine go false (sm ?_);refine go false (gc [1,3,4,10] ?_ ?_)<;>intro d1
  ·have hz:cz can n g k d=7:=by grind [cz]
   refine wN ?_;rw[hz];simp[go_sem,Go.aI.aK]
  ·obtain⟨i,hi⟩: ∃i:Nat,cP n g k=(i:Int):=⟨(cP n g k).toNat,aa⟩;have hin:i<n:=aa;simp[go_sem,hi];repeat refine⟨aa,?_⟩
   refine go false ?_;refine gc [1,3,4,10] ?_ ?_<;>intro d2
   ·have hz:cz can n g k d=2:=by grind [cz]
    refine wO ?_;rw[hz];simp[go_sem,Go.aI.aK]
   ·simp[go_sem];refine az.mk (hf i _ hin) ?_;refine wH ?_;refine gc [1,3,4,10] ?_ ?_<;>intro d3
    ·have hz:cz can n g k d=11:=by grind [cz]
     refine wO ?_;rw[hz];simp[go_sem,Go.aI.aK]
    ·have hz:cz can n g k d=0:=by grind [cz]
     simp[go_sem];refine az.gen (yj _ c n g hn) ?_;rintro r σ' X ⟨rfl,rfl,rfl⟩;refine wX ?_;repeat refine⟨aa,?_⟩
     refine ax (σ.length+1) (fun q=>cT.enc (dj g i st d q)) bj (by intro q hq;unfold dj cJ;all_goals grind [cT.enc]) aN ?_;refine wa ?_;refine aF hwf (σ.length+1) ?_;exact sy hz
theorem qZ(c n g k d)(hn:n<1000000000):ak prog 322 [.d (SL c 7 cT.enc n g),.d (I k),.d (I d)] σ (.cj [.d (SL none 7 cT.enc (if cz (cf n g) n g k d=0 then n else 0) (dj g (cP n g k).toNat 2 d)),.d (I (cz (cf n g) n g k d))]):=by
 refine ak.bt func322 ?_;refine az.mk (lE σ 2 _ (cf n g) c n g k d hn (fun i υ hi=>xm _ c n g i hn hi)) (sm ?_);exact af so
theorem xl(c n g k d)(hn:n<1000000000):ak prog 323 [.d (SL c 7 cT.enc n g),.d (I k),.d (I d)] σ (.cj [.d (SL none 7 cT.enc (if cz (dU g) n g k d=0 then n else 0) (dj g (cP n g k).toNat 3 d)),.d (I (cz (dU g) n g k d))]):=by
 refine ak.bt func323 ?_;refine az.mk (lE σ 3 _ (dU g) c n g k d hn (fun i υ hi=>tQ _ c n g i hn hi)) (sm ?_);exact af so
theorem q6(c n g k d b)(hn:n<1000000000):ak prog 324 [.d (SL c 7 cT.enc n g),.d (I k),.d (I d),.d (B b)] σ (.cj [.d (SL none 7 cT.enc (if cz (dv g) n g k d=0 then n else 0) (dj g (cP n g k).toNat (if b=true then 4 else 5) d)),.d (I (cz (dv g) n g k d))]):=by
 refine ak.bt func324 ?_;refine dH [0,1,2,10] ?_ ?_<;>intro d0
 ·subst d0;simp[go_sem];refine az.mk (lE _ 4 _ (dv g) c n g k d hn (fun i υ hi=>ow _ c n g i hn hi)) (sm ?_);exact af so
 ·subst d0;simp[go_sem];refine az.mk (lE _ 5 _ (dv g) c n g k d hn (fun i υ hi=>ow _ c n g i hn hi)) (sm ?_);exact af so
def fI(p:Nat->Int)(lo hi:Nat):Nat:=
 if lo<hi then if p ((lo+hi)/2)<0 then fI p ((lo+hi)/2+1) hi else fI p lo ((lo+hi)/2) else lo
termination_by hi-lo
decreasing_by all_goals omega
theorem U3(p lo hi)(h:lo<=hi):lo<=fI p lo hi/\fI p lo hi<=hi:=by
 fun_induction fI p lo hi with
 |case1 lo hi h1 h2 ih=>grind
 |case2 lo hi h1 h2 ih=>grind
 |case3 lo hi h1=>omega
theorem QI{p lo hi n}(h:lo<=hi)(hn:hi<=n)(hp: ∀i j,i<=j->j<n->p j<0->p i<0)(hl: ∀i,i<lo->p i<0)(hh: ∀i,hi<=i->i<n->0<=p i):
  (∀i,i<fI p lo hi->p i<0)/\∀i,fI p lo hi<=i->i<n->0<=p i:=by
 fun_induction fI p lo hi with
 |case1 lo hi h1 h2 ih=>exact ih aa hn (fun i hi'=>hp i _ aa aa h2) hh
 |case2 lo hi h1 h2 ih=>exact ih aa aa hl (fun i h3 h4=>by
   grind)
 |case3 lo hi h1=>
  grind
def FU(n:Nat)(p:Nat->Int):Nat:=fI p 0 n
def FT(n:Nat)(p:Nat->Int):Bool:=decide (FU n p<n)&&(p (FU n p)==0)
theorem KG(n p):FU n p<=n:=(U3 p 0 n (Nat.zero_le _)).2
theorem Sw{lo hi:Nat}(h:lo+hi<4000000000):IntKind.i64.wrap (TF IntKind.u64 (IntKind.u64.wrap ((lo:Int)+hi)) 1)=((lo+hi)/2:Nat):=by
 grind [IntKind.wrap,IntKind.bits,TF]
theorem By{p lo hi}(h:lo<hi):fI p lo hi=if p ((lo+hi)/2)<0 then fI p ((lo+hi)/2+1) hi else fI p lo ((lo+hi)/2):=by grind [fI]
theorem Bz{p lo hi}(h: ¬lo<hi):fI p lo hi=lo:=by grind [fI]
theorem QJ{p}(h: ∀i,p i<0): ∀{lo hi},lo<=hi->fI p lo hi=hi:=by
 intro lo hi;fun_induction fI p lo hi with
 |case1 lo hi h1 h2 ih=>grind
 |case2 lo hi h1 h2 ih=>grind
 |case3 lo hi h1=>grind
theorem YQ{n:Nat} :FU n (fun _=> -1)=n:=QJ (fun _=>aH) (Nat.zero_le _)
def kG(n:Nat)(g:Nat->hY)(b:Int):yK×Int:=if bX n g≠0 then(⟨0,0⟩,1) else if fc b=false then(⟨0,0⟩,2) else((bo n g).2.pl b,0)
def gh(n:Nat)(g:Nat->hY)(m:hY):Int:=if(bo n g).1≠0 then 1 else if n=1024 then 12 else kh (bo n g).2 m
theorem aa7:gW 1048575=true:=by decide
def xb(s:l4):Bool:=gD s.ID 1 1073741824&&gD s.F7 1 1073741824&&gD s.Length 1 10000&&gD s.bH 0 7
def oN(g:Nat->l4)(i:Nat):Int:=if xb (g i)=false then 2 else if 0<i/\(g i).ID<=(g (i-1)).ID then 5 else 0
def dp(n:Nat)(g:Nat->l4):Int:=if 32<n then 8 else aA (oN g) 0 n
theorem YP(c n g u f cap p)(hn:n<1000000000)(hf: ∀i,i<n->ak prog f (.agg ((g i).enc.map .d):: .d (I u)::cap) σ (.d (I (p i)))):ak prog 179 [.d (SL c 6 hY.enc n g),.d (I u),.clo (.func f) [] cap] σ (.cj [.d (I (FU n p)),.d (B (FT n p))]):=by
 refine ak.bt func179 ?_;refine dm (α:=Nat×Nat) true [0,1,2,8,9,10] (fun x=>[(9,.d (I x.1)),(10,.d (I x.2))]) (fun x=>_) (fun x=>x.1<=x.2/\x.2<=n/\FU n p=fI p x.1 x.2) (fun x=>x.2-x.1) (0,n) ?_ (hx:=⟨Nat.zero_le _,Nat.le_refl _,rfl⟩);rintro⟨l,h⟩ ⟨hl,hh,hx⟩;dsimp only at hl hh hx;refine gc [0,1,2,8,9,10] ?_ ?_<;>intro d0
 ·rw[By d0] at hx;obtain⟨k,hk⟩: ∃k,k=(l+h)/2:=⟨_,rfl⟩;have NK:=Sw (lo:=l) (hi:=h) aa;rw[←hk] at hx NK;have hkb:l<=k/\k<h:=aa;have hwk:=wS k;simp(disch:=first|omega|simp) [go_sem,NK,aS];repeat refine⟨aa,?_⟩
  refine az.mk (hf k aa) ?_;refine wI ?_;refine dH [0,1,2,8,9,10,11] ?_ ?_<;>intro d1
  ·simp(disch:=first|omega|simp) [go_sem,hwk];refine bF ((k+1,h)) ⟨ai,ai,ai⟩ (h:=aR)
  ·simp[go_sem];refine bF ((l,k)) ⟨ai,ai,ai⟩ (h:=aR)
 ·rw[Bz aa] at hx;refine wF ?_;refine cE.mk' (.d (I (p l))) (fun hg=>hf l ai) (sm ?_);refine af ?_;simp[go_sem,FT,hx]
theorem Ku(c n g)(hn:n<1000000000):CS prog 114 [.d (SL c 6 hY.enc n g)] σ (fun r σ' X=>r= .ms σ.length 6 0 n/\σ'=σ++[.arr 6 n fun i=>hY.enc (g i)]/\X=[]):=by
 refine CS.Ik true func114 fun hwf=> ?_;simp[go_sem,-Bool.forall_bool];try intro b1 hb1
 refine fX ?_ ?_<;>intro c0 d0
 ·simp[go_sem];refine bq 2 6 (fun i=>hY.enc (g i)) au aN ?_;refine af ?_;obtain rfl:=hb1 c0;simp[go_sem]
 ·refine wB ?_;exact af so
theorem AT(c n g)(hn:n<1000000000)(hd: ∀i,i<n->(g i).Day<=1048575):CS prog 123 [.d (SL c 6 hY.enc n g),.d (I 1048575)] σ (fun r σ' X=> ∃υ,r= .ptr (σ.length+1) 0/\σ'=σ++ .mp false (bo n g).2.ks (JF (bo n g).2.pl):: .var [.mp σ.length,.d (I (bo n g).2.day)]::υ/\X=[]):=by
 refine CS.Ik true func123 fun hwf=> ?_;simp[go_sem];refine az.mk (YP _ c n g 1048575 _ [] (fun _=> -1) hn (fun i hi=>CE _ (g i) 1048575 (hd i hi))) ?_;simp[go_sem,YQ];refine az.gen (oZ σ c n g hn) ?_;rintro r σ' X ⟨υ,rfl,rfl,rfl⟩;refine wA ?_;simp[go_sem]<;>omega
theorem pL(c n g b)(hn:n<1000000000):ak prog 127 [.d (SL c 6 hY.enc n g),.d (I b),.d (I 1048575)] σ (.cj [.agg [.d (I (kG n g b).1.Kind),.d (I (kG n g b).1.Of)],.d (I (kG n g b).2)]):=by
 have hk:=El n g;have e1:cond (decide (Key.i b∈(bo n g).2.ks)) ((bo n g).2.pl b).Kind 0=((bo n g).2.pl b).Kind:=by
  by_cases h:Key.i b∈(bo n g).2.ks
  ·simp[h]
  ·simp[h,hk.out _ h]
 have e2:cond (decide (Key.i b∈(bo n g).2.ks)) ((bo n g).2.pl b).Of 0=((bo n g).2.pl b).Of:=by
  by_cases h:Key.i b∈(bo n g).2.ks
  ·simp[h]
  ·simp[h,hk.out _ h]
 refine ak.bd true func127 fun hwf=> ?_;simp[go_sem];refine az.mk (lk _ c n g hn) ?_;refine gc [0,1,2,6] ?_ ?_<;>intro d0
 ·have hz:kG n g b=(⟨0,0⟩,1):=by grind [kG]
  exact sx hz
 ·simp[go_sem];refine az.mk (ef _ _) ?_;simp[go_sem];refine cE.mk (lj _ _) ?_;simp[go_sem,aa7];refine dH [0,1,2,6] ?_ ?_<;>intro d1
  ·have hz:kG n g b=(⟨0,0⟩,2):=by grind [kG]
   exact sx hz
  ·have hz:kG n g b=((bo n g).2.pl b,0):=by grind [kG]
   have XZ:=(OF (n:=n) (g:=g) ai).2;simp[go_sem];have h:=nA (AT (σ++[.var [.d (I 0),.d (I 0)]]) c n g hn XZ);refine az.gen h ?_;rintro r σ' X ⟨υ,rfl,rfl,rfl⟩;simp[go_sem,e1,e2,uT];exact sy hz
theorem pg(c n g)(hn:n<1000000000):ak prog 130 [.d (SL c 4 l4.enc n g)] σ (.d (I (dp n g))):=by
 refine ak.bt func130 ?_;refine dH [0] ?_ ?_<;>intro d0
 ·have hz:dp n g=8:=by grind [dp]
  exact sx hz
 ·have hz:dp n g=aA (oN g) 0 (n-0):=by grind [dp]
  simp[go_sem];refine dm (α:=Nat) true [0,8,9,10] (fun i=>[(10,.d (I i))]) (fun i=>_) (fun i=>i<=n/\dp n g=aA (oN g) i (n-i)) (fun i=>n-i) 0 ?_ (hx:=⟨an,ai⟩);rintro i ⟨hi,hx⟩;refine gc [0,8,9,10] ?_ ?_<;>intro d1
  ·have hst:=jm (e:=oN g) d1;refine wB ?_;refine az.mk (ou _ _ _ _) ?_;simp[go_sem];refine cE.mk (ou _ _ _ _) ?_;simp[go_sem];refine cE.mk (ou _ _ _ _) ?_;simp[go_sem];refine cE.mk (ou _ _ _ _) ?_;refine gc [0,3,4,8,9,10] ?_ ?_<;>intro d2
   ·have he:oN g i=2:=by
     grind [oN,xb]
    simp[go_sem];rw[hx,hst,he];exact af sc
   ·have hk:xb (g i)=true:=by grind [xb]
    simp[go_sem];refine T.dr 14 fun K hK=> ?_;simp[go_sem,aT (i:=i) aa];refine wK hK ?_;refine gc [0,8,9,10] ?_ ?_<;>intro d3
    ·have he:oN g i=5:=by grind [oN]
     simp[go_sem];rw[hx,hst,he];exact af sc
    ·have he:oN g i=0:=by grind [oN]
     refine wC ?_;refine bF (i+1) ⟨aa,ai⟩ (h:=aR)
  ·have hz:dp n g=0:=by grind [lg]
   refine wR ?_;exact sx hz
theorem oH(c n g m)(hn:n<1000000000):ak prog 377 [.d (SL c 6 hY.enc n g),.agg (m.enc.map .d)] σ (.cj [.d (SL none 6 hY.enc (if gh n g m=0 then n+1 else 0) (aL g n m)),.d (I (gh n g m))]):=by
 refine ak.bd true func377 fun hwf=> ?_;simp[go_sem];have h:=nA (oZ (σ++[.var (m.enc.map .d)]) c n g hn);refine az.gen h ?_;rintro r σ' X ⟨υ,rfl,rfl,rfl⟩;refine gc [0,3,6] ?_ ?_<;>intro d0
 ·have hz:gh n g m=1:=by grind [gh]
  refine wA ?_;rw[hz];simp[go_sem,Go.aI.aK]
 ·refine gc [0,3,6] ?_ ?_<;>intro d1
  ·have hz:gh n g m=12:=by grind [gh]
   refine wA ?_;rw[hz];simp[go_sem,Go.aI.aK]
  ·have hz0:gh n g m=kh (bo n g).2 m:=by grind [gh]
   simp[go_sem];have h:=nA (uY (σ++[.var (m.enc.map .d)]) υ (bo n g).2 m (El n g));refine az.gen h ?_;rintro r σ' X ⟨rfl,rfl,rfl⟩;refine gc [0,3,8] ?_ ?_<;>intro d2
   ·refine wA ?_;rw[hz0,if_neg ai];simp[go_sem,Go.aI.aK]
   ·have hz:gh n g m=0:=ai;simp[go_sem];apply jZ 4 1 84 (.ms (σ.length+(υ.length+1+1+1)) 6 0 n) (.arr 6 n (fun i=>hY.enc (g i))) T.mixed aD
    ·intro τ K hK;simp[go_sem];exact hK _ _
    ·simp[go_sem];exact CS.mono (Ku _ c n g hn) (by simp_all [hY.enc])
    intro K hK;simp[go_sem,hwf.one];refine wZ hK ?_;refine bg (σ.length+(υ.length+1+1+1)) bj aN eS ?_;refine af ?_;rw[hz];simp[go_sem];exact lW (enc:=hY.enc) (x:=m) rfl
end Go.Proofs.YthpplckmbbachaaGreatDoor
