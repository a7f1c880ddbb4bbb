/- Contracts and lemmas, joined out of smaller texts by a program; no conditions. -/
import Derived.Test.YthlhlnbcjlpigaaGreatDoorKB15
set_option linter.unusedVariables false
set_option linter.unusedSimpArgs false
set_option maxHeartbeats 1000000
set_option maxRecDepth 100000
namespace Go.Proofs.YthlhlnbcjlpigaaGreatDoor
open Go.aU Go.bY Go.Proofs.Tryz
variable (σ : List aC)
structure sH where
 Kind:Int
 Of:Int
 deriving DecidableEq
instance:Inhabited sH:=⟨⟨0,0⟩⟩
def sH.enc(p:sH):List D:=[I p.Kind,I p.Of]
structure fJ where
 Day:Int
 Box:Int
 From:sH
 To:sH
instance:Inhabited fJ:=⟨⟨0,0,default,default⟩⟩
def fJ.enc(m:fJ):List D:=[I m.Day,I m.Box,I m.From.Kind,I m.From.Of,I m.To.Kind,I m.To.Of]
attribute [go_sem] sH.enc fJ.enc
def jS(n:Int):Bool:=jy n 1 1073741824
def kJ(n:Int):Bool:=jy n 0 1048575
def dI(p:sH):Bool:=if p.Kind=0\/p.Kind=2\/p.Kind=4 then p.Of==0 else if p.Kind=1\/p.Kind=3 then jS p.Of else false
structure EP where
 ks:List Key
 pl:Int->sH
 day:Int
def QG(pl:Int->sH):Key->AV
 | .i x=> .agg [.d (I (pl x).Kind),.d (I (pl x).Of)]
 | .s _=> .undef
attribute [go_sem] QG
def D9(pl:Int->sH)(x:Int)(p:sH):Int->sH:=fun y=>if y=x then p else pl y
theorem updK_updK(f:Key->AV)(κ:Key)(a b:AV):kU (kU f κ a) κ b=kU f κ b:=by funext k;unfold kU;split<;>rfl
theorem updK_pl(pl:Int->sH)(x a b:Int):kU (QG pl) (.i x) (.agg [.d (I a),.d (I b)])=QG (D9 pl x ⟨a,b⟩):=by
 funext k
 unfold kU;cases k with
 |i y=>
  by_cases h:y=x
  ·subst h;simp[QG,D9]
  ·simp[QG,D9,h]
 |s b=>simp[QG]
theorem plF_free(pl:Int->sH)(k:Key):(QG pl k).free=true:=by cases k<;>rfl
structure Ht(s:EP):Prop where
 out: ∀x,Key.i x∉s.ks->s.pl x=⟨0,0⟩
 kind: ∀k∈s.ks,k.str=false
def xq:EP:=⟨[],fun _=>⟨0,0⟩,0⟩
def oC(s:EP)(m:fJ):Int:=if(kJ m.Day&&jS m.Box&&dI m.From&&dI m.To)=false then 2 else if m.From=m.To then 1 else if m.Day<s.day then 5 else if s.pl m.Box≠m.From then 10 else 0
def oz(s:EP)(m:fJ):EP:=if oC s m=0 then⟨kQ (.i m.Box) s.ks,D9 s.pl m.Box m.To,m.Day⟩ else s
theorem movS_ok{s:EP}(h:Ht s)(m:fJ):Ht (oz s m):=by
 unfold oz;split
 ·refine⟨fun x hx=> ?_,fun k hk=> ?_⟩
  ·rw[fC] at hx;show D9 s.pl m.Box m.To x=_
   unfold D9;rw[if_neg (fun e=>hx (.inl (by rw[e])))];exact h.out x (fun e=>hx (.inr e))
  ·rcases fC.1 hk with rfl|hk
   ·rfl
   ·exact h.kind k hk
 ·exact h
theorem FX{s:EP}{m:fJ}(h:oC s m≠0):oz s m=s:=by unfold oz;rw[if_neg h]
def dP(g:Nat->fJ)(i:Nat)(s:EP):Nat->Int×EP
 |0=>(0,s)
 |k+1=>if oC s (g i)≠0 then(oC s (g i),s) else dP g (i+1) (oz s (g i)) k
theorem Oq{g:Nat->fJ}{i n:Nat}{s:EP}(h:i<n):dP g i s (n-i)=if oC s (g i)≠0 then(oC s (g i),s) else dP g (i+1) (oz s (g i)) (n-(i+1)):=by
 obtain⟨k,hk⟩: ∃k,n-i=k+1:=⟨n-i-1,by omega⟩;rw[hk,dP,show n-(i+1)=k by omega]
theorem XB{g:Nat->fJ} : ∀{k i:Nat} {s:EP},Ht s->Ht (dP g i s k).2
 |0,_,_,h=>h
 |k+1,i,s,h=>by rw[dP];split;exact h;exact XB (movS_ok h _)
def bD(n:Nat)(g:Nat->fJ):Int×EP:=if 1024<n then(8,xq) else dP g 0 xq n
theorem UW:Ht xq:=⟨fun _ _=>rfl,fun k hk=>nomatch hk⟩
theorem uZ(n:Nat)(g:Nat->fJ):Ht (bD n g).2:=by unfold bD;split;exact UW;exact XB UW
def dL(n:Nat)(g:Nat->fJ):Int:=(bD n g).1
theorem BU{s:EP}{m:fJ}(h:oC s m=0):kJ m.Day=true/\jS m.Box=true/\dI m.From=true/\dI m.To=true/\m.From≠m.To/\s.day<=m.Day/\s.pl m.Box=m.From:=by
 unfold oC at h;split at h
 ·cases h
 ·rename_i h1;split at h
  ·cases h
  ·rename_i h2;split at h
   ·cases h
   ·rename_i h3;split at h
    ·cases h
    ·rename_i h4;simp only[Bool.not_eq_false,Bool.and_eq_true] at h1;exact⟨h1.1.1.1,h1.1.1.2,h1.1.2,h1.2,h2,by omega,Classical.byContradiction fun h5=>h4 h5⟩
theorem RS{g:Nat->fJ} : ∀{k i:Nat} {s:EP},(dP g i s k).1=0->∀q,i<=q->q<i+k->kJ (g q).Day=true
 |0,i,_,_=>by intro q h1 h2;omega
 |k+1,i,s,h=>by
  rw[dP] at h;split at h
  ·rename_i h1;exact absurd h h1
  ·rename_i h1;intro q h2 h3;by_cases hq:q=i
   ·subst hq;exact(BU (Classical.byContradiction fun h9=>h1 h9)).1
   ·exact RS h q (by omega) (by omega)
theorem Y3{n:Nat}{g:Nat->fJ}(h:dL n g=0):n<=1024/\∀i,i<n->(g i).Day<=1048575:=by
 unfold dL bD at h;split at h
 ·cases h
 ·refine⟨by omega,fun i hi=> ?_⟩;have:=RS h i (by omega) (by omega);unfold kJ at this;rw[eH] at this;exact this.2
theorem X8(c:Option Nat)(n:Nat)(g:Nat->fJ)(f:FuncId)(cap:List AV)(p:fJ->Bool)(hn:n<1000000000)(hf: ∀i,i<n->ay prog f (.agg ((g i).enc.map .d)::cap) σ (.d (B (p (g i))))):ay prog 177 [.d (SL c 6 fJ.enc n g),.clo (.func f) [] cap] σ (.d (I (idxFrom p (lst n g) 0))):=by
 refine ay.bs true func177 fun hwf=> ?_;refine gy (α:=Nat) true [0,1,7,8] (fun i=>[(8,.d (I i))]) (fun i=>_) (fun i=>i<=n/\idxFrom p (lst n g) 0=idxFrom p ((lst n g).drop i) i) (fun i=>n-i) 0 ?_;rintro i ⟨hi,hx⟩;simp[go_sem];refine aH [0,1,7,8] ?_ ?_<;>intro c0 d0
 ·rw[fE d0,idxFrom] at hx;simp[go_sem];repeat refine⟨by omega,?_⟩
  refine aW.mk (hf i d0) (sm ?_);refine aH [0,1,5,7,8] ?_ ?_<;>intro c1 d1
  ·simp[go_sem];refine aj ?_;simp[go_sem,hx,c1]<;>omega
  ·simp(disch:=first|omega|simp) [go_sem,aA];refine dB (i+1) ⟨by omega,by rw[hx,c1];simp⟩ (h:=by simp[go_sem]<;>omega)
 ·rw[fF d0,idxFrom] at hx;simp[go_sem];refine go true (sm ?_);refine aj ?_;simp[go_sem,hx]<;>omega
theorem Px(c:Option Nat)(n:Nat)(g:Nat->fJ)(f:FuncId)(cap:List AV)(p:fJ->Bool)(hn:n<1000000000)(hf: ∀i,i<n->ay prog f (.agg ((g i).enc.map .d)::cap) σ (.d (B (p (g i))))):ay prog 120 [.d (SL c 6 fJ.enc n g),.clo (.func f) [] cap] σ (.d (B ((lst n g).any p))):=by
 refine ay.bs true func120 fun hwf=> ?_;refine aW.mk (X8 _ c n g f cap p hn hf) (sm ?_);refine aj ?_;simp[go_sem,lC]<;>omega
theorem gI(n:Int):ay prog 124 [.d (I n)] σ (.d (B (jS n))):=by
 refine ay.bs true func124 fun hwf=> ?_;refine aj ?_;simp[go_sem,jS,jy]<;>omega
theorem oJ(n:Int):ay prog 70 [.d (I n)] σ (.d (B (kJ n))):=by
 refine ay.bs true func70 fun hwf=> ?_;refine aj ?_;simp[go_sem,kJ,jy]<;>omega
theorem lS(p:sH):ay prog 69 [.agg (p.enc.map .d)] σ (.d (B (dI p))):=by
 refine ay.bs true func69 fun hwf=> ?_;refine aH [1,4,5] ?_ ?_<;>intro c0 d0
 ·simp[go_sem];refine aH [1,4] ?_ ?_<;>intro c1 d1
  ·simp[go_sem];refine aj (sm ?_);unfold dI
   (repeat' split)<;>simp_all
  ·simp[go_sem];refine aH [1,4,12] ?_ ?_<;>intro c2 d2
   ·simp[go_sem];refine aH [1] ?_ ?_<;>intro c3 d3
    ·simp[go_sem];refine aW.mk (gI _ _) (sm ?_);refine aj (sm ?_);unfold dI
     (repeat' split)<;>simp_all
    ·simp[go_sem];refine aj (sm ?_);unfold dI
     (repeat' split)<;>simp_all
   ·simp[go_sem];refine aH [1] ?_ ?_<;>intro c4 d4
    ·simp[go_sem];refine aW.mk (gI _ _) (sm ?_);refine aj (sm ?_);unfold dI
     (repeat' split)<;>simp_all
    ·simp[go_sem];refine aj (sm ?_);unfold dI
     (repeat' split)<;>simp_all
 ·simp[go_sem];refine aH [1,4,5] ?_ ?_<;>intro c5 d5
  ·simp[go_sem];refine aH [1,4] ?_ ?_<;>intro c6 d6
   ·simp[go_sem];refine aj (sm ?_);unfold dI
    (repeat' split)<;>simp_all
   ·simp[go_sem];refine aH [1,4,12] ?_ ?_<;>intro c7 d7
    ·simp[go_sem];refine aH [1] ?_ ?_<;>intro c8 d8
     ·simp[go_sem];refine aW.mk (gI _ _) (sm ?_);refine aj (sm ?_);unfold dI
      (repeat' split)<;>simp_all
     ·simp[go_sem];refine aj (sm ?_);unfold dI
      (repeat' split)<;>simp_all
    ·simp[go_sem];refine aH [1] ?_ ?_<;>intro c9 d9
     ·simp[go_sem];refine aW.mk (gI _ _) (sm ?_);refine aj (sm ?_);unfold dI
      (repeat' split)<;>simp_all
     ·simp[go_sem];refine aj (sm ?_);unfold dI
      (repeat' split)<;>simp_all
  ·simp[go_sem];refine aH [1,4] ?_ ?_<;>intro c10 d10
   ·simp[go_sem];refine aj (sm ?_);unfold dI
    (repeat' split)<;>simp_all
   ·simp[go_sem];refine aH [1,4,12] ?_ ?_<;>intro c11 d11
    ·simp[go_sem];refine aH [1] ?_ ?_<;>intro c12 d12
     ·simp[go_sem];refine aW.mk (gI _ _) (sm ?_);refine aj (sm ?_);unfold dI
      (repeat' split)<;>simp_all
     ·simp[go_sem];refine aj (sm ?_);unfold dI
      (repeat' split)<;>simp_all
    ·simp[go_sem];refine aH [1] ?_ ?_<;>intro c13 d13
     ·simp[go_sem];refine aW.mk (gI _ _) (sm ?_);refine aj (sm ?_);unfold dI
      (repeat' split)<;>simp_all
     ·simp[go_sem];refine aj (sm ?_);unfold dI
      (repeat' split)<;>simp_all
theorem DR(τ:List aC)(s:EP)(m:fJ)(hk:Ht s):CS prog 178 [.ptr (σ.length+1) 0,.agg (m.enc.map .d)] (σ++ .mp false s.ks (QG s.pl):: .var [.mp σ.length,.d (I s.day)]::τ) (fun r σ' X'=>X'=[]/\r= .d (I (oC s m))/\σ'=σ++ .mp false (oz s m).ks (QG (oz s m).pl):: .var [.mp σ.length,.d (I (oz s m).day)]::τ):=by
 have e1:cond (decide (Key.i m.Box∈s.ks)) (s.pl m.Box).Kind 0=(s.pl m.Box).Kind:=by
  by_cases h:Key.i m.Box∈s.ks
  ·simp[h]
  ·simp[h,hk.out _ h]
 have e2:cond (decide (Key.i m.Box∈s.ks)) (s.pl m.Box).Of 0=(s.pl m.Box).Of:=by
  by_cases h:Key.i m.Box∈s.ks
  ·simp[h]
  ·simp[h,hk.out _ h]
 refine CS.bdD true [] func178 fun hwf=> ?_;simp[go_sem];refine aW.mk (oJ _ _) ?_;simp[go_sem];refine fA.mk (gI _ _) ?_;simp[go_sem];refine fA.mk' (.d (B (dI m.From))) (fun _=>lS _ m.From) ?_;simp[go_sem];refine fA.mk' (.d (B (dI m.To))) (fun _=>lS _ m.To) ?_;simp[go_sem];refine aH [0,3] ?_ ?_<;>intro c0 d0
 ·have hz:oC s m=2:=by
   unfold oC;rw[if_pos];cases h1:kJ m.Day<;>cases h2:jS m.Box<;>cases h3:dI m.From<;>cases h4:dI m.To<;>simp_all
  have hs:=FX (s:=s) (m:=m) (by rw[hz];decide);simp[go_sem];refine aj ?_;rw[hz,hs];simp[go_sem];exact .refl _
 ·have hf:(kJ m.Day&&jS m.Box&&dI m.From&&dI m.To)=true:=by
   cases h1:kJ m.Day<;>cases h2:jS m.Box<;>cases h3:dI m.From<;>cases h4:dI m.To<;>simp_all
  simp[go_sem];refine aH [0,3] ?_ ?_<;>intro c1 d1
  ·have hz:oC s m=1:=by unfold oC;rw[if_neg (by simp[hf]),if_pos (by rcases h1:m.From with⟨a,b⟩;rcases h2:m.To with⟨a',b'⟩;simp_all)]
   have hs:=FX (s:=s) (m:=m) (by rw[hz];decide);simp[go_sem];refine aj ?_;rw[hz,hs];simp[go_sem];exact .refl _
  ·have hne:m.From≠m.To:=fun h=>by rw[h] at d1;simp at d1
   simp[go_sem];refine T.dr 8 fun K hK=> ?_;simp[go_sem,DJ];refine hK _ ?_;refine go true ?_;simp[go_sem];refine aH [0,3] ?_ ?_<;>intro c2 d2
   ·have hz:oC s m=5:=by unfold oC;rw[if_neg (by simp[hf]),if_neg hne,if_pos (by omega)]
    have hs:=FX (s:=s) (m:=m) (by rw[hz];decide);simp[go_sem];refine aj ?_;rw[hz,hs];simp[go_sem];exact .refl _
   ·simp[go_sem];refine T.dr 11 fun K hK=> ?_;simp[go_sem,e1,e2,DJ];refine hK _ ?_;refine go true ?_;simp[go_sem];refine aH [0,3] ?_ ?_<;>intro c3 d3
    ·have hz:oC s m=10:=by unfold oC;rw[if_neg (by simp[hf]),if_neg hne,if_neg (by omega),if_pos (by intro h;rw[h] at d3;simp at d3)]
     have hs:=FX (s:=s) (m:=m) (by rw[hz];decide);simp[go_sem];refine aj ?_;rw[hz,hs];simp[go_sem];exact .refl _
    ·have hpl:s.pl m.Box=m.From:=by rcases h1:m.From with⟨a,b⟩;rcases h2:s.pl m.Box with⟨a',b'⟩;simp_all
     have hz:oC s m=0:=by unfold oC;rw[if_neg (by simp[hf]),if_neg hne,if_neg (by omega),if_neg (by simp[hpl])]
     have hs:oz s m=⟨kQ (.i m.Box) s.ks,D9 s.pl m.Box m.To,m.Day⟩:=by unfold oz;rw[if_pos hz]
     simp[go_sem];apply Steps.awp_steps 17 [(11,some 64),(12,some 65),(13,none),(16,none)] (fun q=>[(.eX [.undef,.d (.v (.int .i64 q))],σ++ .QH false (kQ (.i m.Box) s.ks) (kU (QG s.pl) (.i m.Box) .undef) (.i m.Box) q:: .var [.mp σ.length,.d (I s.day)]::(τ++[.var (m.enc.map .d)])),(.d (.v (.int .i64 q)),σ++ .QH false (kQ (.i m.Box) s.ks) (kU (QG s.pl) (.i m.Box) .undef) (.i m.Box) q:: .var [.mp σ.length,.d (I s.day)]::(τ++[.var (m.enc.map .d)])),
       (.undef,σ++ .mp false (kQ (.i m.Box) s.ks) (QG (D9 s.pl m.Box m.To)):: .var [.mp σ.length,.d (I s.day)]::(τ++[.var (m.enc.map .d)])),(.undef,σ++ .mp false (kQ (.i m.Box) s.ks) (QG (D9 s.pl m.Box m.To)):: .var [.mp σ.length,.d (I m.Day)]::(τ++[.var (m.enc.map .d)]))]) (fun σ'=> ∃b y,σ'=σ++b:: .var [.mp σ.length,y]::(τ++[.var (m.enc.map .d)])) T.mixed (by kernel_rfl)
     ·rintro σ' K ⟨b,y,rfl⟩ hK;simp[go_sem,DJ];exact hK _ _
     ·intro k d hk hd;rcases k with _|_|_|_|k<;>simp[Steps.ZF] at hd hk<;>omega
     ·intro q k hk;rcases k with _|_|_|_|_|k
      ·exact⟨_,_,rfl⟩
      ·exact⟨_,_,rfl⟩
      ·exact⟨_,_,rfl⟩
      ·exact⟨_,_,rfl⟩
      ·exact⟨_,_,rfl⟩
      ·simp at hk
     ·simp[go_sem,updK_updK,updK_pl]
     intro q;simp[go_sem];refine go true ?_;simp[go_sem];refine aj ?_;rw[hz,hs];simp[go_sem];exact au (by simp[go_sem,aJ])
theorem uz(c:Option Nat)(n:Nat)(g:Nat->fJ)(hn:n<1000000000):CS prog 125 [.d (SL c 6 fJ.enc n g)] σ (fun r σ' X=> ∃υ,r= .eX [.ptr (σ.length+1) 0,.d (I (bD n g).1)]/\σ'=σ++ .mp false (bD n g).2.ks (QG (bD n g).2.pl):: .var [.mp σ.length,.d (I (bD n g).2.day)]::υ/\X=[]):=by
 refine CS.bsW false func125 fun hwf=> ?_;refine go false (sm ?_);refine He σ.length (ks':=xq.ks) (f':=QG xq.pl) (by simp[go_sem];exact⟨rfl,rfl,rfl⟩) (.refl _) (fun k hk=>nomatch hk) (fun k=>plF_free _ k) (by first|(simp[go_sem];rfl)|rfl) ?_;refine go false (sm ?_);refine go true (sm ?_);refine aH [0,4] ?_ ?_<;>intro c0 d0
 ·have hz:bD n g=(8,xq):=by unfold bD;rw[if_pos (by omega)]
  simp[go_sem];refine aj ?_;rw[hz];simp[go_sem,xq]
 ·have hz:bD n g=dP g 0 xq (n-0):=by unfold bD;rw[if_neg (by omega)];rfl
  simp[go_sem];refine gy (α:=Nat×EP) true [4,15,16,17] (fun x=>[(17,.d (I x.1))]) (fun x=>σ++[.mp false x.2.ks (QG x.2.pl),.var [.mp σ.length,.d (I x.2.day)]]) (fun x=>x.1<=n/\bD n g=dP g x.1 x.2 (n-x.1)/\Ht x.2) (fun x=>n-x.1) (0,xq) ?_ (hx:=⟨by simp,by simpa using hz,UW⟩);rintro⟨i,s⟩ ⟨hi,hx,hok⟩;dsimp only at hi hx hok;simp[go_sem];refine aH [4,15,16,17] ?_ ?_<;>intro c1 d1
  ·have hst:=Oq (g:=g) (s:=s) d1;simp[go_sem];repeat refine⟨by omega,?_⟩
   refine aW.gen (DR σ [_] s (g i) hok) ?_;rintro r σ' X ⟨rfl,rfl,rfl⟩;simp[go_sem];refine aH [4,7,15,16,17] ?_ ?_<;>intro c2 d2
   ·have hz2:bD n g=(oC s (g i),s):=by rw[hx,hst,if_pos (by simpa using d2)]
    have hs:=FX (s:=s) (m:=g i) (by simpa using d2);simp[go_sem];refine aj ?_;rw[hz2];simp[go_sem,hs]
   ·simp(disch:=first|omega|simp) [go_sem,aA];refine dB ((i+1,oz s (g i))) ⟨by dsimp only;omega,by dsimp only;rw[hx,hst,if_neg (by simp[d2])],movS_ok hok _⟩ (h:=by simp[go_sem]<;>omega) (hσ:=by simp[go_sem]) (hb:=au (by simp[go_sem]))
  ·have hz2:bD n g=(0,s):=by rw[hx,show n-i=0 by omega,dP]
   simp[go_sem];refine go true (sm ?_);rw[hz2];exact aj sc
theorem oK(c:Option Nat)(n:Nat)(g:Nat->fJ)(hn:n<1000000000):ay prog 68 [.d (SL c 6 fJ.enc n g)] σ (.d (I (dL n g))):=by
 refine ay.bs true func68 fun hwf=> ?_;refine aW.gen (uz σ c n g hn) ?_;rintro r σ' X ⟨υ,rfl,rfl,rfl⟩;simp[go_sem];refine aj ?_;simp[go_sem,dL]<;>omega
theorem KY(m:fJ)(d:Int)(hd:m.Day<=d):ay prog 127 [.agg (m.enc.map .d),.d (I d)] σ (.d (I (-1))):=by
 refine ay.bs true func127 fun hwf=> ?_;refine jT ?_ ?_<;>intro c0 d0
 ·skip
  simp[go_sem];exact aj so
 ·exact absurd hd (by omega)
def gV{α:Type}(g:Nat->α)(n:Nat)(x:α)(q:Nat):α:=if q<n then g q else x
def setG{α:Type}(g:Nat->α)(i:Nat)(x:α)(q:Nat):α:=if q=i then x else g q
theorem PD{α:Type}{enc:α->List D}{g:Nat->α}{n sz:Nat}{x:α}(h:(enc x).length=sz): ∀q,q<n+1->aX n (fun i=>enc (g i)) (rowsOf sz (enc x)) q=enc (gV g n x q):=by
 intro q hq;unfold aX gV;split
 ·rfl
 ·rw[show q-n=0 by omega];simp[rowsOf,←h]
structure eU where
 ID:Int
 Reader:Int
 Unit:Int
 Box:Int
 Day:Int
 State:Int
 Changed:Int
instance:Inhabited eU:=⟨⟨0,0,0,0,0,0,0⟩⟩
def eU.enc(r:eU):List D:=[I r.ID,I r.Reader,I r.Unit,I r.Box,I r.Day,I r.State,I r.Changed]
attribute [go_sem] eU.enc
def wP(r:eU):Bool:=jS r.ID&&jS r.Reader&&jS r.Unit&&jS r.Box&&kJ r.Day&&decide (1<=r.State)&&decide (r.State<=5)&&decide (r.Day<=r.Changed)&&kJ r.Changed&&(r.State !=1||r.Changed==r.Day)
def mQ(r:eU):Bool:=r.State==1||r.State==2
def F7(b:Int)(r:eU):Bool:=r.State==2&&r.Box==b
def Vq(a u:Int)(r:eU):Bool:=mQ r&&r.Reader==a&&r.Unit==u
def waitP(b:Int)(r:eU):Bool:=r.State==1&&r.Box==b
def Sj(n:Nat)(g:Nat->eU)(b:Int):Bool:=(lst n g).any (F7 b)
def dblB(n:Nat)(g:Nat->eU)(a u:Int):Bool:=(lst n g).any (Vq a u)
def mD(g:Nat->eU)(i:Nat):Int:=if wP (g i)=false then 2 else if 0<i/\((g i).ID<=(g (i-1)).ID\/(g i).Day<(g (i-1)).Day) then 5 else if(g i).State=2/\Sj i g (g i).Box=true then 11 else if mQ (g i)=true/\dblB i g (g i).Reader (g i).Unit=true then 6 else 0
def fO(n:Nat)(g:Nat->eU):Int:=if 256<n then 8 else aI (mD g) 0 n
def aag(r:eU):eU:= { r with State:=1,Changed:=r.Day }
def nR(n:Nat)(g:Nat->eU)(r:eU):Int:=if fO n g≠0 then 1 else if(jS r.ID&&jS r.Reader&&jS r.Unit&&jS r.Box&&kJ r.Day)=false then 2 else if 0<n/\(r.ID<=(g (n-1)).ID\/r.Day<(g (n-1)).Day) then 5 else if dblB n g r.Reader r.Unit=true then 6 else if 256<=n then 12 else 0
def zu(n:Nat)(g:Nat->eU)(k:Int):Int:=idxFrom (fun r=>r.ID==k) (lst n g) 0
theorem reqIx_lt(n:Nat)(g:Nat->eU)(k:Int):zu n g k<n:=qB _ n g
def nextI(n:Nat)(g:Nat->eU)(b:Int):Int:=if Sj n g b=true then-1 else idxFrom (waitP b) (lst n g) 0
def sQ(can:Nat->Bool)(n:Nat)(g:Nat->eU)(k d:Int):Int:=if fO n g≠0 then 1 else if zu n g k<0 then 7 else if d<(g (zu n g k).toNat).Changed\/1048575<d then 2 else if can (zu n g k).toNat=false then 11 else 0
def chgG(g:Nat->eU)(i:Nat)(st d:Int):Nat->eU:=setG g i { g i with State:=st,Changed:=d }
def kK(n:Nat)(g:Nat->eU)(i:Nat):Bool:=nextI n g (g i).Box==(i:Int)
theorem tJ(c:Option Nat)(n:Nat)(g:Nat->eU)(f:FuncId)(cap:List AV)(p:eU->Bool)(hn:n<1000000000)(hf: ∀i,i<n->ay prog f (.agg ((g i).enc.map .d)::cap) σ (.d (B (p (g i))))):ay prog 304 [.d (SL c 7 eU.enc n g),.clo (.func f) [] cap] σ (.d (I (idxFrom p (lst n g) 0))):=by
 refine ay.bs true func304 fun hwf=> ?_;refine gy (α:=Nat) true [0,1,7,8] (fun i=>[(8,.d (I i))]) (fun i=>_) (fun i=>i<=n/\idxFrom p (lst n g) 0=idxFrom p ((lst n g).drop i) i) (fun i=>n-i) 0 ?_;rintro i ⟨hi,hx⟩;simp[go_sem];refine aH [0,1,7,8] ?_ ?_<;>intro c0 d0
 ·rw[fE d0,idxFrom] at hx;simp[go_sem];repeat refine⟨by omega,?_⟩
  refine aW.mk (hf i d0) (sm ?_);refine aH [0,1,5,7,8] ?_ ?_<;>intro c1 d1
  ·simp[go_sem];refine aj ?_;simp[go_sem,hx,c1]<;>omega
  ·simp(disch:=first|omega|simp) [go_sem,aA];refine dB (i+1) ⟨by omega,by rw[hx,c1];simp⟩ (h:=by simp[go_sem]<;>omega)
 ·rw[fF d0,idxFrom] at hx;simp[go_sem];refine go true (sm ?_);refine aj ?_;simp[go_sem,hx]<;>omega
theorem Ai(c:Option Nat)(n:Nat)(g:Nat->eU)(f:FuncId)(cap:List AV)(p:eU->Bool)(hn:n<1000000000)(hf: ∀i,i<n->ay prog f (.agg ((g i).enc.map .d)::cap) σ (.d (B (p (g i))))):ay prog 231 [.d (SL c 7 eU.enc n g),.clo (.func f) [] cap] σ (.d (B ((lst n g).any p))):=by
 refine ay.bs true func231 fun hwf=> ?_;refine aW.mk (tJ _ c n g f cap p hn hf) (sm ?_);refine aj ?_;simp[go_sem,lC]<;>omega
theorem cloneReq_cs(c:Option Nat)(n:Nat)(g:Nat->eU)(hn:n<1000000000):ay prog 105 [.d (SL c 7 eU.enc n g)] σ (.d (SL none 7 eU.enc n g)):=by
 refine ay.bd true func105 fun hwf=> ?_;simp[go_sem,-Bool.forall_bool];try intro b1 hb1
 refine jT ?_ ?_<;>intro c0 d0
 ·simp[go_sem];refine aj ?_;have:=hb1 c0;simp[go_sem,this]
 ·simp[go_sem];repeat refine⟨by omega,?_⟩
  refine dM (σ.length) (by simp[go_sem];exact⟨rfl,rfl,rfl⟩) (by simp[go_sem];rfl) (by simp[go_sem,hwf.uN,hwf.yL];rfl) ?_;exact aj so
theorem GU(c:Option Nat)(n:Nat)(g:Nat->eU)(hn:n<1000000000):CS prog 105 [.d (SL c 7 eU.enc n g)] σ (fun r σ' X=>r= .ms σ.length 7 0 n/\σ'=σ++[.arr 7 n fun i=>eU.enc (g i)]/\X=[]):=by
 refine CS.Zh true func105 fun hwf=> ?_;simp[go_sem,-Bool.forall_bool];try intro b1 hb1
 refine jT ?_ ?_<;>intro c0 d0
 ·simp[go_sem];refine dn 2 7 (fun i=>eU.enc (g i)) (by simp[go_sem]) (by simp[go_sem];rfl) ?_;refine aj ?_;obtain rfl:=hb1 c0;simp[go_sem]
 ·simp[go_sem];repeat refine⟨by omega,?_⟩
  exact aj so
theorem gG(n:Int):ay prog 229 [.d (I n)] σ (.d (B (jS n))):=by
 refine ay.bs true func229 fun hwf=> ?_;refine aj ?_;simp[go_sem,jS,jy]<;>omega
theorem oh(n:Int):ay prog 230 [.d (I n)] σ (.d (B (kJ n))):=by
 refine ay.bs true func230 fun hwf=> ?_;refine aj ?_;simp[go_sem,kJ,jy]<;>omega
theorem Fp(r:eU):ay prog 162 [.agg (r.enc.map .d)] σ (.d (B (wP r))):=by
 refine ay.bs true func162 fun hwf=> ?_;refine aW.mk (gG _ _) (sm ?_);refine fA.mk (gG _ _) (sm ?_);refine fA.mk (gG _ _) (sm ?_);refine fA.mk (gG _ _) (sm ?_);refine fA.mk (oh _ _) (sm ?_);refine fA.mk (oh _ _) (sm ?_);refine aj ?_;simp[go_sem,wP]
theorem x9(r:eU):ay prog 164 [.agg (r.enc.map .d)] σ (.d (B (mQ r))):=by
 refine ay.bs true func164 fun hwf=> ?_;refine aj ?_;simp[go_sem,mQ]<;>omega
theorem Fj(τ:List aC)(r:eU)(b:Int):ay prog 232 [.agg (r.enc.map .d),.ptr σ.length 0] (σ++ .var [.d (I b)]::τ) (.d (B (F7 b r))):=by
 refine ay.bs true func232 fun hwf=> ?_;refine aj ?_;simp[go_sem,F7]<;>omega
theorem Fh(τ:List aC)(r:eU)(b:Int):ay prog 379 [.agg (r.enc.map .d),.ptr σ.length 0] (σ++ .var [.d (I b)]::τ) (.d (B (waitP b r))):=by
 refine ay.bs true func379 fun hwf=> ?_;refine aj ?_;simp[go_sem,waitP]<;>omega
theorem Ed(τ:List aC)(r:eU)(k:Int):ay prog 406 [.agg (r.enc.map .d),.ptr σ.length 0] (σ++ .var [.d (I k)]::τ) (.d (B (r.ID==k))):=by
 refine ay.bs true func406 fun hwf=> ?_;exact aj so
theorem zq(τ:List aC)(r:eU)(a u:Int):ay prog 233 [.agg (r.enc.map .d),.ptr σ.length 0,.ptr (σ.length+1) 0] (σ++ .var [.d (I a)]:: .var [.d (I u)]::τ) (.d (B (Vq a u r))):=by
 refine ay.bs true func233 fun hwf=> ?_;refine aW.mk (x9 _ _) (sm ?_);refine aj ?_;simp[go_sem,Vq]<;>omega
theorem yc(c:Option Nat)(n:Nat)(g:Nat->eU)(b:Int)(hn:n<1000000000):ay prog 163 [.d (SL c 7 eU.enc n g),.d (I b)] σ (.d (B (Sj n g b))):=by
 refine ay.bs true func163 fun hwf=> ?_;refine aW.mk (Ai _ c n g _ _ (F7 b) hn (fun i hi=>Fj σ [] (g i) b)) (sm ?_);refine aj ?_;simp[go_sem,Sj]<;>omega
theorem qZ(c:Option Nat)(n:Nat)(g:Nat->eU)(a u:Int)(hn:n<1000000000):ay prog 165 [.d (SL c 7 eU.enc n g),.d (I a),.d (I u)] σ (.d (B (dblB n g a u))):=by
 refine ay.bs true func165 fun hwf=> ?_;refine aW.mk (Ai _ c n g _ _ (Vq a u) hn (fun i hi=>zq σ [] (g i) a u)) (sm ?_);refine aj ?_;simp[go_sem,dblB]<;>omega
theorem Ii(c:Option Nat)(n:Nat)(g:Nat->eU)(k:Int)(hn:n<1000000000):ay prog 380 [.d (SL c 7 eU.enc n g),.d (I k)] σ (.d (I (zu n g k))):=by
 refine ay.bs true func380 fun hwf=> ?_;refine aW.mk (tJ _ c n g _ _ (fun r=>r.ID==k) hn (fun i hi=>Ed σ [] (g i) k)) (sm ?_);refine aj ?_;simp[go_sem,zu]<;>omega
theorem Ku(c:Option Nat)(n:Nat)(g:Nat->eU)(b:Int)(hn:n<1000000000):ay prog 340 [.d (SL c 7 eU.enc n g),.d (I b)] σ (.d (I (nextI n g b))):=by
 refine ay.bs true func340 fun hwf=> ?_;refine aW.mk (yc _ c n g b hn) (sm ?_);refine jT ?_ ?_<;>intro c0 d0
 ·simp[go_sem];refine aj ?_;simp[go_sem,nextI,c0]<;>omega
 ·simp[go_sem];refine aW.mk (tJ _ c n g _ _ (waitP b) hn (fun i hi=>Fh σ [] (g i) b)) (sm ?_);refine aj ?_;simp[go_sem,nextI,c0]<;>omega
theorem ou(c:Option Nat)(n:Nat)(g:Nat->eU)(hn:n<1000000000):ay prog 114 [.d (SL c 7 eU.enc n g)] σ (.d (I (fO n g))):=by
 refine ay.bs true func114 fun hwf=> ?_;refine aH [0] ?_ ?_<;>intro c0 d0
 ·have hz:fO n g=8:=by unfold fO;rw[if_pos (by omega)]
  simp[go_sem];rw[hz];exact aj sc
 ·have hz:fO n g=aI (mD g) 0 (n-0):=by unfold fO;rw[if_neg (by omega)];rfl
  simp[go_sem];refine gy (α:=Nat) true [0,8,9,10] (fun i=>[(10,.d (I i))]) (fun i=>_) (fun i=>i<=n/\fO n g=aI (mD g) i (n-i)) (fun i=>n-i) 0 ?_ (hx:=⟨by simp,by simpa using hz⟩);rintro i ⟨hi,hx⟩;simp[go_sem];refine aH [0,8,9,10] ?_ ?_<;>intro c1 d1
  ·have hst:=l9 (e:=mD g) d1;simp[go_sem];repeat refine⟨by omega,?_⟩
   refine aW.mk (Fp _ _) ?_;simp[go_sem];refine aH [0,3,4,8,9,10] ?_ ?_<;>intro c2 d2
   ·have he:mD g i=2:=by unfold mD;rw[if_pos (by simpa using d2)]
    simp[go_sem];rw[hx,hst,he];exact aj sc
   ·simp[go_sem];refine T.dr 25 fun K hK=> ?_;simp[go_sem,aZ (i:=i) (by omega)];repeat refine⟨by omega,?_⟩
    refine hK _ ?_;refine go true ?_;simp[go_sem];refine aH [0,3,4,8,9,10] ?_ ?_<;>intro c3 d3
    ·have he:mD g i=5:=by unfold mD;rw[if_neg (by simpa using d2),if_pos (by omega)]
     simp[go_sem];rw[hx,hst,he];exact aj sc
    ·simp[go_sem];refine T.dr 12 fun K hK=> ?_;simp[go_sem];repeat refine⟨by omega,?_⟩
     refine dS.mk' (.d (B (Sj i g (g i).Box))) (fun _=>yc _ _ i g (g i).Box (by omega)) ?_;simp[go_sem];refine hK _ ?_;refine go true ?_;simp[go_sem];refine aH [0,3,4,8,9,10] ?_ ?_<;>intro c4 d4
     ·have he:mD g i=11:=by unfold mD;rw[if_neg (by simpa using d2),if_neg (by omega),if_pos (by simpa using d4)]
      simp[go_sem];rw[hx,hst,he];exact aj sc
     ·simp[go_sem];refine T.dr 13 fun K hK=> ?_;simp[go_sem];refine dS.mk (x9 _ _) ?_;simp[go_sem];repeat refine⟨by omega,?_⟩
      refine dS.mk' (.d (B (dblB i g (g i).Reader (g i).Unit))) (fun _=>qZ _ _ i g (g i).Reader (g i).Unit (by omega)) ?_;simp[go_sem];refine hK _ ?_;refine go true ?_;simp[go_sem];refine aH [0,8,9,10] ?_ ?_<;>intro c5 d5
      ·have he:mD g i=6:=by unfold mD;rw[if_neg (by simpa using d2),if_neg (by omega),if_neg (by simpa using d4),if_pos (by simpa using d5)]
       simp[go_sem];rw[hx,hst,he];exact aj sc
      ·have he:mD g i=0:=by unfold mD;rw[if_neg (by simpa using d2),if_neg (by omega),if_neg (by simpa using d4),if_neg (by simpa using d5)]
       simp(disch:=first|omega|simp) [go_sem,aA];refine dB (i+1) ⟨by omega,by rw[hx,hst,if_neg (by simp[he])]⟩ (h:=by simp[go_sem]<;>omega)
  ·have hz:fO n g=0:=by rw[hx,oG (by omega)]
   simp[go_sem];refine go true ?_;simp[go_sem];rw[hz];exact aj sc
theorem Ij(c:Option Nat)(n:Nat)(g:Nat->eU)(r:eU)(hn:n<1000000000):ay prog 279 [.d (SL c 7 eU.enc n g),.agg (r.enc.map .d)] σ (.eX [.d (SL none 7 eU.enc (if nR n g r=0 then n+1 else 0) (gV g n (aag r))),.d (I (nR n g r))]):=by
 have hwp:=aZ (i:=n) (by omega);refine ay.bd true func279 fun hwf=> ?_;simp[go_sem];refine aW.mk (ou _ _ _ _ (by first|assumption|exact aO (by assumption)|omega|simp_all)) ?_;simp[go_sem];refine aH [0,3,6] ?_ ?_<;>intro c0 d0
 ·have hz:nR n g r=1:=by unfold nR;rw[if_pos (by simpa using d0)]
  simp[go_sem];refine aj ?_;rw[hz];simp[go_sem,Go.aU.dD]
 ·simp[go_sem];refine aW.mk (gG _ _) ?_;simp[go_sem];refine fA.mk (gG _ _) ?_;simp[go_sem];refine fA.mk (gG _ _) ?_;simp[go_sem];refine fA.mk (gG _ _) ?_;simp[go_sem];refine fA.mk (oh _ _) ?_;simp[go_sem];refine aH [0,3,6] ?_ ?_<;>intro c1 d1
  ·have hz:nR n g r=2:=by
    unfold nR;rw[if_neg (by simpa using d0),if_pos];cases h1:jS r.ID<;>cases h2:jS r.Reader<;>cases h3:jS r.Unit<;>cases h4:jS r.Box<;>cases h5:kJ r.Day<;>simp_all
   simp[go_sem];refine aj ?_;rw[hz];simp[go_sem,Go.aU.dD]
  ·have hf:(jS r.ID&&jS r.Reader&&jS r.Unit&&jS r.Box&&kJ r.Day)=true:=by
    cases h1:jS r.ID<;>cases h2:jS r.Reader<;>cases h3:jS r.Unit<;>cases h4:jS r.Box<;>cases h5:kJ r.Day<;>simp_all
   simp[go_sem];refine T.dr 25 fun K hK=> ?_;simp[go_sem,hwp];repeat refine⟨by omega,?_⟩
   refine hK _ ?_;refine go true ?_;simp[go_sem];refine aH [0,3,6] ?_ ?_<;>intro c2 d2
   ·have hz:nR n g r=5:=by unfold nR;rw[if_neg (by simpa using d0),if_neg (by simp[hf]),if_pos (by omega)]
    simp[go_sem];refine aj ?_;rw[hz];simp[go_sem,Go.aU.dD]
   ·simp[go_sem];refine aW.mk (qZ _ _ _ _ _ _ (by first|assumption|exact aO (by assumption)|omega|simp_all)) ?_;simp[go_sem];refine aH [0,3,6] ?_ ?_<;>intro c3 d3
    ·have hz:nR n g r=6:=by unfold nR;rw[if_neg (by simpa using d0),if_neg (by simp[hf]),if_neg (by omega),if_pos (by simpa using d3)]
     simp[go_sem];refine aj ?_;rw[hz];simp[go_sem,Go.aU.dD]
    ·simp[go_sem];refine aH [0,3] ?_ ?_<;>intro c4 d4
     ·have hz:nR n g r=12:=by unfold nR;rw[if_neg (by simpa using d0),if_neg (by simp[hf]),if_neg (by omega),if_neg (by simpa using d3),if_pos (by omega)]
      simp[go_sem];refine aj ?_;rw[hz];simp[go_sem,Go.aU.dD]
     ·have hz:nR n g r=0:=by unfold nR;rw[if_neg (by simpa using d0),if_neg (by simp[hf]),if_neg (by omega),if_neg (by simpa using d3),if_neg (by omega)]
      simp[go_sem];apply qH 4 1 85 (.ms (σ.length+1) 7 0 n) (.arr 7 n (fun i=>eU.enc (g i))) T.mixed (by kernel_rfl)
      ·intro τ K hK;simp[go_sem];exact hK _ _
      ·simp[go_sem];exact CS.mono (GU _ c n g hn) (by rintro r σ' X ⟨rfl,rfl,rfl⟩;simp[eU.enc])
      intro K hK;simp[go_sem,hwf.one];repeat refine⟨by omega,?_⟩
      refine hK _ ?_;refine go true ?_;simp[go_sem];refine aF hwf (σ.length+1) ?_;refine aj ?_;rw[hz];simp[go_sem];exact PD (enc:=eU.enc) (x:=aag r) rfl
theorem Fq(c:Option Nat)(n:Nat)(g:Nat->eU)(i:Nat)(hn:n<1000000000)(hi:i<n):ay prog 339 [.d (SL c 7 eU.enc n g),.d (I i)] σ (.d (B (kK n g i))):=by
 refine ay.bs true func339 fun hwf=> ?_;repeat refine⟨by omega,?_⟩
 refine aW.mk (Ku _ _ _ _ _ (by first|assumption|exact aO (by assumption)|omega|simp_all)) (sm ?_);refine aj ?_;simp[go_sem,kK]<;>omega
theorem Q5(st:Int)(f:FuncId)(can:Nat->Bool)(c:Option Nat)(n:Nat)(g:Nat->eU)(k d:Int)(hn:n<1000000000)(hf: ∀(i:Nat) (υ:List aC),i<n->ay prog f [.d (SL c 7 eU.enc n g),.d (I i)] (σ++υ) (.d (B (can i)))):ay prog 341 [.agg [.d (I st),.clo (.func f) [] []],.d (SL c 7 eU.enc n g),.d (I k),.d (I d)] σ (.eX [.d (SL none 7 eU.enc (if sQ can n g k d=0 then n else 0) (chgG g (zu n g k).toNat st d)),.d (I (sQ can n g k d))]):=by
 have hlt:=reqIx_lt n g k;refine ay.bs false func341 fun hwf=> ?_;refine go false (sm ?_);refine aW.mk (ou _ c n g hn) (sm ?_);refine go false (sm ?_);refine aH [1,2,3,4] ?_ ?_<;>intro c0 d0
 ·have hz:sQ can n g k d=1:=by unfold sQ;rw[if_pos (by simpa using d0)]
  simp[go_sem];refine go true (sm ?_);refine aj ?_;rw[hz];simp[go_sem,Go.aU.dD]
 ·simp[go_sem];refine aW.mk (Ii _ c n g k hn) (sm ?_);refine go false (sm ?_);refine go false (sm ?_);refine aH [1,3,4,10] ?_ ?_<;>intro c1 d1
  ·have hz:sQ can n g k d=7:=by unfold sQ;rw[if_neg (by simpa using d0),if_pos (by omega)]
   simp[go_sem];refine go true (sm ?_);refine aj ?_;rw[hz];simp[go_sem,Go.aU.dD]
  ·obtain⟨i,hi⟩: ∃i:Nat,zu n g k=(i:Int):=⟨(zu n g k).toNat,by omega⟩;have hin:i<n:=by omega
   simp[go_sem,hi];repeat refine⟨by omega,?_⟩
   refine go false ?_;simp[go_sem];refine aH [1,3,4,10] ?_ ?_<;>intro c2 d2
   ·have hz:sQ can n g k d=2:=by unfold sQ;rw[if_neg (by simpa using d0),if_neg (by omega),if_pos (by rw[hi];simp only[Int.toNat_natCast];omega)]
    simp[go_sem];refine go true ?_;simp[go_sem];refine aj ?_;rw[hz];simp[go_sem,Go.aU.dD]
   ·simp[go_sem];refine aW.mk (hf i _ hin) ?_;simp[go_sem];refine go false ?_;simp[go_sem];refine aH [1,3,4,10] ?_ ?_<;>intro c3 d3
    ·have hz:sQ can n g k d=11:=by unfold sQ;rw[if_neg (by simpa using d0),if_neg (by omega),if_neg (by rw[hi];simp only[Int.toNat_natCast];omega),if_pos (by rw[hi];simpa using d3)]
     simp[go_sem];refine go true ?_;simp[go_sem];refine aj ?_;rw[hz];simp[go_sem,Go.aU.dD]
    ·have hz:sQ can n g k d=0:=by unfold sQ;rw[if_neg (by simpa using d0),if_neg (by omega),if_neg (by rw[hi];simp only[Int.toNat_natCast];omega),if_neg (by rw[hi];simpa using d3)]
     simp[go_sem];refine aW.gen (GU _ c n g hn) ?_;rintro r σ' X ⟨rfl,rfl,rfl⟩;simp[go_sem];refine go false ?_;simp[go_sem];repeat refine⟨by omega,?_⟩
     refine bC (σ.length+1) (fun q=>eU.enc (chgG g i st d q)) (by simp[go_sem];exact⟨rfl,rfl,rfl⟩) (by intro q hq;unfold chgG setG;by_cases h:q=i<;>simp[h,eU.enc]) (by simp[go_sem];rfl) ?_;refine go false ?_;simp[go_sem];refine go true ?_;simp[go_sem];refine aF hwf (σ.length+1) ?_;rw[hz];exact aj sc
theorem yg(c:Option Nat)(n:Nat)(g:Nat->eU)(k d:Int)(hn:n<1000000000):ay prog 285 [.d (SL c 7 eU.enc n g),.d (I k),.d (I d)] σ (.eX [.d (SL none 7 eU.enc (if sQ (kK n g) n g k d=0 then n else 0) (chgG g (zu n g k).toNat 2 d)),.d (I (sQ (kK n g) n g k d))]):=by
 refine ay.bs true func285 fun hwf=> ?_;refine aW.mk (Q5 σ 2 _ (kK n g) c n g k d hn (fun i υ hi=>Fq _ c n g i hn hi)) (sm ?_);exact aj so
def lU(p:Nat->Int)(lo hi:Nat):Nat:=
 if lo<hi then if p ((lo+hi)/2)<0 then lU p ((lo+hi)/2+1) hi else lU p lo ((lo+hi)/2) else lo
termination_by hi-lo
decreasing_by all_goals omega
theorem bsLoop_le(p:Nat->Int)(lo hi:Nat)(h:lo<=hi):lo<=lU p lo hi/\lU p lo hi<=hi:=by
 fun_induction lU p lo hi with
 |case1 lo hi h1 h2 ih=>have:=ih (by omega);omega
 |case2 lo hi h1 h2 ih=>have:=ih (by omega);omega
 |case3 lo hi h1=>omega
def bsAt(n:Nat)(p:Nat->Int):Nat:=lU p 0 n
def bsIs(n:Nat)(p:Nat->Int):Bool:=decide (bsAt n p<n)&&(p (bsAt n p)==0)
theorem half_eq{lo hi:Nat}(h:lo+hi<4000000000):IntKind.i64.wrap (Z7 IntKind.u64 (IntKind.u64.wrap ((lo:Int)+hi)) 1)=((lo+hi)/2:Nat):=by
 rw[show IntKind.u64.wrap ((lo:Int)+hi)=((lo+hi:Nat):Int) by simp[IntKind.wrap,IntKind.bits,IntKind.signed];omega];rw[show Z7 IntKind.u64 ((lo+hi:Nat):Int) 1=((lo+hi)/2:Nat) by
  unfold Z7;simp[IntKind.bits];rw[Int.fdiv_eq_ediv_of_nonneg _ (by omega)]]
 rw[aA (by omega) (by omega)]
theorem Y9{p:Nat->Int}{lo hi:Nat}(h:lo<hi):lU p lo hi=if p ((lo+hi)/2)<0 then lU p ((lo+hi)/2+1) hi else lU p lo ((lo+hi)/2):=by rw[lU,if_pos h]
theorem Za{p:Nat->Int}{lo hi:Nat}(h: ¬lo<hi):lU p lo hi=lo:=by rw[lU,if_neg h]
theorem bsLoop_all{p:Nat->Int}(h: ∀i,p i<0): ∀{lo hi:Nat},lo<=hi->lU p lo hi=hi:=by
 intro lo hi;fun_induction lU p lo hi with
 |case1 lo hi h1 h2 ih=>intro h3;exact ih (by omega)
 |case2 lo hi h1 h2 ih=>exact absurd (h _) h2
 |case3 lo hi h1=>intro h3;omega
theorem bsAt_all{n:Nat} :bsAt n (fun _=> -1)=n:=bsLoop_all (fun _=>by decide) (Nat.zero_le _)
def nX(n:Nat)(g:Nat->fJ)(b:Int):sH×Int:=if dL n g≠0 then(⟨0,0⟩,1) else if jS b=false then(⟨0,0⟩,2) else((bD n g).2.pl b,0)
def Q7(n:Nat)(g:Nat->fJ)(m:fJ):Int:=if(bD n g).1≠0 then 1 else if n=1024 then 12 else oC (bD n g).2 m
theorem day_max:kJ 1048575=true:=by decide
def sW(s:nU):Bool:=jy s.ID 1 1073741824&&jy s.Qc 1 1073741824&&jy s.Length 1 10000&&jy s.dU 0 7
def qx(g:Nat->nU)(i:Nat):Int:=if sW (g i)=false then 2 else if 0<i/\(g i).ID<=(g (i-1)).ID then 5 else 0
def eF(n:Nat)(g:Nat->nU):Int:=if 32<n then 8 else aI (qx g) 0 n
theorem bsMov_cs(c:Option Nat)(n:Nat)(g:Nat->fJ)(u:Int)(f:FuncId)(cap:List AV)(p:Nat->Int)(hn:n<1000000000)(hf: ∀i,i<n->ay prog f (.agg ((g i).enc.map .d):: .d (I u)::cap) σ (.d (I (p i)))):ay prog 126 [.d (SL c 6 fJ.enc n g),.d (I u),.clo (.func f) [] cap] σ (.eX [.d (I (bsAt n p)),.d (B (bsIs n p))]):=by
 refine ay.bs true func126 fun hwf=> ?_;refine gy (α:=Nat×Nat) true [0,1,2,8,9,10] (fun x=>[(9,.d (I x.1)),(10,.d (I x.2))]) (fun x=>_) (fun x=>x.1<=x.2/\x.2<=n/\bsAt n p=lU p x.1 x.2) (fun x=>x.2-x.1) (0,n) ?_ (hx:=⟨Nat.zero_le _,Nat.le_refl _,rfl⟩);rintro⟨l,h⟩ ⟨hl,hh,hx⟩;dsimp only at hl hh hx;simp[go_sem];refine aH [0,1,2,8,9,10] ?_ ?_<;>intro c0 d0
 ·rw[Y9 d0] at hx;obtain⟨k,hk⟩: ∃k,k=(l+h)/2:=⟨_,rfl⟩;have hhalf:=half_eq (lo:=l) (hi:=h) (by omega);rw[←hk] at hx hhalf;have hkb:l<=k/\k<h:=by omega
  have hwk:=wS k;simp(disch:=first|omega|simp) [go_sem,hhalf,aA];repeat refine⟨by omega,?_⟩
  refine aW.mk (hf k (by omega)) ?_;simp(disch:=first|omega|simp) [go_sem];refine aH [0,1,2,8,9,10,11] ?_ ?_<;>intro c1 d1
  ·simp(disch:=first|omega|simp) [go_sem,hwk];refine dB ((k+1,h)) ⟨by dsimp only;omega,by dsimp only;omega,by rw[hx,if_pos (by simpa using d1)]⟩ (h:=by simp[go_sem]<;>omega)
  ·simp[go_sem];refine dB ((l,k)) ⟨by dsimp only;omega,by dsimp only;omega,by rw[hx,if_neg (by simpa using d1)]⟩ (h:=by simp[go_sem]<;>omega)
 ·rw[Za (by omega)] at hx;simp[go_sem];refine go true (sm ?_);refine fA.mk' (.d (I (p l))) (fun hg=>hf l (by simpa using hg)) (sm ?_);refine aj ?_;simp[go_sem,bsIs,hx]
theorem VG(c:Option Nat)(n:Nat)(g:Nat->fJ)(hn:n<1000000000):CS prog 104 [.d (SL c 6 fJ.enc n g)] σ (fun r σ' X=>r= .ms σ.length 6 0 n/\σ'=σ++[.arr 6 n fun i=>fJ.enc (g i)]/\X=[]):=by
 refine CS.Zh true func104 fun hwf=> ?_;simp[go_sem,-Bool.forall_bool];try intro b1 hb1
 refine jT ?_ ?_<;>intro c0 d0
 ·simp[go_sem];refine dn 2 6 (fun i=>fJ.enc (g i)) (by simp[go_sem]) (by simp[go_sem];rfl) ?_;refine aj ?_;obtain rfl:=hb1 c0;simp[go_sem]
 ·simp[go_sem];repeat refine⟨by omega,?_⟩
  exact aj so
theorem JC(c:Option Nat)(n:Nat)(g:Nat->fJ)(hn:n<1000000000)(hd: ∀i,i<n->(g i).Day<=1048575):CS prog 71 [.d (SL c 6 fJ.enc n g),.d (I 1048575)] σ (fun r σ' X=> ∃υ,r= .ptr (σ.length+1) 0/\σ'=σ++ .mp false (bD n g).2.ks (QG (bD n g).2.pl):: .var [.mp σ.length,.d (I (bD n g).2.day)]::υ/\X=[]):=by
 refine CS.Zh true func71 fun hwf=> ?_;simp[go_sem];refine aW.mk (bsMov_cs _ c n g 1048575 _ [] (fun _=> -1) hn (fun i hi=>KY _ (g i) 1048575 (hd i hi))) ?_;simp[go_sem,bsAt_all];refine aW.gen (uz σ c n g hn) ?_;rintro r σ' X ⟨υ,rfl,rfl,rfl⟩;simp[go_sem];refine aj ?_;simp[go_sem]<;>omega
theorem vY(c:Option Nat)(n:Nat)(g:Nat->fJ)(b:Int)(hn:n<1000000000):ay prog 67 [.d (SL c 6 fJ.enc n g),.d (I b),.d (I 1048575)] σ (.eX [.agg [.d (I (nX n g b).1.Kind),.d (I (nX n g b).1.Of)],.d (I (nX n g b).2)]):=by
 have hk:=uZ n g;have e1:cond (decide (Key.i b∈(bD n g).2.ks)) ((bD n g).2.pl b).Kind 0=((bD n g).2.pl b).Kind:=by
  by_cases h:Key.i b∈(bD n g).2.ks
  ·simp[h]
  ·simp[h,hk.out _ h]
 have e2:cond (decide (Key.i b∈(bD n g).2.ks)) ((bD n g).2.pl b).Of 0=((bD n g).2.pl b).Of:=by
  by_cases h:Key.i b∈(bD n g).2.ks
  ·simp[h]
  ·simp[h,hk.out _ h]
 refine ay.bd true func67 fun hwf=> ?_;simp[go_sem];refine aW.mk (oK _ c n g hn) ?_;simp[go_sem];refine aH [0,1,2,6] ?_ ?_<;>intro c0 d0
 ·have hz:nX n g b=(⟨0,0⟩,1):=by unfold nX;rw[if_pos (by simpa using d0)]
  simp[go_sem];rw[hz];exact aj sc
 ·simp[go_sem];refine aW.mk (gI _ _) ?_;simp[go_sem];refine fA.mk (oJ _ _) ?_;simp[go_sem,day_max];refine aH [0,1,2,6] ?_ ?_<;>intro c1 d1
  ·have hz:nX n g b=(⟨0,0⟩,2):=by unfold nX;rw[if_neg (by simpa using d0),if_pos (by simpa using d1)]
   simp[go_sem];rw[hz];exact aj sc
  ·have hz:nX n g b=((bD n g).2.pl b,0):=by unfold nX;rw[if_neg (by simpa using d0),if_neg (by simpa using d1)]
   have hdays:=(Y3 (n:=n) (g:=g) (by simpa using d0)).2;simp[go_sem];have h:=nA (JC (σ++[.var [.d (I 0),.d (I 0)]]) c n g hn hdays);refine aW.gen h ?_;rintro r σ' X ⟨υ,rfl,rfl,rfl⟩;simp[go_sem,e1,e2,DJ];rw[hz];exact aj sc
theorem uS(c:Option Nat)(n:Nat)(g:Nat->nU)(hn:n<1000000000):ay prog 113 [.d (SL c 4 nU.enc n g)] σ (.d (I (eF n g))):=by
 refine ay.bs true func113 fun hwf=> ?_;refine aH [0] ?_ ?_<;>intro c0 d0
 ·have hz:eF n g=8:=by unfold eF;rw[if_pos (by omega)]
  simp[go_sem];rw[hz];exact aj sc
 ·have hz:eF n g=aI (qx g) 0 (n-0):=by unfold eF;rw[if_neg (by omega)];rfl
  simp[go_sem];refine gy (α:=Nat) true [0,8,9,10] (fun i=>[(10,.d (I i))]) (fun i=>_) (fun i=>i<=n/\eF n g=aI (qx g) i (n-i)) (fun i=>n-i) 0 ?_ (hx:=⟨by simp,by simpa using hz⟩);rintro i ⟨hi,hx⟩;simp[go_sem];refine aH [0,8,9,10] ?_ ?_<;>intro c1 d1
  ·have hst:=l9 (e:=qx g) d1;simp[go_sem];repeat refine⟨by omega,?_⟩
   refine aW.mk (sZ _ _ _ _) ?_;simp[go_sem];refine fA.mk (sZ _ _ _ _) ?_;simp[go_sem];refine fA.mk (sZ _ _ _ _) ?_;simp[go_sem];refine fA.mk (sZ _ _ _ _) ?_;simp[go_sem];refine aH [0,3,4,8,9,10] ?_ ?_<;>intro c2 d2
   ·have he:qx g i=2:=by
     unfold qx;rw[if_pos];cases h:sW (g i) with
     |false=>rfl
     |true=>simp only[sW,Bool.and_eq_true] at h;simp[h] at c2
    simp[go_sem];rw[hx,hst,he];exact aj sc
   ·have hk:sW (g i)=true:=by simp only[sW];simpa[and_assoc] using d2
    simp[go_sem];refine T.dr 14 fun K hK=> ?_;simp[go_sem,aZ (i:=i) (by omega)];repeat refine⟨by omega,?_⟩
    refine hK _ ?_;refine go true ?_;simp[go_sem];refine aH [0,8,9,10] ?_ ?_<;>intro c3 d3
    ·have he:qx g i=5:=by unfold qx;rw[if_neg (by simp[hk]),if_pos (by omega)]
     simp[go_sem];rw[hx,hst,he];exact aj sc
    ·have he:qx g i=0:=by unfold qx;rw[if_neg (by simp[hk]),if_neg (by omega)]
     simp(disch:=first|omega|simp) [go_sem,aA];refine dB (i+1) ⟨by omega,by rw[hx,hst,if_neg (by simp[he])]⟩ (h:=by simp[go_sem]<;>omega)
  ·have hz:eF n g=0:=by rw[hx,oG (by omega)]
   simp[go_sem];refine go true ?_;simp[go_sem];rw[hz];exact aj sc
theorem tZ(c:Option Nat)(n:Nat)(g:Nat->fJ)(m:fJ)(hn:n<1000000000):ay prog 334 [.d (SL c 6 fJ.enc n g),.agg (m.enc.map .d)] σ (.eX [.d (SL none 6 fJ.enc (if Q7 n g m=0 then n+1 else 0) (gV g n m)),.d (I (Q7 n g m))]):=by
 refine ay.bd true func334 fun hwf=> ?_;simp[go_sem];have h:=nA (uz (σ++[.var (m.enc.map .d)]) c n g hn);refine aW.gen h ?_;rintro r σ' X ⟨υ,rfl,rfl,rfl⟩;simp[go_sem];refine aH [0,3,6] ?_ ?_<;>intro c0 d0
 ·have hz:Q7 n g m=1:=by unfold Q7;rw[if_pos (by simpa using d0)]
  simp[go_sem];refine aj ?_;rw[hz];simp[go_sem,Go.aU.dD]
 ·simp[go_sem];refine aH [0,3,6] ?_ ?_<;>intro c1 d1
  ·have hz:Q7 n g m=12:=by unfold Q7;rw[if_neg (by simpa using d0),if_pos (by omega)]
   simp[go_sem];refine aj ?_;rw[hz];simp[go_sem,Go.aU.dD]
  ·have hz0:Q7 n g m=oC (bD n g).2 m:=by unfold Q7;rw[if_neg (by simpa using d0),if_neg (by omega)]
   simp[go_sem];have h:=nA (DR (σ++[.var (m.enc.map .d)]) υ (bD n g).2 m (uZ n g));refine aW.gen h ?_;rintro r σ' X ⟨rfl,rfl,rfl⟩;simp[go_sem];refine aH [0,3,8] ?_ ?_<;>intro c2 d2
   ·simp[go_sem];refine aj ?_;rw[hz0,if_neg (by simpa using d2)];simp[go_sem,Go.aU.dD]
   ·have hz:Q7 n g m=0:=by rw[hz0];simpa using d2
    simp[go_sem];apply qH 4 1 84 (.ms (σ.length+(υ.length+1+1+1)) 6 0 n) (.arr 6 n (fun i=>fJ.enc (g i))) T.mixed (by kernel_rfl)
    ·intro τ K hK;simp[go_sem];exact hK _ _
    ·simp[go_sem];exact CS.mono (VG _ c n g hn) (by rintro r σ' X ⟨rfl,rfl,rfl⟩;simp[fJ.enc])
    intro K hK;simp[go_sem,hwf.one];repeat refine⟨by omega,?_⟩
    refine hK _ ?_;refine go true ?_;simp[go_sem];refine dM (σ.length+(υ.length+1+1+1)) (by simp[go_sem];exact⟨rfl,rfl,rfl⟩) (by simp[go_sem];rfl) (by simp[go_sem,hwf.uN,hwf.yL];rfl) ?_;refine aj ?_;rw[hz];simp[go_sem];exact PD (enc:=fJ.enc) (x:=m) rfl
end Go.Proofs.YthlhlnbcjlpigaaGreatDoor
