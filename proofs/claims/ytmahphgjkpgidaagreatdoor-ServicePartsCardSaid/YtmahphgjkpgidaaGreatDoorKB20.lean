/- Contracts and lemmas, joined out of smaller texts by a program; no conditions. -/
import Derived.Test.YtmahphgjkpgidaaGreatDoorKB18
import Derived.Test.YtmahphgjkpgidaaGreatDoorKB19
set_option linter.unusedVariables false
set_option linter.unusedSimpArgs false
set_option maxHeartbeats 1000000
set_option maxRecDepth 100000
namespace Go.Proofs.YtmahphgjkpgidaaGreatDoor
open Go.aU Go.dh Go.Proofs.Tryz
variable (σ : List aG)
structure rU where
 Kind:Int
 Of:Int
 deriving DecidableEq
instance:Inhabited rU:=⟨⟨0,0⟩⟩
def rU.enc(p:rU):List D:=[I p.Kind,I p.Of]
structure iE where
 Day:Int
 Box:Int
 From:rU
 To:rU
instance:Inhabited iE:=⟨⟨0,0,default,default⟩⟩
def iE.enc(m:iE):List D:=[I m.Day,I m.Box,I m.From.Kind,I m.From.Of,I m.To.Kind,I m.To.Of]
attribute [go_sem] rU.enc iE.enc
def mD(n:Int):Bool:=qc n 1 1073741824
def uX(n:Int):Bool:=qc n 0 1048575
def gV(p:rU):Bool:=if p.Kind=0\/p.Kind=2\/p.Kind=4 then p.Of==0 else if p.Kind=1\/p.Kind=3 then mD p.Of else false
structure N7 where
 ks:List Key
 pl:Int->rU
 day:Int
def TQ(pl:Int->rU):Key->AV
 | .i x=> .agg [.d (I (pl x).Kind),.d (I (pl x).Of)]
 | .s _=> .undef
attribute [go_sem] TQ
def FN(pl:Int->rU)(x:Int)(p:rU):Int->rU:=fun y=>if y=x then p else pl y
theorem updK_updK(f:Key->AV)(κ:Key)(a b:AV):lX (lX f κ a) κ b=lX f κ b:=by funext k;unfold lX;split<;>rfl
theorem updK_pl(pl:Int->rU)(x a b:Int):lX (TQ pl) (.i x) (.agg [.d (I a),.d (I b)])=TQ (FN pl x ⟨a,b⟩):=by
 funext k
 unfold lX;cases k with
 |i y=>
  by_cases h:y=x
  ·subst h;simp[TQ,FN]
  ·simp[TQ,FN,h]
 |s b=>simp[TQ]
theorem plF_free(pl:Int->rU)(k:Key):(TQ pl k).free=true:=by cases k<;>rfl
structure J8(s:N7):Prop where
 out: ∀x,Key.i x∉s.ks->s.pl x=⟨0,0⟩
 kind: ∀k∈s.ks,k.str=false
def zf:N7:=⟨[],fun _=>⟨0,0⟩,0⟩
def su(s:N7)(m:iE):Int:=if(uX m.Day&&mD m.Box&&gV m.From&&gV m.To)=false then 2 else if m.From=m.To then 1 else if m.Day<s.day then 5 else if s.pl m.Box≠m.From then 10 else 0
def qG(s:N7)(m:iE):N7:=if su s m=0 then⟨kU (.i m.Box) s.ks,FN s.pl m.Box m.To,m.Day⟩ else s
theorem movS_ok{s:N7}(h:J8 s)(m:iE):J8 (qG s m):=by
 unfold qG;split
 ·refine⟨fun x hx=> ?_,fun k hk=> ?_⟩
  ·rw[gW] at hx;show FN s.pl m.Box m.To x=_
   unfold FN;rw[if_neg (fun e=>hx (.inl (by rw[e])))];exact h.out x (fun e=>hx (.inr e))
  ·rcases gW.1 hk with rfl|hk
   ·rfl
   ·exact h.kind k hk
 ·exact h
theorem Iw{s:N7}{m:iE}(h:su s m≠0):qG s m=s:=by unfold qG;rw[if_neg h]
def eG(g:Nat->iE)(i:Nat)(s:N7):Nat->Int×N7
 |0=>(0,s)
 |k+1=>if su s (g i)≠0 then(su s (g i),s) else eG g (i+1) (qG s (g i)) k
theorem movGo_step{g:Nat->iE}{i n:Nat}{s:N7}(h:i<n):eG g i s (n-i)=if su s (g i)≠0 then(su s (g i),s) else eG g (i+1) (qG s (g i)) (n-(i+1)):=by
 obtain⟨k,hk⟩: ∃k,n-i=k+1:=⟨n-i-1,by omega⟩;rw[hk,eG,show n-(i+1)=k by omega]
theorem Zu{g:Nat->iE} : ∀{k i:Nat} {s:N7},J8 s->J8 (eG g i s k).2
 |0,_,_,h=>h
 |k+1,i,s,h=>by rw[eG];split;exact h;exact Zu (movS_ok h _)
def bF(n:Nat)(g:Nat->iE):Int×N7:=if 1024<n then(8,zf) else eG g 0 zf n
theorem Xe:J8 zf:=⟨fun _ _=>rfl,fun k hk=>nomatch hk⟩
theorem BQ(n:Nat)(g:Nat->iE):J8 (bF n g).2:=by unfold bF;split;exact Xe;exact Zu Xe
def jm(n:Nat)(g:Nat->iE):Int:=(bF n g).1
theorem Ed{s:N7}{m:iE}(h:su s m=0):uX m.Day=true/\mD m.Box=true/\gV m.From=true/\gV m.To=true/\m.From≠m.To/\s.day<=m.Day/\s.pl m.Box=m.From:=by
 unfold su at h;split at h
 ·cases h
 ·rename_i h1;split at h
  ·cases h
  ·rename_i h2;split at h
   ·cases h
   ·rename_i h3;split at h
    ·cases h
    ·rename_i h4;simp only[Bool.not_eq_false,Bool.and_eq_true] at h1;exact⟨h1.1.1.1,h1.1.1.2,h1.1.2,h1.2,h2,by omega,Classical.byContradiction fun h5=>h4 h5⟩
theorem U3{g:Nat->iE} : ∀{k i:Nat} {s:N7},(eG g i s k).1=0->∀q,i<=q->q<i+k->uX (g q).Day=true
 |0,i,_,_=>by intro q h1 h2;omega
 |k+1,i,s,h=>by
  rw[eG] at h;split at h
  ·rename_i h1;exact absurd h h1
  ·rename_i h1;intro q h2 h3;by_cases hq:q=i
   ·subst hq;exact(Ed (Classical.byContradiction fun h9=>h1 h9)).1
   ·exact U3 h q (by omega) (by omega)
theorem chk_days{n:Nat}{g:Nat->iE}(h:jm n g=0):n<=1024/\∀i,i<n->(g i).Day<=1048575:=by
 unfold jm bF at h;split at h
 ·cases h
 ·refine⟨by omega,fun i hi=> ?_⟩;have:=U3 h i (by omega) (by omega);unfold uX at this;rw[fJ] at this;exact this.2
theorem ZR(c:Option Nat)(n:Nat)(g:Nat->iE)(f:FuncId)(cap:List AV)(p:iE->Bool)(hn:n<1000000000)(hf: ∀i,i<n->aA prog f (.agg ((g i).enc.map .d)::cap) σ (.d (B (p (g i))))):aA prog 151 [.d (SL c 6 iE.enc n g),.clo (.func f) [] cap] σ (.d (I (idxFrom p (lst n g) 0))):=by
 refine aA.bs true func151 fun hwf=> ?_;refine kQ (α:=Nat) true [0,1,7,8] (fun i=>[(8,.d (I i))]) (fun i=>_) (fun i=>i<=n/\idxFrom p (lst n g) 0=idxFrom p ((lst n g).drop i) i) (fun i=>n-i) 0 ?_;rintro i ⟨hi,hx⟩;simp[go_sem];refine aJ [0,1,7,8] ?_ ?_<;>intro c0 d0
 ·rw[gX d0,idxFrom] at hx;simp[go_sem];repeat refine⟨by omega,?_⟩
  refine aO.mk (hf i d0) (sm ?_);refine aJ [0,1,5,7,8] ?_ ?_<;>intro c1 d1
  ·simp[go_sem];refine aj ?_;simp[go_sem,hx,c1]<;>omega
  ·simp(disch:=first|omega|simp) [go_sem,aH];refine gB (i+1) ⟨by omega,by rw[hx,c1];simp⟩ (h:=by simp[go_sem]<;>omega)
 ·rw[gY d0,idxFrom] at hx;simp[go_sem];refine go true (sm ?_);refine aj ?_;simp[go_sem,hx]<;>omega
theorem SE(c:Option Nat)(n:Nat)(g:Nat->iE)(f:FuncId)(cap:List AV)(p:iE->Bool)(hn:n<1000000000)(hf: ∀i,i<n->aA prog f (.agg ((g i).enc.map .d)::cap) σ (.d (B (p (g i))))):aA prog 110 [.d (SL c 6 iE.enc n g),.clo (.func f) [] cap] σ (.d (B ((lst n g).any p))):=by
 refine aA.bs true func110 fun hwf=> ?_;refine aO.mk (ZR _ c n g f cap p hn hf) (sm ?_);refine aj ?_;simp[go_sem,mY]<;>omega
theorem iy(n:Int):aA prog 119 [.d (I n)] σ (.d (B (mD n))):=by
 refine aA.bs true func119 fun hwf=> ?_;refine aj ?_;simp[go_sem,mD,qc]<;>omega
theorem qJ(n:Int):aA prog 92 [.d (I n)] σ (.d (B (uX n))):=by
 refine aA.bs true func92 fun hwf=> ?_;refine aj ?_;simp[go_sem,uX,qc]<;>omega
theorem nK(p:rU):aA prog 91 [.agg (p.enc.map .d)] σ (.d (B (gV p))):=by
 refine aA.bs true func91 fun hwf=> ?_;refine aJ [1,4,5] ?_ ?_<;>intro c0 d0
 ·simp[go_sem];refine aJ [1,4] ?_ ?_<;>intro c1 d1
  ·simp[go_sem];refine aj (sm ?_);unfold gV
   (repeat' split)<;>simp_all
  ·simp[go_sem];refine aJ [1,4,12] ?_ ?_<;>intro c2 d2
   ·simp[go_sem];refine aJ [1] ?_ ?_<;>intro c3 d3
    ·simp[go_sem];refine aO.mk (iy _ _) (sm ?_);refine aj (sm ?_);unfold gV
     (repeat' split)<;>simp_all
    ·simp[go_sem];refine aj (sm ?_);unfold gV
     (repeat' split)<;>simp_all
   ·simp[go_sem];refine aJ [1] ?_ ?_<;>intro c4 d4
    ·simp[go_sem];refine aO.mk (iy _ _) (sm ?_);refine aj (sm ?_);unfold gV
     (repeat' split)<;>simp_all
    ·simp[go_sem];refine aj (sm ?_);unfold gV
     (repeat' split)<;>simp_all
 ·simp[go_sem];refine aJ [1,4,5] ?_ ?_<;>intro c5 d5
  ·simp[go_sem];refine aJ [1,4] ?_ ?_<;>intro c6 d6
   ·simp[go_sem];refine aj (sm ?_);unfold gV
    (repeat' split)<;>simp_all
   ·simp[go_sem];refine aJ [1,4,12] ?_ ?_<;>intro c7 d7
    ·simp[go_sem];refine aJ [1] ?_ ?_<;>intro c8 d8
     ·simp[go_sem];refine aO.mk (iy _ _) (sm ?_);refine aj (sm ?_);unfold gV
      (repeat' split)<;>simp_all
     ·simp[go_sem];refine aj (sm ?_);unfold gV
      (repeat' split)<;>simp_all
    ·simp[go_sem];refine aJ [1] ?_ ?_<;>intro c9 d9
     ·simp[go_sem];refine aO.mk (iy _ _) (sm ?_);refine aj (sm ?_);unfold gV
      (repeat' split)<;>simp_all
     ·simp[go_sem];refine aj (sm ?_);unfold gV
      (repeat' split)<;>simp_all
  ·simp[go_sem];refine aJ [1,4] ?_ ?_<;>intro c10 d10
   ·simp[go_sem];refine aj (sm ?_);unfold gV
    (repeat' split)<;>simp_all
   ·simp[go_sem];refine aJ [1,4,12] ?_ ?_<;>intro c11 d11
    ·simp[go_sem];refine aJ [1] ?_ ?_<;>intro c12 d12
     ·simp[go_sem];refine aO.mk (iy _ _) (sm ?_);refine aj (sm ?_);unfold gV
      (repeat' split)<;>simp_all
     ·simp[go_sem];refine aj (sm ?_);unfold gV
      (repeat' split)<;>simp_all
    ·simp[go_sem];refine aJ [1] ?_ ?_<;>intro c13 d13
     ·simp[go_sem];refine aO.mk (iy _ _) (sm ?_);refine aj (sm ?_);unfold gV
      (repeat' split)<;>simp_all
     ·simp[go_sem];refine aj (sm ?_);unfold gV
      (repeat' split)<;>simp_all
theorem Fe(τ:List aG)(s:N7)(m:iE)(hk:J8 s):CS prog 172 [.ptr (σ.length+1) 0,.agg (m.enc.map .d)] (σ++ .mp false s.ks (TQ s.pl):: .var [.mp σ.length,.d (I s.day)]::τ) (fun r σ' X'=>X'=[]/\r= .d (I (su s m))/\σ'=σ++ .mp false (qG s m).ks (TQ (qG s m).pl):: .var [.mp σ.length,.d (I (qG s m).day)]::τ):=by
 have e1:cond (decide (Key.i m.Box∈s.ks)) (s.pl m.Box).Kind 0=(s.pl m.Box).Kind:=by
  by_cases h:Key.i m.Box∈s.ks
  ·simp[h]
  ·simp[h,hk.out _ h]
 have e2:cond (decide (Key.i m.Box∈s.ks)) (s.pl m.Box).Of 0=(s.pl m.Box).Of:=by
  by_cases h:Key.i m.Box∈s.ks
  ·simp[h]
  ·simp[h,hk.out _ h]
 refine CS.bdD true [] func172 fun hwf=> ?_;simp[go_sem];refine aO.mk (qJ _ _) ?_;simp[go_sem];refine fM.mk (iy _ _) ?_;simp[go_sem];refine fM.mk' (.d (B (gV m.From))) (fun _=>nK _ m.From) ?_;simp[go_sem];refine fM.mk' (.d (B (gV m.To))) (fun _=>nK _ m.To) ?_;simp[go_sem];refine aJ [0,3] ?_ ?_<;>intro c0 d0
 ·have hz:su s m=2:=by
   unfold su;rw[if_pos];cases h1:uX m.Day<;>cases h2:mD m.Box<;>cases h3:gV m.From<;>cases h4:gV m.To<;>simp_all
  have hs:=Iw (s:=s) (m:=m) (by rw[hz];decide);simp[go_sem];refine aj ?_;rw[hz,hs];simp[go_sem];exact .refl _
 ·have hf:(uX m.Day&&mD m.Box&&gV m.From&&gV m.To)=true:=by
   cases h1:uX m.Day<;>cases h2:mD m.Box<;>cases h3:gV m.From<;>cases h4:gV m.To<;>simp_all
  simp[go_sem];refine aJ [0,3] ?_ ?_<;>intro c1 d1
  ·have hz:su s m=1:=by unfold su;rw[if_neg (by simp[hf]),if_pos (by rcases h1:m.From with⟨a,b⟩;rcases h2:m.To with⟨a',b'⟩;simp_all)]
   have hs:=Iw (s:=s) (m:=m) (by rw[hz];decide);simp[go_sem];refine aj ?_;rw[hz,hs];simp[go_sem];exact .refl _
  ·have hne:m.From≠m.To:=fun h=>by rw[h] at d1;simp at d1
   simp[go_sem];refine T.dr 8 fun K hK=> ?_;simp[go_sem,E9];refine hK _ ?_;refine go true ?_;simp[go_sem];refine aJ [0,3] ?_ ?_<;>intro c2 d2
   ·have hz:su s m=5:=by unfold su;rw[if_neg (by simp[hf]),if_neg hne,if_pos (by omega)]
    have hs:=Iw (s:=s) (m:=m) (by rw[hz];decide);simp[go_sem];refine aj ?_;rw[hz,hs];simp[go_sem];exact .refl _
   ·simp[go_sem];refine T.dr 11 fun K hK=> ?_;simp[go_sem,e1,e2,E9];refine hK _ ?_;refine go true ?_;simp[go_sem];refine aJ [0,3] ?_ ?_<;>intro c3 d3
    ·have hz:su s m=10:=by unfold su;rw[if_neg (by simp[hf]),if_neg hne,if_neg (by omega),if_pos (by intro h;rw[h] at d3;simp at d3)]
     have hs:=Iw (s:=s) (m:=m) (by rw[hz];decide);simp[go_sem];refine aj ?_;rw[hz,hs];simp[go_sem];exact .refl _
    ·have hpl:s.pl m.Box=m.From:=by rcases h1:m.From with⟨a,b⟩;rcases h2:s.pl m.Box with⟨a',b'⟩;simp_all
     have hz:su s m=0:=by unfold su;rw[if_neg (by simp[hf]),if_neg hne,if_neg (by omega),if_neg (by simp[hpl])]
     have hs:qG s m=⟨kU (.i m.Box) s.ks,FN s.pl m.Box m.To,m.Day⟩:=by unfold qG;rw[if_pos hz]
     simp[go_sem];apply Steps.awp_steps 17 [(11,some 64),(12,some 65),(13,none),(16,none)] (fun q=>[(.eU [.undef,.d (.v (.int .i64 q))],σ++ .TT false (kU (.i m.Box) s.ks) (lX (TQ s.pl) (.i m.Box) .undef) (.i m.Box) q:: .var [.mp σ.length,.d (I s.day)]::(τ++[.var (m.enc.map .d)])),(.d (.v (.int .i64 q)),σ++ .TT false (kU (.i m.Box) s.ks) (lX (TQ s.pl) (.i m.Box) .undef) (.i m.Box) q:: .var [.mp σ.length,.d (I s.day)]::(τ++[.var (m.enc.map .d)])),
       (.undef,σ++ .mp false (kU (.i m.Box) s.ks) (TQ (FN s.pl m.Box m.To)):: .var [.mp σ.length,.d (I s.day)]::(τ++[.var (m.enc.map .d)])),(.undef,σ++ .mp false (kU (.i m.Box) s.ks) (TQ (FN s.pl m.Box m.To)):: .var [.mp σ.length,.d (I m.Day)]::(τ++[.var (m.enc.map .d)]))]) (fun σ'=> ∃b y,σ'=σ++b:: .var [.mp σ.length,y]::(τ++[.var (m.enc.map .d)])) T.mixed (by kernel_rfl)
     ·rintro σ' K ⟨b,y,rfl⟩ hK;simp[go_sem,E9];exact hK _ _
     ·intro k d hk hd;rcases k with _|_|_|_|k<;>simp[Steps.dsB] at hd hk<;>omega
     ·intro q k hk;rcases k with _|_|_|_|_|k
      ·exact⟨_,_,rfl⟩
      ·exact⟨_,_,rfl⟩
      ·exact⟨_,_,rfl⟩
      ·exact⟨_,_,rfl⟩
      ·exact⟨_,_,rfl⟩
      ·simp at hk
     ·simp[go_sem,updK_updK,updK_pl]
     intro q;simp[go_sem];refine go true ?_;simp[go_sem];refine aj ?_;rw[hz,hs];simp[go_sem];exact au (by simp[go_sem,ay])
theorem wV(c:Option Nat)(n:Nat)(g:Nat->iE)(hn:n<1000000000):CS prog 118 [.d (SL c 6 iE.enc n g)] σ (fun r σ' X=> ∃υ,r= .eU [.ptr (σ.length+1) 0,.d (I (bF n g).1)]/\σ'=σ++ .mp false (bF n g).2.ks (TQ (bF n g).2.pl):: .var [.mp σ.length,.d (I (bF n g).2.day)]::υ/\X=[]):=by
 refine CS.bsW false func118 fun hwf=> ?_;refine go false (sm ?_);refine En σ.length (ks':=zf.ks) (f':=TQ zf.pl) (by simp[go_sem];exact⟨rfl,rfl,rfl⟩) (.refl _) (fun k hk=>nomatch hk) (fun k=>plF_free _ k) (by first|(simp[go_sem];rfl)|rfl) ?_;refine go false (sm ?_);refine go true (sm ?_);refine aJ [0,4] ?_ ?_<;>intro c0 d0
 ·have hz:bF n g=(8,zf):=by unfold bF;rw[if_pos (by omega)]
  simp[go_sem];refine aj ?_;rw[hz];simp[go_sem,zf]
 ·have hz:bF n g=eG g 0 zf (n-0):=by unfold bF;rw[if_neg (by omega)];rfl
  simp[go_sem];refine kQ (α:=Nat×N7) true [4,15,16,17] (fun x=>[(17,.d (I x.1))]) (fun x=>σ++[.mp false x.2.ks (TQ x.2.pl),.var [.mp σ.length,.d (I x.2.day)]]) (fun x=>x.1<=n/\bF n g=eG g x.1 x.2 (n-x.1)/\J8 x.2) (fun x=>n-x.1) (0,zf) ?_ (hx:=⟨by simp,by simpa using hz,Xe⟩);rintro⟨i,s⟩ ⟨hi,hx,hok⟩;dsimp only at hi hx hok;simp[go_sem];refine aJ [4,15,16,17] ?_ ?_<;>intro c1 d1
  ·have hst:=movGo_step (g:=g) (s:=s) d1;simp[go_sem];repeat refine⟨by omega,?_⟩
   refine aO.gen (Fe σ [_] s (g i) hok) ?_;rintro r σ' X ⟨rfl,rfl,rfl⟩;simp[go_sem];refine aJ [4,7,15,16,17] ?_ ?_<;>intro c2 d2
   ·have hz2:bF n g=(su s (g i),s):=by rw[hx,hst,if_pos (by simpa using d2)]
    have hs:=Iw (s:=s) (m:=g i) (by simpa using d2);simp[go_sem];refine aj ?_;rw[hz2];simp[go_sem,hs]
   ·simp(disch:=first|omega|simp) [go_sem,aH];refine gB ((i+1,qG s (g i))) ⟨by dsimp only;omega,by dsimp only;rw[hx,hst,if_neg (by simp[d2])],movS_ok hok _⟩ (h:=by simp[go_sem]<;>omega) (hσ:=by simp[go_sem]) (hb:=au (by simp[go_sem]))
  ·have hz2:bF n g=(0,s):=by rw[hx,show n-i=0 by omega,eG]
   simp[go_sem];refine go true (sm ?_);rw[hz2];exact aj sc
theorem qK(c:Option Nat)(n:Nat)(g:Nat->iE)(hn:n<1000000000):aA prog 90 [.d (SL c 6 iE.enc n g)] σ (.d (I (jm n g))):=by
 refine aA.bs true func90 fun hwf=> ?_;refine aO.gen (wV σ c n g hn) ?_;rintro r σ' X ⟨υ,rfl,rfl,rfl⟩;simp[go_sem];refine aj ?_;simp[go_sem,jm]<;>omega
theorem O7(m:iE)(d:Int)(hd:m.Day<=d):aA prog 121 [.agg (m.enc.map .d),.d (I d)] σ (.d (I (-1))):=by
 refine aA.bs true func121 fun hwf=> ?_;refine fZ ?_ ?_<;>intro c0 d0
 ·skip
  simp[go_sem];exact aj so
 ·exact absurd hd (by omega)
def aV{α:Type}(g:Nat->α)(n:Nat)(x:α)(q:Nat):α:=if q<n then g q else x
def iD{α:Type}(g:Nat->α)(i:Nat)(x:α)(q:Nat):α:=if q=i then x else g q
theorem JM{α:Type}{enc:α->List D}{g:Nat->α}{n sz:Nat}{x:α}(h:(enc x).length=sz): ∀q,q<n+1->bf n (fun i=>enc (g i)) (rowsOf sz (enc x)) q=enc (aV g n x q):=by
 intro q hq;unfold bf aV;split
 ·rfl
 ·rw[show q-n=0 by omega];simp[rowsOf,←h]
structure dU where
 ID:Int
 Reader:Int
 Unit:Int
 Box:Int
 Day:Int
 State:Int
 Changed:Int
instance:Inhabited dU:=⟨⟨0,0,0,0,0,0,0⟩⟩
def dU.enc(r:dU):List D:=[I r.ID,I r.Reader,I r.Unit,I r.Box,I r.Day,I r.State,I r.Changed]
attribute [go_sem] dU.enc
def D5(r:dU):Bool:=mD r.ID&&mD r.Reader&&mD r.Unit&&mD r.Box&&uX r.Day&&decide (1<=r.State)&&decide (r.State<=5)&&decide (r.Day<=r.Changed)&&uX r.Changed&&(r.State !=1||r.Changed==r.Day)
def oQ(r:dU):Bool:=r.State==1||r.State==2
def Rn(b:Int)(r:dU):Bool:=r.State==2&&r.Box==b
def dblP(a u:Int)(r:dU):Bool:=oQ r&&r.Reader==a&&r.Unit==u
def PY(b:Int)(r:dU):Bool:=r.State==1&&r.Box==b
def MJ(n:Nat)(g:Nat->dU)(b:Int):Bool:=(lst n g).any (Rn b)
def dblB(n:Nat)(g:Nat->dU)(a u:Int):Bool:=(lst n g).any (dblP a u)
def AP(g:Nat->dU)(i:Nat):Int:=if D5 (g i)=false then 2 else if 0<i/\((g i).ID<=(g (i-1)).ID\/(g i).Day<(g (i-1)).Day) then 5 else if(g i).State=2/\MJ i g (g i).Box=true then 11 else if oQ (g i)=true/\dblB i g (g i).Reader (g i).Unit=true then 6 else 0
def gJ(n:Nat)(g:Nat->dU):Int:=if 256<n then 8 else aQ (AP g) 0 n
def qA(r:dU):dU:= { r with State:=1,Changed:=r.Day }
def oP(n:Nat)(g:Nat->dU)(r:dU):Int:=if gJ n g≠0 then 1 else if(mD r.ID&&mD r.Reader&&mD r.Unit&&mD r.Box&&uX r.Day)=false then 2 else if 0<n/\(r.ID<=(g (n-1)).ID\/r.Day<(g (n-1)).Day) then 5 else if dblB n g r.Reader r.Unit=true then 6 else if 256<=n then 12 else 0
def nZ(n:Nat)(g:Nat->dU)(k:Int):Int:=idxFrom (fun r=>r.ID==k) (lst n g) 0
theorem reqIx_lt(n:Nat)(g:Nat->dU)(k:Int):nZ n g k<n:=mX _ n g
def Zn(n:Nat)(g:Nat->dU)(b:Int):Int:=if MJ n g b=true then-1 else idxFrom (PY b) (lst n g) 0
def kD(can:Nat->Bool)(n:Nat)(g:Nat->dU)(k d:Int):Int:=if gJ n g≠0 then 1 else if nZ n g k<0 then 7 else if d<(g (nZ n g k).toNat).Changed\/1048575<d then 2 else if can (nZ n g k).toNat=false then 11 else 0
def iL(g:Nat->dU)(i:Nat)(st d:Int):Nat->dU:=iD g i { g i with State:=st,Changed:=d }
def kN(n:Nat)(g:Nat->dU)(i:Nat):Bool:=Zn n g (g i).Box==(i:Int)
def vw(g:Nat->dU)(i:Nat):Bool:=(g i).State==2
def mZ(g:Nat->dU)(i:Nat):Bool:=(g i).State==1
theorem rD(c:Option Nat)(n:Nat)(g:Nat->dU)(f:FuncId)(cap:List AV)(p:dU->Bool)(hn:n<1000000000)(hf: ∀i,i<n->aA prog f (.agg ((g i).enc.map .d)::cap) σ (.d (B (p (g i))))):aA prog 299 [.d (SL c 7 dU.enc n g),.clo (.func f) [] cap] σ (.d (I (idxFrom p (lst n g) 0))):=by
 refine aA.bs true func299 fun hwf=> ?_;refine kQ (α:=Nat) true [0,1,7,8] (fun i=>[(8,.d (I i))]) (fun i=>_) (fun i=>i<=n/\idxFrom p (lst n g) 0=idxFrom p ((lst n g).drop i) i) (fun i=>n-i) 0 ?_;rintro i ⟨hi,hx⟩;simp[go_sem];refine aJ [0,1,7,8] ?_ ?_<;>intro c0 d0
 ·rw[gX d0,idxFrom] at hx;simp[go_sem];repeat refine⟨by omega,?_⟩
  refine aO.mk (hf i d0) (sm ?_);refine aJ [0,1,5,7,8] ?_ ?_<;>intro c1 d1
  ·simp[go_sem];refine aj ?_;simp[go_sem,hx,c1]<;>omega
  ·simp(disch:=first|omega|simp) [go_sem,aH];refine gB (i+1) ⟨by omega,by rw[hx,c1];simp⟩ (h:=by simp[go_sem]<;>omega)
 ·rw[gY d0,idxFrom] at hx;simp[go_sem];refine go true (sm ?_);refine aj ?_;simp[go_sem,hx]<;>omega
theorem Dq(c:Option Nat)(n:Nat)(g:Nat->dU)(f:FuncId)(cap:List AV)(p:dU->Bool)(hn:n<1000000000)(hf: ∀i,i<n->aA prog f (.agg ((g i).enc.map .d)::cap) σ (.d (B (p (g i))))):aA prog 216 [.d (SL c 7 dU.enc n g),.clo (.func f) [] cap] σ (.d (B ((lst n g).any p))):=by
 refine aA.bs true func216 fun hwf=> ?_;refine aO.mk (rD _ c n g f cap p hn hf) (sm ?_);refine aj ?_;simp[go_sem,mY]<;>omega
theorem cloneReq_cs(c:Option Nat)(n:Nat)(g:Nat->dU)(hn:n<1000000000):aA prog 85 [.d (SL c 7 dU.enc n g)] σ (.d (SL none 7 dU.enc n g)):=by
 refine aA.bd true func85 fun hwf=> ?_;simp[go_sem,-Bool.forall_bool];try intro b1 hb1
 refine fZ ?_ ?_<;>intro c0 d0
 ·simp[go_sem];refine aj ?_;have:=hb1 c0;simp[go_sem,this]
 ·simp[go_sem];repeat refine⟨by omega,?_⟩
  refine bK (σ.length) (by simp[go_sem];exact⟨rfl,rfl,rfl⟩) (by simp[go_sem];rfl) (by simp[go_sem,hwf.sZ,hwf.qH];rfl) ?_;exact aj so
theorem JC(c:Option Nat)(n:Nat)(g:Nat->dU)(hn:n<1000000000):CS prog 85 [.d (SL c 7 dU.enc n g)] σ (fun r σ' X=>r= .ms σ.length 7 0 n/\σ'=σ++[.arr 7 n fun i=>dU.enc (g i)]/\X=[]):=by
 refine CS.VD true func85 fun hwf=> ?_;simp[go_sem,-Bool.forall_bool];try intro b1 hb1
 refine fZ ?_ ?_<;>intro c0 d0
 ·simp[go_sem];refine dG 2 7 (fun i=>dU.enc (g i)) (by simp[go_sem]) (by simp[go_sem];rfl) ?_;refine aj ?_;obtain rfl:=hb1 c0;simp[go_sem]
 ·simp[go_sem];repeat refine⟨by omega,?_⟩
  exact aj so
theorem iw(n:Int):aA prog 214 [.d (I n)] σ (.d (B (mD n))):=by
 refine aA.bs true func214 fun hwf=> ?_;refine aj ?_;simp[go_sem,mD,qc]<;>omega
theorem qx(n:Int):aA prog 215 [.d (I n)] σ (.d (B (uX n))):=by
 refine aA.bs true func215 fun hwf=> ?_;refine aj ?_;simp[go_sem,uX,qc]<;>omega
theorem H7(r:dU):aA prog 137 [.agg (r.enc.map .d)] σ (.d (B (D5 r))):=by
 refine aA.bs true func137 fun hwf=> ?_;refine aO.mk (iw _ _) (sm ?_);refine fM.mk (iw _ _) (sm ?_);refine fM.mk (iw _ _) (sm ?_);refine fM.mk (iw _ _) (sm ?_);refine fM.mk (qx _ _) (sm ?_);refine fM.mk (qx _ _) (sm ?_);refine aj ?_;simp[go_sem,D5]
theorem zS(r:dU):aA prog 139 [.agg (r.enc.map .d)] σ (.d (B (oQ r))):=by
 refine aA.bs true func139 fun hwf=> ?_;refine aj ?_;simp[go_sem,oQ]<;>omega
theorem H6(τ:List aG)(r:dU)(b:Int):aA prog 217 [.agg (r.enc.map .d),.ptr σ.length 0] (σ++ .var [.d (I b)]::τ) (.d (B (Rn b r))):=by
 refine aA.bs true func217 fun hwf=> ?_;refine aj ?_;simp[go_sem,Rn]<;>omega
theorem HY(τ:List aG)(r:dU)(b:Int):aA prog 367 [.agg (r.enc.map .d),.ptr σ.length 0] (σ++ .var [.d (I b)]::τ) (.d (B (PY b r))):=by
 refine aA.bs true func367 fun hwf=> ?_;refine aj ?_;simp[go_sem,PY]<;>omega
theorem FT(τ:List aG)(r:dU)(k:Int):aA prog 399 [.agg (r.enc.map .d),.ptr σ.length 0] (σ++ .var [.d (I k)]::τ) (.d (B (r.ID==k))):=by
 refine aA.bs true func399 fun hwf=> ?_;exact aj so
theorem BP(τ:List aG)(r:dU)(a u:Int):aA prog 218 [.agg (r.enc.map .d),.ptr σ.length 0,.ptr (σ.length+1) 0] (σ++ .var [.d (I a)]:: .var [.d (I u)]::τ) (.d (B (dblP a u r))):=by
 refine aA.bs true func218 fun hwf=> ?_;refine aO.mk (zS _ _) (sm ?_);refine aj ?_;simp[go_sem,dblP]<;>omega
theorem zT(c:Option Nat)(n:Nat)(g:Nat->dU)(b:Int)(hn:n<1000000000):aA prog 138 [.d (SL c 7 dU.enc n g),.d (I b)] σ (.d (B (MJ n g b))):=by
 refine aA.bs true func138 fun hwf=> ?_;refine aO.mk (Dq _ c n g _ _ (Rn b) hn (fun i hi=>H6 σ [] (g i) b)) (sm ?_);refine aj ?_;simp[go_sem,MJ]<;>omega
theorem uH(c:Option Nat)(n:Nat)(g:Nat->dU)(a u:Int)(hn:n<1000000000):aA prog 140 [.d (SL c 7 dU.enc n g),.d (I a),.d (I u)] σ (.d (B (dblB n g a u))):=by
 refine aA.bs true func140 fun hwf=> ?_;refine aO.mk (Dq _ c n g _ _ (dblP a u) hn (fun i hi=>BP σ [] (g i) a u)) (sm ?_);refine aj ?_;simp[go_sem,dblB]<;>omega
theorem KI(c:Option Nat)(n:Nat)(g:Nat->dU)(k:Int)(hn:n<1000000000):aA prog 368 [.d (SL c 7 dU.enc n g),.d (I k)] σ (.d (I (nZ n g k))):=by
 refine aA.bs true func368 fun hwf=> ?_;refine aO.mk (rD _ c n g _ _ (fun r=>r.ID==k) hn (fun i hi=>FT σ [] (g i) k)) (sm ?_);refine aj ?_;simp[go_sem,nZ]<;>omega
theorem OA(c:Option Nat)(n:Nat)(g:Nat->dU)(b:Int)(hn:n<1000000000):aA prog 327 [.d (SL c 7 dU.enc n g),.d (I b)] σ (.d (I (Zn n g b))):=by
 refine aA.bs true func327 fun hwf=> ?_;refine aO.mk (zT _ c n g b hn) (sm ?_);refine fZ ?_ ?_<;>intro c0 d0
 ·simp[go_sem];refine aj ?_;simp[go_sem,Zn,c0]<;>omega
 ·simp[go_sem];refine aO.mk (rD _ c n g _ _ (PY b) hn (fun i hi=>HY σ [] (g i) b)) (sm ?_);refine aj ?_;simp[go_sem,Zn,c0]<;>omega
theorem qy(c:Option Nat)(n:Nat)(g:Nat->dU)(hn:n<1000000000):aA prog 104 [.d (SL c 7 dU.enc n g)] σ (.d (I (gJ n g))):=by
 refine aA.bs true func104 fun hwf=> ?_;refine aJ [0] ?_ ?_<;>intro c0 d0
 ·have hz:gJ n g=8:=by unfold gJ;rw[if_pos (by omega)]
  simp[go_sem];rw[hz];exact aj sc
 ·have hz:gJ n g=aQ (AP g) 0 (n-0):=by unfold gJ;rw[if_neg (by omega)];rfl
  simp[go_sem];refine kQ (α:=Nat) true [0,8,9,10] (fun i=>[(10,.d (I i))]) (fun i=>_) (fun i=>i<=n/\gJ n g=aQ (AP g) i (n-i)) (fun i=>n-i) 0 ?_ (hx:=⟨by simp,by simpa using hz⟩);rintro i ⟨hi,hx⟩;simp[go_sem];refine aJ [0,8,9,10] ?_ ?_<;>intro c1 d1
  ·have hst:=CZ (e:=AP g) d1;simp[go_sem];repeat refine⟨by omega,?_⟩
   refine aO.mk (H7 _ _) ?_;simp[go_sem];refine aJ [0,3,4,8,9,10] ?_ ?_<;>intro c2 d2
   ·have he:AP g i=2:=by unfold AP;rw[if_pos (by simpa using d2)]
    simp[go_sem];rw[hx,hst,he];exact aj sc
   ·simp[go_sem];refine T.dr 25 fun K hK=> ?_;simp[go_sem,dn (i:=i) (by omega)];repeat refine⟨by omega,?_⟩
    refine hK _ ?_;refine go true ?_;simp[go_sem];refine aJ [0,3,4,8,9,10] ?_ ?_<;>intro c3 d3
    ·have he:AP g i=5:=by unfold AP;rw[if_neg (by simpa using d2),if_pos (by omega)]
     simp[go_sem];rw[hx,hst,he];exact aj sc
    ·simp[go_sem];refine T.dr 12 fun K hK=> ?_;simp[go_sem];repeat refine⟨by omega,?_⟩
     refine dF.mk' (.d (B (MJ i g (g i).Box))) (fun _=>zT _ _ i g (g i).Box (by omega)) ?_;simp[go_sem];refine hK _ ?_;refine go true ?_;simp[go_sem];refine aJ [0,3,4,8,9,10] ?_ ?_<;>intro c4 d4
     ·have he:AP g i=11:=by unfold AP;rw[if_neg (by simpa using d2),if_neg (by omega),if_pos (by simpa using d4)]
      simp[go_sem];rw[hx,hst,he];exact aj sc
     ·simp[go_sem];refine T.dr 13 fun K hK=> ?_;simp[go_sem];refine dF.mk (zS _ _) ?_;simp[go_sem];repeat refine⟨by omega,?_⟩
      refine dF.mk' (.d (B (dblB i g (g i).Reader (g i).Unit))) (fun _=>uH _ _ i g (g i).Reader (g i).Unit (by omega)) ?_;simp[go_sem];refine hK _ ?_;refine go true ?_;simp[go_sem];refine aJ [0,8,9,10] ?_ ?_<;>intro c5 d5
      ·have he:AP g i=6:=by unfold AP;rw[if_neg (by simpa using d2),if_neg (by omega),if_neg (by simpa using d4),if_pos (by simpa using d5)]
       simp[go_sem];rw[hx,hst,he];exact aj sc
      ·have he:AP g i=0:=by unfold AP;rw[if_neg (by simpa using d2),if_neg (by omega),if_neg (by simpa using d4),if_neg (by simpa using d5)]
       simp(disch:=first|omega|simp) [go_sem,aH];refine gB (i+1) ⟨by omega,by rw[hx,hst,if_neg (by simp[he])]⟩ (h:=by simp[go_sem]<;>omega)
  ·have hz:gJ n g=0:=by rw[hx,Gm (by omega)]
   simp[go_sem];refine go true ?_;simp[go_sem];rw[hz];exact aj sc
theorem KJ(c:Option Nat)(n:Nat)(g:Nat->dU)(r:dU)(hn:n<1000000000):aA prog 257 [.d (SL c 7 dU.enc n g),.agg (r.enc.map .d)] σ (.eU [.d (SL none 7 dU.enc (if oP n g r=0 then n+1 else 0) (aV g n (qA r))),.d (I (oP n g r))]):=by
 have hwp:=dn (i:=n) (by omega);refine aA.bd true func257 fun hwf=> ?_;simp[go_sem];refine aO.mk (qy _ _ _ _ (by first|assumption|exact aC (by assumption)|omega|simp_all)) ?_;simp[go_sem];refine aJ [0,3,6] ?_ ?_<;>intro c0 d0
 ·have hz:oP n g r=1:=by unfold oP;rw[if_pos (by simpa using d0)]
  simp[go_sem];refine aj ?_;rw[hz];simp[go_sem,Go.aU.bC]
 ·simp[go_sem];refine aO.mk (iw _ _) ?_;simp[go_sem];refine fM.mk (iw _ _) ?_;simp[go_sem];refine fM.mk (iw _ _) ?_;simp[go_sem];refine fM.mk (iw _ _) ?_;simp[go_sem];refine fM.mk (qx _ _) ?_;simp[go_sem];refine aJ [0,3,6] ?_ ?_<;>intro c1 d1
  ·have hz:oP n g r=2:=by
    unfold oP;rw[if_neg (by simpa using d0),if_pos];cases h1:mD r.ID<;>cases h2:mD r.Reader<;>cases h3:mD r.Unit<;>cases h4:mD r.Box<;>cases h5:uX r.Day<;>simp_all
   simp[go_sem];refine aj ?_;rw[hz];simp[go_sem,Go.aU.bC]
  ·have hf:(mD r.ID&&mD r.Reader&&mD r.Unit&&mD r.Box&&uX r.Day)=true:=by
    cases h1:mD r.ID<;>cases h2:mD r.Reader<;>cases h3:mD r.Unit<;>cases h4:mD r.Box<;>cases h5:uX r.Day<;>simp_all
   simp[go_sem];refine T.dr 25 fun K hK=> ?_;simp[go_sem,hwp];repeat refine⟨by omega,?_⟩
   refine hK _ ?_;refine go true ?_;simp[go_sem];refine aJ [0,3,6] ?_ ?_<;>intro c2 d2
   ·have hz:oP n g r=5:=by unfold oP;rw[if_neg (by simpa using d0),if_neg (by simp[hf]),if_pos (by omega)]
    simp[go_sem];refine aj ?_;rw[hz];simp[go_sem,Go.aU.bC]
   ·simp[go_sem];refine aO.mk (uH _ _ _ _ _ _ (by first|assumption|exact aC (by assumption)|omega|simp_all)) ?_;simp[go_sem];refine aJ [0,3,6] ?_ ?_<;>intro c3 d3
    ·have hz:oP n g r=6:=by unfold oP;rw[if_neg (by simpa using d0),if_neg (by simp[hf]),if_neg (by omega),if_pos (by simpa using d3)]
     simp[go_sem];refine aj ?_;rw[hz];simp[go_sem,Go.aU.bC]
    ·simp[go_sem];refine aJ [0,3] ?_ ?_<;>intro c4 d4
     ·have hz:oP n g r=12:=by unfold oP;rw[if_neg (by simpa using d0),if_neg (by simp[hf]),if_neg (by omega),if_neg (by simpa using d3),if_pos (by omega)]
      simp[go_sem];refine aj ?_;rw[hz];simp[go_sem,Go.aU.bC]
     ·have hz:oP n g r=0:=by unfold oP;rw[if_neg (by simpa using d0),if_neg (by simp[hf]),if_neg (by omega),if_neg (by simpa using d3),if_neg (by omega)]
      simp[go_sem];apply pV 4 1 85 (.ms (σ.length+1) 7 0 n) (.arr 7 n (fun i=>dU.enc (g i))) T.mixed (by kernel_rfl)
      ·intro τ K hK;simp[go_sem];exact hK _ _
      ·simp[go_sem];exact CS.mono (JC _ c n g hn) (by rintro r σ' X ⟨rfl,rfl,rfl⟩;simp[dU.enc])
      intro K hK;simp[go_sem,hwf.one];repeat refine⟨by omega,?_⟩
      refine hK _ ?_;refine go true ?_;simp[go_sem];refine aF hwf (σ.length+1) ?_;refine aj ?_;rw[hz];simp[go_sem];exact JM (enc:=dU.enc) (x:=qA r) rfl
theorem H9(c:Option Nat)(n:Nat)(g:Nat->dU)(i:Nat)(hn:n<1000000000)(hi:i<n):aA prog 326 [.d (SL c 7 dU.enc n g),.d (I i)] σ (.d (B (kN n g i))):=by
 refine aA.bs true func326 fun hwf=> ?_;repeat refine⟨by omega,?_⟩
 refine aO.mk (OA _ _ _ _ _ (by first|assumption|exact aC (by assumption)|omega|simp_all)) (sm ?_);refine aj ?_;simp[go_sem,kN]<;>omega
theorem Ey(c:Option Nat)(n:Nat)(g:Nat->dU)(i:Nat)(hn:n<1000000000)(hi:i<n):aA prog 329 [.d (SL c 7 dU.enc n g),.d (I i)] σ (.d (B (vw g i))):=by
 refine aA.bs true func329 fun hwf=> ?_;repeat refine⟨by omega,?_⟩
 refine aj ?_;simp[go_sem,vw]<;>omega
theorem vS(c:Option Nat)(n:Nat)(g:Nat->dU)(i:Nat)(hn:n<1000000000)(hi:i<n):aA prog 330 [.d (SL c 7 dU.enc n g),.d (I i)] σ (.d (B (mZ g i))):=by
 refine aA.bs true func330 fun hwf=> ?_;repeat refine⟨by omega,?_⟩
 refine aj ?_;simp[go_sem,mZ]<;>omega
theorem qU(st:Int)(f:FuncId)(can:Nat->Bool)(c:Option Nat)(n:Nat)(g:Nat->dU)(k d:Int)(hn:n<1000000000)(hf: ∀(i:Nat) (υ:List aG),i<n->aA prog f [.d (SL c 7 dU.enc n g),.d (I i)] (σ++υ) (.d (B (can i)))):aA prog 328 [.agg [.d (I st),.clo (.func f) [] []],.d (SL c 7 dU.enc n g),.d (I k),.d (I d)] σ (.eU [.d (SL none 7 dU.enc (if kD can n g k d=0 then n else 0) (iL g (nZ n g k).toNat st d)),.d (I (kD can n g k d))]):=by
 have hlt:=reqIx_lt n g k;refine aA.bs false func328 fun hwf=> ?_;refine go false (sm ?_);refine aO.mk (qy _ c n g hn) (sm ?_);refine go false (sm ?_);refine aJ [1,2,3,4] ?_ ?_<;>intro c0 d0
 ·have hz:kD can n g k d=1:=by unfold kD;rw[if_pos (by simpa using d0)]
  simp[go_sem];refine go true (sm ?_);refine aj ?_;rw[hz];simp[go_sem,Go.aU.bC]
 ·simp[go_sem];refine aO.mk (KI _ c n g k hn) (sm ?_);refine go false (sm ?_);refine go false (sm ?_);refine aJ [1,3,4,10] ?_ ?_<;>intro c1 d1
  ·have hz:kD can n g k d=7:=by unfold kD;rw[if_neg (by simpa using d0),if_pos (by omega)]
   simp[go_sem];refine go true (sm ?_);refine aj ?_;rw[hz];simp[go_sem,Go.aU.bC]
  ·obtain⟨i,hi⟩: ∃i:Nat,nZ n g k=(i:Int):=⟨(nZ n g k).toNat,by omega⟩;have hin:i<n:=by omega
   simp[go_sem,hi];repeat refine⟨by omega,?_⟩
   refine go false ?_;simp[go_sem];refine aJ [1,3,4,10] ?_ ?_<;>intro c2 d2
   ·have hz:kD can n g k d=2:=by unfold kD;rw[if_neg (by simpa using d0),if_neg (by omega),if_pos (by rw[hi];simp only[Int.toNat_natCast];omega)]
    simp[go_sem];refine go true ?_;simp[go_sem];refine aj ?_;rw[hz];simp[go_sem,Go.aU.bC]
   ·simp[go_sem];refine aO.mk (hf i _ hin) ?_;simp[go_sem];refine go false ?_;simp[go_sem];refine aJ [1,3,4,10] ?_ ?_<;>intro c3 d3
    ·have hz:kD can n g k d=11:=by unfold kD;rw[if_neg (by simpa using d0),if_neg (by omega),if_neg (by rw[hi];simp only[Int.toNat_natCast];omega),if_pos (by rw[hi];simpa using d3)]
     simp[go_sem];refine go true ?_;simp[go_sem];refine aj ?_;rw[hz];simp[go_sem,Go.aU.bC]
    ·have hz:kD can n g k d=0:=by unfold kD;rw[if_neg (by simpa using d0),if_neg (by omega),if_neg (by rw[hi];simp only[Int.toNat_natCast];omega),if_neg (by rw[hi];simpa using d3)]
     simp[go_sem];refine aO.gen (JC _ c n g hn) ?_;rintro r σ' X ⟨rfl,rfl,rfl⟩;simp[go_sem];refine go false ?_;simp[go_sem];repeat refine⟨by omega,?_⟩
     refine aY (σ.length+1) (fun q=>dU.enc (iL g i st d q)) (by simp[go_sem];exact⟨rfl,rfl,rfl⟩) (by intro q hq;unfold iL iD;by_cases h:q=i<;>simp[h,dU.enc]) (by simp[go_sem];rfl) ?_;refine go false ?_;simp[go_sem];refine go true ?_;simp[go_sem];refine aF hwf (σ.length+1) ?_;rw[hz];exact aj sc
theorem zV(c:Option Nat)(n:Nat)(g:Nat->dU)(k d:Int)(hn:n<1000000000):aA prog 262 [.d (SL c 7 dU.enc n g),.d (I k),.d (I d)] σ (.eU [.d (SL none 7 dU.enc (if kD (kN n g) n g k d=0 then n else 0) (iL g (nZ n g k).toNat 2 d)),.d (I (kD (kN n g) n g k d))]):=by
 refine aA.bs true func262 fun hwf=> ?_;refine aO.mk (qU σ 2 _ (kN n g) c n g k d hn (fun i υ hi=>H9 _ c n g i hn hi)) (sm ?_);exact aj so
theorem H8(c:Option Nat)(n:Nat)(g:Nat->dU)(k d:Int)(hn:n<1000000000):aA prog 263 [.d (SL c 7 dU.enc n g),.d (I k),.d (I d)] σ (.eU [.d (SL none 7 dU.enc (if kD (vw g) n g k d=0 then n else 0) (iL g (nZ n g k).toNat 3 d)),.d (I (kD (vw g) n g k d))]):=by
 refine aA.bs true func263 fun hwf=> ?_;refine aO.mk (qU σ 3 _ (vw g) c n g k d hn (fun i υ hi=>Ey _ c n g i hn hi)) (sm ?_);exact aj so
theorem zW(c:Option Nat)(n:Nat)(g:Nat->dU)(k d:Int)(b:Bool)(hn:n<1000000000):aA prog 264 [.d (SL c 7 dU.enc n g),.d (I k),.d (I d),.d (B b)] σ (.eU [.d (SL none 7 dU.enc (if kD (mZ g) n g k d=0 then n else 0) (iL g (nZ n g k).toNat (if b=true then 4 else 5) d)),.d (I (kD (mZ g) n g k d))]):=by
 refine aA.bs true func264 fun hwf=> ?_;refine aJ [0,1,2,10] ?_ ?_<;>intro c0 d0
 ·subst d0;simp[go_sem];refine aO.mk (qU _ 4 _ (mZ g) c n g k d hn (fun i υ hi=>vS _ c n g i hn hi)) (sm ?_);exact aj so
 ·subst d0;simp[go_sem];refine aO.mk (qU _ 5 _ (mZ g) c n g k d hn (fun i υ hi=>vS _ c n g i hn hi)) (sm ?_);exact aj so
def lV(p:Nat->Int)(lo hi:Nat):Nat:=
 if lo<hi then if p ((lo+hi)/2)<0 then lV p ((lo+hi)/2+1) hi else lV p lo ((lo+hi)/2) else lo
termination_by hi-lo
decreasing_by all_goals omega
theorem bsLoop_le(p:Nat->Int)(lo hi:Nat)(h:lo<=hi):lo<=lV p lo hi/\lV p lo hi<=hi:=by
 fun_induction lV p lo hi with
 |case1 lo hi h1 h2 ih=>have:=ih (by omega);omega
 |case2 lo hi h1 h2 ih=>have:=ih (by omega);omega
 |case3 lo hi h1=>omega
def Ur(n:Nat)(p:Nat->Int):Nat:=lV p 0 n
def bsIs(n:Nat)(p:Nat->Int):Bool:=decide (Ur n p<n)&&(p (Ur n p)==0)
theorem bsAt_le(n:Nat)(p:Nat->Int):Ur n p<=n:=(bsLoop_le p 0 n (Nat.zero_le _)).2
theorem half_eq{lo hi:Nat}(h:lo+hi<4000000000):IntKind.i64.wrap (shrI IntKind.u64 (IntKind.u64.wrap ((lo:Int)+hi)) 1)=((lo+hi)/2:Nat):=by
 rw[show IntKind.u64.wrap ((lo:Int)+hi)=((lo+hi:Nat):Int) by simp[IntKind.wrap,IntKind.bits,IntKind.signed];omega];rw[show shrI IntKind.u64 ((lo+hi:Nat):Int) 1=((lo+hi)/2:Nat) by
  unfold shrI;simp[IntKind.bits];rw[Int.fdiv_eq_ediv_of_nonneg _ (by omega)]]
 rw[aH (by omega) (by omega)]
theorem NR{p:Nat->Int}{lo hi:Nat}(h:lo<hi):lV p lo hi=if p ((lo+hi)/2)<0 then lV p ((lo+hi)/2+1) hi else lV p lo ((lo+hi)/2):=by rw[lV,if_pos h]
theorem NS{p:Nat->Int}{lo hi:Nat}(h: ¬lo<hi):lV p lo hi=lo:=by rw[lV,if_neg h]
theorem bsLoop_all{p:Nat->Int}(h: ∀i,p i<0): ∀{lo hi:Nat},lo<=hi->lV p lo hi=hi:=by
 intro lo hi;fun_induction lV p lo hi with
 |case1 lo hi h1 h2 ih=>intro h3;exact ih (by omega)
 |case2 lo hi h1 h2 ih=>exact absurd (h _) h2
 |case3 lo hi h1=>intro h3;omega
theorem bsAt_all{n:Nat} :Ur n (fun _=> -1)=n:=bsLoop_all (fun _=>by decide) (Nat.zero_le _)
def ql(n:Nat)(g:Nat->iE)(b:Int):rU×Int:=if jm n g≠0 then(⟨0,0⟩,1) else if mD b=false then(⟨0,0⟩,2) else((bF n g).2.pl b,0)
def Pg(n:Nat)(g:Nat->iE)(m:iE):Int:=if(bF n g).1≠0 then 1 else if n=1024 then 12 else su (bF n g).2 m
theorem day_max:uX 1048575=true:=by decide
def Qq(s:sO):Bool:=qc s.ID 1 1073741824&&qc s.Tt 1 1073741824&&qc s.Length 1 10000&&qc s.cO 0 7
def Ov(g:Nat->sO)(i:Nat):Int:=if Qq (g i)=false then 2 else if 0<i/\(g i).ID<=(g (i-1)).ID then 5 else 0
def kG(n:Nat)(g:Nat->sO):Int:=if 32<n then 8 else aQ (Ov g) 0 n
theorem bsMov_cs(c:Option Nat)(n:Nat)(g:Nat->iE)(u:Int)(f:FuncId)(cap:List AV)(p:Nat->Int)(hn:n<1000000000)(hf: ∀i,i<n->aA prog f (.agg ((g i).enc.map .d):: .d (I u)::cap) σ (.d (I (p i)))):aA prog 120 [.d (SL c 6 iE.enc n g),.d (I u),.clo (.func f) [] cap] σ (.eU [.d (I (Ur n p)),.d (B (bsIs n p))]):=by
 refine aA.bs true func120 fun hwf=> ?_;refine kQ (α:=Nat×Nat) true [0,1,2,8,9,10] (fun x=>[(9,.d (I x.1)),(10,.d (I x.2))]) (fun x=>_) (fun x=>x.1<=x.2/\x.2<=n/\Ur n p=lV p x.1 x.2) (fun x=>x.2-x.1) (0,n) ?_ (hx:=⟨Nat.zero_le _,Nat.le_refl _,rfl⟩);rintro⟨l,h⟩ ⟨hl,hh,hx⟩;dsimp only at hl hh hx;simp[go_sem];refine aJ [0,1,2,8,9,10] ?_ ?_<;>intro c0 d0
 ·rw[NR d0] at hx;obtain⟨k,hk⟩: ∃k,k=(l+h)/2:=⟨_,rfl⟩;have Z7:=half_eq (lo:=l) (hi:=h) (by omega);rw[←hk] at hx Z7;have hkb:l<=k/\k<h:=by omega
  have hwk:=wS k;simp(disch:=first|omega|simp) [go_sem,Z7,aH];repeat refine⟨by omega,?_⟩
  refine aO.mk (hf k (by omega)) ?_;simp(disch:=first|omega|simp) [go_sem];refine aJ [0,1,2,8,9,10,11] ?_ ?_<;>intro c1 d1
  ·simp(disch:=first|omega|simp) [go_sem,hwk];refine gB ((k+1,h)) ⟨by dsimp only;omega,by dsimp only;omega,by rw[hx,if_pos (by simpa using d1)]⟩ (h:=by simp[go_sem]<;>omega)
  ·simp[go_sem];refine gB ((l,k)) ⟨by dsimp only;omega,by dsimp only;omega,by rw[hx,if_neg (by simpa using d1)]⟩ (h:=by simp[go_sem]<;>omega)
 ·rw[NS (by omega)] at hx;simp[go_sem];refine go true (sm ?_);refine fM.mk' (.d (I (p l))) (fun hg=>hf l (by simpa using hg)) (sm ?_);refine aj ?_;simp[go_sem,bsIs,hx]
theorem XM(c:Option Nat)(n:Nat)(g:Nat->iE)(hn:n<1000000000):CS prog 84 [.d (SL c 6 iE.enc n g)] σ (fun r σ' X=>r= .ms σ.length 6 0 n/\σ'=σ++[.arr 6 n fun i=>iE.enc (g i)]/\X=[]):=by
 refine CS.VD true func84 fun hwf=> ?_;simp[go_sem,-Bool.forall_bool];try intro b1 hb1
 refine fZ ?_ ?_<;>intro c0 d0
 ·simp[go_sem];refine dG 2 6 (fun i=>iE.enc (g i)) (by simp[go_sem]) (by simp[go_sem];rfl) ?_;refine aj ?_;obtain rfl:=hb1 c0;simp[go_sem]
 ·simp[go_sem];repeat refine⟨by omega,?_⟩
  exact aj so
theorem MK(c:Option Nat)(n:Nat)(g:Nat->iE)(hn:n<1000000000)(hd: ∀i,i<n->(g i).Day<=1048575):CS prog 93 [.d (SL c 6 iE.enc n g),.d (I 1048575)] σ (fun r σ' X=> ∃υ,r= .ptr (σ.length+1) 0/\σ'=σ++ .mp false (bF n g).2.ks (TQ (bF n g).2.pl):: .var [.mp σ.length,.d (I (bF n g).2.day)]::υ/\X=[]):=by
 refine CS.VD true func93 fun hwf=> ?_;simp[go_sem];refine aO.mk (bsMov_cs _ c n g 1048575 _ [] (fun _=> -1) hn (fun i hi=>O7 _ (g i) 1048575 (hd i hi))) ?_;simp[go_sem,bsAt_all];refine aO.gen (wV σ c n g hn) ?_;rintro r σ' X ⟨υ,rfl,rfl,rfl⟩;simp[go_sem];refine aj ?_;simp[go_sem]<;>omega
theorem x9(c:Option Nat)(n:Nat)(g:Nat->iE)(b:Int)(hn:n<1000000000):aA prog 96 [.d (SL c 6 iE.enc n g),.d (I b),.d (I 1048575)] σ (.eU [.agg [.d (I (ql n g b).1.Kind),.d (I (ql n g b).1.Of)],.d (I (ql n g b).2)]):=by
 have hk:=BQ n g;have e1:cond (decide (Key.i b∈(bF n g).2.ks)) ((bF n g).2.pl b).Kind 0=((bF n g).2.pl b).Kind:=by
  by_cases h:Key.i b∈(bF n g).2.ks
  ·simp[h]
  ·simp[h,hk.out _ h]
 have e2:cond (decide (Key.i b∈(bF n g).2.ks)) ((bF n g).2.pl b).Of 0=((bF n g).2.pl b).Of:=by
  by_cases h:Key.i b∈(bF n g).2.ks
  ·simp[h]
  ·simp[h,hk.out _ h]
 refine aA.bd true func96 fun hwf=> ?_;simp[go_sem];refine aO.mk (qK _ c n g hn) ?_;simp[go_sem];refine aJ [0,1,2,6] ?_ ?_<;>intro c0 d0
 ·have hz:ql n g b=(⟨0,0⟩,1):=by unfold ql;rw[if_pos (by simpa using d0)]
  simp[go_sem];rw[hz];exact aj sc
 ·simp[go_sem];refine aO.mk (iy _ _) ?_;simp[go_sem];refine fM.mk (qJ _ _) ?_;simp[go_sem,day_max];refine aJ [0,1,2,6] ?_ ?_<;>intro c1 d1
  ·have hz:ql n g b=(⟨0,0⟩,2):=by unfold ql;rw[if_neg (by simpa using d0),if_pos (by simpa using d1)]
   simp[go_sem];rw[hz];exact aj sc
  ·have hz:ql n g b=((bF n g).2.pl b,0):=by unfold ql;rw[if_neg (by simpa using d0),if_neg (by simpa using d1)]
   have hdays:=(chk_days (n:=n) (g:=g) (by simpa using d0)).2;simp[go_sem];have h:=nA (MK (σ++[.var [.d (I 0),.d (I 0)]]) c n g hn hdays);refine aO.gen h ?_;rintro r σ' X ⟨υ,rfl,rfl,rfl⟩;simp[go_sem,e1,e2,E9];rw[hz];exact aj sc
theorem xq(c:Option Nat)(n:Nat)(g:Nat->sO)(hn:n<1000000000):aA prog 103 [.d (SL c 4 sO.enc n g)] σ (.d (I (kG n g))):=by
 refine aA.bs true func103 fun hwf=> ?_;refine aJ [0] ?_ ?_<;>intro c0 d0
 ·have hz:kG n g=8:=by unfold kG;rw[if_pos (by omega)]
  simp[go_sem];rw[hz];exact aj sc
 ·have hz:kG n g=aQ (Ov g) 0 (n-0):=by unfold kG;rw[if_neg (by omega)];rfl
  simp[go_sem];refine kQ (α:=Nat) true [0,8,9,10] (fun i=>[(10,.d (I i))]) (fun i=>_) (fun i=>i<=n/\kG n g=aQ (Ov g) i (n-i)) (fun i=>n-i) 0 ?_ (hx:=⟨by simp,by simpa using hz⟩);rintro i ⟨hi,hx⟩;simp[go_sem];refine aJ [0,8,9,10] ?_ ?_<;>intro c1 d1
  ·have hst:=CZ (e:=Ov g) d1;simp[go_sem];repeat refine⟨by omega,?_⟩
   refine aO.mk (vP _ _ _ _) ?_;simp[go_sem];refine fM.mk (vP _ _ _ _) ?_;simp[go_sem];refine fM.mk (vP _ _ _ _) ?_;simp[go_sem];refine fM.mk (vP _ _ _ _) ?_;simp[go_sem];refine aJ [0,3,4,8,9,10] ?_ ?_<;>intro c2 d2
   ·have he:Ov g i=2:=by
     unfold Ov;rw[if_pos];cases h:Qq (g i) with
     |false=>rfl
     |true=>simp only[Qq,Bool.and_eq_true] at h;simp[h] at c2
    simp[go_sem];rw[hx,hst,he];exact aj sc
   ·have hk:Qq (g i)=true:=by simp only[Qq];simpa[and_assoc] using d2
    simp[go_sem];refine T.dr 14 fun K hK=> ?_;simp[go_sem,dn (i:=i) (by omega)];repeat refine⟨by omega,?_⟩
    refine hK _ ?_;refine go true ?_;simp[go_sem];refine aJ [0,8,9,10] ?_ ?_<;>intro c3 d3
    ·have he:Ov g i=5:=by unfold Ov;rw[if_neg (by simp[hk]),if_pos (by omega)]
     simp[go_sem];rw[hx,hst,he];exact aj sc
    ·have he:Ov g i=0:=by unfold Ov;rw[if_neg (by simp[hk]),if_neg (by omega)]
     simp(disch:=first|omega|simp) [go_sem,aH];refine gB (i+1) ⟨by omega,by rw[hx,hst,if_neg (by simp[he])]⟩ (h:=by simp[go_sem]<;>omega)
  ·have hz:kG n g=0:=by rw[hx,Gm (by omega)]
   simp[go_sem];refine go true ?_;simp[go_sem];rw[hz];exact aj sc
theorem wH(c:Option Nat)(n:Nat)(g:Nat->iE)(m:iE)(hn:n<1000000000):aA prog 323 [.d (SL c 6 iE.enc n g),.agg (m.enc.map .d)] σ (.eU [.d (SL none 6 iE.enc (if Pg n g m=0 then n+1 else 0) (aV g n m)),.d (I (Pg n g m))]):=by
 refine aA.bd true func323 fun hwf=> ?_;simp[go_sem];have h:=nA (wV (σ++[.var (m.enc.map .d)]) c n g hn);refine aO.gen h ?_;rintro r σ' X ⟨υ,rfl,rfl,rfl⟩;simp[go_sem];refine aJ [0,3,6] ?_ ?_<;>intro c0 d0
 ·have hz:Pg n g m=1:=by unfold Pg;rw[if_pos (by simpa using d0)]
  simp[go_sem];refine aj ?_;rw[hz];simp[go_sem,Go.aU.bC]
 ·simp[go_sem];refine aJ [0,3,6] ?_ ?_<;>intro c1 d1
  ·have hz:Pg n g m=12:=by unfold Pg;rw[if_neg (by simpa using d0),if_pos (by omega)]
   simp[go_sem];refine aj ?_;rw[hz];simp[go_sem,Go.aU.bC]
  ·have hz0:Pg n g m=su (bF n g).2 m:=by unfold Pg;rw[if_neg (by simpa using d0),if_neg (by omega)]
   simp[go_sem];have h:=nA (Fe (σ++[.var (m.enc.map .d)]) υ (bF n g).2 m (BQ n g));refine aO.gen h ?_;rintro r σ' X ⟨rfl,rfl,rfl⟩;simp[go_sem];refine aJ [0,3,8] ?_ ?_<;>intro c2 d2
   ·simp[go_sem];refine aj ?_;rw[hz0,if_neg (by simpa using d2)];simp[go_sem,Go.aU.bC]
   ·have hz:Pg n g m=0:=by rw[hz0];simpa using d2
    simp[go_sem];apply pV 4 1 84 (.ms (σ.length+(υ.length+1+1+1)) 6 0 n) (.arr 6 n (fun i=>iE.enc (g i))) T.mixed (by kernel_rfl)
    ·intro τ K hK;simp[go_sem];exact hK _ _
    ·simp[go_sem];exact CS.mono (XM _ c n g hn) (by rintro r σ' X ⟨rfl,rfl,rfl⟩;simp[iE.enc])
    intro K hK;simp[go_sem,hwf.one];repeat refine⟨by omega,?_⟩
    refine hK _ ?_;refine go true ?_;simp[go_sem];refine bK (σ.length+(υ.length+1+1+1)) (by simp[go_sem];exact⟨rfl,rfl,rfl⟩) (by simp[go_sem];rfl) (by simp[go_sem,hwf.sZ,hwf.qH];rfl) ?_;refine aj ?_;rw[hz];simp[go_sem];exact JM (enc:=iE.enc) (x:=m) rfl
end Go.Proofs.YtmahphgjkpgidaaGreatDoor
