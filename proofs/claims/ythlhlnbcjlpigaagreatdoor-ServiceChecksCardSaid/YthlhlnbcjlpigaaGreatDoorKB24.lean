/- Contracts and lemmas, joined out of smaller texts by a program; no conditions. -/
import Derived.Test.YthlhlnbcjlpigaaGreatDoorKB23
set_option linter.unusedVariables false
set_option linter.unusedSimpArgs false
set_option maxHeartbeats 1000000
set_option maxRecDepth 100000
namespace Go.Proofs.YthlhlnbcjlpigaaGreatDoor
open Go.aU Go.bY Go.Proofs.Tryz
variable (σ : List aC)
structure iy where
 ID:Int
 Reader:Int
 In:Span
instance:Inhabited iy:=⟨⟨0,0,⟨0,0⟩⟩⟩
def iy.enc(b:iy):List D:=[I b.ID,I b.Reader,I b.In.From,I b.In.Until]
attribute [simp] iy.enc
def nN(s:Span):Bool:=decide (0<=s.From)&&decide (s.From<s.Until)&&decide (s.Until<=1048576)
def DL(a b:Span):Bool:=decide (a.From<b.Until)&&decide (b.From<a.Until)
def XM(d:Int)(b:iy):Bool:=nN b.In&&decide (b.In.From<=d)&&decide (d<b.In.Until)
def gq(g:Nat->iy)(d:Int):Nat->Nat
 |0=>0
 |n+1=>if XM d (g n) then gq g d n+1 else gq g d n
theorem zK(g:Nat->iy)(d:Int): ∀n,gq g d n<=n
 |0=>Nat.le_refl _
 |n+1=>by rw[gq];have:=zK g d n;split<;>omega
def Tj(n:Nat)(g:Nat->iy)(r:Int)(s:Span):Bool:=(lst n g).any fun b=>b.Reader==r&&DL b.In s
def stP(s:Span)(b:iy):Bool:=nN b.In&&decide (s.From<b.In.From)&&decide (b.In.From<s.Until)
def BJ(g:Nat->iy)(s:Span):Nat->List Int
 |0=>[s.From]
 |n+1=>if stP s (g n) then BJ g s n++[(g n).In.From] else BJ g s n
theorem Lj(g:Nat->iy)(s:Span): ∀n,0<(BJ g s n).length/\(BJ g s n).length<=n+1
 |0=>by simp[BJ]
 |n+1=>by rw[BJ];have:=Lj g s n;split<;>(try simp)<;>omega
theorem Ya(c:Option Nat)(n:Nat)(g:Nat->iy)(f:FuncId)(cap:List AV)(p:iy->Bool)(hn:n<1000000000)(hf: ∀i,i<n->ay prog f (.agg ((g i).enc.map .d)::cap) σ (.d (B (p (g i))))):ay prog 338 [.d (SL c 4 iy.enc n g),.clo (.func f) [] cap] σ (.d (I (idxFrom p (lst n g) 0))):=by
 refine ay.bs true func338 fun hwf=> ?_;refine gy (α:=Nat) true [0,1,7,8] (fun i=>[(8,.d (I i))]) (fun i=>_) (fun i=>i<=n/\idxFrom p (lst n g) 0=idxFrom p ((lst n g).drop i) i) (fun i=>n-i) 0 ?_;rintro i ⟨hi,hx⟩;simp[go_sem];refine aH [0,1,7,8] ?_ ?_<;>intro c0 d0
 ·rw[fE d0,idxFrom] at hx;simp[go_sem];repeat refine⟨by omega,?_⟩
  refine aW.mk (hf i d0) (sm ?_);refine aH [0,1,5,7,8] ?_ ?_<;>intro c1 d1
  ·simp[go_sem];refine aj ?_;simp[go_sem,hx,c1]<;>omega
  ·simp(disch:=first|omega|simp) [go_sem,aA];refine dB (i+1) ⟨by omega,by rw[hx,c1];simp⟩ (h:=by simp[go_sem]<;>omega)
 ·rw[fF d0,idxFrom] at hx;simp[go_sem];refine go true (sm ?_);refine aj ?_;simp[go_sem,hx]<;>omega
theorem rW(c:Option Nat)(n:Nat)(g:Nat->iy)(f:FuncId)(cap:List AV)(p:iy->Bool)(hn:n<1000000000)(hf: ∀i,i<n->ay prog f (.agg ((g i).enc.map .d)::cap) σ (.d (B (p (g i))))):ay prog 284 [.d (SL c 4 iy.enc n g),.clo (.func f) [] cap] σ (.d (B ((lst n g).any p))):=by
 refine ay.bs true func284 fun hwf=> ?_;refine aW.mk (Ya _ c n g f cap p hn hf) (sm ?_);refine aj ?_;simp[go_sem,lC]<;>omega
theorem cloneBkg_cs(c:Option Nat)(n:Nat)(g:Nat->iy)(hn:n<1000000000):ay prog 106 [.d (SL c 4 iy.enc n g)] σ (.d (SL none 4 iy.enc n g)):=by
 refine ay.bd true func106 fun hwf=> ?_;simp[go_sem,-Bool.forall_bool];try intro b1 hb1
 refine jT ?_ ?_<;>intro c0 d0
 ·simp[go_sem];refine aj ?_;have:=hb1 c0;simp[go_sem,this]
 ·simp[go_sem];repeat refine⟨by omega,?_⟩
  refine dM (σ.length) (by simp[go_sem];exact⟨rfl,rfl,rfl⟩) (by simp[go_sem];rfl) (by simp[go_sem,hwf.uN,hwf.yL];rfl) ?_;exact aj so
theorem VJ(c:Option Nat)(n:Nat)(g:Nat->iy)(hn:n<1000000000):CS prog 106 [.d (SL c 4 iy.enc n g)] σ (fun r σ' X=>r= .ms σ.length 4 0 n/\σ'=σ++[.arr 4 n fun i=>iy.enc (g i)]/\X=[]):=by
 refine CS.Zh true func106 fun hwf=> ?_;simp[go_sem,-Bool.forall_bool];try intro b1 hb1
 refine jT ?_ ?_<;>intro c0 d0
 ·simp[go_sem];refine dn 2 4 (fun i=>iy.enc (g i)) (by simp[go_sem]) (by simp[go_sem];rfl) ?_;refine aj ?_;obtain rfl:=hb1 c0;simp[go_sem]
 ·simp[go_sem];repeat refine⟨by omega,?_⟩
  exact aj so
theorem DF(n:Int):ay prog 234 [.d (I n)] σ (.d (B (jS n))):=by
 refine ay.bs true func234 fun hwf=> ?_;refine aj ?_;simp[go_sem,jS,jy]<;>omega
theorem mV(s:Span):ay prog 235 [.agg [.d (I s.From),.d (I s.Until)]] σ (.d (B (nN s))):=by
 refine ay.bs true func235 fun hwf=> ?_;refine aj ?_;simp[go_sem,nN]
theorem Kz(a b:Span):ay prog 306 [.agg [.d (I a.From),.d (I a.Until)],.agg [.d (I b.From),.d (I b.Until)]] σ (.d (B (DL a b))):=by
 refine ay.bs true func306 fun hwf=> ?_;refine aj ?_;simp[go_sem,DL]<;>omega
theorem KD(c:Option Nat)(n:Nat)(g:Nat->iy)(d:Int)(hn:n<1000000000):ay prog 309 [.d (SL c 4 iy.enc n g),.d (I d)] σ (.d (I (gq g d n))):=by
 refine ay.bs true func309 fun hwf=> ?_;refine zJ (α:=Nat) true [1,5,8,9,10] (fun i=>[(10,.d (I i)),(5,.d (I (gq g d i)))]) (fun i=>_) (fun i=>i<=n) (fun i=>n-i) 0 (by simp[go_sem,gq]) (rfl) (by simp) ?_;rintro i hi;simp[go_sem];refine aH [1,5,8,9,10] ?_ ?_<;>intro c0 d0
 ·simp[go_sem];repeat refine⟨by omega,?_⟩
  refine aW.mk (mV _ (g i).In) (sm ?_);refine aH [1,5,8,9,10] ?_ ?_<;>intro c1 d1
  ·have hs:gq g d (i+1)=gq g d i+1:=by rw[gq,if_pos (by simpa[XM] using c1)]
   have hw1:=wrap_succ (i:=gq g d i) (by have:=zK g d i;omega);simp(disch:=first|omega|simp) [go_sem,hw1,aA];refine dB (i+1) (by omega) (h:=by simp[go_sem,hs]<;>omega)
  ·have hs:gq g d (i+1)=gq g d i:=by rw[gq,if_neg (by simpa[XM] using c1)]
   simp(disch:=first|omega|simp) [go_sem,aA];refine dB (i+1) (by omega) (h:=by simp[go_sem,hs]<;>omega)
 ·obtain rfl:i=n:=by omega
  simp[go_sem];refine go true (sm ?_);exact aj so
theorem FD(τ:List aC)(b:iy)(r:Int)(s:Span):ay prog 305 [.agg (b.enc.map .d),.ptr σ.length 0,.ptr (σ.length+1) 0] (σ++ .var [.d (I r)]:: .var [.d (I s.From),.d (I s.Until)]::τ) (.d (B (b.Reader==r&&DL b.In s))):=by
 refine ay.bs true func305 fun hwf=> ?_;refine fA.mk' (.d (B (DL b.In s))) (fun _=>Kz _ b.In s) (sm ?_);exact aj so
theorem KC(c:Option Nat)(n:Nat)(g:Nat->iy)(r:Int)(s:Span)(hn:n<1000000000):ay prog 236 [.d (SL c 4 iy.enc n g),.d (I r),.agg [.d (I s.From),.d (I s.Until)]] σ (.d (B (Tj n g r s))):=by
 refine ay.bs true func236 fun hwf=> ?_;refine aW.mk ((show ay prog 284 _ _ (.d (B (Tj n g r s))) from rW _ c n g _ _ (fun b=>b.Reader==r&&DL b.In s) hn (fun i hi=>FD σ [] (g i) r s))) (sm ?_);exact aj so
end Go.Proofs.YthlhlnbcjlpigaaGreatDoor
