/- Contracts and lemmas, joined out of smaller texts by a program; no conditions. -/
import Derived.Test.YtmahphgjkpgidaaGreatDoorKB15
set_option linter.unusedVariables false
set_option linter.unusedSimpArgs false
set_option maxHeartbeats 1000000
set_option maxRecDepth 100000
namespace Go.Proofs.YtmahphgjkpgidaaGreatDoor
open Go.aU
open Classical in
theorem rG{α:Type}(l:List α):xk l l=true:=Xu.2 rfl
open Go.Proofs.Tryz
variable (σ : List aG)
def TY(n lo hi:Int):Bool:=decide (lo<=n)&&decide (n<=hi)
def memI(n:Nat)(g:Nat->Int)(k:Int):Bool:=(lst n g).any fun x=>k==x
theorem memI_iff(n:Nat)(g:Nat->Int)(k:Int):memI n g k=true↔∃i,i<n/\g i=k:=by
 unfold memI;simp only[lst,List.any_map,List.any_eq_true,List.mem_range,Function.comp,beq_iff_eq];exact⟨fun⟨i,h1,h2⟩=>⟨i,h1,h2.symm⟩,fun⟨i,h1,h2⟩=>⟨i,h1,h2.symm⟩⟩
structure fU where
 ID:Int
 Day:Int
 State:Int
 Round:Int
 sQ:Int
 Accept:Int
 nu:Nat
 u:Nat->Int
 nb:Nat
 b:Nat->Int
def fU.enc(x:fU):List D:=[I x.ID,I x.Day,I x.State,I x.Round,I x.sQ,I x.Accept,SL none 1 encI x.nu x.u,SL none 1 encI x.nb x.b]
structure lD where
 mM:Int
 Unit:Int
 deriving DecidableEq,Inhabited
def lD.enc(x:lD):List D:=[I x.mM,I x.Unit]
attribute [go_sem] encI fU.enc lD.enc
def idB(n:Int):Bool:=TY n 1 1073741824
def qg(b:fU):Bool:=
 if b.State=1 then decide (b.Round=0)&&decide ((b.nb:Int)=0)
 else if b.State=2 then decide (1<=b.Round)&&decide ((b.nb:Int)=0)
 else if b.State=3 then decide (1<=b.Round)&&decide ((b.nb:Int)<=b.Accept)
 else if b.State=4 then decide (1<=b.Round)&&decide (b.Accept<(b.nb:Int)) else false
def fewB(b:fU):Bool:=decide ((b.nu:Int)<=70)&&decide ((b.nb:Int)<=70)
theorem jD(n lo up:Int):aA prog 143 [.d (I n),.d (I lo),.d (I up)] σ (.d (B (TY n lo up))):=by
 refine aA.bs true func143 fun hwf=> ?_;refine aj ?_;simp[go_sem,TY]<;>omega
theorem pF(n:Int):aA prog 142 [.d (I n)] σ (.d (B (idB n))):=by
 refine aA.bs true func142 fun hwf=> ?_;refine aO.mk (jD _ n 1 1073741824) (sm ?_);refine aj ?_;simp[go_sem,idB]<;>omega
theorem EJ(n:Int):aA prog 145 [.d (I n)] σ (.d (B (!idB n))):=by
 refine aA.bs true func145 fun hwf=> ?_;refine aO.mk (pF _ n) (sm ?_);exact aj so
theorem WB(b:fU)(hn:b.nu<=9223372036854775807)(hm:b.nb<=9223372036854775807):aA prog 31 [.agg (b.enc.map .d)] σ (.d (B (fewB b))):=by
 refine aA.bs true func31 fun hwf=> ?_;refine aj ?_;simp[go_sem,fewB]
theorem Lp(b:fU)(hn:b.nu<1000000000)(hm:b.nb<1000000000):aA prog 149 [.agg (b.enc.map .d)] σ (.d (B (qg b))):=by
 refine aA.bs true func149 fun hwf=> ?_;refine aJ [1,4] ?_ ?_<;>intro c0 d0
 ·simp[go_sem];refine aj ?_;have e:qg b=(b.Round==0&&(b.nb:Int)==0):=by
   rw[Bool.eq_iff_iff];simp[qg,d0]<;>omega
  rw[e];simp[go_sem]
 ·simp[go_sem];refine aJ [1,4] ?_ ?_<;>intro c1 d1
  ·simp[go_sem];refine aj ?_;have e:qg b=(decide (1<=b.Round)&&(b.nb:Int)==0):=by
    rw[Bool.eq_iff_iff];simp[qg,d1]<;>omega
   rw[e];simp[go_sem]
  ·simp[go_sem];refine aJ [1,4] ?_ ?_<;>intro c2 d2
   ·simp[go_sem];refine aj ?_;have e:qg b=(decide (1<=b.Round)&&decide ((b.nb:Int)<=b.Accept)):=by
     rw[Bool.eq_iff_iff];simp[qg,d2]<;>omega
    rw[e];simp[go_sem]
   ·simp[go_sem];refine aJ [1] ?_ ?_<;>intro c3 d3
    ·simp[go_sem];refine aj ?_;have e:qg b=(decide (1<=b.Round)&&decide (b.Accept<(b.nb:Int))):=by
      rw[Bool.eq_iff_iff];simp[qg,d3]<;>omega
     rw[e];simp[go_sem]
    ·simp[go_sem];refine aj ?_;have e:qg b=false:=by
      rw[Bool.eq_iff_iff];simp[qg,d0,d1,d2,d3]<;>omega
     rw[e];simp[go_sem]
theorem kW(c:Option Nat)(n:Nat)(g:Nat->Int)(hn:n<1000000000):aA prog 146 [.d (SL c 1 encI n g)] σ (.d (B (qO g n))):=by
 refine aA.bs true func146 fun hwf=> ?_;refine kQ (α:=Nat) true [0,5,6] (fun i=>[(6,.d (I i))]) (fun i=>_) (fun i=>i<=n/\∀q,0<q->q<i->g (q-1)<g q) (fun i=>n-i) 0 ?_;rintro i ⟨hi,hx⟩;simp[go_sem];refine aJ [0,5,6] ?_ ?_<;>intro c0 d0
 ·simp[go_sem];refine T.dr 14 fun K hK=> ?_;simp[go_sem,dn (i:=i) (by omega)];repeat refine⟨by omega,?_⟩
  refine hK _ ?_;refine go true ?_;simp[go_sem];refine aJ [0,5,6] ?_ ?_<;>intro c1 d1
  ·simp[go_sem];rw[asc_no d0 d1.1 d1.2];exact aj sc
  ·simp(disch:=first|omega|simp) [go_sem,aH];refine gB (i+1) ⟨by omega,Tm hx d1⟩ (h:=by simp[go_sem]<;>omega)
 ·obtain rfl:i=n:=by omega
  simp[go_sem];refine go true ?_;simp[go_sem];rw[Yb hx];exact aj sc
theorem ZU(c:Option Nat)(n:Nat)(g:Nat->Int)(f:FuncId)(cap:List AV)(p:Int->Bool)(hn:n<1000000000)(hf: ∀i,i<n->aA prog f (.d (I (g i))::cap) σ (.d (B (p (g i))))):aA prog 223 [.d (SL c 1 encI n g),.clo (.func f) [] cap] σ (.d (I (idxFrom p (lst n g) 0))):=by
 refine aA.bs true func223 fun hwf=> ?_;refine kQ (α:=Nat) true [0,1,7,8] (fun i=>[(8,.d (I i))]) (fun i=>_) (fun i=>i<=n/\idxFrom p (lst n g) 0=idxFrom p ((lst n g).drop i) i) (fun i=>n-i) 0 ?_;rintro i ⟨hi,hx⟩;simp[go_sem];refine aJ [0,1,7,8] ?_ ?_<;>intro c0 d0
 ·rw[gX d0,idxFrom] at hx;simp[go_sem];repeat refine⟨by omega,?_⟩
  refine aO.mk (hf i d0) (sm ?_);refine aJ [0,1,5,7,8] ?_ ?_<;>intro c1 d1
  ·simp[go_sem];refine aj ?_;simp[go_sem,hx,c1]<;>omega
  ·simp(disch:=first|omega|simp) [go_sem,aH];refine gB (i+1) ⟨by omega,by rw[hx,c1];simp⟩ (h:=by simp[go_sem]<;>omega)
 ·rw[gY d0,idxFrom] at hx;simp[go_sem];refine go true (sm ?_);refine aj ?_;simp[go_sem,hx]<;>omega
theorem pG(c:Option Nat)(n:Nat)(g:Nat->Int)(f:FuncId)(cap:List AV)(p:Int->Bool)(hn:n<1000000000)(hf: ∀i,i<n->aA prog f (.d (I (g i))::cap) σ (.d (B (p (g i))))):aA prog 144 [.d (SL c 1 encI n g),.clo (.func f) [] cap] σ (.d (B ((lst n g).any p))):=by
 refine aA.bs true func144 fun hwf=> ?_;refine aO.mk (ZU _ c n g f cap p hn hf) (sm ?_);refine aj ?_;simp[go_sem,mY]<;>omega
theorem ZT(c:Option Nat)(n:Nat)(g:Nat->lD)(f:FuncId)(cap:List AV)(p:lD->Bool)(hn:n<1000000000)(hf: ∀i,i<n->aA prog f (.agg ((g i).enc.map .d)::cap) σ (.d (B (p (g i))))):aA prog 369 [.d (SL c 2 lD.enc n g),.clo (.func f) [] cap] σ (.d (I (idxFrom p (lst n g) 0))):=by
 refine aA.bs true func369 fun hwf=> ?_;refine kQ (α:=Nat) true [0,1,7,8] (fun i=>[(8,.d (I i))]) (fun i=>_) (fun i=>i<=n/\idxFrom p (lst n g) 0=idxFrom p ((lst n g).drop i) i) (fun i=>n-i) 0 ?_;rintro i ⟨hi,hx⟩;simp[go_sem];refine aJ [0,1,7,8] ?_ ?_<;>intro c0 d0
 ·rw[gX d0,idxFrom] at hx;simp[go_sem];repeat refine⟨by omega,?_⟩
  refine aO.mk (hf i d0) (sm ?_);refine aJ [0,1,5,7,8] ?_ ?_<;>intro c1 d1
  ·simp[go_sem];refine aj ?_;simp[go_sem,hx,c1]<;>omega
  ·simp(disch:=first|omega|simp) [go_sem,aH];refine gB (i+1) ⟨by omega,by rw[hx,c1];simp⟩ (h:=by simp[go_sem]<;>omega)
 ·rw[gY d0,idxFrom] at hx;simp[go_sem];refine go true (sm ?_);refine aj ?_;simp[go_sem,hx]<;>omega
theorem SG(c:Option Nat)(n:Nat)(g:Nat->lD)(f:FuncId)(cap:List AV)(p:lD->Bool)(hn:n<1000000000)(hf: ∀i,i<n->aA prog f (.agg ((g i).enc.map .d)::cap) σ (.d (B (p (g i))))):aA prog 335 [.d (SL c 2 lD.enc n g),.clo (.func f) [] cap] σ (.d (B ((lst n g).any p))):=by
 refine aA.bs true func335 fun hwf=> ?_;refine aO.mk (ZT _ c n g f cap p hn hf) (sm ?_);refine aj ?_;simp[go_sem,mY]<;>omega
theorem XP(c:Option Nat)(n:Nat)(g:Nat->Int)(hn:n<1000000000):CS prog 43 [.d (SL c 1 encI n g)] σ (fun r σ' X=>r= .ms σ.length 1 0 n/\σ'=σ++[.arr 1 n fun i=>encI (g i)]/\X=[]):=by
 refine CS.VD true func43 fun hwf=> ?_;simp[go_sem,-Bool.forall_bool];try intro b1 hb1
 refine fZ ?_ ?_<;>intro c0 d0
 ·simp[go_sem];refine dG 2 1 (fun i=>encI (g i)) (by simp[go_sem]) (by simp[go_sem];rfl) ?_;refine aj ?_;obtain rfl:=hb1 c0;simp[go_sem]
 ·simp[go_sem];repeat refine⟨by omega,?_⟩
  exact aj so
theorem cloneLnk_cs(c:Option Nat)(n:Nat)(g:Nat->lD)(hn:n<1000000000):aA prog 88 [.d (SL c 2 lD.enc n g)] σ (.d (SL none 2 lD.enc n g)):=by
 refine aA.bd true func88 fun hwf=> ?_;simp[go_sem,-Bool.forall_bool];try intro b1 hb1
 refine fZ ?_ ?_<;>intro c0 d0
 ·simp[go_sem];refine aj ?_;have:=hb1 c0;simp[go_sem,this]
 ·simp[go_sem];repeat refine⟨by omega,?_⟩
  refine bK (σ.length) (by simp[go_sem];exact⟨rfl,rfl,rfl⟩) (by simp[go_sem];rfl) (by simp[go_sem,hwf.sZ,hwf.qH];rfl) ?_;exact aj so
theorem XO(c:Option Nat)(n:Nat)(g:Nat->lD)(hn:n<1000000000):CS prog 88 [.d (SL c 2 lD.enc n g)] σ (fun r σ' X=>r= .ms σ.length 2 0 n/\σ'=σ++[.arr 2 n fun i=>lD.enc (g i)]/\X=[]):=by
 refine CS.VD true func88 fun hwf=> ?_;simp[go_sem,-Bool.forall_bool];try intro b1 hb1
 refine fZ ?_ ?_<;>intro c0 d0
 ·simp[go_sem];refine dG 2 2 (fun i=>lD.enc (g i)) (by simp[go_sem]) (by simp[go_sem];rfl) ?_;refine aj ?_;obtain rfl:=hb1 c0;simp[go_sem]
 ·simp[go_sem];repeat refine⟨by omega,?_⟩
  exact aj so
end Go.Proofs.YtmahphgjkpgidaaGreatDoor
