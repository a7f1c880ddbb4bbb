/- Contracts and lemmas, joined out of smaller texts by a program; no conditions. -/
import Derived.Test.YthlhlnbcjlpigaaGreatDoorKB12
set_option linter.unusedVariables false
set_option linter.unusedSimpArgs false
set_option maxHeartbeats 1000000
set_option maxRecDepth 100000
namespace Go.Proofs.YthlhlnbcjlpigaaGreatDoor
open Go.aU
open Classical in
theorem pz{α:Type}(l:List α):xI l l=true:=Vh.2 rfl
theorem UN{α β:Type}[Inhabited α][Inhabited β](f:α->β){L:List α}{i:Nat}(h:i<L.length):nth (L.map f) i=f (nth L i):=by simp[nth,h]
theorem nth_mem{α:Type}[Inhabited α]{L:List α}{i:Nat}(h:i<L.length):nth L i∈L:=by rw[zI h];exact List.getElem_mem h
open Go.Proofs.Tryz
variable (σ : List aC)
def QL(n lo hi:Int):Bool:=decide (lo<=n)&&decide (n<=hi)
def Eu(n:Nat)(g:Nat->Int)(k:Int):Bool:=(lst n g).any fun x=>k==x
theorem Oy(n:Nat)(g:Nat->Int)(k:Int):Eu n g k=true↔∃i,i<n/\g i=k:=by
 unfold Eu;simp only[lst,List.any_map,List.any_eq_true,List.mem_range,Function.comp,beq_iff_eq];exact⟨fun⟨i,h1,h2⟩=>⟨i,h1,h2.symm⟩,fun⟨i,h1,h2⟩=>⟨i,h1,h2.symm⟩⟩
structure nJ where
 ID:Int
 Day:Int
 State:Int
 Round:Int
 kS:Int
 Accept:Int
 nu:Nat
 u:Nat->Int
 nb:Nat
 b:Nat->Int
def nJ.enc(x:nJ):List D:=[I x.ID,I x.Day,I x.State,I x.Round,I x.kS,I x.Accept,SL none 1 encI x.nu x.u,SL none 1 encI x.nb x.b]
structure H6 where
 BD:Int
 Unit:Int
 deriving DecidableEq,Inhabited
def H6.enc(x:H6):List D:=[I x.BD,I x.Unit]
attribute [go_sem] encI nJ.enc H6.enc
def idB(n:Int):Bool:=QL n 1 1073741824
def jF(b:nJ):Bool:=
 if b.State=1 then decide (b.Round=0)&&decide ((b.nb:Int)=0)
 else if b.State=2 then decide (1<=b.Round)&&decide ((b.nb:Int)=0)
 else if b.State=3 then decide (1<=b.Round)&&decide ((b.nb:Int)<=b.Accept)
 else if b.State=4 then decide (1<=b.Round)&&decide (b.Accept<(b.nb:Int)) else false
def fewB(b:nJ):Bool:=decide ((b.nu:Int)<=70)&&decide ((b.nb:Int)<=70)
theorem jd(n lo up:Int):ay prog 168 [.d (I n),.d (I lo),.d (I up)] σ (.d (B (QL n lo up))):=by
 refine ay.bs true func168 fun hwf=> ?_;refine aj ?_;simp[go_sem,QL]<;>omega
theorem ng(n:Int):ay prog 167 [.d (I n)] σ (.d (B (idB n))):=by
 refine ay.bs true func167 fun hwf=> ?_;refine aW.mk (jd _ n 1 1073741824) (sm ?_);refine aj ?_;simp[go_sem,idB]<;>omega
theorem CZ(n:Int):ay prog 170 [.d (I n)] σ (.d (B (!idB n))):=by
 refine ay.bs true func170 fun hwf=> ?_;refine aW.mk (ng _ n) (sm ?_);exact aj so
theorem Uk(b:nJ)(hn:b.nu<=9223372036854775807)(hm:b.nb<=9223372036854775807):ay prog 22 [.agg (b.enc.map .d)] σ (.d (B (fewB b))):=by
 refine ay.bs true func22 fun hwf=> ?_;refine aj ?_;simp[go_sem,fewB]
theorem IX(b:nJ)(hn:b.nu<1000000000)(hm:b.nb<1000000000):ay prog 174 [.agg (b.enc.map .d)] σ (.d (B (jF b))):=by
 refine ay.bs true func174 fun hwf=> ?_;refine aH [1,4] ?_ ?_<;>intro c0 d0
 ·simp[go_sem];refine aj ?_;have e:jF b=(b.Round==0&&(b.nb:Int)==0):=by
   rw[Bool.eq_iff_iff];simp[jF,d0]<;>omega
  rw[e];simp[go_sem]
 ·simp[go_sem];refine aH [1,4] ?_ ?_<;>intro c1 d1
  ·simp[go_sem];refine aj ?_;have e:jF b=(decide (1<=b.Round)&&(b.nb:Int)==0):=by
    rw[Bool.eq_iff_iff];simp[jF,d1]<;>omega
   rw[e];simp[go_sem]
  ·simp[go_sem];refine aH [1,4] ?_ ?_<;>intro c2 d2
   ·simp[go_sem];refine aj ?_;have e:jF b=(decide (1<=b.Round)&&decide ((b.nb:Int)<=b.Accept)):=by
     rw[Bool.eq_iff_iff];simp[jF,d2]<;>omega
    rw[e];simp[go_sem]
   ·simp[go_sem];refine aH [1] ?_ ?_<;>intro c3 d3
    ·simp[go_sem];refine aj ?_;have e:jF b=(decide (1<=b.Round)&&decide (b.Accept<(b.nb:Int))):=by
      rw[Bool.eq_iff_iff];simp[jF,d3]<;>omega
     rw[e];simp[go_sem]
    ·simp[go_sem];refine aj ?_;have e:jF b=false:=by
      rw[Bool.eq_iff_iff];simp[jF,d0,d1,d2,d3]<;>omega
     rw[e];simp[go_sem]
theorem pF(c:Option Nat)(n:Nat)(g:Nat->Int)(hn:n<1000000000):ay prog 171 [.d (SL c 1 encI n g)] σ (.d (B (lV g n))):=by
 refine ay.bs true func171 fun hwf=> ?_;refine gy (α:=Nat) true [0,5,6] (fun i=>[(6,.d (I i))]) (fun i=>_) (fun i=>i<=n/\∀q,0<q->q<i->g (q-1)<g q) (fun i=>n-i) 0 ?_;rintro i ⟨hi,hx⟩;simp[go_sem];refine aH [0,5,6] ?_ ?_<;>intro c0 d0
 ·simp[go_sem];refine T.dr 14 fun K hK=> ?_;simp[go_sem,aZ (i:=i) (by omega)];repeat refine⟨by omega,?_⟩
  refine hK _ ?_;refine go true ?_;simp[go_sem];refine aH [0,5,6] ?_ ?_<;>intro c1 d1
  ·simp[go_sem];rw[P6 d0 d1.1 d1.2];exact aj sc
  ·simp(disch:=first|omega|simp) [go_sem,aA];refine dB (i+1) ⟨by omega,AY hx d1⟩ (h:=by simp[go_sem]<;>omega)
 ·obtain rfl:i=n:=by omega
  simp[go_sem];refine go true ?_;simp[go_sem];rw[Hf hx];exact aj sc
theorem X9(c:Option Nat)(n:Nat)(g:Nat->Int)(f:FuncId)(cap:List AV)(p:Int->Bool)(hn:n<1000000000)(hf: ∀i,i<n->ay prog f (.d (I (g i))::cap) σ (.d (B (p (g i))))):ay prog 238 [.d (SL c 1 encI n g),.clo (.func f) [] cap] σ (.d (I (idxFrom p (lst n g) 0))):=by
 refine ay.bs true func238 fun hwf=> ?_;refine gy (α:=Nat) true [0,1,7,8] (fun i=>[(8,.d (I i))]) (fun i=>_) (fun i=>i<=n/\idxFrom p (lst n g) 0=idxFrom p ((lst n g).drop i) i) (fun i=>n-i) 0 ?_;rintro i ⟨hi,hx⟩;simp[go_sem];refine aH [0,1,7,8] ?_ ?_<;>intro c0 d0
 ·rw[fE d0,idxFrom] at hx;simp[go_sem];repeat refine⟨by omega,?_⟩
  refine aW.mk (hf i d0) (sm ?_);refine aH [0,1,5,7,8] ?_ ?_<;>intro c1 d1
  ·simp[go_sem];refine aj ?_;simp[go_sem,hx,c1]<;>omega
  ·simp(disch:=first|omega|simp) [go_sem,aA];refine dB (i+1) ⟨by omega,by rw[hx,c1];simp⟩ (h:=by simp[go_sem]<;>omega)
 ·rw[fF d0,idxFrom] at hx;simp[go_sem];refine go true (sm ?_);refine aj ?_;simp[go_sem,hx]<;>omega
theorem rU(c:Option Nat)(n:Nat)(g:Nat->Int)(f:FuncId)(cap:List AV)(p:Int->Bool)(hn:n<1000000000)(hf: ∀i,i<n->ay prog f (.d (I (g i))::cap) σ (.d (B (p (g i))))):ay prog 169 [.d (SL c 1 encI n g),.clo (.func f) [] cap] σ (.d (B ((lst n g).any p))):=by
 refine ay.bs true func169 fun hwf=> ?_;refine aW.mk (X9 _ c n g f cap p hn hf) (sm ?_);refine aj ?_;simp[go_sem,lC]<;>omega
theorem VH(c:Option Nat)(n:Nat)(g:Nat->Int)(hn:n<1000000000):CS prog 100 [.d (SL c 1 encI n g)] σ (fun r σ' X=>r= .ms σ.length 1 0 n/\σ'=σ++[.arr 1 n fun i=>encI (g i)]/\X=[]):=by
 refine CS.Zh true func100 fun hwf=> ?_;simp[go_sem,-Bool.forall_bool];try intro b1 hb1
 refine jT ?_ ?_<;>intro c0 d0
 ·simp[go_sem];refine dn 2 1 (fun i=>encI (g i)) (by simp[go_sem]) (by simp[go_sem];rfl) ?_;refine aj ?_;obtain rfl:=hb1 c0;simp[go_sem]
 ·simp[go_sem];repeat refine⟨by omega,?_⟩
  exact aj so
end Go.Proofs.YthlhlnbcjlpigaaGreatDoor
