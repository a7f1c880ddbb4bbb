/- Contracts and lemmas, joined out of smaller texts by a program; no conditions. -/
import Derived.Test.YtmahphgjkpgidaaGreatDoorKB23
import Derived.Test.YtmahphgjkpgidaaGreatDoorKB24
set_option linter.unusedVariables false
set_option linter.unusedSimpArgs false
set_option maxHeartbeats 1000000
set_option maxRecDepth 100000
namespace Go.Proofs.YtmahphgjkpgidaaGreatDoor
open Go.aU Go.Proofs.Tryz
variable (σ : List aG)
attribute [go_sem] gq VL arrV_takeA arrV_dropA arrV_allOne arrV_at arrV_set arrV_at0 arrV_set0 Tn arrV_avoids arrV_scrub arrV_frzT arrV_underA
abbrev U(x:Int):D:= .v (.int .u64 x)
theorem wrapU{n:Int}(h0:0<=n)(h1:n<18446744073709551616):IntKind.u64.wrap n=n:=by
 rw[IntKind.wrap_u64];omega
def rotL:List Nat:=[0,1,62,28,27,36,44,6,55,20,3,10,43,25,39,41,45,15,21,8,18,2,61,56,14]
def rotN(i:Nat):Nat:=rotL.getD i 0
def Wy(i:Nat):Int:=rotN i
theorem rotN_lt(i:Nat):rotN i<64:=by
 unfold rotN;by_cases h:i<rotL.length
 ·have: ∀j:Fin 25,rotL.getD j.val 0<64:=by decide
  exact this ⟨i,h⟩
 ·rw[List.getD_eq_getElem?_getD,List.getElem?_eq_none (by omega)];decide
def rcL:List Int:=[0x0000000000000001,0x0000000000008082,0x800000000000808a,0x8000000080008000,0x000000000000808b,0x0000000080000001,0x8000000080008081,0x8000000000008009,0x000000000000008a,0x0000000000000088,0x0000000080008009,0x000000008000000a,0x000000008000808b,0x800000000000008b,0x8000000000008089,0x8000000000008003,0x8000000000008002,0x8000000000000080,0x000000000000800a,0x800000008000000a,0x8000000080008081,0x8000000000008080,0x0000000080000001,0x8000000080008008]
def rcF(i:Nat):Int:=rcL.getD i 0
def rotI(x:Int)(k:Nat):Int:=orI .u64 (shlI .u64 x k) (shrI .u64 x (64-(k:Int)))
theorem and63{k:Nat}(h:k<64):andI .u64 (k:Int) 63=k:=by
 have: ∀j:Fin 64,andI .u64 ((j.val:Nat):Int) 63=((j.val:Nat):Int):=by decide
 exact this ⟨k,h⟩
def dZ(a:Nat->Int):Nat->(Nat->Int)
 |0=>fun _=>0
 |i+1=>upd (dZ a i) (i%5) (FH .u64 (dZ a i (i%5)) (a i))
def wordP(a s:Nat->Int)(x y:Nat):Int:=FH .u64 (FH .u64 (a (x+5*y)) (s ((x+4)%5))) (rotI (s ((x+1)%5)) 1)
def bIn(a s:Nat->Int)(y:Nat)(b:Nat->Int):Nat->(Nat->Int)
 |0=>b
 |x+1=>upd (bIn a s y b x) (y+5*((2*x+3*y)%5)) (rotI (wordP a s x y) (rotN (x+5*y)))
def bOut(a s:Nat->Int):Nat->(Nat->Int)
 |0=>fun _=>0
 |y+1=>bIn a s y (bOut a s y) 5
def chiP(b:Nat->Int)(x y:Nat):Int:=FH .u64 (b (x+5*y)) (andI .u64 (comI .u64 (b ((x+1)%5+5*y))) (b ((x+2)%5+5*y)))
def oIn(b:Nat->Int)(y:Nat)(o:Nat->Int):Nat->(Nat->Int)
 |0=>o
 |x+1=>upd (oIn b y o x) (x+5*y) (chiP b x y)
def Xa(b:Nat->Int):Nat->(Nat->Int)
 |0=>fun _=>0
 |y+1=>oIn b y (Xa b y) 5
def Wx(a:Nat->Int)(c:Int):Nat->Int:=upd (Xa (bOut a (dZ a 25) 5) 5) 0 (FH .u64 (Xa (bOut a (dZ a 25) 5) 5 0) c)
def BX(s:Nat->Int):Nat->(Nat->Int)
 |0=>s
 |i+1=>Wx (BX s i) (rcF i)
theorem wk_5{y:Nat}(h:y<5):IntKind.i64.wrap (5*(y:Int))=5*(y:Int):=aH (by omega) (by omega)
theorem wk_xy{x y:Nat}(hx:x<5)(hy:y<5):IntKind.i64.wrap ((x:Int)+5*(y:Int))=(x:Int)+5*(y:Int):=aH (by omega) (by omega)
theorem wk_x4{x:Nat}(hx:x<5):IntKind.i64.wrap ((x:Int)+4)=(x:Int)+4:=aH (by omega) (by omega)
theorem wk_x1{x:Nat}(hx:x<5):IntKind.i64.wrap ((x:Int)+1)=(x:Int)+1:=aH (by omega) (by omega)
theorem wk_x2{x:Nat}(hx:x<5):IntKind.i64.wrap ((x:Int)+2)=(x:Int)+2:=aH (by omega) (by omega)
theorem md_x4{x:Nat} :((x:Int)+4).tmod 5=((x:Int)+4)%5:=GV (by omega)
theorem md_x1{x:Nat} :((x:Int)+1).tmod 5=((x:Int)+1)%5:=GV (by omega)
theorem md_x2{x:Nat} :((x:Int)+2).tmod 5=((x:Int)+2)%5:=GV (by omega)
theorem wk_c1{x y:Nat}(hy:y<5):IntKind.i64.wrap (((x:Int)+1)%5+5*(y:Int))=((x:Int)+1)%5+5*(y:Int):=aH (by omega) (by omega)
theorem wk_c2{x y:Nat}(hy:y<5):IntKind.i64.wrap (((x:Int)+2)%5+5*(y:Int))=((x:Int)+2)%5+5*(y:Int):=aH (by omega) (by omega)
theorem lt_xy{x y:Nat}(hx:x<5)(hy:y<5):x+5*y<25:=by omega
theorem le_xy{x y:Nat}(hx:x<5)(hy:y<5):x+5*y<=24:=by omega
theorem lt_m5(i:Nat):i%5<5:=Nat.mod_lt _ (by decide)
theorem le_m5(i:Nat):i%5<=4:=Nat.le_of_lt_succ (Nat.mod_lt _ (by decide))
theorem tn_mod5(i:Nat):((i:Int)%5).toNat=i%5:=by omega
theorem tn_xy(x y:Nat):((x:Int)+5*(y:Int)).toNat=x+5*y:=by omega
theorem tn_x4(x:Nat):(((x:Int)+4)%5).toNat=(x+4)%5:=by omega
theorem tn_x1(x:Nat):(((x:Int)+1)%5).toNat=(x+1)%5:=by omega
theorem tn_b(x y:Nat):((y:Int)+5*((2*(x:Int)+3*(y:Int))%5)).toNat=y+5*((2*x+3*y)%5):=by
 have h:((2*(x:Int)+3*(y:Int))%5)=(((2*x+3*y)%5:Nat):Int):=by omega
 rw[h];omega
theorem tn_c1(x y:Nat):(((x:Int)+1)%5+5*(y:Int)).toNat=(x+1)%5+5*y:=by omega
theorem tn_c2(x y:Nat):(((x:Int)+2)%5+5*(y:Int)).toNat=(x+2)%5+5*y:=by omega
theorem Za(x:Int)(k:Nat)(hk:k<64):aA prog 432 [.d (U x),.d (I k)] σ (.d (U (rotI x k))):=by
 have hw:IntKind.u64.wrap (k:Int)=k:=wrapU (by omega) (by omega);have ha:=and63 hk;have hs:IntKind.u64.wrap (64-(k:Int))=64-(k:Int):=wrapU (by omega) (by omega);refine aA.bd true func432 fun hwf=> ?_;simp(disch:=first|omega|simp) [go_sem,hw,ha,hs];repeat refine⟨by omega,?_⟩
 refine aj ?_;simp[go_sem,rotI]<;>omega
theorem EK:aA prog 406 [] σ (.agg (dH .i64 25 Wy)):=by
 refine aA.bs true func406 fun hwf=> ?_;refine aj ?_;simp[go_sem];exact yB (k:= .i64) (n:=25) (f:=Wy)
theorem EL:aA prog 407 [] σ (.agg (dH .u64 24 rcF)):=by
 refine aA.bs true func407 fun hwf=> ?_;refine aj ?_;simp[go_sem];exact yB (k:= .u64) (n:=24) (f:=rcF)
theorem O5(a:Nat->Int)(c:Int):aA prog 408 [.agg (dH .u64 25 a),.agg (dH .i64 25 Wy),.d (U c)] σ (.agg (dH .u64 25 (Wx a c))):=by
 refine aA.bd true func408 fun hwf=> ?_;simp[go_sem];refine Pz (α:=Nat) true [2,3,4,6,7,18,19] (fun i=>[(19,.d (I i))]) (fun i=>σ++[.var (dH .u64 25 a),.var (dH .i64 25 Wy),.var (dH .u64 25 fun _=>0),.var (dH .u64 5 (dZ a i))]) (fun i=>i<=25) (fun i=>25-i) 0 (by simp[go_sem]) (rfl) (by simp) ?_;rintro i hi;simp[go_sem];refine aJ [2,3,4,6,7,18,19] ?_ ?_<;>intro c0 d0
 ·have hi5:i<25:=by omega
  have ht:(i:Int).tmod 5=(i:Int)%5:=GV (by omega);have hsu:dZ a (i+1)=upd (dZ a i) (i%5) (FH .u64 (dZ a i (i%5)) (a i)):=rfl;simp(disch:=first|omega|simp) [go_sem,tn_mod5,le_m5,ht,aH];repeat refine⟨by omega,?_⟩
  refine gB (i+1) (by omega) (h:=by simp[go_sem]<;>omega) (hσ:=by simp[go_sem,hsu]) (hb:=au (by simp[go_sem]))
 ·obtain rfl:i=25:=by omega
  simp[go_sem];refine go true ?_;simp[go_sem];refine Pz (α:=Nat) true [2,3,4,6,7,10,31] (fun y=>[(31,.d (I y))]) (fun y=>σ++[.var (dH .u64 25 a),.var (dH .i64 25 Wy),.var (dH .u64 25 fun _=>0),.var (dH .u64 5 (dZ a 25)),.var (dH .u64 25 (bOut a (dZ a 25) y))]) (fun y=>y<=5) (fun y=>5-y) 0 (by simp[go_sem]) (rfl) (by simp) ?_;rintro y hy;simp[go_sem];refine aJ [2,3,4,6,7,10,31] ?_ ?_<;>intro c1 d1
  ·have hy5:y<5:=by omega
   simp[go_sem];refine Pz (α:=Nat) true [2,3,4,6,7,10,11,31,34] (fun x=>[(34,.d (I x))]) (fun x=>σ++[.var (dH .u64 25 a),.var (dH .i64 25 Wy),.var (dH .u64 25 fun _=>0),.var (dH .u64 5 (dZ a 25)),.var (dH .u64 25 (bIn a (dZ a 25) y (bOut a (dZ a 25) y) x))]) (fun x=>x<=5) (fun x=>5-x) 0 (by simp[go_sem]) (rfl) (by simp) ?_;rintro x hx;simp[go_sem];refine aJ [2,3,4,6,7,10,11,31,34] ?_ ?_<;>intro c2 d2
   ·have hx5:x<5:=by omega
    have hbu:bIn a (dZ a 25) y (bOut a (dZ a 25) y) (x+1)=upd (bIn a (dZ a 25) y (bOut a (dZ a 25) y) x) (y+5*((2*x+3*y)%5)) (rotI (wordP a (dZ a 25) x y) (rotN (x+5*y))):=rfl;have hwd:FH .u64 (FH .u64 (a (x+5*y)) (dZ a 25 ((x+4)%5))) (rotI (dZ a 25 ((x+1)%5)) 1)=wordP a (dZ a 25) x y:=rfl;simp(disch:=first|omega|simp) [go_sem,aH];refine T.dr 16 fun K hK=> ?_;simp[go_sem,tn_xy,tn_x4,tn_x1,lt_m5,le_m5,hy5,hx5,wk_x4,wk_x1,md_x4,md_x1,lt_xy,le_xy];repeat refine⟨by omega,?_⟩
    refine dF.mk (Za _ (dZ a 25 ((x+1)%5)) 1 (by decide)) ?_;simp[go_sem,hwd];refine hK _ ?_;refine go true ?_;simp(disch:=first|omega|simp) [go_sem,tn_xy,le_xy,GV,aH];repeat refine⟨by omega,?_⟩
    refine aO.mk (Za _ (wordP a (dZ a 25) x y) (rotN (x+5*y)) (rotN_lt _)) ?_;simp(disch:=first|omega|simp) [go_sem,tn_b,le_xy,aH];repeat refine⟨by omega,?_⟩
    refine gB (x+1) (by omega) (h:=by simp[go_sem]<;>omega) (hσ:=by simp[go_sem,hbu]) (hb:=au (by simp[go_sem]))
   ·obtain rfl:x=5:=by omega
    have hbo:bOut a (dZ a 25) (y+1)=bIn a (dZ a 25) y (bOut a (dZ a 25) y) 5:=rfl;simp[go_sem];refine go true ?_;simp(disch:=first|omega|simp) [go_sem,aH];refine gB (y+1) (by omega) (h:=by simp[go_sem]<;>omega) (hσ:=by simp[go_sem,hbo]) (hb:=au (by simp[go_sem]))
  ·obtain rfl:y=5:=by omega
   simp[go_sem];refine go true ?_;simp[go_sem];refine Pz (α:=Nat) true [2,6,10,15,74] (fun y=>[(74,.d (I y))]) (fun y=>σ++[.var (dH .u64 25 a),.var (dH .i64 25 Wy),.var (dH .u64 25 fun _=>0),.var (dH .u64 5 (dZ a 25)),.var (dH .u64 25 (bOut a (dZ a 25) 5)),.var (dH .u64 25 (Xa (bOut a (dZ a 25) 5) y))]) (fun y=>y<=5) (fun y=>5-y) 0 (by simp[go_sem]) (rfl) (by simp) ?_;rintro y hy;simp[go_sem];refine aJ [2,6,10,15,74] ?_ ?_<;>intro c3 d3
   ·have hy5:y<5:=by omega
    simp[go_sem];refine Pz (α:=Nat) true [2,6,10,15,16,74,77] (fun x=>[(77,.d (I x))]) (fun x=>σ++[.var (dH .u64 25 a),.var (dH .i64 25 Wy),.var (dH .u64 25 fun _=>0),.var (dH .u64 5 (dZ a 25)),.var (dH .u64 25 (bOut a (dZ a 25) 5)),.var (dH .u64 25 (oIn (bOut a (dZ a 25) 5) y (Xa (bOut a (dZ a 25) 5) y) x))]) (fun x=>x<=5) (fun x=>5-x) 0 (by simp[go_sem]) (rfl) (by simp) ?_;rintro x hx;simp[go_sem];refine aJ [2,6,10,15,16,74,77] ?_ ?_<;>intro c4 d4
    ·have hx5:x<5:=by omega
     have hou:oIn (bOut a (dZ a 25) 5) y (Xa (bOut a (dZ a 25) 5) y) (x+1)=upd (oIn (bOut a (dZ a 25) 5) y (Xa (bOut a (dZ a 25) 5) y) x) (x+5*y) (chiP (bOut a (dZ a 25) 5) x y):=rfl;have hch:FH .u64 ((bOut a (dZ a 25) 5) (x+5*y)) (andI .u64 (comI .u64 ((bOut a (dZ a 25) 5) ((x+1)%5+5*y))) ((bOut a (dZ a 25) 5) ((x+2)%5+5*y)))=chiP (bOut a (dZ a 25) 5) x y:=rfl;simp[go_sem];refine T.dr 29 fun K hK=> ?_;simp[go_sem,tn_xy,tn_c1,tn_c2,lt_m5,hy5,hx5,wk_5,wk_xy,wk_x1,wk_x2,md_x1,md_x2,wk_c1,wk_c2,lt_xy,le_xy,hch];repeat refine⟨by omega,?_⟩
     refine hK _ ?_;refine go true ?_;simp(disch:=first|omega|simp) [go_sem,aH];refine gB (x+1) (by omega) (h:=by simp[go_sem]<;>omega) (hσ:=by simp[go_sem,hou]) (hb:=au (by simp[go_sem]))
    ·obtain rfl:x=5:=by omega
     have hoo:Xa (bOut a (dZ a 25) 5) (y+1)=oIn (bOut a (dZ a 25) 5) y (Xa (bOut a (dZ a 25) 5) y) 5:=rfl;simp[go_sem];refine go true ?_;simp(disch:=first|omega|simp) [go_sem,aH];refine gB (y+1) (by omega) (h:=by simp[go_sem]<;>omega) (hσ:=by simp[go_sem,hoo]) (hb:=au (by simp[go_sem]))
   ·obtain rfl:y=5:=by omega
    simp[go_sem];refine go true ?_;simp[go_sem];refine aj ?_;simp[go_sem];exact yB (k:= .u64) (n:=25) (f:=Wx a c)
theorem Jl(σ:List aG)(a:Nat->Int):aA prog 381 [.agg (dH .u64 25 a)] σ (.agg (dH .u64 25 (BX a 24))):=by
 refine aA.bs true func381 fun hwf=> ?_;refine aO.mk (EK _) (sm ?_);refine aO.mk (EL _) (sm ?_);refine kQ (α:=Nat) true [1,2,3,7,8] (fun i=>[(8,.d (I i))]) (fun i=>σ++[.var (dH .u64 25 (BX a i)),.var (dH .u64 25 fun _=>0),.var (dH .i64 25 Wy)]) (fun i=>i<=24) (fun i=>24-i) 0 ?_;rintro i hi;simp[go_sem];refine aJ [1,2,3,7,8] ?_ ?_<;>intro c0 d0
 ·have hi5:i<24:=by omega
  have hi4:i<=23:=by omega
  have hpu:BX a (i+1)=Wx (BX a i) (rcF i):=rfl;simp(disch:=first|omega|simp) [go_sem];repeat refine⟨by omega,?_⟩
  refine aO.mk (O5 _ (BX a i) (rcF i)) ?_;simp(disch:=first|omega|simp) [go_sem,aH];refine gB (i+1) (by omega) (h:=by simp[go_sem]<;>omega) (hσ:=by simp[go_sem,hpu]) (hb:=au (by simp[go_sem]))
 ·obtain rfl:i=24:=by omega
  simp[go_sem];refine go true (sm ?_);refine aj ?_;simp[go_sem];exact yB (k:= .u64) (n:=25) (f:=BX a 24)
end Go.Proofs.YtmahphgjkpgidaaGreatDoor
