/- Lemmas, no conditions. -/
import Derived.Test.YthpplckmbbachaaGreatDoorKB24
set_option linter.unusedVariables false
set_option linter.unusedSimpArgs false
set_option maxHeartbeats 1000000
set_option maxRecDepth 100000
namespace Go.Proofs.YthpplckmbbachaaGreatDoor
open Go.aI Go.Proofs.Tryz
variable (σ : List aZ)
def IX(n:Nat)(g:Nat->Int)(m:Nat)(h:Nat->Int):Bool:= !((lst m h).any fun k=> !qt n g k)
theorem rQ(n g m h):IX n g m h=true↔∀i,i<m->qt n g (h i)=true:=by
 grind [IX,lst]
noncomputable def zR(x:ek):Bool:=decide (0<x.nb)&& !IX (de x x.Round).length (nth (de x x.Round)) x.nb x.b
noncomputable def eK(x:ek):Int:=if r4 x=false then 2 else if(!fZ x.u x.nu|| !fZ x.b x.nb)=true then 5 else if zR x=true then 7 else if eG x=false then 11 else 0
theorem ac1: ∀{a b c d e f g},((!a|| !b|| !c|| !d||e)|| !f|| !g)=true->(a&&b&&c&&d&& !e&&f&&g)=false:=by decide
theorem ZX: ∀{a b c d e f g},((!a|| !b|| !c|| !d||e)|| !f|| !g)=false->(a&&b&&c&&d&& !e&&f&&g)=true:=by decide
theorem OG{x}(h:r4 x=false):eK x=2:=by grind [eK]
theorem acE{x}(h:r4 x=true)(h1:(!fZ x.u x.nu|| !fZ x.b x.nb)=true):eK x=5:=by grind [eK]
theorem acD{x}(h:r4 x=true)(h1:(!fZ x.u x.nu|| !fZ x.b x.nb)=false)(h2:zR x=true):eK x=7:=by grind [eK]
theorem QF{x}(h:r4 x=true)(h1:(!fZ x.u x.nu|| !fZ x.b x.nb)=false)(h2:zR x=false)(h3:eG x=false):eK x=11:=by grind [eK]
theorem YL{x}(h:r4 x=true)(h1:(!fZ x.u x.nu|| !fZ x.b x.nb)=false)(h2:zR x=false)(h3:eG x=true):eK x=0:=by grind [eK]
theorem Ko(τ c n g k)(hn:n<1000000000):ak prog 284 [.d (I k),.ptr σ.length 0] (σ++ .var [.d (SL c 1 encI n g)]::τ) (.d (B (!qt n g k))):=by
 refine ak.bt func284 ?_;refine az.mk (u3 _ c n g k hn) (sm ?_);refine af ?_;simp[go_sem,qt]<;>omega
theorem lU(c c' n g m h)(hn:n<1000000000)(hm:m<1000000000):ak prog 200 [.d (SL c 1 encI n g),.d (SL c' 1 encI m h)] σ (.d (B (IX n g m h))):=by
 refine ak.bt func200 ?_;refine az.mk (jV _ c' m h 284 [.ptr σ.length 0] (fun k=> !qt n g k) hm (fun i hi=>Ko σ [] c n g (h i) hn)) (sm ?_);refine af ?_;simp[go_sem,IX]<;>omega
theorem e7(x)(hn:x.nu<1000000000)(hm:x.nb<1000000000)(hσ:σ[0]? =some (.tab 0 dG)):ak prog 133 [.agg (x.enc.map .d)] σ (.d (I (eK x))):=by
 refine ak.bd true func133 fun hwf=> ?_;refine wI ?_;refine az.mk (jU _ x.ID) ?_;refine wI ?_;refine cE.mk (fq _ x.Day 0 1048575) ?_;refine wI ?_;refine cE.mk (fq _ x.Round 0 1024) ?_;refine wI ?_;refine cE.mk (fq _ x.nu 1 60) ?_;refine wI ?_;refine cE.mk (jV _ none x.nu x.u 198 [] (fun n=> !idB n) hn (fun i hi=>ua _ (x.u i))) ?_;refine wI ?_;refine cE.mk (fq _ x.iB 1 x.nu) ?_;refine wI ?_;refine cE.mk (fq _ x.Accept 0 (IntKind.i64.wrap (x.iB-1))) ?_;refine wI ?_;refine km [1] ?_ ?_<;>intro c0 d0
 ·have hz:r4 x=false:=ac1 c0;exact sx (OG hz)
 ·have hz:r4 x=true:=ZX c0;have hx:=(pj x).1 hz;have hr1:=hx.r1;have hr2:=hx.r2;simp[go_sem];refine az.mk (gV _ none x.nu x.u hn) (sm ?_);refine cE.mk (gV _ none x.nb x.b hm) (sm ?_);refine km [1] ?_ ?_<;>intro c1 d1
  ·simp[go_sem];rw[acE hz c1];exact af sc
  ·simp[go_sem];refine T.dr 15 fun K hK=>sm ?_;refine bK.mk' _ (fun _=>oE _ x x.Round hx hr1 hr2 (ay hσ)) (sm ?_);refine bK.mk' _ (fun _=>lU _ none none (de x x.Round).length (nth (de x x.Round)) x.nb x.b (by grind [sO]) hm) ?_;refine wD hK ?_;refine go true (sm ?_);refine km [1] ?_ ?_<;>intro c2 d2
   ·simp[go_sem];rw[acD hz c1 c2];exact af sc
   ·simp[go_sem];refine az.mk (zG _ x hn hm) (gc [] ?_ ?_)<;>intro d3
    ·simp[go_sem];rw[QF hz c1 c2 ai];exact af sc
    ·simp[go_sem];rw[YL hz c1 c2 ai];exact af sc
def fb:ek:=⟨0,0,0,0,0,0,0,fun _=>0,0,fun _=>0⟩
def xI(id day:Int)(n:Nat)(u:Nat->Int)(s a:Int):ek:=⟨id,day,1,0,s,a,n,u,0,fun _=>0⟩
noncomputable def lM(id day:Int)(n:Nat)(u:Nat->Int)(s a:Int):ek×Int:=if eK (xI id day n u s a)≠0 then(fb,eK (xI id day n u s a)) else(xI id day n u s a,0)
def DS(x:ek):ek:= { x with State:=2,Round:=x.Round+1,nb:=0,b:=fun _=>0 }
noncomputable def dJ(x:ek):ek×Int:=if eK x≠0 then(fb,1) else if(x.State !=1&&x.State !=4)=true then(fb,11) else if x.Round=1024 then(fb,15) else(DS x,0)
def oz(x:ek)(m:Nat)(h:Nat->Int):ek:= { x with State:=if x.Accept<m then 4 else 3,nb:=m,b:=h }
noncomputable def dD(x:ek)(m:Nat)(h:Nat->Int):ek×Int:=
 if eK x≠0 then(fb,1) else if x.State≠2 then(fb,11) else if fZ h m=false then(fb,5) else if IX (de x x.Round).length (nth (de x x.Round)) m h=false then(fb,7) else(oz x m h,0)
theorem lD{x}(h:eK x=0):Rng x:=by
 grind [pj,OG]
theorem oF(x:ek)(hn:x.nu<1000000000)(hm:x.nb<1000000000):ak prog 389 [.agg (x.enc.map .d)] σ (.agg (x.enc.map .d)):=by
 refine ak.bt func389 ?_;refine T.dr 7 fun K hK=>sm ?_;refine bK.mk (lV _ none x.nu x.u hn) (sm ?_);refine bK.mk (lV _ none x.nb x.b hm) (sm ?_);refine hK _ ?_;refine go true (sm ?_);exact af so
theorem zI(id day c n u s a)(hn:n<1000000000)(hσ:σ[0]? =some (.tab 0 dG)):ak prog 327 [.d (I id),.d (I day),.d (SL c 1 encI n u),.d (I s),.d (I a)] σ (.cj [.agg ((lM id day n u s a).1.enc.map .d),.d (I (lM id day n u s a).2)]):=by
 refine ak.bt func327 ?_;refine az.mk (lV _ c n u hn) (sm ?_);refine az.mk ((e7 _ (xI id day n u s a) hn (show(0:Nat)<1000000000 by decide) (ay hσ)).sub (by simp[go_sem,mY,my,bw,Go.aI.aK,xI])) (gc [10,12,13] ?_ ?_)<;>intro d0
 ·have hz:lM id day n u s a=(fb,eK (xI id day n u s a)):=by grind [lM]
  refine wA ?_;rw[hz];simp[go_sem,bw,Go.aI.aK,fb]
 ·have hz:lM id day n u s a=(xI id day n u s a,0):=by grind [lM]
  refine wA ?_;rw[hz];simp[go_sem,bw,Go.aI.aK,xI]
theorem zH(x)(hn:x.nu<1000000000)(hm:x.nb<1000000000)(hσ:σ[0]? =some (.tab 0 dG)):ak prog 330 [.agg (x.enc.map .d)] σ (.cj [.agg ((dJ x).1.enc.map .d),.d (I (dJ x).2)]):=by
 refine ak.bt func330 ?_;refine az.mk (e7 _ x hn hm (ay hσ)) (gc [1,2] ?_ ?_)<;>intro d0
 ·have hz:dJ x=(fb,1):=by grind [dJ]
  refine wA ?_;rw[hz];simp[go_sem,bw,Go.aI.aK,fb]
 ·have hch:eK x=0:=ai;have hx:=lD hch;have hr1:=hx.r1;have hr2:=hx.r2;have hwr:IntKind.i64.wrap (x.Round+1)=x.Round+1:=aS aa aa;refine gc [1,2] ?_ ?_<;>intro d1
  ·have hz:dJ x=(fb,11):=by grind [dJ]
   refine wA ?_;rw[hz];simp[go_sem,bw,Go.aI.aK,fb]
  ·refine gc [1,2] ?_ ?_<;>intro d2
   ·have hz:dJ x=(fb,15):=by grind [dJ]
    refine wA ?_;rw[hz];simp[go_sem,bw,Go.aI.aK,fb]
   ·have hz:dJ x=(DS x,0):=by grind [dJ]
    simp[go_sem];refine az.mk (oF _ x hn hm) ?_;simp[go_sem];apply mM 5 4 T.mixed aD
    ·intro K hK;simp[go_sem,hwr];exact hK _ _
    ·simp[go_sem];rfl
    ·intro K hK;simp[go_sem,hwr];grind
    intro K hK;refine wQ hK ?_;rw[hz];simp[go_sem,bw,Go.aI.aK,DS]
theorem tZ(x c m h)(hn:x.nu<1000000000)(hm:x.nb<1000000000)(hk:m<1000000000)(hσ:σ[0]? =some (.tab 0 dG)):ak prog 332 [.agg (x.enc.map .d),.d (SL c 1 encI m h)] σ (.cj [.agg ((dD x m h).1.enc.map .d),.d (I (dD x m h).2)]):=by
 refine ak.bt func332 ?_;refine az.mk (e7 _ x hn hm (ay hσ)) (gc [1,2,4] ?_ ?_)<;>intro d0
 ·have hz:dD x m h=(fb,1):=by grind [dD]
  refine wA ?_;rw[hz];simp[go_sem,bw,Go.aI.aK,fb]
 ·have hch:eK x=0:=ai;have hx:=lD hch;have hr1:=hx.r1;have hr2:=hx.r2;simp[go_sem];refine km [1,2,4] ?_ ?_<;>intro c1 d1
  ·have hz:dD x m h=(fb,11):=by grind [dD]
   refine wA ?_;rw[hz];simp[go_sem,bw,Go.aI.aK,fb]
  ·have h2:x.State=2:=ai;clear d1 c1;have d1:True:=trivial;have c1:True:=trivial;simp[go_sem];refine az.mk (gV _ c m h hk) (gc [1,2,4] ?_ ?_)<;>intro d2
   ·have hz:dD x m h=(fb,5):=by grind [dD]
    refine wA ?_;rw[hz];simp[go_sem,bw,Go.aI.aK,fb]
   ·simp[go_sem];refine az.mk (oE _ x x.Round hx hr1 hr2 (ay hσ)) (sm ?_);refine az.mk (lU _ none c (de x x.Round).length (nth (de x x.Round)) m h (by grind [sO]) hk) ?_;refine gc [1,2,4] ?_ ?_<;>intro d3
    ·have hz:dD x m h=(fb,7):=by grind [dD]
     refine wA ?_;rw[hz];simp[go_sem,bw,Go.aI.aK,fb]
    ·have hz:dD x m h=(oz x m h,0):=by grind [dD]
     simp[go_sem];refine az.mk (oF _ x hn hm) (sm ?_);refine az.mk (lV _ c m h hk) (gc [4,6] ?_ ?_)<;>intro d4
     ·refine wA ?_;rw[hz];simp[go_sem,bw,Go.aI.aK,oz,d4]
     ·refine wA ?_;rw[hz];simp[go_sem,bw,Go.aI.aK,oz,d4]
theorem CX{n} :idB n=true↔1<=n/\n<=1073741824:=by simp[idB,GQ]
def CI(g:Nat->kE)(i:Nat):Prop:=(1<=(g i).fx/\(g i).fx<=1073741824)/\(1<=(g i).Unit/\(g i).Unit<=1073741824)/\(0<i->(g (i-1)).fx<(g i).fx)
open Classical in
noncomputable def jl(g:Nat->kE)(n:Nat):Bool:=decide ((∀i,i<n->CI g i)/\n<=1024)
theorem px{g n} :jl g n=true↔(∀i,i<n->CI g i)/\n<=1024:=by simp[jl]
theorem M9{g n i}(hi:i<n)(h: ¬CI g i):jl g n=false:=by
 grind [px]
theorem HR{g n}(h: ∀i,i<n->CI g i):jl g n=decide (n<=1024):=by
 grind [px]
theorem M5{g i}(h: ∀q,q<i->CI g q)(hi:CI g i): ∀q,q<i+1->CI g q:=fun q hq=>by
 grind
theorem vF(c n g)(hn:n<1000000000):ak prog 393 [.d (SL c 2 kE.enc n g)] σ (.d (B (jl g n))):=by
 refine ak.bt func393 ?_;refine dm (α:=Nat) true [0,5,6,7] (fun i=>[(7,.d (I i))]) (fun i=>_) (fun i=>i<=n/\∀q,q<i->CI g q) (fun i=>n-i) 0 ?_;rintro i ⟨hi,hx⟩;refine gc [0,5,6,7] ?_ ?_<;>intro d0
 ·have hi5:i<n:=aa;simp[go_sem,hi5];refine T.dr 25 fun K hK=> ?_;simp[go_sem];refine bK.mk (jU _ (g i).fx) ?_;simp[go_sem];refine bK.mk (jU _ (g i).Unit) ?_;simp[go_sem,aT (i:=i) aa];refine wK hK ?_;refine gc [0,5,6,7] ?_ ?_<;>intro d1
  ·have hz:jl g n=false:=M9 hi5 fun hr=>by
    have h1:=CX.2 hr.1;have h2:=CX.2 hr.2.1;have h3:=hr.2.2;grind
   exact sx hz
  ·have hr:CI g i:=⟨CX.1 d1.1.1,CX.1 d1.1.2,d1.2⟩;refine wC ?_;refine bF (i+1) ⟨aa,M5 hx hr⟩ (h:=aR)
 ·obtain rfl:i=n:=by omega
  have hz:=HR hx;refine wL ?_;rw[hz];exact af so
theorem vg(c c' n m f g)(hn:n<1000000000)(hm:m<1000000000):ak prog 49 [.d (SL c 2 kE.enc n f),.d (SL c' 2 kE.enc m g)] σ (.d (B (qH (lst n f) (lst m g)))):=by
 refine ak.bt func49 ?_;refine dH [0,1] ?_ ?_<;>intro d0
 ·have hz:=oD (f:=f) (g:=g) (show ¬n=m by omega);exact sx hz
 ·have hnm:n=m:=aa;subst hnm;simp[go_sem];refine dm (α:=Nat) true [0,1,12,13] (fun i=>[(13,.d (I i))]) (fun i=>_) (fun i=>i<=n/\∀q,q<i->f q=g q) (fun i=>n-i) 0 ?_;rintro i ⟨hi,hx⟩;refine gc [0,1,12,13] ?_ ?_<;>intro d1
  ·have hi5:i<n:=aa;simp[go_sem];refine T.dr 9 fun K hK=> ?_;simp[go_sem,hi5];refine hK _ ?_;refine wb ?_;refine km [0,1,12,13] ?_ ?_<;>intro c2 d2
   ·have hz:qH (lst n f) (lst n g)=false:=sN hi5 hi5 (fun h=>ai);exact sx hz
   ·have heq:f i=g i:=by
     revert c2;rcases f i with⟨_,_⟩;simp_all
    refine wC ?_;refine bF (i+1) ⟨aa,fun q hq=>ai⟩ (h:=aR)
  ·obtain rfl:i=n:=by omega
   have hz:=oC (f:=f) (g:=g) rfl hx;refine wF ?_;exact sy hz
def We(g:Nat->kE)(n:Nat)(u:Nat->Int)(m:Nat):Bool:=(lst m u).any fun k=>(lst n g).any fun y=>y.Unit==k
theorem Rm{g n u m} :We g n u m=true↔∃i,i<n/\qt m u (g i).Unit=true:=by
 unfold We;simp only[lst,List.any_map,List.any_eq_true,List.mem_range,Function.comp,beq_iff_eq,sv];grind
theorem acS{g n u m}(h: ∀i,i<n->qt m u (g i).Unit=false):We g n u m=false:=by
 grind [Rm]
def mB(g:Nat->kE)(n:Nat)(u:Nat->Int)(f:Int)(q:Nat):kE:=if q<n then g q else⟨f+((q-n:Nat):Int),u (q-n)⟩
theorem sC{g n u f q}(h:q<n):mB g n u f q=g q:=if_pos h
theorem ET{g n u f}(i):mB g n u f (n+i)=⟨f+(i:Int),u i⟩:=by grind [mB]
theorem HQ{g n u f i q}(hq:q<n+i+1):aO (n+i) (fun q=>kE.enc (mB g n u f q)) (rowsOf 2 [I (f+(i:Int)),I (u i)]) q=kE.enc (mB g n u f q):=by
 unfold aO;split
 ·rfl
 ·obtain rfl:q=n+i:=by omega
  grind [ET,rowsOf,kE.enc]
noncomputable def fp(g:Nat->kE)(n:Nat)(x:ek)(f:Int):Int:=
 if(!jl g n|| !decide (eK x=0))=true then 1 else if x.State≠3 then 11 else if f<1\/1073741824-(x.nu:Int)+1<f then 2
 else if 0<n/\f<=(g (n-1)).fx then 5 else if We g n x.u x.nu=true then 6 else if 1024<n+x.nu then 12 else 0
noncomputable def nD(g:Nat->kE)(n:Nat)(x:ek)(f:Int):Nat:=if fp g n x f=0 then n+x.nu else 0
noncomputable def sB(g:Nat->kE)(n:Nat)(x:ek)(f:Int):Nat->kE:=mB g n x.u f
theorem eL{g n x f e}(h:fp g n x f=e)(he:e≠0):nD g n x f=0:=by grind [nD]
theorem ES{g n x f}(h:fp g n x f=0):nD g n x f=n+x.nu:=by grind [nD]
theorem Sa{g n x f}(h:(!jl g n|| !decide (eK x=0))=true):fp g n x f=1:=if_pos h
section
variable {g : Nat -> kE} {n : Nat} {x : ek} {f : Int} (h1 : (!jl g n || !decide (eK x = 0)) = false)
include h1
theorem M8(h2:x.State≠3):fp g n x f=11:=by grind [fp]
variable (h2 : x.State = 3)
include h2
theorem R9(h3:f<1\/1073741824-(x.nu:Int)+1<f):fp g n x f=2:=by grind [fp]
variable (h3 : ¬ (f < 1 \/ 1073741824 - (x.nu : Int) + 1 < f))
include h3
theorem R8(h4:0<n/\f<=(g (n-1)).fx):fp g n x f=5:=by grind [fp]
variable (h4 : ¬ (0 < n /\ f <= (g (n - 1)).fx))
include h4
theorem R7(h5:We g n x.u x.nu=true):fp g n x f=6:=by grind [fp]
variable (h5 : We g n x.u x.nu = false)
include h5
theorem M7(h6:1024<n+x.nu):fp g n x f=12:=by grind [fp]
theorem Sc(h6: ¬1024<n+x.nu):fp g n x f=0:=by grind [fp]
end
theorem M6(τ)(x:kE)(k):ak prog 392 [.agg (x.enc.map .d),.ptr σ.length 0] (σ++ .var [.d (I k)]::τ) (.d (B (x.Unit==k))):=by
 refine ak.bt func392 ?_;exact af so
theorem P8(τ c n g k)(hn:n<1000000000):ak prog 390 [.d (I k),.ptr σ.length 0] (σ++ .var [.d (SL c 2 kE.enc n g)]::τ) (.d (B ((lst n g).any fun y=>y.Unit==k))):=by
 refine ak.bt func390 ?_;refine az.mk (FC _ c n g 392 [.ptr (σ.length+(τ.length+1)) 0] (fun y=>y.Unit==k) hn (fun i hi=>by have h:=M6 (σ++ .var [.d (SL c 2 kE.enc n g)]::τ) [] (g i) k;grind)) ?_;simp[go_sem];exact af so
theorem pJ(c n g x f)(hn:n<1000000000)(hu:x.nu<1000000000)(hm:x.nb<1000000000)(hσ:σ[0]? =some (.tab 0 dG)):ak prog 333 [.d (SL c 2 kE.enc n g),.agg (x.enc.map .d),.d (I f)] σ (.cj [.d (SL none 2 kE.enc (nD g n x f) (sB g n x f)),.d (I (fp g n x f))]):=by
 refine ak.bs true func333 fun hwf=> ?_;refine az.mk (vF _ c n g hn) (sm ?_);refine cE.mk' _ (fun _=>e7 _ x hu hm (ay hσ)) (sm ?_);refine km [2,3,4,8] ?_ ?_<;>intro c0 d0
 ·have hz:=Sa (f:=f) (show(!jl g n|| !decide (eK x=0))=true by grind);have hn0:=eL hz aH;refine wA ?_;rw[hz,hn0];simp[go_sem,Go.aI.aK]
 ·have h1:(!jl g n|| !decide (eK x=0))=false:=ai;simp[go_sem];refine km [2,3,4,8] ?_ ?_<;>intro c1 d1
  ·have hz:=M8 (f:=f) h1 (show x.State≠3 by grind);have hn0:=eL hz aH;refine wA ?_;rw[hz,hn0];simp[go_sem,Go.aI.aK]
  ·have h2:x.State=3:=ai;have hch:eK x=0:=ai;have hl:=px.1 (show jl g n=true by grind);have hx:=lD hch;have g3:=hx.n1;have g4:=hx.n2;have hn7:=hl.2;clear d1 c1;have d1:True:=trivial;have c1:True:=trivial;refine wC ?_;refine km [2,3,4,8] ?_ ?_<;>intro c2 d2
   ·have h3:f<1\/1073741824-(x.nu:Int)+1<f:=by exact d2
    have hz:=R9 h1 h2 h3;have hn0:=eL hz aH;refine wA ?_;rw[hz,hn0];simp[go_sem,Go.aI.aK]
   ·have h3: ¬(f<1\/1073741824-(x.nu:Int)+1<f):=aa;refine wC ?_;repeat refine⟨aa,?_⟩
    refine km [2,3,4,8] ?_ ?_<;>intro c3 d3
    ·have h4:0<n/\f<=(g (n-1)).fx:=by exact d3
     have hz:=R8 h1 h2 h3 h4;have hn0:=eL hz aH;refine wA ?_;rw[hz,hn0];simp[go_sem,Go.aI.aK]
    ·have h4: ¬(0<n/\f<=(g (n-1)).fx):=ai;simp[go_sem];refine az.mk (jV _ none x.nu x.u 390 [.ptr σ.length 0] (fun k=>(lst n g).any fun y=>y.Unit==k) hu (fun i hi=>P8 σ [.var (x.enc.map .d)] c n g (x.u i) hn)) (sm ?_);refine km [2,3,4] ?_ ?_<;>intro c4 d4
     ·have hz:=R7 h1 h2 h3 h4 (show We g n x.u x.nu=true from by grind [We]);have hn0:=eL hz aH;refine wA ?_;rw[hz,hn0];simp[go_sem,Go.aI.aK]
     ·have h5:We g n x.u x.nu=false:=by grind [We]
      refine wC ?_;refine km [2,3,4] ?_ ?_<;>intro c5 d5
      ·have hz:=M7 h1 h2 h3 h4 h5 aa;have hn0:=eL hz aH;refine wA ?_;rw[hz,hn0];simp[go_sem,Go.aI.aK]
      ·have hz:=Sc h1 h2 h3 h4 h5 aa;have hn0:=ES hz;simp[go_sem];refine az.gen (Kv _ c n g hn) ?_;rintro r σ' X ⟨rfl,rfl,rfl⟩;simp[go_sem];refine ax (σ.length+2) (fun q=>kE.enc (mB g n x.u f q)) bj (by intro q hq;simp[go_sem,sC hq]) aN ?_;refine JQ (α:=Nat) false [2,9,69,70,71] [σ.length+2] (fun i=>[(71,.d (I i)),(9,.ms (σ.length+2) 2 0 (n+i))]) (fun i=>σ++[.var [.d (SL c 2 kE.enc n g)],.var (x.enc.map .d),.arr 2 (n+i) (fun q=>kE.enc (mB g n x.u f q))]) (fun i=>i<=x.nu) (fun i=>x.nu-i) 0 au (rfl) an an ?_;rintro i hi;simp[go_sem];refine go false (sm ?_);refine km [2,9,69,70,71] ?_ ?_<;>intro c6 d6
       ·have hi5:i<x.nu:=aa;have hwr:IntKind.i64.wrap (f+(i:Int))=f+(i:Int):=aS aa aa;have hni:=Nat.add_assoc n i 1;simp[go_sem,hi5];refine go false ?_;simp(disch:=first|omega|simp) [go_sem,hwr,hni,hwf.one];repeat refine⟨aa,?_⟩
        refine ax (σ.length+2) (fun q=>kE.enc (mB g n x.u f q)) bj (by exact fun q hq=>HQ hq) aN ?_;refine wW ?_;refine bF (i+1) aa (h:=aR) (hσ:=aP) (hb:=ae au)
       ·obtain rfl:i=x.nu:=by omega
        refine wF ?_;refine aF hwf (σ.length+2) ?_;refine af ?_;rw[hz,hn0];simp[go_sem,Go.aI.aK,sB]
end Go.Proofs.YthpplckmbbachaaGreatDoor
