/- Contracts and lemmas, joined out of smaller texts by a program; no conditions. -/
import Derived.Test.YtmahphgjkpgidaaGreatDoorKB29
set_option linter.unusedVariables false
set_option linter.unusedSimpArgs false
set_option maxHeartbeats 1000000
set_option maxRecDepth 100000
namespace Go.Proofs.YtmahphgjkpgidaaGreatDoor
open Go.aU Go.Proofs.Tryz
variable (σ : List aG)
def YJ(n:Nat)(g:Nat->Int)(m:Nat)(h:Nat->Int):Bool:= !((lst m h).any fun k=> !memI n g k)
theorem subB_iff(n:Nat)(g:Nat->Int)(m:Nat)(h:Nat->Int):YJ n g m h=true↔∀i,i<m->memI n g (h i)=true:=by
 unfold YJ;simp only[Bool.not_eq_true',lst,List.any_map,List.any_eq_false,List.mem_range,Function.comp,Bool.not_eq_true'];exact⟨fun H i hi=>by simpa using H i hi,fun H i hi=>by simpa using H i hi⟩
noncomputable def badB(x:fU):Bool:=decide (0<x.nb)&& !YJ (lN x x.Round).length (nth (lN x x.Round)) x.nb x.b
noncomputable def lK(x:fU):Int:=if Oz x=false then 2 else if(!qO x.u x.nu|| !qO x.b x.nb)=true then 5 else if badB x=true then 7 else if qg x=false then 11 else 0
theorem rng_no: ∀{a b c d e f g:Bool},((!a|| !b|| !c|| !d||e)|| !f|| !g)=true->(a&&b&&c&&d&& !e&&f&&g)=false:=by decide
theorem rng_yes: ∀{a b c d e f g:Bool},((!a|| !b|| !c|| !d||e)|| !f|| !g)=false->(a&&b&&c&&d&& !e&&f&&g)=true:=by decide
theorem chk_2{x:fU}(h:Oz x=false):lK x=2:=by unfold lK;rw[if_pos h]
theorem chk_5{x:fU}(h:Oz x=true)(h1:(!qO x.u x.nu|| !qO x.b x.nb)=true):lK x=5:=by unfold lK;rw[if_neg (by simp[h]),if_pos h1]
theorem chk_7{x:fU}(h:Oz x=true)(h1:(!qO x.u x.nu|| !qO x.b x.nb)=false)(h2:badB x=true):lK x=7:=by unfold lK;rw[if_neg (by simp[h]),if_neg (by rw[h1];decide),if_pos h2]
theorem chk_11{x:fU}(h:Oz x=true)(h1:(!qO x.u x.nu|| !qO x.b x.nb)=false)(h2:badB x=false)(h3:qg x=false):lK x=11:=by unfold lK;rw[if_neg (by simp[h]),if_neg (by rw[h1];decide),if_neg (by simp[h2]),if_pos h3]
theorem chk_0{x:fU}(h:Oz x=true)(h1:(!qO x.u x.nu|| !qO x.b x.nb)=false)(h2:badB x=false)(h3:qg x=true):lK x=0:=by unfold lK;rw[if_neg (by simp[h]),if_neg (by rw[h1];decide),if_neg (by simp[h2]),if_neg (by simp[h3])]
theorem XH(τ:List aG)(c:Option Nat)(n:Nat)(g:Nat->Int)(k:Int)(hn:n<1000000000):aA prog 224 [.d (I k),.ptr σ.length 0] (σ++ .var [.d (SL c 1 encI n g)]::τ) (.d (B (!memI n g k))):=by
 refine aA.bs true func224 fun hwf=> ?_;refine aO.mk (Fv _ c n g k hn) (sm ?_);refine aj ?_;simp[go_sem,memI]<;>omega
theorem rH(c c':Option Nat)(n:Nat)(g:Nat->Int)(m:Nat)(h:Nat->Int)(hn:n<1000000000)(hm:m<1000000000):aA prog 147 [.d (SL c 1 encI n g),.d (SL c' 1 encI m h)] σ (.d (B (YJ n g m h))):=by
 refine aA.bs true func147 fun hwf=> ?_;refine aO.mk (pG _ c' m h 224 [.ptr σ.length 0] (fun k=> !memI n g k) hm (fun i hi=>XH σ [] c n g (h i) hn)) (sm ?_);refine aj ?_;simp[go_sem,YJ]<;>omega
theorem jk(x:fU)(hn:x.nu<1000000000)(hm:x.nb<1000000000)(hσ:σ[0]? =some (.tab 0 gK)):aA prog 106 [.agg (x.enc.map .d)] σ (.d (I (lK x))):=by
 refine aA.bd true func106 fun hwf=> ?_;simp(disch:=first|omega|simp) [go_sem];refine aO.mk (pF _ x.ID) ?_;simp(disch:=first|omega|simp) [go_sem];refine fM.mk (jD _ x.Day 0 1048575) ?_;simp(disch:=first|omega|simp) [go_sem];refine fM.mk (jD _ x.Round 0 1024) ?_;simp(disch:=first|omega|simp) [go_sem];refine fM.mk (jD _ x.nu 1 60) ?_;simp(disch:=first|omega|simp) [go_sem];refine fM.mk (pG _ none x.nu x.u 145 [] (fun n=> !idB n) hn (fun i hi=>EJ _ (x.u i))) ?_;simp(disch:=first|omega|simp) [go_sem];refine fM.mk (jD _ x.sQ 1 x.nu) ?_;simp(disch:=first|omega|simp) [go_sem];refine fM.mk (jD _ x.Accept 0 (IntKind.i64.wrap (x.sQ-1))) ?_;simp(disch:=first|omega|simp) [go_sem];refine aJ [1] ?_ ?_<;>intro c0 d0
 ·have hz:Oz x=false:=rng_no c0;simp[go_sem];rw[chk_2 hz];exact aj sc
 ·have hz:Oz x=true:=rng_yes c0;have hx:=(Hy x).1 hz;have hr1:=hx.r1;have hr2:=hx.r2;simp[go_sem];refine aO.mk (kW _ none x.nu x.u hn) (sm ?_);refine fM.mk (kW _ none x.nb x.b hm) (sm ?_);refine aJ [1] ?_ ?_<;>intro c1 d1
  ·simp[go_sem];rw[chk_5 hz c1];exact aj sc
  ·simp[go_sem];refine T.dr 15 fun K hK=>sm ?_;refine dF.mk' _ (fun _=>wE _ x x.Round hx hr1 hr2 (aC hσ)) (sm ?_);refine dF.mk' _ (fun _=>rH _ none none (lN x x.Round).length (nth (lN x x.Round)) x.nb x.b (by have:=Si x x.Round;omega) hm) ?_;simp[go_sem];refine hK _ ?_;refine go true (sm ?_);refine aJ [1] ?_ ?_<;>intro c2 d2
   ·simp[go_sem];rw[chk_7 hz c1 c2];exact aj sc
   ·simp[go_sem];refine aO.mk (Lp _ x hn hm) (sm ?_);refine aJ [] ?_ ?_<;>intro c3 d3
    ·simp[go_sem];rw[chk_11 hz c1 c2 (by simpa using c3)];exact aj sc
    ·simp[go_sem];rw[chk_0 hz c1 c2 (by simpa using c3)];exact aj sc
def rQ:fU:=⟨0,0,0,0,0,0,0,fun _=>0,0,fun _=>0⟩
def Zo(id day:Int)(n:Nat)(u:Nat->Int)(s a:Int):fU:=⟨id,day,1,0,s,a,n,u,0,fun _=>0⟩
noncomputable def IC(id day:Int)(n:Nat)(u:Nat->Int)(s a:Int):fU×Int:=if lK (Zo id day n u s a)≠0 then(rQ,lK (Zo id day n u s a)) else(Zo id day n u s a,0)
def Y3(x:fU):fU:= { x with State:=2,Round:=x.Round+1,nb:=0,b:=fun _=>0 }
noncomputable def nS(x:fU):fU×Int:=if lK x≠0 then(rQ,1) else if(x.State !=1&&x.State !=4)=true then(rQ,11) else if x.Round=1024 then(rQ,15) else(Y3 x,0)
def IV(x:fU)(m:Nat)(h:Nat->Int):fU:= { x with State:=if x.Accept<m then 4 else 3,nb:=m,b:=h }
noncomputable def l9(x:fU)(m:Nat)(h:Nat->Int):fU×Int:=
 if lK x≠0 then(rQ,1) else if x.State≠2 then(rQ,11) else if qO h m=false then(rQ,5) else if YJ (lN x x.Round).length (nth (lN x x.Round)) m h=false then(rQ,7) else(IV x m h,0)
theorem zy{x:fU}(h:lK x=0):Rng x:=by
 cases hr:Oz x with
 |true=>exact(Hy x).1 hr
 |false=>rw[chk_2 hr] at h;cases h
theorem wF(x:fU)(hn:x.nu<1000000000)(hm:x.nb<1000000000):aA prog 333 [.agg (x.enc.map .d)] σ (.agg (x.enc.map .d)):=by
 refine aA.bs true func333 fun hwf=> ?_;refine T.dr 7 fun K hK=>sm ?_;refine dF.mk (rM _ none x.nu x.u hn) (sm ?_);refine dF.mk (rM _ none x.nb x.b hm) (sm ?_);refine hK _ ?_;refine go true (sm ?_);exact aj so
theorem Ls(id day:Int)(c:Option Nat)(n:Nat)(u:Nat->Int)(s a:Int)(hn:n<1000000000)(hσ:σ[0]? =some (.tab 0 gK)):aA prog 267 [.d (I id),.d (I day),.d (SL c 1 encI n u),.d (I s),.d (I a)] σ (.eU [.agg ((IC id day n u s a).1.enc.map .d),.d (I (IC id day n u s a).2)]):=by
 refine aA.bs true func267 fun hwf=> ?_;refine aO.mk (rM _ c n u hn) (sm ?_);refine aO.mk ((jk _ (Zo id day n u s a) hn (show(0:Nat)<1000000000 by decide) (aC hσ)).sub (by simp[go_sem,xw,sS,eu,Go.aU.bC,Zo])) (sm ?_);refine aJ [10,12,13] ?_ ?_<;>intro c0 d0
 ·have hz:IC id day n u s a=(rQ,lK (Zo id day n u s a)):=by unfold IC;rw[if_pos d0]
  simp[go_sem];refine aj ?_;rw[hz];simp[go_sem,eu,Go.aU.bC,rQ]
 ·have hz:IC id day n u s a=(Zo id day n u s a,0):=by unfold IC;rw[if_neg (by simpa using d0)]
  simp[go_sem];refine aj ?_;rw[hz];simp[go_sem,eu,Go.aU.bC,Zo]
theorem Lr(x:fU)(hn:x.nu<1000000000)(hm:x.nb<1000000000)(hσ:σ[0]? =some (.tab 0 gK)):aA prog 270 [.agg (x.enc.map .d)] σ (.eU [.agg ((nS x).1.enc.map .d),.d (I (nS x).2)]):=by
 refine aA.bs true func270 fun hwf=> ?_;refine aO.mk (jk _ x hn hm (aC hσ)) (sm ?_);refine aJ [1,2] ?_ ?_<;>intro c0 d0
 ·have hz:nS x=(rQ,1):=by unfold nS;rw[if_pos d0]
  simp[go_sem];refine aj ?_;rw[hz];simp[go_sem,eu,Go.aU.bC,rQ]
 ·have hch:lK x=0:=by simpa using d0
  have hx:=zy hch;have hr1:=hx.r1;have hr2:=hx.r2;have hwr:IntKind.i64.wrap (x.Round+1)=x.Round+1:=aH (by omega) (by omega);simp[go_sem];refine aJ [1,2] ?_ ?_<;>intro c1 d1
  ·have hz:nS x=(rQ,11):=by unfold nS;rw[if_neg (by simp[hch]),if_pos (by simpa using c1)]
   simp[go_sem];refine aj ?_;rw[hz];simp[go_sem,eu,Go.aU.bC,rQ]
  ·simp[go_sem];refine aJ [1,2] ?_ ?_<;>intro c2 d2
   ·have hz:nS x=(rQ,15):=by unfold nS;rw[if_neg (by simp[hch]),if_neg (by simpa using c1),if_pos d2]
    simp[go_sem];refine aj ?_;rw[hz];simp[go_sem,eu,Go.aU.bC,rQ]
   ·have hz:nS x=(Y3 x,0):=by unfold nS;rw[if_neg (by simp[hch]),if_neg (by simpa using c1),if_neg d2]
    simp[go_sem];refine aO.mk (wF _ x hn hm) ?_;simp[go_sem];apply JX 5 4 T.mixed (by kernel_rfl)
    ·intro K hK;simp[go_sem,hwr];exact hK _ _
    ·simp[go_sem];rfl
    ·intro K hK;simp[go_sem,hwr];exact hK _ _
    intro K hK;simp[go_sem];refine hK _ ?_;refine go true ?_;simp[go_sem];refine aj ?_;rw[hz];simp[go_sem,eu,Go.aU.bC,Y3]
theorem EI(x:fU)(c:Option Nat)(m:Nat)(h:Nat->Int)(hn:x.nu<1000000000)(hm:x.nb<1000000000)(hk:m<1000000000)(hσ:σ[0]? =some (.tab 0 gK)):aA prog 272 [.agg (x.enc.map .d),.d (SL c 1 encI m h)] σ (.eU [.agg ((l9 x m h).1.enc.map .d),.d (I (l9 x m h).2)]):=by
 refine aA.bs true func272 fun hwf=> ?_;refine aO.mk (jk _ x hn hm (aC hσ)) (sm ?_);refine aJ [1,2,4] ?_ ?_<;>intro c0 d0
 ·have hz:l9 x m h=(rQ,1):=by unfold l9;rw[if_pos d0]
  simp[go_sem];refine aj ?_;rw[hz];simp[go_sem,eu,Go.aU.bC,rQ]
 ·have hch:lK x=0:=by simpa using d0
  have hx:=zy hch;have hr1:=hx.r1;have hr2:=hx.r2;simp[go_sem];refine aJ [1,2,4] ?_ ?_<;>intro c1 d1
  ·have hz:l9 x m h=(rQ,11):=by unfold l9;rw[if_neg (by simp[hch]),if_pos d1]
   simp[go_sem];refine aj ?_;rw[hz];simp[go_sem,eu,Go.aU.bC,rQ]
  ·have h2:x.State=2:=by simpa using d1
   clear d1 c1;have d1:True:=trivial;have c1:True:=trivial;simp[go_sem];refine aO.mk (kW _ c m h hk) (sm ?_);refine aJ [1,2,4] ?_ ?_<;>intro c2 d2
   ·have hz:l9 x m h=(rQ,5):=by unfold l9;rw[if_neg (by simp[hch]),if_neg (by simp[h2]),if_pos (by simpa using c2)]
    simp[go_sem];refine aj ?_;rw[hz];simp[go_sem,eu,Go.aU.bC,rQ]
   ·simp[go_sem];refine aO.mk (wE _ x x.Round hx hr1 hr2 (aC hσ)) (sm ?_);refine aO.mk (rH _ none c (lN x x.Round).length (nth (lN x x.Round)) m h (by have:=Si x x.Round;omega) hk) ?_;simp[go_sem];refine aJ [1,2,4] ?_ ?_<;>intro c3 d3
    ·have hz:l9 x m h=(rQ,7):=by unfold l9;rw[if_neg (by simp[hch]),if_neg (by simp[h2]),if_neg (by simpa using c2),if_pos (by simpa using c3)]
     simp[go_sem];refine aj ?_;rw[hz];simp[go_sem,eu,Go.aU.bC,rQ]
    ·have hz:l9 x m h=(IV x m h,0):=by unfold l9;rw[if_neg (by simp[hch]),if_neg (by simp[h2]),if_neg (by simpa using c2),if_neg (by simpa using c3)]
     simp[go_sem];refine aO.mk (wF _ x hn hm) (sm ?_);refine aO.mk (rM _ c m h hk) (sm ?_);refine aJ [4,6] ?_ ?_<;>intro c4 d4
     ·simp[go_sem];refine aj ?_;rw[hz];simp[go_sem,eu,Go.aU.bC,IV,d4]
     ·simp[go_sem];refine aj ?_;rw[hz];simp[go_sem,eu,Go.aU.bC,IV,d4]
theorem PG{n:Int} :idB n=true↔1<=n/\n<=1073741824:=by simp[idB,TY]
def Yi(g:Nat->lD)(i:Nat):Prop:=(1<=(g i).mM/\(g i).mM<=1073741824)/\(1<=(g i).Unit/\(g i).Unit<=1073741824)/\(0<i->(g (i-1)).mM<(g i).mM)
open Classical in
noncomputable def zZ(g:Nat->lD)(n:Nat):Bool:=decide ((∀i,i<n->Yi g i)/\n<=1024)
theorem Lc{g:Nat->lD}{n:Nat} :zZ g n=true↔(∀i,i<n->Yi g i)/\n<=1024:=by simp[zZ]
theorem linkB_no{g:Nat->lD}{n i:Nat}(hi:i<n)(h: ¬Yi g i):zZ g n=false:=by
 rw[←Bool.not_eq_true,Lc];exact fun H=>h (H.1 i hi)
theorem linkB_yes{g:Nat->lD}{n:Nat}(h: ∀i,i<n->Yi g i):zZ g n=decide (n<=1024):=by
 rw[Bool.eq_iff_iff,Lc,decide_eq_true_eq];exact⟨fun H=>H.2,fun H=>⟨h,H⟩⟩
theorem lnk_next{g:Nat->lD}{i:Nat}(h: ∀q,q<i->Yi g q)(hi:Yi g i): ∀q,q<i+1->Yi g q:=fun q hq=>by
 rcases Nat.lt_or_eq_of_le (Nat.le_of_lt_succ hq) with h9|h9
 ·exact h q h9
 ·rw[h9];exact hi
theorem Gq(c:Option Nat)(n:Nat)(g:Nat->lD)(hn:n<1000000000):aA prog 337 [.d (SL c 2 lD.enc n g)] σ (.d (B (zZ g n))):=by
 refine aA.bs true func337 fun hwf=> ?_;refine kQ (α:=Nat) true [0,5,6,7] (fun i=>[(7,.d (I i))]) (fun i=>_) (fun i=>i<=n/\∀q,q<i->Yi g q) (fun i=>n-i) 0 ?_;rintro i ⟨hi,hx⟩;simp[go_sem];refine aJ [0,5,6,7] ?_ ?_<;>intro c0 d0
 ·have hi5:i<n:=by omega
  simp[go_sem,hi5];refine T.dr 25 fun K hK=> ?_;simp[go_sem];refine dF.mk (pF _ (g i).mM) ?_;simp[go_sem];refine dF.mk (pF _ (g i).Unit) ?_;simp[go_sem,dn (i:=i) (by omega)];repeat refine⟨by omega,?_⟩
  refine hK _ ?_;refine go true ?_;simp[go_sem];refine aJ [0,5,6,7] ?_ ?_<;>intro c1 d1
  ·have hz:zZ g n=false:=linkB_no hi5 fun hr=>by
    have h1:=PG.2 hr.1;have h2:=PG.2 hr.2.1;have h3:=hr.2.2;simp[h1,h2] at d1;omega
   simp[go_sem];rw[hz];exact aj sc
  ·have hr:Yi g i:=⟨PG.1 d1.1.1,PG.1 d1.1.2,d1.2⟩;simp(disch:=first|omega|simp) [go_sem,aH];refine gB (i+1) ⟨by omega,lnk_next hx hr⟩ (h:=by simp[go_sem]<;>omega)
 ·obtain rfl:i=n:=by omega
  have hz:=linkB_yes hx;simp[go_sem];refine go true ?_;simp[go_sem];rw[hz];exact aj so
theorem uI(c c':Option Nat)(n m:Nat)(f g:Nat->lD)(hn:n<1000000000)(hm:m<1000000000):aA prog 50 [.d (SL c 2 lD.enc n f),.d (SL c' 2 lD.enc m g)] σ (.d (B (xk (lst n f) (lst m g)))):=by
 refine aA.bs true func50 fun hwf=> ?_;refine aJ [0,1] ?_ ?_<;>intro c0 d0
 ·have hz:=wC (f:=f) (g:=g) (show ¬n=m by omega);simp[go_sem];rw[hz];exact aj sc
 ·have hnm:n=m:=by omega
  subst hnm;simp[go_sem];refine kQ (α:=Nat) true [0,1,12,13] (fun i=>[(13,.d (I i))]) (fun i=>_) (fun i=>i<=n/\∀q,q<i->f q=g q) (fun i=>n-i) 0 ?_;rintro i ⟨hi,hx⟩;simp[go_sem];refine aJ [0,1,12,13] ?_ ?_<;>intro c1 d1
  ·have hi5:i<n:=by omega
   simp[go_sem];refine T.dr 9 fun K hK=> ?_;simp[go_sem,hi5];refine hK _ ?_;refine go true ?_;simp[go_sem];refine aJ [0,1,12,13] ?_ ?_<;>intro c2 d2
   ·have hz:xk (lst n f) (lst n g)=false:=Dn hi5 hi5 (fun h=>by simp[h] at d2);simp[go_sem];rw[hz];exact aj sc
   ·have heq:f i=g i:=by
     revert c2;rcases f i with⟨_,_⟩;rcases g i with⟨_,_⟩;simp<;>(intros;simp_all)
    simp(disch:=first|omega|simp) [go_sem,aH];refine gB (i+1) ⟨by omega,fun q hq=>by rcases Nat.lt_or_eq_of_le (Nat.le_of_lt_succ hq) with h|h;exact hx q h;rw[h];exact heq⟩ (h:=by simp[go_sem]<;>omega)
  ·obtain rfl:i=n:=by omega
   have hz:=tY (f:=f) (g:=g) rfl hx;simp[go_sem];refine go true (sm ?_);rw[hz];exact aj sc
def twB(g:Nat->lD)(n:Nat)(u:Nat->Int)(m:Nat):Bool:=(lst m u).any fun k=>(lst n g).any fun y=>y.Unit==k
def xI(g:Nat->lD)(n:Nat)(u:Nat->Int)(f:Int)(q:Nat):lD:=if q<n then g q else⟨f+((q-n:Nat):Int),u (q-n)⟩
theorem II{g:Nat->lD}{n:Nat}{u:Nat->Int}{f:Int}{q:Nat}(h:q<n):xI g n u f q=g q:=if_pos h
theorem Rl{g:Nat->lD}{n:Nat}{u:Nat->Int}{f:Int}(i:Nat):xI g n u f (n+i)=⟨f+(i:Int),u i⟩:=by unfold xI;rw[if_neg (by omega)];simp
theorem linkF_cat{g:Nat->lD}{n:Nat}{u:Nat->Int}{f:Int}{i q:Nat}(hq:q<n+i+1):bf (n+i) (fun q=>lD.enc (xI g n u f q)) (rowsOf 2 [I (f+(i:Int)),I (u i)]) q=lD.enc (xI g n u f q):=by
 unfold bf;split
 ·rfl
 ·obtain rfl:q=n+i:=by omega
  rw[Rl];simp[rowsOf,lD.enc]
noncomputable def jZ(g:Nat->lD)(n:Nat)(x:fU)(f:Int):Int:=
 if(!zZ g n|| !decide (lK x=0))=true then 1 else if x.State≠3 then 11 else if f<1\/1073741824-(x.nu:Int)+1<f then 2
 else if 0<n/\f<=(g (n-1)).mM then 5 else if twB g n x.u x.nu=true then 6 else if 1024<n+x.nu then 12 else 0
noncomputable def CG(g:Nat->lD)(n:Nat)(x:fU)(f:Int):Nat:=if jZ g n x f=0 then n+x.nu else 0
noncomputable def U9(g:Nat->lD)(n:Nat)(x:fU)(f:Int):Nat->lD:=xI g n x.u f
theorem uh{g:Nat->lD}{n:Nat}{x:fU}{f e:Int}(h:jZ g n x f=e)(he:e≠0):CG g n x f=0:=by unfold CG;rw[h,if_neg he]
theorem ZC{g:Nat->lD}{n:Nat}{x:fU}{f:Int}(h:jZ g n x f=0):CG g n x f=n+x.nu:=by unfold CG;rw[if_pos h]
theorem linkE_1{g:Nat->lD}{n:Nat}{x:fU}{f:Int}(h:(!zZ g n|| !decide (lK x=0))=true):jZ g n x f=1:=if_pos h
section
variable {g : Nat -> lD} {n : Nat} {x : fU} {f : Int} (h1 : (!zZ g n || !decide (lK x = 0)) = false)
include h1
theorem linkE_11(h2:x.State≠3):jZ g n x f=11:=by unfold jZ;rw[if_neg (by rw[h1];decide),if_pos h2]
variable (h2 : x.State = 3)
include h2
theorem linkE_2(h3:f<1\/1073741824-(x.nu:Int)+1<f):jZ g n x f=2:=by unfold jZ;rw[if_neg (by rw[h1];decide),if_neg (by simp[h2]),if_pos h3]
variable (h3 : ¬ (f < 1 \/ 1073741824 - (x.nu : Int) + 1 < f))
include h3
theorem linkE_5(h4:0<n/\f<=(g (n-1)).mM):jZ g n x f=5:=by unfold jZ;rw[if_neg (by rw[h1];decide),if_neg (by simp[h2]),if_neg h3,if_pos h4]
variable (h4 : ¬ (0 < n /\ f <= (g (n - 1)).mM))
include h4
theorem linkE_6(h5:twB g n x.u x.nu=true):jZ g n x f=6:=by unfold jZ;rw[if_neg (by rw[h1];decide),if_neg (by simp[h2]),if_neg h3,if_neg h4,if_pos h5]
variable (h5 : twB g n x.u x.nu = false)
include h5
theorem linkE_12(h6:1024<n+x.nu):jZ g n x f=12:=by unfold jZ;rw[if_neg (by rw[h1];decide),if_neg (by simp[h2]),if_neg h3,if_neg h4,if_neg (by rw[h5];decide),if_pos h6]
theorem linkE_0(h6: ¬1024<n+x.nu):jZ g n x f=0:=by unfold jZ;rw[if_neg (by rw[h1];decide),if_neg (by simp[h2]),if_neg h3,if_neg h4,if_neg (by rw[h5];decide),if_neg h6]
end
theorem ZE(τ:List aG)(x:lD)(k:Int):aA prog 336 [.agg (x.enc.map .d),.ptr σ.length 0] (σ++ .var [.d (I k)]::τ) (.d (B (x.Unit==k))):=by
 refine aA.bs true func336 fun hwf=> ?_;exact aj so
theorem linkHas_cs(τ:List aG)(c:Option Nat)(n:Nat)(g:Nat->lD)(k:Int)(hn:n<1000000000):aA prog 334 [.d (I k),.ptr σ.length 0] (σ++ .var [.d (SL c 2 lD.enc n g)]::τ) (.d (B ((lst n g).any fun y=>y.Unit==k))):=by
 refine aA.bs true func334 fun hwf=> ?_;refine aO.mk (SG _ c n g 336 [.ptr (σ.length+(τ.length+1)) 0] (fun y=>y.Unit==k) hn (fun i hi=>by have h:=ZE (σ++ .var [.d (SL c 2 lD.enc n g)]::τ) [] (g i) k;simpa using h)) ?_;simp[go_sem];exact aj so
theorem xZ(c:Option Nat)(n:Nat)(g:Nat->lD)(x:fU)(f:Int)(hn:n<1000000000)(hu:x.nu<1000000000)(hm:x.nb<1000000000)(hσ:σ[0]? =some (.tab 0 gK)):aA prog 273 [.d (SL c 2 lD.enc n g),.agg (x.enc.map .d),.d (I f)] σ (.eU [.d (SL none 2 lD.enc (CG g n x f) (U9 g n x f)),.d (I (jZ g n x f))]):=by
 refine aA.bs true func273 fun hwf=> ?_;refine aO.mk (Gq _ c n g hn) (sm ?_);refine fM.mk' _ (fun _=>jk _ x hu hm (aC hσ)) (sm ?_);refine aJ [2,3,4,8] ?_ ?_<;>intro c0 d0
 ·have hz:=linkE_1 (f:=f) (show(!zZ g n|| !decide (lK x=0))=true by simpa using d0);have hn0:=uh hz (by decide);simp[go_sem];refine aj ?_;rw[hz,hn0];simp[go_sem,Go.aU.bC]
 ·have h1:(!zZ g n|| !decide (lK x=0))=false:=by simpa using d0
  simp[go_sem];refine aJ [2,3,4,8] ?_ ?_<;>intro c1 d1
  ·have hz:=linkE_11 (f:=f) h1 (show x.State≠3 by simpa using d1);have hn0:=uh hz (by decide);simp[go_sem];refine aj ?_;rw[hz,hn0];simp[go_sem,Go.aU.bC]
  ·have h2:x.State=3:=by simpa using d1
   have hch:lK x=0:=by have:=h1;simp at this;exact this.2
   have hl:=Lc.1 (show zZ g n=true by have:=h1;simp at this;exact this.1);have hx:=zy hch;have g3:=hx.n1;have g4:=hx.n2;have hn7:=hl.2;clear d1 c1;have d1:True:=trivial;have c1:True:=trivial;simp(disch:=first|omega|simp) [go_sem,aH];refine aJ [2,3,4,8] ?_ ?_<;>intro c2 d2
   ·have h3:f<1\/1073741824-(x.nu:Int)+1<f:=by exact d2
    have hz:=linkE_2 h1 h2 h3;have hn0:=uh hz (by decide);simp[go_sem];refine aj ?_;rw[hz,hn0];simp[go_sem,Go.aU.bC]
   ·have h3: ¬(f<1\/1073741824-(x.nu:Int)+1<f):=by omega
    simp(disch:=first|omega|simp) [go_sem,aH];repeat refine⟨by omega,?_⟩
    refine aJ [2,3,4,8] ?_ ?_<;>intro c3 d3
    ·have h4:0<n/\f<=(g (n-1)).mM:=by exact d3
     have hz:=linkE_5 h1 h2 h3 h4;have hn0:=uh hz (by decide);simp[go_sem];refine aj ?_;rw[hz,hn0];simp[go_sem,Go.aU.bC]
    ·have h4: ¬(0<n/\f<=(g (n-1)).mM):=by intro hh;have:=d3 hh.1;omega
     simp[go_sem];refine aO.mk (pG _ none x.nu x.u 334 [.ptr σ.length 0] (fun k=>(lst n g).any fun y=>y.Unit==k) hu (fun i hi=>linkHas_cs σ [.var (x.enc.map .d)] c n g (x.u i) hn)) (sm ?_);refine aJ [2,3,4] ?_ ?_<;>intro c4 d4
     ·have hz:=linkE_6 h1 h2 h3 h4 (show twB g n x.u x.nu=true from by simpa[twB] using c4);have hn0:=uh hz (by decide);simp[go_sem];refine aj ?_;rw[hz,hn0];simp[go_sem,Go.aU.bC]
     ·have h5:twB g n x.u x.nu=false:=by simpa[twB] using c4
      simp(disch:=first|omega|simp) [go_sem,aH];refine aJ [2,3,4] ?_ ?_<;>intro c5 d5
      ·have hz:=linkE_12 h1 h2 h3 h4 h5 (by omega);have hn0:=uh hz (by decide);simp[go_sem];refine aj ?_;rw[hz,hn0];simp[go_sem,Go.aU.bC]
      ·have hz:=linkE_0 h1 h2 h3 h4 h5 (by omega);have hn0:=ZC hz;simp[go_sem];refine aO.gen (XO _ c n g hn) ?_;rintro r σ' X ⟨rfl,rfl,rfl⟩;simp[go_sem];refine aY (σ.length+2) (fun q=>lD.enc (xI g n x.u f q)) (by simp[go_sem];exact⟨rfl,rfl,rfl⟩) (by intro q hq;simp[go_sem,II hq]) (by simp[go_sem];rfl) ?_;refine lpU (α:=Nat) false [2,9,69,70,71] [σ.length+2] (fun i=>[(71,.d (I i)),(9,.ms (σ.length+2) 2 0 (n+i))]) (fun i=>σ++[.var [.d (SL c 2 lD.enc n g)],.var (x.enc.map .d),.arr 2 (n+i) (fun q=>lD.enc (xI g n x.u f q))]) (fun i=>i<=x.nu) (fun i=>x.nu-i) 0 (by simp[go_sem]) (rfl) (by simp) (by simp) ?_;rintro i hi;simp[go_sem];refine go false (sm ?_);refine aJ [2,9,69,70,71] ?_ ?_<;>intro c6 d6
       ·have hi5:i<x.nu:=by omega
        have hwr:IntKind.i64.wrap (f+(i:Int))=f+(i:Int):=aH (by omega) (by omega);have hni:=Nat.add_assoc n i 1;simp[go_sem,hi5];refine go false ?_;simp(disch:=first|omega|simp) [go_sem,hwr,hni,hwf.one];repeat refine⟨by omega,?_⟩
        refine aY (σ.length+2) (fun q=>lD.enc (xI g n x.u f q)) (by simp[go_sem];exact⟨rfl,rfl,rfl⟩) (by exact fun q hq=>linkF_cat hq) (by simp[go_sem];rfl) ?_;refine go false ?_;simp(disch:=first|omega|simp) [go_sem,aH];refine gB (i+1) (by omega) (h:=by simp[go_sem]<;>omega) (hσ:=by simp[go_sem]) (hb:=au (by simp[go_sem]))
       ·obtain rfl:i=x.nu:=by omega
        simp[go_sem];refine go true (sm ?_);refine aF hwf (σ.length+2) ?_;refine aj ?_;rw[hz,hn0];simp[go_sem,Go.aU.bC,U9]
end Go.Proofs.YtmahphgjkpgidaaGreatDoor
