/- Contracts and lemmas, joined out of smaller texts by a program; no conditions. -/
import Derived.Test.YtmahphgjkpgidaaGreatDoorKB38
set_option linter.unusedVariables false
set_option linter.unusedSimpArgs false
set_option maxHeartbeats 4000000
set_option maxRecDepth 100000
namespace Go.Proofs.YtmahphgjkpgidaaGreatDoor
open Go.aU Go.dh Go.Proofs.Tryz
variable (σ : List aG)
theorem awp_nilT{P:Program}{c:Code}{Q:Exit->St->Prop}{N:Nat}{t t':List (Nat×AV)}{σ:List aG}{mv:List Nat}(k sz:Nat)(row:Nat->List D)(hk:aU.get t k=some (.d (.v (.slice none 0 0))))(ht:aU.put t k (.d (.sl none sz 0 row))=t')(h:fA P c Q ⟨N,t',σ,mv⟩):fA P c Q ⟨N,t,σ,mv⟩:=by
 subst ht;intro j0 j a w hr;refine h j0 j a w ⟨hr.defers,hr.jY,hr.size,fun k' av hk'=> ?_,hr.dA,hr.len0,hr.ag⟩;simp only at hk';rw[get_put] at hk';split at hk'
 ·rename_i e;subst e;simp only[Option.some.injEq] at hk';subst hk';obtain⟨h1,h2⟩:=hr.tmp k _ hk;refine⟨h1,?_⟩;cases h2 with|d h2=>exact .d (RD.nil h2)
 ·exact hr.tmp k' av hk'
def MN(u:Use)(k:Int):Nat×(Nat->Cnt):=if lQ u.nb u.gb k<0 then(0,fun _=>⟨0,0⟩) else((u.gb (lQ u.nb u.gb k).toNat).nc,(u.gb (lQ u.nb u.gb k).toNat).gc)
def xu(rd d:Int)(b:jH):Bool:=(b.Reader==rd)&&decide (b.In.From<=d)&&decide (d<b.In.Until)
noncomputable def xJ(u:Use)(m:Nat)(rg:Nat->Row)(e:Ev)(r:dU)(n:Nat)(g:Nat->Cnt):Int:=if((lst n g).any fun x=> !yC u m rg e r.Reader x.Unit)=true then 22 else if((lst u.nk u.gk).any (xu r.Reader e.Day))=false then 23 else if(aW u r.Box).Kind=0 then 11
 else if kD (kN u.nr u.gr) u.nr u.gr r.ID e.Day≠0 then kD (kN u.nr u.gr) u.nr u.gr r.ID e.Day else if kJ u e r.Box ⟨3,r.Reader⟩≠0 then kJ u e r.Box ⟨3,r.Reader⟩ else if 1024<u.nw+n then 12 else 0
noncomputable def GL(u:Use)(m:Nat)(rg:Nat->Row)(e:Ev):Int:=if(jq u (e.gn 0)).2=false then 7 else xJ u m rg e (jq u (e.gn 0)).1 (MN u (jq u (e.gn 0)).1.Box).1 (MN u (jq u (e.gn 0)).1.Box).2
def uD(u:Use)(e:Ev)(r:dU)(g:Nat->Cnt)(q:Nat):sN:=if q<u.nw then u.gw q else⟨r.Reader,(g (q-u.nw)).Unit,e.Day⟩
def Xf(u:Use)(e:Ev)(r:dU):Use:= { jE u e r.Box ⟨3,r.Reader⟩ with gr:=iL u.gr (nZ u.nr u.gr r.ID).toNat 2 e.Day }
def ldU(u:Use)(e:Ev):Use:= { Xf u e (jq u (e.gn 0)).1 with nw:=u.nw+(MN u (jq u (e.gn 0)).1.Box).1,gw:=uD u e (jq u (e.gn 0)).1 (MN u (jq u (e.gn 0)).1.Box).2 }
theorem shwG_cat{u:Use}{e:Ev}{r:dU}{g:Nat->Cnt}{i q:Nat}(hq:q<u.nw+i+1):bf (u.nw+i) (fun q=>sN.enc (uD u e r g q)) (rowsOf 3 [I r.Reader,I (g i).Unit,I e.Day]) q=sN.enc (uD u e r g q):=by
 unfold bf;split
 ·rfl
 ·obtain rfl:q=u.nw+i:=by omega
  have h1: ¬u.nw+i<u.nw:=by omega
  simp[rowsOf,uD,sN.enc,h1]
theorem Qc(τ:List aG)(u:Use)(c:Option Nat)(m:Nat)(rg:Nat->Row)(e:Ev)(rd un:Int)(hm:m<1000000000)(hp:kF u.P)(h1:σ[1]? =some (.loc 1)):aA prog 256 [.ptr (σ.length+1) 0,.d (I rd),.d (I un)] (σ++ .arr 3 u.nw (fun i=>sN.enc (u.gw i)):: .var (bg (u.cells (.ms σ.length 3 0 u.nw)) c m rg e)::τ) (.d (B (yC u m rg e rd un))):=by
 refine aA.bs true func256 fun hwf=> ?_;apply bW 22 20 21 T.mixed (by kernel_rfl)
 ·intro τ K hK;simp[go_sem];refine dF.mk (qB _ c m rg u.P rd un e.Day hm hp (aC h1)) (sm ?_);exact hK _ _
 intro K hK;simp[go_sem];refine hK _ ?_;refine go true (sm ?_);refine aj ?_;simp[go_sem,yC]
theorem Wj(τ:List aG)(u:Use)(c:Option Nat)(m:Nat)(rg:Nat->Row)(e:Ev)(k:Int)(hn:u.nr<1000000000):aA prog 259 [.ptr (σ.length+1) 0,.d (I k)] (σ++ .arr 3 u.nw (fun i=>sN.enc (u.gw i)):: .var (bg (u.cells (.ms σ.length 3 0 u.nw)) c m rg e)::τ) (.eU [.agg ((jq u k).1.enc.map .d),.d (B (jq u k).2)]):=by
 have hlt:=rqIx_lt u k;unfold QC at hlt;refine aA.bs true func259 fun hwf=> ?_;refine aO.mk (rD _ none u.nr u.gr _ _ (fun r=>r.ID==k) hn (fun i hi=>by have h:=nA (G7 (σ++ .arr 3 u.nw (fun i=>sN.enc (u.gw i)):: .var (bg (u.cells (.ms σ.length 3 0 u.nw)) c m rg e)::τ) [.var (dU.zero.enc.map .d)] (u.gr i) k);simpa[go_sem,dU.zero] using h)) ?_;simp[go_sem];refine aJ [0,4,6] ?_ ?_<;>intro c0 d0
 ·have hz:jq u k=(dU.zero,false):=by unfold jq QC;rw[if_pos d0]
  simp[go_sem];refine aj ?_;rw[hz];simp[go_sem,dU.zero]
 ·have hz:jq u k=(u.gr (idxFrom (fun r:dU=>r.ID==k) (lst u.nr u.gr) 0).toNat,true):=by unfold jq QC;rw[if_neg (by omega)]
  simp[go_sem];repeat refine⟨by omega,?_⟩
  rw[hz];exact aj sc
theorem setMvW_cs(τ:List aG)(u:Use)(c:Option Nat)(m:Nat)(rg:Nat->Row)(e:Ev)(n:Nat)(g:Nat->iE)(k:Int):CS prog 324 [.ptr (σ.length+1) 8,.d (SL none 6 iE.enc n g),.d (I k)] (σ++ .arr 3 u.nw (fun i=>sN.enc (u.gw i)):: .var (bg (u.cells (.ms σ.length 3 0 u.nw)) c m rg e)::τ) (fun r σ' X'=>X'=[]/\r= .d (I k)/\σ'=σ++ .arr 3 u.nw (fun i=>sN.enc (u.gw i)):: .var (bg ((u.cells (.ms σ.length 3 0 u.nw)).set 8 (if k=0 then .d (SL none 6 iE.enc n g) else .d (SL none 6 iE.enc u.nv u.gv))) c m rg e)::τ):=by
 refine CS.NT true [] func324 fun hwf=> ?_;refine fZ ?_ ?_<;>intro c0 d0
 ·obtain rfl:k=0:=by simpa using d0
  simp[go_sem];refine aj (sm ?_);exact au (by simp[go_sem,ay]<;>omega)
 ·have hk: ¬k=0:=by simpa using d0
  simp[go_sem];refine aj ?_;simp[go_sem,hk];exact .refl _
theorem ES(τ:List aG)(u:Use)(c:Option Nat)(m:Nat)(rg:Nat->Row)(e:Ev)(k:Int)(tp:rU)(hn:u.nv<1000000000):CS prog 255 [.ptr (σ.length+1) 0,.d (I k),.agg (tp.enc.map .d)] (σ++ .arr 3 u.nw (fun i=>sN.enc (u.gw i)):: .var (bg (u.cells (.ms σ.length 3 0 u.nw)) c m rg e)::τ) (fun r σ' X'=>X'=[]/\r= .d (I (kJ u e k tp))/\σ'=σ++ .arr 3 u.nw (fun i=>sN.enc (u.gw i)):: .var (bg ((u.cells (.ms σ.length 3 0 u.nw)).set 8 (.d (SL none 6 iE.enc (if kJ u e k tp=0 then u.nv+1 else u.nv) (if kJ u e k tp=0 then aV u.gv u.nv ⟨e.Day,k,aW u k,tp⟩ else u.gv)))) c m rg e)::τ):=by
 refine CS.NT true [] func255 fun hwf=> ?_;refine T.dr 24 fun K hK=>sm ?_;refine dF.mk (Bz _ u σ.length k hn) (sm ?_);refine dF.mk (wH _ none u.nv u.gv ⟨e.Day,k,aW u k,tp⟩ hn) (sm ?_);refine hK _ ?_;refine go true (sm ?_);refine aO.gen (setMvW_cs σ _ u c m rg e _ _ _) ?_;rintro r σ' X ⟨rfl,rfl,rfl⟩;simp[go_sem];refine aj ?_;by_cases hk:kJ u e k tp=0
 ·have hk2:=hk;unfold kJ at hk2;simp[go_sem,kJ,hk2];exact au (by simp[go_sem,ay]<;>omega)
 ·have hk2:=hk;unfold kJ at hk2;simp[go_sem,kJ,hk2];exact .refl _
theorem G5(υ τ:List aG)(b:jH)(r:dU)(d:Int):aA prog 260 [.agg (b.enc.map .d),.ptr σ.length 0,.ptr (σ.length+1) 0] (σ++ .var (r.enc.map .d):: .var [.d (I d)]::τ) (.d (B (xu r.Reader d b))):=by
 refine aA.bs true func260 fun hwf=> ?_;refine aj ?_;simp[go_sem,xu]
theorem GZ(τ:List aG)(u:Use)(c:Option Nat)(m:Nat)(rg:Nat->Row)(e:Ev)(x:Cnt)(r:dU)(hm:m<1000000000)(hp:kF u.P)(h1:σ[1]? =some (.loc 1)):aA prog 261 [.agg (x.enc.map .d),.ptr (σ.length+2) 0,.ptr (σ.length+3) 0] (σ++ .arr 3 u.nw (fun i=>sN.enc (u.gw i)):: .var (bg (u.cells (.ms σ.length 3 0 u.nw)) c m rg e):: .var [.ptr (σ.length+1) 0]:: .var (r.enc.map .d)::τ) (.d (B (!yC u m rg e r.Reader x.Unit))):=by
 refine aA.bs true func261 fun hwf=> ?_;refine aO.mk (Qc σ _ u c m rg e r.Reader x.Unit hm hp h1) (sm ?_);exact aj so
theorem YB(u:Use)(c:Option Nat)(m:Nat)(rg:Nat->Row)(e:Ev)(hu:dB u)(hn:1<=e.nn)(hb:e.nn<1000000000)(hm:m<1000000000)(h1:σ[1]? =some (.loc 1))(gy:lS σ):CS prog 166 [.ptr (σ.length+1) 0] (σ++[.arr 3 u.nw (fun i=>sN.enc (u.gw i)),.var (bg (u.cells (.ms σ.length 3 0 u.nw)) c m rg e)]) (fun r σ' X'=>X'=[σ.length]/\r= .d (I (GL u m rg e))/\∃cs,σ'=σ++[.dead,.var cs]/\(GL u m rg e=0->cs=bg ((ldU u e).cells (ldU u e).bG) c m rg e)):=by
 have b1:=hu.nb;have b3:=hu.nv;have b4:=hu.nr;have b5:=hu.nk;have b8:=hu.nw;have k1:=X6 u.nb u.gb (jq u (e.gn 0)).1.Box;obtain⟨r,hr⟩: ∃r,r=(jq u (e.gn 0)).1:=⟨_,rfl⟩;rw[←hr] at k1;refine CS.bdD true [σ.length] func166 fun hwf=> ?_;simp[go_sem];apply bW 14 12 13 T.mixed (by kernel_rfl)
 ·intro τ K hK;simp[go_sem];repeat refine⟨by omega,?_⟩
  refine dF.mk (Wj σ (.var [.ptr (σ.length+1) 0]::τ) u c m rg e (e.gn 0) (by omega)) ?_;simp[go_sem,←hr];exact hK _ _
 intro K hK;simp[go_sem];refine hK _ ?_;refine go false ?_;simp[go_sem];refine go false ?_;simp[go_sem];refine aJ [1,3] ?_ ?_<;>intro c0 d0
 ·have hz:GL u m rg e=7:=if_pos (by simpa using d0);simp[go_sem];refine aF gy σ.length ?_;refine go true ?_;simp[go_sem];refine aj ?_;rw[hz];simp[go_sem];refine lH ?_;exact au (by simp[go_sem,ay])
 ·have hf0: ¬(jq u (e.gn 0)).2=false:=by simpa using d0
  simp[go_sem];refine go true ?_;simp[go_sem];refine T.dr 7 fun K hK=> ?_;simp[go_sem];refine dF.mk (svc_bxM_cs _ u σ.length r.Box (by omega)) ?_;simp[go_sem];refine hK _ ?_;refine go false ?_;simp[go_sem];refine go false ?_;simp[go_sem];refine aJ [1,3,5,6] ?_ ?_<;>intro c1 d1
  ·obtain⟨i0,hi0,hin0⟩: ∃i:Nat,lQ u.nb u.gb r.Box=(i:Int)/\i<u.nb:=⟨(lQ u.nb u.gb r.Box).toNat,by omega,by omega⟩;have hld:MN u r.Box=((u.gb i0).nc,(u.gb i0).gc):=by unfold MN;rw[if_neg (by omega),hi0,Int.toNat_natCast]
   have hzz:GL u m rg e=xJ u m rg e r (u.gb i0).nc (u.gb i0).gc:=by unfold GL;rw[if_neg hf0,←hr,hld]
   have hyy:ldU u e= { Xf u e r with nw:=u.nw+(u.gb i0).nc,gw:=uD u e r (u.gb i0).gc } :=by unfold ldU;rw[←hr,hld]
   have g0:=hu.bx i0 hin0;simp[go_sem,hi0,hin0];refine go false ?_;simp[go_sem];refine go false ?_;simp[go_sem];refine go false ?_;simp[go_sem];refine aO.mk (uZ _ none (u.gb i0).nc (u.gb i0).gc _ _ (fun x=> !yC u m rg e r.Reader x.Unit) (by omega) (fun i hi=>by have h:=GZ σ [.var [.d (I e.Day)]] u c m rg e ((u.gb i0).gc i) r hm hu.P h1;simpa[go_sem] using h)) ?_;simp[go_sem];refine go false ?_;simp[go_sem];refine aJ [1,3,5,7,8] ?_ ?_<;>intro c2 d2
   ·have hz:GL u m rg e=22:=by rw[hzz];unfold xJ;rw[if_pos (by simpa using d2)]
    simp[go_sem];refine aF gy σ.length ?_;refine go true ?_;simp[go_sem];refine aj ?_;rw[hz];simp[go_sem];refine lH ?_;exact au (by simp[go_sem,ay])
   ·have hq1: ¬((lst (u.gb i0).nc (u.gb i0).gc).any fun x=> !yC u m rg e r.Reader x.Unit)=true:=by simpa using d2
    simp[go_sem];refine aO.mk (pI _ none u.nk u.gk _ _ (xu r.Reader e.Day) (by omega) (fun i hi=>by have h:=nA (G5 (σ++[.arr 3 u.nw (fun i=>sN.enc (u.gw i)),.var (bg (u.cells (.ms σ.length 3 0 u.nw)) c m rg e),.var [.ptr (σ.length+1) 0]]) [] [] (u.gk i) r e.Day);simpa[go_sem] using h)) ?_;simp[go_sem];refine go false ?_;simp[go_sem];refine aJ [1,3,5,7] ?_ ?_<;>intro c3 d3
    ·have hz:GL u m rg e=23:=by rw[hzz];unfold xJ;rw[if_neg hq1,if_pos (by simpa using d3)]
     simp[go_sem];refine aF gy σ.length ?_;refine go true ?_;simp[go_sem];refine aj ?_;rw[hz];simp[go_sem];refine lH ?_;exact au (by simp[go_sem,ay])
    ·have hq2: ¬((lst u.nk u.gk).any (xu r.Reader e.Day))=false:=by simpa using d3
     simp[go_sem];refine T.dr 10 fun K hK=> ?_;simp[go_sem];refine dF.mk (Bz _ u σ.length r.Box (by omega)) ?_;simp[go_sem];refine hK _ ?_;refine go false ?_;simp[go_sem];refine aJ [1,3,5,7] ?_ ?_<;>intro c4 d4
     ·have hz:GL u m rg e=11:=by rw[hzz];unfold xJ;rw[if_neg hq1,if_neg hq2,if_pos (by simpa using d4)]
      simp[go_sem];refine aF gy σ.length ?_;refine go true ?_;simp[go_sem];refine aj ?_;rw[hz];simp[go_sem];refine lH ?_;exact au (by simp[go_sem,ay])
     ·have hq3: ¬(aW u r.Box).Kind=0:=by simpa using d4
      simp[go_sem];refine T.dr 13 fun K hK=> ?_;simp[go_sem];refine dF.mk (zV _ none u.nr u.gr r.ID e.Day (by omega)) ?_;simp[go_sem];refine hK _ ?_;refine go false ?_;simp[go_sem];refine go false ?_;simp[go_sem];refine aJ [1,3,5,7,9,10] ?_ ?_<;>intro c5 d5
      ·have hk: ¬kD (kN u.nr u.gr) u.nr u.gr r.ID e.Day=0:=by simpa using d5
       have hz:GL u m rg e=kD (kN u.nr u.gr) u.nr u.gr r.ID e.Day:=by rw[hzz];unfold xJ;rw[if_neg hq1,if_neg hq2,if_neg hq3,if_pos hk]
       simp[go_sem];refine aF gy σ.length ?_;refine go true ?_;simp[go_sem];refine aj ?_;rw[hz];simp[go_sem,hk];refine lH ?_;exact au (by simp[go_sem,ay])
      ·have hk4:kD (kN u.nr u.gr) u.nr u.gr r.ID e.Day=0:=by simpa using d5
       simp[go_sem,hk4];refine aO.gen (ES σ _ u c m rg e r.Box ⟨3,r.Reader⟩ (by omega)) ?_;rintro r' σ' X ⟨rfl,rfl,rfl⟩;simp[go_sem];refine go false ?_;simp[go_sem];refine go false ?_;simp[go_sem];refine aJ [1,3,5,7,9,11] ?_ ?_<;>intro c6 d6
       ·have hk: ¬kJ u e r.Box ⟨3,r.Reader⟩=0:=by simpa using d6
        have hz:GL u m rg e=kJ u e r.Box ⟨3,r.Reader⟩:=by rw[hzz];unfold xJ;rw[if_neg hq1,if_neg hq2,if_neg hq3,if_neg (fun h=>h hk4),if_pos hk]
        simp[go_sem];refine aF gy σ.length ?_;refine go true ?_;simp[go_sem];refine aj ?_;rw[hz];simp[go_sem,hk];refine lH ?_;exact au (by simp[go_sem,ay])
       ·have hk5:kJ u e r.Box ⟨3,r.Reader⟩=0:=by simpa using d6
        simp(disch:=first|omega|simp) [go_sem,hk5,aH];refine go false ?_;simp[go_sem];refine aJ [1,3,5,7,9] ?_ ?_<;>intro c7 d7
        ·have hz:GL u m rg e=12:=by rw[hzz];unfold xJ;rw[if_neg hq1,if_neg hq2,if_neg hq3,if_neg (fun h=>h hk4),if_neg (fun h=>h hk5),if_pos (by omega)]
         simp[go_sem];refine aF gy σ.length ?_;refine go true ?_;simp[go_sem];refine aj ?_;rw[hz];simp[go_sem];refine lH ?_;exact au (by simp[go_sem,ay])
        ·have hz:GL u m rg e=0:=by rw[hzz];unfold xJ;rw[if_neg hq1,if_neg hq2,if_neg hq3,if_neg (fun h=>h hk4),if_neg (fun h=>h hk5),if_neg (by omega)]
         simp[go_sem];refine go true ?_;simp[go_sem];refine aY σ.length (fun q=>sN.enc (uD u e r (u.gb i0).gc q)) (by simp[go_sem];exact⟨rfl,rfl,rfl⟩) (by intro q hq;unfold uD;rw[if_pos hq];rfl) (by simp[go_sem];rfl) ?_;refine lpU (α:=Nat) false [1,3,7,115,116,117] [σ.length] (fun i=>[(117,.d (I i))]) (fun i=>σ++[.arr 3 (u.nw+i) (fun q=>sN.enc (uD u e r (u.gb i0).gc q)),.var (bg (((Xf u e r).cells (.ms σ.length 3 0 (u.nw+i)))) c m rg e),.var [.ptr (σ.length+1) 0],.var (r.enc.map .d),.var [.d (I e.Day)]]) (fun i=>i<=(u.gb i0).nc) (fun i=>(u.gb i0).nc-i) 0 (by simp[go_sem]) (rfl) (by simp) (by simp) ?_;rintro i hi;simp[go_sem];refine go false ?_;simp[go_sem];refine aJ [1,3,7,115,116,117] ?_ ?_<;>intro c8 d8
         ·have hi8:i<(u.gb i0).nc:=by omega
          simp[go_sem,hi8];refine go true ?_;simp[go_sem];apply App1.NW 17 13 134 (.ms σ.length 3 0 (u.nw+i+1)) ((σ++[.arr 3 (u.nw+i+1) (bf (u.nw+i) (fun q=>sN.enc (uD u e r (u.gb i0).gc q)) (rowsOf 3 [I r.Reader,I ((u.gb i0).gc i).Unit,I e.Day])),.var (bg (((Xf u e r).cells .undef)) c m rg e),.var [.ptr (σ.length+1) 0],.var (r.enc.map .d),.var [.d (I e.Day)],.var (((u.gb i0).gc i).enc.map .d)])) ([σ.length]) [2,3,4,5,6,7,8,9,10,11,12] T.mixed (by kernel_rfl)
          ·intro K hK;simp[go_sem];exact hK _ _
          ·decide
          ·simp[go_sem,gy.zero,Nat.add_assoc];repeat refine⟨by omega,?_⟩
           all_goals omega
          ·intro K hK;simp[go_sem,Nat.add_assoc];exact hK _ _
          ·simp[go_sem,Nat.add_assoc]
          intro K hK;simp[go_sem,Nat.add_assoc];refine hK _ ?_;refine aY σ.length (fun q=>sN.enc (uD u e r (u.gb i0).gc q)) (by simp[go_sem];exact⟨rfl,rfl,rfl⟩) (by exact fun q hq=>shwG_cat hq) (by simp[go_sem];rfl) ?_;refine go false ?_;simp(disch:=first|omega|simp) [go_sem,aH];refine gB (i+1) (by omega) (h:=by simp[go_sem]<;>omega) (hσ:=by simp[go_sem]) (hb:=au (by simp[go_sem]<;>omega))
         ·obtain rfl:i=(u.gb i0).nc:=by omega
          simp[go_sem];refine aF gy σ.length ?_;refine go false ?_;simp[go_sem];refine go true ?_;simp[go_sem];refine aj ?_;rw[hz,hyy];simp[go_sem,Xf,jE];exact au (by simp[go_sem,ay])
  ·have hld:MN u r.Box=(0,fun _=>⟨0,0⟩):=by unfold MN;rw[if_pos (by omega)]
   have hzz:GL u m rg e=xJ u m rg e r 0 (fun _=>⟨0,0⟩):=by unfold GL;rw[if_neg hf0,←hr,hld]
   have hyy:ldU u e= { Xf u e r with nw:=u.nw+0,gw:=uD u e r (fun _=>⟨0,0⟩) } :=by unfold ldU;rw[←hr,hld]
   simp[go_sem];refine awp_nilT 5 2 (fun i=>Cnt.enc ((fun _=>⟨0,0⟩:Nat->Cnt) i)) (by simp[go_sem];first|rfl|skip) (by simp[go_sem];first|rfl|skip) ?_;refine go true ?_;simp[go_sem];refine aO.mk (uZ _ none 0 (fun _=>⟨0,0⟩:Nat->Cnt) _ _ (fun x=> !yC u m rg e r.Reader x.Unit) (by omega) (fun i hi=>by have h:=GZ σ [.var [.d (I e.Day)]] u c m rg e ((fun _=>⟨0,0⟩:Nat->Cnt) i) r hm hu.P h1;simpa[go_sem] using h)) ?_;simp[go_sem];refine aJ [1,3,5,7,8] ?_ ?_<;>intro c9 d9
   ·have hz:GL u m rg e=22:=by rw[hzz];unfold xJ;rw[if_pos (by simpa using d9)]
    simp[go_sem];refine aF gy σ.length ?_;refine go true ?_;simp[go_sem];refine aj ?_;rw[hz];simp[go_sem];refine lH ?_;exact au (by simp[go_sem,ay])
   ·have hq1: ¬((lst 0 (fun _=>⟨0,0⟩:Nat->Cnt)).any fun x=> !yC u m rg e r.Reader x.Unit)=true:=by simpa using d9
    simp[go_sem];refine aO.mk (pI _ none u.nk u.gk _ _ (xu r.Reader e.Day) (by omega) (fun i hi=>by have h:=nA (G5 (σ++[.arr 3 u.nw (fun i=>sN.enc (u.gw i)),.var (bg (u.cells (.ms σ.length 3 0 u.nw)) c m rg e),.var [.ptr (σ.length+1) 0]]) [] [] (u.gk i) r e.Day);simpa[go_sem] using h)) ?_;simp[go_sem];refine aJ [1,3,5,7] ?_ ?_<;>intro c10 d10
    ·have hz:GL u m rg e=23:=by rw[hzz];unfold xJ;rw[if_neg hq1,if_pos (by simpa using d10)]
     simp[go_sem];refine aF gy σ.length ?_;refine go true ?_;simp[go_sem];refine aj ?_;rw[hz];simp[go_sem];refine lH ?_;exact au (by simp[go_sem,ay])
    ·have hq2: ¬((lst u.nk u.gk).any (xu r.Reader e.Day))=false:=by simpa using d10
     simp[go_sem];refine T.dr 10 fun K hK=> ?_;simp[go_sem];refine dF.mk (Bz _ u σ.length r.Box (by omega)) ?_;simp[go_sem];refine hK _ ?_;refine go false ?_;simp[go_sem];refine aJ [1,3,5,7] ?_ ?_<;>intro c11 d11
     ·have hz:GL u m rg e=11:=by rw[hzz];unfold xJ;rw[if_neg hq1,if_neg hq2,if_pos (by simpa using d11)]
      simp[go_sem];refine aF gy σ.length ?_;refine go true ?_;simp[go_sem];refine aj ?_;rw[hz];simp[go_sem];refine lH ?_;exact au (by simp[go_sem,ay])
     ·have hq3: ¬(aW u r.Box).Kind=0:=by simpa using d11
      simp[go_sem];refine T.dr 13 fun K hK=> ?_;simp[go_sem];refine dF.mk (zV _ none u.nr u.gr r.ID e.Day (by omega)) ?_;simp[go_sem];refine hK _ ?_;refine go false ?_;simp[go_sem];refine go false ?_;simp[go_sem];refine aJ [1,3,5,7,9,10] ?_ ?_<;>intro c12 d12
      ·have hk: ¬kD (kN u.nr u.gr) u.nr u.gr r.ID e.Day=0:=by simpa using d12
       have hz:GL u m rg e=kD (kN u.nr u.gr) u.nr u.gr r.ID e.Day:=by rw[hzz];unfold xJ;rw[if_neg hq1,if_neg hq2,if_neg hq3,if_pos hk]
       simp[go_sem];refine aF gy σ.length ?_;refine go true ?_;simp[go_sem];refine aj ?_;rw[hz];simp[go_sem,hk];refine lH ?_;exact au (by simp[go_sem,ay])
      ·have hk4:kD (kN u.nr u.gr) u.nr u.gr r.ID e.Day=0:=by simpa using d12
       simp[go_sem,hk4];refine aO.gen (ES σ _ u c m rg e r.Box ⟨3,r.Reader⟩ (by omega)) ?_;rintro r' σ' X ⟨rfl,rfl,rfl⟩;simp[go_sem];refine go false ?_;simp[go_sem];refine go false ?_;simp[go_sem];refine aJ [1,3,5,7,9,11] ?_ ?_<;>intro c13 d13
       ·have hk: ¬kJ u e r.Box ⟨3,r.Reader⟩=0:=by simpa using d13
        have hz:GL u m rg e=kJ u e r.Box ⟨3,r.Reader⟩:=by rw[hzz];unfold xJ;rw[if_neg hq1,if_neg hq2,if_neg hq3,if_neg (fun h=>h hk4),if_pos hk]
        simp[go_sem];refine aF gy σ.length ?_;refine go true ?_;simp[go_sem];refine aj ?_;rw[hz];simp[go_sem,hk];refine lH ?_;exact au (by simp[go_sem,ay])
       ·have hk5:kJ u e r.Box ⟨3,r.Reader⟩=0:=by simpa using d13
        simp(disch:=first|omega|simp) [go_sem,hk5,aH];refine go false ?_;simp[go_sem];refine aJ [1,3,5,7,9] ?_ ?_<;>intro c14 d14
        ·have hz:GL u m rg e=12:=by rw[hzz];unfold xJ;rw[if_neg hq1,if_neg hq2,if_neg hq3,if_neg (fun h=>h hk4),if_neg (fun h=>h hk5),if_pos (by omega)]
         simp[go_sem];refine aF gy σ.length ?_;refine go true ?_;simp[go_sem];refine aj ?_;rw[hz];simp[go_sem];refine lH ?_;exact au (by simp[go_sem,ay])
        ·have hz:GL u m rg e=0:=by rw[hzz];unfold xJ;rw[if_neg hq1,if_neg hq2,if_neg hq3,if_neg (fun h=>h hk4),if_neg (fun h=>h hk5),if_neg (by omega)]
         simp[go_sem];refine go true ?_;simp[go_sem];refine aY σ.length (fun q=>sN.enc (uD u e r (fun _=>⟨0,0⟩:Nat->Cnt) q)) (by simp[go_sem];exact⟨rfl,rfl,rfl⟩) (by intro q hq;unfold uD;rw[if_pos hq];rfl) (by simp[go_sem];rfl) ?_;refine lpU (α:=Nat) false [1,3,7,115,116,117] [σ.length] (fun i=>[(117,.d (I i))]) (fun i=>σ++[.arr 3 (u.nw+i) (fun q=>sN.enc (uD u e r (fun _=>⟨0,0⟩:Nat->Cnt) q)),.var (bg (((Xf u e r).cells (.ms σ.length 3 0 (u.nw+i)))) c m rg e),.var [.ptr (σ.length+1) 0],.var (r.enc.map .d),.var [.d (I e.Day)]]) (fun i=>i<=0) (fun i=>0-i) 0 (by simp[go_sem]) (rfl) (by simp) (by simp) ?_;rintro i hi;simp[go_sem];refine go false ?_;simp[go_sem];refine aJ [1,3,7,115,116,117] ?_ ?_<;>intro c15 d15
         ·exact absurd d15 (by omega)
         ·obtain rfl:i=0:=by omega
          simp[go_sem];refine aF gy σ.length ?_;refine go false ?_;simp[go_sem];refine go true ?_;simp[go_sem];refine aj ?_;rw[hz,hyy];simp[go_sem,Xf,jE];exact au (by simp[go_sem,ay])
end Go.Proofs.YtmahphgjkpgidaaGreatDoor
