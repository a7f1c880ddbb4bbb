/- Contracts and lemmas, joined out of smaller texts by a program; no conditions. -/
import Derived.Test.YthlhlnbcjlpigaaGreatDoorKB31
set_option linter.unusedVariables false
set_option linter.unusedSimpArgs false
set_option maxHeartbeats 4000000
set_option maxRecDepth 100000
namespace Go.Proofs.YthlhlnbcjlpigaaGreatDoor
open Go.aU Go.bY Go.Proofs.Tryz
variable (σ : List aC)
theorem awp_nilT{P:Program}{c:Code}{Q:Exit->St->Prop}{N:Nat}{t t':List (Nat×AV)}{σ:List aC}{mv:List Nat}(k sz:Nat)(row:Nat->List D)(hk:aU.get t k=some (.d (.v (.slice none 0 0))))(ht:aU.put t k (.d (.sl none sz 0 row))=t')(h:dY P c Q ⟨N,t',σ,mv⟩):dY P c Q ⟨N,t,σ,mv⟩:=by
 subst ht;intro j0 j a w hr;refine h j0 j a w ⟨hr.defers,hr.jw,hr.size,fun k' av hk'=> ?_,hr.cZ,hr.len0,hr.ag⟩;simp only at hk';rw[get_put] at hk';split at hk'
 ·rename_i e;subst e;simp only[Option.some.injEq] at hk';subst hk';obtain⟨h1,h2⟩:=hr.tmp k _ hk;refine⟨h1,?_⟩;cases h2 with|d h2=>exact .d (RD.nil h2)
 ·exact hr.tmp k' av hk'
def ldB(u:Use)(k:Int):Nat×(Nat->Cnt):=if qc u.nb u.gb k<0 then(0,fun _=>⟨0,0⟩) else((u.gb (qc u.nb u.gb k).toNat).nc,(u.gb (qc u.nb u.gb k).toNat).gc)
def MS(rd d:Int)(b:iy):Bool:=(b.Reader==rd)&&decide (b.In.From<=d)&&decide (d<b.In.Until)
noncomputable def yI(u:Use)(m:Nat)(rg:Nat->Row)(e:Ev)(r:eU)(n:Nat)(g:Nat->Cnt):Int:=if((lst n g).any fun x=> !EO u m rg e r.Reader x.Unit)=true then 22 else if((lst u.nk u.gk).any (MS r.Reader e.Day))=false then 23 else if(aY u r.Box).Kind=0 then 11
 else if sQ (kK u.nr u.gr) u.nr u.gr r.ID e.Day≠0 then sQ (kK u.nr u.gr) u.nr u.gr r.ID e.Day else if nD u e r.Box ⟨3,r.Reader⟩≠0 then nD u e r.Box ⟨3,r.Reader⟩ else if 1024<u.nw+n then 12 else 0
noncomputable def JE(u:Use)(m:Nat)(rg:Nat->Row)(e:Ev):Int:=if(uD u (e.gn 0)).2=false then 7 else yI u m rg e (uD u (e.gn 0)).1 (ldB u (uD u (e.gn 0)).1.Box).1 (ldB u (uD u (e.gn 0)).1.Box).2
def E9(u:Use)(e:Ev)(r:eU)(g:Nat->Cnt)(q:Nat):sG:=if q<u.nw then u.gw q else⟨r.Reader,(g (q-u.nw)).Unit,e.Day⟩
def XV(u:Use)(e:Ev)(r:eU):Use:= { I4 u e r.Box ⟨3,r.Reader⟩ with gr:=chgG u.gr (zu u.nr u.gr r.ID).toNat 2 e.Day }
def ldU(u:Use)(e:Ev):Use:= { XV u e (uD u (e.gn 0)).1 with nw:=u.nw+(ldB u (uD u (e.gn 0)).1.Box).1,gw:=E9 u e (uD u (e.gn 0)).1 (ldB u (uD u (e.gn 0)).1.Box).2 }
theorem shwG_cat{u:Use}{e:Ev}{r:eU}{g:Nat->Cnt}{i q:Nat}(hq:q<u.nw+i+1):aX (u.nw+i) (fun q=>sG.enc (E9 u e r g q)) (rowsOf 3 [I r.Reader,I (g i).Unit,I e.Day]) q=sG.enc (E9 u e r g q):=by
 unfold aX;split
 ·rfl
 ·obtain rfl:q=u.nw+i:=by omega
  have h1: ¬u.nw+i<u.nw:=by omega
  simp[rowsOf,E9,sG.enc,h1]
theorem MG(τ:List aC)(u:Use)(c:Option Nat)(m:Nat)(rg:Nat->Row)(e:Ev)(rd un:Int)(hm:m<1000000000)(hp:jJ u.P)(h1:σ[1]? =some (.loc 1)):ay prog 278 [.ptr (σ.length+1) 0,.d (I rd),.d (I un)] (σ++ .arr 3 u.nw (fun i=>sG.enc (u.gw i)):: .var (fD (u.cells (.ms σ.length 3 0 u.nw)) c m rg e)::τ) (.d (B (EO u m rg e rd un))):=by
 refine ay.bs true func278 fun hwf=> ?_;apply jm 22 20 21 T.mixed (by kernel_rfl)
 ·intro τ K hK;simp[go_sem];refine dS.mk (vg _ c m rg u.P rd un e.Day hm hp (aO h1)) (sm ?_);exact hK _ _
 intro K hK;simp[go_sem];refine hK _ ?_;refine go true (sm ?_);refine aj ?_;simp[go_sem,EO]
theorem Uc(τ:List aC)(u:Use)(c:Option Nat)(m:Nat)(rg:Nat->Row)(e:Ev)(k:Int)(hn:u.nr<1000000000):ay prog 281 [.ptr (σ.length+1) 0,.d (I k)] (σ++ .arr 3 u.nw (fun i=>sG.enc (u.gw i)):: .var (fD (u.cells (.ms σ.length 3 0 u.nw)) c m rg e)::τ) (.eX [.agg ((uD u k).1.enc.map .d),.d (B (uD u k).2)]):=by
 have hlt:=rqIx_lt u k;unfold rqIx at hlt;refine ay.bs true func281 fun hwf=> ?_;refine aW.mk (tJ _ none u.nr u.gr _ _ (fun r=>r.ID==k) hn (fun i hi=>by have h:=nA (Ud (σ++ .arr 3 u.nw (fun i=>sG.enc (u.gw i)):: .var (fD (u.cells (.ms σ.length 3 0 u.nw)) c m rg e)::τ) [.var (eU.zero.enc.map .d)] (u.gr i) k);simpa[go_sem,eU.zero] using h)) ?_;simp[go_sem];refine aH [0,4,6] ?_ ?_<;>intro c0 d0
 ·have hz:uD u k=(eU.zero,false):=by unfold uD rqIx;rw[if_pos d0]
  simp[go_sem];refine aj ?_;rw[hz];simp[go_sem,eU.zero]
 ·have hz:uD u k=(u.gr (idxFrom (fun r:eU=>r.ID==k) (lst u.nr u.gr) 0).toNat,true):=by unfold uD rqIx;rw[if_neg (by omega)]
  simp[go_sem];repeat refine⟨by omega,?_⟩
  rw[hz];exact aj sc
theorem setMvW_cs(τ:List aC)(u:Use)(c:Option Nat)(m:Nat)(rg:Nat->Row)(e:Ev)(n:Nat)(g:Nat->fJ)(k:Int):CS prog 335 [.ptr (σ.length+1) 8,.d (SL none 6 fJ.enc n g),.d (I k)] (σ++ .arr 3 u.nw (fun i=>sG.enc (u.gw i)):: .var (fD (u.cells (.ms σ.length 3 0 u.nw)) c m rg e)::τ) (fun r σ' X'=>X'=[]/\r= .d (I k)/\σ'=σ++ .arr 3 u.nw (fun i=>sG.enc (u.gw i)):: .var (fD ((u.cells (.ms σ.length 3 0 u.nw)).set 8 (if k=0 then .d (SL none 6 fJ.enc n g) else .d (SL none 6 fJ.enc u.nv u.gv))) c m rg e)::τ):=by
 refine CS.bsD true [] func335 fun hwf=> ?_;refine jT ?_ ?_<;>intro c0 d0
 ·obtain rfl:k=0:=by simpa using d0
  simp[go_sem];refine aj (sm ?_);exact au (by simp[go_sem,aJ]<;>omega)
 ·have hk: ¬k=0:=by simpa using d0
  simp[go_sem];refine aj ?_;simp[go_sem,hk];exact .refl _
theorem Dv(τ:List aC)(u:Use)(c:Option Nat)(m:Nat)(rg:Nat->Row)(e:Ev)(k:Int)(tp:sH)(hn:u.nv<1000000000):CS prog 277 [.ptr (σ.length+1) 0,.d (I k),.agg (tp.enc.map .d)] (σ++ .arr 3 u.nw (fun i=>sG.enc (u.gw i)):: .var (fD (u.cells (.ms σ.length 3 0 u.nw)) c m rg e)::τ) (fun r σ' X'=>X'=[]/\r= .d (I (nD u e k tp))/\σ'=σ++ .arr 3 u.nw (fun i=>sG.enc (u.gw i)):: .var (fD ((u.cells (.ms σ.length 3 0 u.nw)).set 8 (.d (SL none 6 fJ.enc (if nD u e k tp=0 then u.nv+1 else u.nv) (if nD u e k tp=0 then gV u.gv u.nv ⟨e.Day,k,aY u k,tp⟩ else u.gv)))) c m rg e)::τ):=by
 refine CS.bsD true [] func277 fun hwf=> ?_;refine T.dr 24 fun K hK=>sm ?_;refine dS.mk (yT _ u σ.length k hn) (sm ?_);refine dS.mk (tZ _ none u.nv u.gv ⟨e.Day,k,aY u k,tp⟩ hn) (sm ?_);refine hK _ ?_;refine go true (sm ?_);refine aW.gen (setMvW_cs σ _ u c m rg e _ _ _) ?_;rintro r σ' X ⟨rfl,rfl,rfl⟩;simp[go_sem];refine aj ?_;by_cases hk:nD u e k tp=0
 ·have hk2:=hk;unfold nD at hk2;simp[go_sem,nD,hk2];exact au (by simp[go_sem,aJ]<;>omega)
 ·have hk2:=hk;unfold nD at hk2;simp[go_sem,nD,hk2];exact .refl _
theorem EW(υ τ:List aC)(b:iy)(r:eU)(d:Int):ay prog 282 [.agg (b.enc.map .d),.ptr σ.length 0,.ptr (σ.length+1) 0] (σ++ .var (r.enc.map .d):: .var [.d (I d)]::τ) (.d (B (MS r.Reader d b))):=by
 refine ay.bs true func282 fun hwf=> ?_;refine aj ?_;simp[go_sem,MS]
theorem EU(τ:List aC)(u:Use)(c:Option Nat)(m:Nat)(rg:Nat->Row)(e:Ev)(x:Cnt)(r:eU)(hm:m<1000000000)(hp:jJ u.P)(h1:σ[1]? =some (.loc 1)):ay prog 283 [.agg (x.enc.map .d),.ptr (σ.length+2) 0,.ptr (σ.length+3) 0] (σ++ .arr 3 u.nw (fun i=>sG.enc (u.gw i)):: .var (fD (u.cells (.ms σ.length 3 0 u.nw)) c m rg e):: .var [.ptr (σ.length+1) 0]:: .var (r.enc.map .d)::τ) (.d (B (!EO u m rg e r.Reader x.Unit))):=by
 refine ay.bs true func283 fun hwf=> ?_;refine aW.mk (MG σ _ u c m rg e r.Reader x.Unit hm hp h1) (sm ?_);exact aj so
theorem WJ(u:Use)(c:Option Nat)(m:Nat)(rg:Nat->Row)(e:Ev)(hu:dR u)(hn:1<=e.nn)(hb:e.nn<1000000000)(hm:m<1000000000)(h1:σ[1]? =some (.loc 1))(sO:sF σ):CS prog 208 [.ptr (σ.length+1) 0] (σ++[.arr 3 u.nw (fun i=>sG.enc (u.gw i)),.var (fD (u.cells (.ms σ.length 3 0 u.nw)) c m rg e)]) (fun r σ' X'=>X'=[σ.length]/\r= .d (I (JE u m rg e))/\∃cs,σ'=σ++[.dead,.var cs]/\(JE u m rg e=0->cs=fD ((ldU u e).cells (ldU u e).dw) c m rg e)):=by
 have b1:=hu.nb;have b3:=hu.nv;have b4:=hu.nr;have b5:=hu.nk;have b8:=hu.nw;have k1:=bIx_lt u.nb u.gb (uD u (e.gn 0)).1.Box;obtain⟨r,hr⟩: ∃r,r=(uD u (e.gn 0)).1:=⟨_,rfl⟩;rw[←hr] at k1;refine CS.bdD true [σ.length] func208 fun hwf=> ?_;simp[go_sem];apply jm 14 12 13 T.mixed (by kernel_rfl)
 ·intro τ K hK;simp[go_sem];repeat refine⟨by omega,?_⟩
  refine dS.mk (Uc σ (.var [.ptr (σ.length+1) 0]::τ) u c m rg e (e.gn 0) (by omega)) ?_;simp[go_sem,←hr];exact hK _ _
 intro K hK;simp[go_sem];refine hK _ ?_;refine go false ?_;simp[go_sem];refine go false ?_;simp[go_sem];refine aH [1,3] ?_ ?_<;>intro c0 d0
 ·have hz:JE u m rg e=7:=if_pos (by simpa using d0);simp[go_sem];refine aF sO σ.length ?_;refine go true ?_;simp[go_sem];refine aj ?_;rw[hz];simp[go_sem];refine kG ?_;exact au (by simp[go_sem,aJ])
 ·have hf0: ¬(uD u (e.gn 0)).2=false:=by simpa using d0
  simp[go_sem];refine go true ?_;simp[go_sem];refine T.dr 7 fun K hK=> ?_;simp[go_sem];refine dS.mk (ZT _ u σ.length r.Box (by omega)) ?_;simp[go_sem];refine hK _ ?_;refine go false ?_;simp[go_sem];refine go false ?_;simp[go_sem];refine aH [1,3,5,6] ?_ ?_<;>intro c1 d1
  ·obtain⟨i0,hi0,hin0⟩: ∃i:Nat,qc u.nb u.gb r.Box=(i:Int)/\i<u.nb:=⟨(qc u.nb u.gb r.Box).toNat,by omega,by omega⟩;have hld:ldB u r.Box=((u.gb i0).nc,(u.gb i0).gc):=by unfold ldB;rw[if_neg (by omega),hi0,Int.toNat_natCast]
   have hzz:JE u m rg e=yI u m rg e r (u.gb i0).nc (u.gb i0).gc:=by unfold JE;rw[if_neg hf0,←hr,hld]
   have hyy:ldU u e= { XV u e r with nw:=u.nw+(u.gb i0).nc,gw:=E9 u e r (u.gb i0).gc } :=by unfold ldU;rw[←hr,hld]
   have g0:=hu.bx i0 hin0;simp[go_sem,hi0,hin0];refine go false ?_;simp[go_sem];refine go false ?_;simp[go_sem];refine go false ?_;simp[go_sem];refine aW.mk (rV _ none (u.gb i0).nc (u.gb i0).gc _ _ (fun x=> !EO u m rg e r.Reader x.Unit) (by omega) (fun i hi=>by have h:=EU σ [.var [.d (I e.Day)]] u c m rg e ((u.gb i0).gc i) r hm hu.P h1;simpa[go_sem] using h)) ?_;simp[go_sem];refine go false ?_;simp[go_sem];refine aH [1,3,5,7,8] ?_ ?_<;>intro c2 d2
   ·have hz:JE u m rg e=22:=by rw[hzz];unfold yI;rw[if_pos (by simpa using d2)]
    simp[go_sem];refine aF sO σ.length ?_;refine go true ?_;simp[go_sem];refine aj ?_;rw[hz];simp[go_sem];refine kG ?_;exact au (by simp[go_sem,aJ])
   ·have hq1: ¬((lst (u.gb i0).nc (u.gb i0).gc).any fun x=> !EO u m rg e r.Reader x.Unit)=true:=by simpa using d2
    simp[go_sem];refine aW.mk (rW _ none u.nk u.gk _ _ (MS r.Reader e.Day) (by omega) (fun i hi=>by have h:=nA (EW (σ++[.arr 3 u.nw (fun i=>sG.enc (u.gw i)),.var (fD (u.cells (.ms σ.length 3 0 u.nw)) c m rg e),.var [.ptr (σ.length+1) 0]]) [] [] (u.gk i) r e.Day);simpa[go_sem] using h)) ?_;simp[go_sem];refine go false ?_;simp[go_sem];refine aH [1,3,5,7] ?_ ?_<;>intro c3 d3
    ·have hz:JE u m rg e=23:=by rw[hzz];unfold yI;rw[if_neg hq1,if_pos (by simpa using d3)]
     simp[go_sem];refine aF sO σ.length ?_;refine go true ?_;simp[go_sem];refine aj ?_;rw[hz];simp[go_sem];refine kG ?_;exact au (by simp[go_sem,aJ])
    ·have hq2: ¬((lst u.nk u.gk).any (MS r.Reader e.Day))=false:=by simpa using d3
     simp[go_sem];refine T.dr 10 fun K hK=> ?_;simp[go_sem];refine dS.mk (yT _ u σ.length r.Box (by omega)) ?_;simp[go_sem];refine hK _ ?_;refine go false ?_;simp[go_sem];refine aH [1,3,5,7] ?_ ?_<;>intro c4 d4
     ·have hz:JE u m rg e=11:=by rw[hzz];unfold yI;rw[if_neg hq1,if_neg hq2,if_pos (by simpa using d4)]
      simp[go_sem];refine aF sO σ.length ?_;refine go true ?_;simp[go_sem];refine aj ?_;rw[hz];simp[go_sem];refine kG ?_;exact au (by simp[go_sem,aJ])
     ·have hq3: ¬(aY u r.Box).Kind=0:=by simpa using d4
      simp[go_sem];refine T.dr 13 fun K hK=> ?_;simp[go_sem];refine dS.mk (yg _ none u.nr u.gr r.ID e.Day (by omega)) ?_;simp[go_sem];refine hK _ ?_;refine go false ?_;simp[go_sem];refine go false ?_;simp[go_sem];refine aH [1,3,5,7,9,10] ?_ ?_<;>intro c5 d5
      ·have hk: ¬sQ (kK u.nr u.gr) u.nr u.gr r.ID e.Day=0:=by simpa using d5
       have hz:JE u m rg e=sQ (kK u.nr u.gr) u.nr u.gr r.ID e.Day:=by rw[hzz];unfold yI;rw[if_neg hq1,if_neg hq2,if_neg hq3,if_pos hk]
       simp[go_sem];refine aF sO σ.length ?_;refine go true ?_;simp[go_sem];refine aj ?_;rw[hz];simp[go_sem,hk];refine kG ?_;exact au (by simp[go_sem,aJ])
      ·have hk4:sQ (kK u.nr u.gr) u.nr u.gr r.ID e.Day=0:=by simpa using d5
       simp[go_sem,hk4];refine aW.gen (Dv σ _ u c m rg e r.Box ⟨3,r.Reader⟩ (by omega)) ?_;rintro r' σ' X ⟨rfl,rfl,rfl⟩;simp[go_sem];refine go false ?_;simp[go_sem];refine go false ?_;simp[go_sem];refine aH [1,3,5,7,9,11] ?_ ?_<;>intro c6 d6
       ·have hk: ¬nD u e r.Box ⟨3,r.Reader⟩=0:=by simpa using d6
        have hz:JE u m rg e=nD u e r.Box ⟨3,r.Reader⟩:=by rw[hzz];unfold yI;rw[if_neg hq1,if_neg hq2,if_neg hq3,if_neg (fun h=>h hk4),if_pos hk]
        simp[go_sem];refine aF sO σ.length ?_;refine go true ?_;simp[go_sem];refine aj ?_;rw[hz];simp[go_sem,hk];refine kG ?_;exact au (by simp[go_sem,aJ])
       ·have hk5:nD u e r.Box ⟨3,r.Reader⟩=0:=by simpa using d6
        simp(disch:=first|omega|simp) [go_sem,hk5,aA];refine go false ?_;simp[go_sem];refine aH [1,3,5,7,9] ?_ ?_<;>intro c7 d7
        ·have hz:JE u m rg e=12:=by rw[hzz];unfold yI;rw[if_neg hq1,if_neg hq2,if_neg hq3,if_neg (fun h=>h hk4),if_neg (fun h=>h hk5),if_pos (by omega)]
         simp[go_sem];refine aF sO σ.length ?_;refine go true ?_;simp[go_sem];refine aj ?_;rw[hz];simp[go_sem];refine kG ?_;exact au (by simp[go_sem,aJ])
        ·have hz:JE u m rg e=0:=by rw[hzz];unfold yI;rw[if_neg hq1,if_neg hq2,if_neg hq3,if_neg (fun h=>h hk4),if_neg (fun h=>h hk5),if_neg (by omega)]
         simp[go_sem];refine go true ?_;simp[go_sem];refine bC σ.length (fun q=>sG.enc (E9 u e r (u.gb i0).gc q)) (by simp[go_sem];exact⟨rfl,rfl,rfl⟩) (by intro q hq;unfold E9;rw[if_pos hq];rfl) (by simp[go_sem];rfl) ?_;refine lpU (α:=Nat) false [1,3,7,115,116,117] [σ.length] (fun i=>[(117,.d (I i))]) (fun i=>σ++[.arr 3 (u.nw+i) (fun q=>sG.enc (E9 u e r (u.gb i0).gc q)),.var (fD (((XV u e r).cells (.ms σ.length 3 0 (u.nw+i)))) c m rg e),.var [.ptr (σ.length+1) 0],.var (r.enc.map .d),.var [.d (I e.Day)]]) (fun i=>i<=(u.gb i0).nc) (fun i=>(u.gb i0).nc-i) 0 (by simp[go_sem]) (rfl) (by simp) (by simp) ?_;rintro i hi;simp[go_sem];refine go false ?_;simp[go_sem];refine aH [1,3,7,115,116,117] ?_ ?_<;>intro c8 d8
         ·have hi8:i<(u.gb i0).nc:=by omega
          simp[go_sem,hi8];refine go true ?_;simp[go_sem];apply App1.Zo 17 13 134 (.ms σ.length 3 0 (u.nw+i+1)) ((σ++[.arr 3 (u.nw+i+1) (aX (u.nw+i) (fun q=>sG.enc (E9 u e r (u.gb i0).gc q)) (rowsOf 3 [I r.Reader,I ((u.gb i0).gc i).Unit,I e.Day])),.var (fD (((XV u e r).cells .undef)) c m rg e),.var [.ptr (σ.length+1) 0],.var (r.enc.map .d),.var [.d (I e.Day)],.var (((u.gb i0).gc i).enc.map .d)])) ([σ.length]) [2,3,4,5,6,7,8,9,10,11,12] T.mixed (by kernel_rfl)
          ·intro K hK;simp[go_sem];exact hK _ _
          ·decide
          ·simp[go_sem,sO.zero,Nat.add_assoc];repeat refine⟨by omega,?_⟩
           all_goals omega
          ·intro K hK;simp[go_sem,Nat.add_assoc];exact hK _ _
          ·simp[go_sem,Nat.add_assoc]
          intro K hK;simp[go_sem,Nat.add_assoc];refine hK _ ?_;refine bC σ.length (fun q=>sG.enc (E9 u e r (u.gb i0).gc q)) (by simp[go_sem];exact⟨rfl,rfl,rfl⟩) (by exact fun q hq=>shwG_cat hq) (by simp[go_sem];rfl) ?_;refine go false ?_;simp(disch:=first|omega|simp) [go_sem,aA];refine dB (i+1) (by omega) (h:=by simp[go_sem]<;>omega) (hσ:=by simp[go_sem]) (hb:=au (by simp[go_sem]<;>omega))
         ·obtain rfl:i=(u.gb i0).nc:=by omega
          simp[go_sem];refine aF sO σ.length ?_;refine go false ?_;simp[go_sem];refine go true ?_;simp[go_sem];refine aj ?_;rw[hz,hyy];simp[go_sem,XV,I4];exact au (by simp[go_sem,aJ])
  ·have hld:ldB u r.Box=(0,fun _=>⟨0,0⟩):=by unfold ldB;rw[if_pos (by omega)]
   have hzz:JE u m rg e=yI u m rg e r 0 (fun _=>⟨0,0⟩):=by unfold JE;rw[if_neg hf0,←hr,hld]
   have hyy:ldU u e= { XV u e r with nw:=u.nw+0,gw:=E9 u e r (fun _=>⟨0,0⟩) } :=by unfold ldU;rw[←hr,hld]
   simp[go_sem];refine awp_nilT 5 2 (fun i=>Cnt.enc ((fun _=>⟨0,0⟩:Nat->Cnt) i)) (by simp[go_sem];first|rfl|skip) (by simp[go_sem];first|rfl|skip) ?_;refine go true ?_;simp[go_sem];refine aW.mk (rV _ none 0 (fun _=>⟨0,0⟩:Nat->Cnt) _ _ (fun x=> !EO u m rg e r.Reader x.Unit) (by omega) (fun i hi=>by have h:=EU σ [.var [.d (I e.Day)]] u c m rg e ((fun _=>⟨0,0⟩:Nat->Cnt) i) r hm hu.P h1;simpa[go_sem] using h)) ?_;simp[go_sem];refine aH [1,3,5,7,8] ?_ ?_<;>intro c9 d9
   ·have hz:JE u m rg e=22:=by rw[hzz];unfold yI;rw[if_pos (by simpa using d9)]
    simp[go_sem];refine aF sO σ.length ?_;refine go true ?_;simp[go_sem];refine aj ?_;rw[hz];simp[go_sem];refine kG ?_;exact au (by simp[go_sem,aJ])
   ·have hq1: ¬((lst 0 (fun _=>⟨0,0⟩:Nat->Cnt)).any fun x=> !EO u m rg e r.Reader x.Unit)=true:=by simpa using d9
    simp[go_sem];refine aW.mk (rW _ none u.nk u.gk _ _ (MS r.Reader e.Day) (by omega) (fun i hi=>by have h:=nA (EW (σ++[.arr 3 u.nw (fun i=>sG.enc (u.gw i)),.var (fD (u.cells (.ms σ.length 3 0 u.nw)) c m rg e),.var [.ptr (σ.length+1) 0]]) [] [] (u.gk i) r e.Day);simpa[go_sem] using h)) ?_;simp[go_sem];refine aH [1,3,5,7] ?_ ?_<;>intro c10 d10
    ·have hz:JE u m rg e=23:=by rw[hzz];unfold yI;rw[if_neg hq1,if_pos (by simpa using d10)]
     simp[go_sem];refine aF sO σ.length ?_;refine go true ?_;simp[go_sem];refine aj ?_;rw[hz];simp[go_sem];refine kG ?_;exact au (by simp[go_sem,aJ])
    ·have hq2: ¬((lst u.nk u.gk).any (MS r.Reader e.Day))=false:=by simpa using d10
     simp[go_sem];refine T.dr 10 fun K hK=> ?_;simp[go_sem];refine dS.mk (yT _ u σ.length r.Box (by omega)) ?_;simp[go_sem];refine hK _ ?_;refine go false ?_;simp[go_sem];refine aH [1,3,5,7] ?_ ?_<;>intro c11 d11
     ·have hz:JE u m rg e=11:=by rw[hzz];unfold yI;rw[if_neg hq1,if_neg hq2,if_pos (by simpa using d11)]
      simp[go_sem];refine aF sO σ.length ?_;refine go true ?_;simp[go_sem];refine aj ?_;rw[hz];simp[go_sem];refine kG ?_;exact au (by simp[go_sem,aJ])
     ·have hq3: ¬(aY u r.Box).Kind=0:=by simpa using d11
      simp[go_sem];refine T.dr 13 fun K hK=> ?_;simp[go_sem];refine dS.mk (yg _ none u.nr u.gr r.ID e.Day (by omega)) ?_;simp[go_sem];refine hK _ ?_;refine go false ?_;simp[go_sem];refine go false ?_;simp[go_sem];refine aH [1,3,5,7,9,10] ?_ ?_<;>intro c12 d12
      ·have hk: ¬sQ (kK u.nr u.gr) u.nr u.gr r.ID e.Day=0:=by simpa using d12
       have hz:JE u m rg e=sQ (kK u.nr u.gr) u.nr u.gr r.ID e.Day:=by rw[hzz];unfold yI;rw[if_neg hq1,if_neg hq2,if_neg hq3,if_pos hk]
       simp[go_sem];refine aF sO σ.length ?_;refine go true ?_;simp[go_sem];refine aj ?_;rw[hz];simp[go_sem,hk];refine kG ?_;exact au (by simp[go_sem,aJ])
      ·have hk4:sQ (kK u.nr u.gr) u.nr u.gr r.ID e.Day=0:=by simpa using d12
       simp[go_sem,hk4];refine aW.gen (Dv σ _ u c m rg e r.Box ⟨3,r.Reader⟩ (by omega)) ?_;rintro r' σ' X ⟨rfl,rfl,rfl⟩;simp[go_sem];refine go false ?_;simp[go_sem];refine go false ?_;simp[go_sem];refine aH [1,3,5,7,9,11] ?_ ?_<;>intro c13 d13
       ·have hk: ¬nD u e r.Box ⟨3,r.Reader⟩=0:=by simpa using d13
        have hz:JE u m rg e=nD u e r.Box ⟨3,r.Reader⟩:=by rw[hzz];unfold yI;rw[if_neg hq1,if_neg hq2,if_neg hq3,if_neg (fun h=>h hk4),if_pos hk]
        simp[go_sem];refine aF sO σ.length ?_;refine go true ?_;simp[go_sem];refine aj ?_;rw[hz];simp[go_sem,hk];refine kG ?_;exact au (by simp[go_sem,aJ])
       ·have hk5:nD u e r.Box ⟨3,r.Reader⟩=0:=by simpa using d13
        simp(disch:=first|omega|simp) [go_sem,hk5,aA];refine go false ?_;simp[go_sem];refine aH [1,3,5,7,9] ?_ ?_<;>intro c14 d14
        ·have hz:JE u m rg e=12:=by rw[hzz];unfold yI;rw[if_neg hq1,if_neg hq2,if_neg hq3,if_neg (fun h=>h hk4),if_neg (fun h=>h hk5),if_pos (by omega)]
         simp[go_sem];refine aF sO σ.length ?_;refine go true ?_;simp[go_sem];refine aj ?_;rw[hz];simp[go_sem];refine kG ?_;exact au (by simp[go_sem,aJ])
        ·have hz:JE u m rg e=0:=by rw[hzz];unfold yI;rw[if_neg hq1,if_neg hq2,if_neg hq3,if_neg (fun h=>h hk4),if_neg (fun h=>h hk5),if_neg (by omega)]
         simp[go_sem];refine go true ?_;simp[go_sem];refine bC σ.length (fun q=>sG.enc (E9 u e r (fun _=>⟨0,0⟩:Nat->Cnt) q)) (by simp[go_sem];exact⟨rfl,rfl,rfl⟩) (by intro q hq;unfold E9;rw[if_pos hq];rfl) (by simp[go_sem];rfl) ?_;refine lpU (α:=Nat) false [1,3,7,115,116,117] [σ.length] (fun i=>[(117,.d (I i))]) (fun i=>σ++[.arr 3 (u.nw+i) (fun q=>sG.enc (E9 u e r (fun _=>⟨0,0⟩:Nat->Cnt) q)),.var (fD (((XV u e r).cells (.ms σ.length 3 0 (u.nw+i)))) c m rg e),.var [.ptr (σ.length+1) 0],.var (r.enc.map .d),.var [.d (I e.Day)]]) (fun i=>i<=0) (fun i=>0-i) 0 (by simp[go_sem]) (rfl) (by simp) (by simp) ?_;rintro i hi;simp[go_sem];refine go false ?_;simp[go_sem];refine aH [1,3,7,115,116,117] ?_ ?_<;>intro c15 d15
         ·exact absurd d15 (by omega)
         ·obtain rfl:i=0:=by omega
          simp[go_sem];refine aF sO σ.length ?_;refine go false ?_;simp[go_sem];refine go true ?_;simp[go_sem];refine aj ?_;rw[hz,hyy];simp[go_sem,XV,I4];exact au (by simp[go_sem,aJ])
end Go.Proofs.YthlhlnbcjlpigaaGreatDoor
