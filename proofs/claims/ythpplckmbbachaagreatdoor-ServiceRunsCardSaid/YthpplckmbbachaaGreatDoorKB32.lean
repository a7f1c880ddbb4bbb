/- Lemmas, no conditions. -/
import Derived.Test.YthpplckmbbachaaGreatDoorKB30
set_option linter.unusedVariables false
set_option linter.unusedSimpArgs false
set_option maxHeartbeats 4000000
set_option maxRecDepth 100000
namespace Go.Proofs.YthpplckmbbachaaGreatDoor
open Go.aI Go.bI Go.Proofs.Tryz
variable (σ : List aZ)
theorem YY{P c Q N t t' σ mv}(k sz row)(hk:aI.get t k=some (.d (.v (.slice none 0 0))))(ht:aI.put t k (.d (.sl none sz 0 row))=t')(h:cV P c Q ⟨N,t',σ,mv⟩):cV P c Q ⟨N,t,σ,mv⟩:=by
 subst ht;intro j0 j a w hr;refine h j0 j a w ⟨hr.defers,hr.fC,hr.size,fun k' av hk'=> ?_,hr.cm,hr.len0,hr.ag⟩;simp only at hk';rw[get_put] at hk';split at hk'
 ·rename_i e;subst e;simp only[Option.some.injEq] at hk';subst hk';obtain⟨h1,h2⟩:=hr.tmp k _ hk;refine⟨h1,?_⟩;cases h2 with|d h2=>exact .d (RD.nil h2)
 ·exact hr.tmp k' av hk'
def sE(u:Use)(k:Int):Nat×(Nat->Cnt):=if hZ u.nb u.gb k<0 then(0,fun _=>⟨0,0⟩) else((u.gb (hZ u.nb u.gb k).toNat).nc,(u.gb (hZ u.nb u.gb k).toNat).gc)
def ix(rd d:Int)(b:ju):Bool:=(b.Reader==rd)&&decide (b.In.From<=d)&&decide (d<b.In.Until)
noncomputable def gT(u:Use)(m:Nat)(rg:Nat->Row)(e:Ev)(r:cT)(n:Nat)(g:Nat->Cnt):Int:=if((lst n g).any fun x=> !jc u m rg e r.Reader x.Unit)=true then 22 else if((lst u.nk u.gk).any (ix r.Reader e.Day))=false then 23 else if(aM u r.Box).Kind=0 then 11
 else if cz (cf u.nr u.gr) u.nr u.gr r.ID e.Day≠0 then cz (cf u.nr u.gr) u.nr u.gr r.ID e.Day else if dn u e r.Box ⟨3,r.Reader⟩≠0 then dn u e r.Box ⟨3,r.Reader⟩ else if 1024<u.nw+n then 12 else 0
noncomputable def ml(u:Use)(m:Nat)(rg:Nat->Row)(e:Ev):Int:=if(bJ u (e.gn 0)).2=false then 7 else gT u m rg e (bJ u (e.gn 0)).1 (sE u (bJ u (e.gn 0)).1.Box).1 (sE u (bJ u (e.gn 0)).1.Box).2
def jD(u:Use)(e:Ev)(r:cT)(g:Nat->Cnt)(q:Nat):ke:=if q<u.nw then u.gw q else⟨r.Reader,(g (q-u.nw)).Unit,e.Day⟩
def nF(u:Use)(e:Ev)(r:cT):Use:= { dz u e r.Box ⟨3,r.Reader⟩ with gr:=dj u.gr (cP u.nr u.gr r.ID).toNat 2 e.Day }
def KY(u:Use)(e:Ev):Use:= { nF u e (bJ u (e.gn 0)).1 with nw:=u.nw+(sE u (bJ u (e.gn 0)).1.Box).1,gw:=jD u e (bJ u (e.gn 0)).1 (sE u (bJ u (e.gn 0)).1.Box).2 }
theorem LG{u e r g i q}(hq:q<u.nw+i+1):aO (u.nw+i) (fun q=>ke.enc (jD u e r g q)) (rowsOf 3 [I r.Reader,I (g i).Unit,I e.Day]) q=ke.enc (jD u e r g q):=by
 unfold aO;split
 ·rfl
 ·obtain rfl:q=u.nw+i:=by omega
  have h1: ¬u.nw+i<u.nw:=aa;simp[rowsOf,jD,ke.enc,h1]
theorem Dz(τ u c m rg e rd un)(hm:m<1000000000)(hp:dT u.P)(h1:σ[1]? =some (.loc 1)):ak prog 315 [.ptr (σ.length+1) 0,.d (I rd),.d (I un)] (σ++ .arr 3 u.nw (fun i=>ke.enc (u.gw i)):: .var (bm (u.cells (.ms σ.length 3 0 u.nw)) c m rg e)::τ) (.d (B (jc u m rg e rd un))):=by
 refine ak.bt func315 ?_;apply cU 22 20 21 T.mixed aD
 ·intro τ K hK;simp[go_sem];refine bK.mk (pt _ c m rg u.P rd un e.Day hm hp (ay h1)) (sm ?_);exact hK _ _
 intro K hK;refine wD hK ?_;refine go true (sm ?_);refine af ?_;simp[go_sem,jc]
theorem IU(τ u c m rg e k)(hn:u.nr<1000000000):ak prog 318 [.ptr (σ.length+1) 0,.d (I k)] (σ++ .arr 3 u.nw (fun i=>ke.enc (u.gw i)):: .var (bm (u.cells (.ms σ.length 3 0 u.nw)) c m rg e)::τ) (.cj [.agg ((bJ u k).1.enc.map .d),.d (B (bJ u k).2)]):=by
 have hlt:=RE u k;unfold xf at hlt;refine ak.bt func318 ?_;refine az.mk (lO _ none u.nr u.gr _ _ (fun r=>r.ID==k) hn (fun i hi=>by have h:=nA (wy (σ++ .arr 3 u.nw (fun i=>ke.enc (u.gw i)):: .var (bm (u.cells (.ms σ.length 3 0 u.nw)) c m rg e)::τ) [.var (cT.zero.enc.map .d)] (u.gr i) k);simpa[go_sem,cT.zero] using h)) ?_;refine gc [0,4,6] ?_ ?_<;>intro d0
 ·have hz:bJ u k=(cT.zero,false):=by unfold bJ xf;rw[if_pos d0]
  refine wA ?_;rw[hz];simp[go_sem,cT.zero]
 ·have hz:bJ u k=(u.gr (idxFrom (fun r:cT=>r.ID==k) (lst u.nr u.gr) 0).toNat,true):=by unfold bJ xf;rw[if_neg aa]
  refine wB ?_;exact sy hz
theorem TJ(τ)(u:Use)(c m rg e n g k):CS prog 378 [.ptr (σ.length+1) 8,.d (SL none 6 hY.enc n g),.d (I k)] (σ++ .arr 3 u.nw (fun i=>ke.enc (u.gw i)):: .var (bm (u.cells (.ms σ.length 3 0 u.nw)) c m rg e)::τ) (fun r σ' X'=>X'=[]/\r= .d (I k)/\σ'=σ++ .arr 3 u.nw (fun i=>ke.enc (u.gw i)):: .var (bm ((u.cells (.ms σ.length 3 0 u.nw)).set 8 (if k=0 then .d (SL none 6 hY.enc n g) else .d (SL none 6 hY.enc u.nv u.gv))) c m rg e)::τ):=by
 refine CS.BA true [] func378 fun hwf=> ?_;refine ue ?_ ?_<;>intro d0
 ·obtain rfl:k=0:=by simpa using d0
  simp[go_sem];refine af (sm ?_);exact ae VY
 ·have hk: ¬k=0:=l5;refine wA ?_;simp[go_sem,hk];exact .refl _
theorem ur(τ u c m rg e k tp)(hn:u.nv<1000000000):CS prog 314 [.ptr (σ.length+1) 0,.d (I k),.agg (tp.enc.map .d)] (σ++ .arr 3 u.nw (fun i=>ke.enc (u.gw i)):: .var (bm (u.cells (.ms σ.length 3 0 u.nw)) c m rg e)::τ) (fun r σ' X'=>X'=[]/\r= .d (I (dn u e k tp))/\σ'=σ++ .arr 3 u.nw (fun i=>ke.enc (u.gw i)):: .var (bm ((u.cells (.ms σ.length 3 0 u.nw)).set 8 (.d (SL none 6 hY.enc (if dn u e k tp=0 then u.nv+1 else u.nv) (if dn u e k tp=0 then aL u.gv u.nv ⟨e.Day,k,aM u k,tp⟩ else u.gv)))) c m rg e)::τ):=by
 refine CS.BA true [] func314 fun hwf=> ?_;refine T.dr 24 fun K hK=>sm ?_;refine bK.mk (rO _ u σ.length k hn) (sm ?_);refine bK.mk (oH _ none u.nv u.gv ⟨e.Day,k,aM u k,tp⟩ hn) (sm ?_);refine hK _ ?_;refine go true (sm ?_);refine az.gen (TJ σ _ u c m rg e _ _ _) ?_;rintro r σ' X ⟨rfl,rfl,rfl⟩;refine wA ?_;by_cases hk:dn u e k tp=0
 ·have hk2:=hk;unfold dn at hk2;simp[go_sem,dn,hk2];exact ae VY
 ·have hk2:=hk;unfold dn at hk2;simp[go_sem,dn,hk2];exact .refl _
theorem IP(υ τ:List aZ)(b)(r:cT)(d):ak prog 319 [.agg (b.enc.map .d),.ptr σ.length 0,.ptr (σ.length+1) 0] (σ++ .var (r.enc.map .d):: .var [.d (I d)]::τ) (.d (B (ix r.Reader d b))):=by
 refine ak.bt func319 ?_;refine af ?_;simp[go_sem,ix]
theorem wv(τ u c m rg e)(x:Cnt)(r:cT)(hm:m<1000000000)(hp:dT u.P)(h1:σ[1]? =some (.loc 1)):ak prog 320 [.agg (x.enc.map .d),.ptr (σ.length+2) 0,.ptr (σ.length+3) 0] (σ++ .arr 3 u.nw (fun i=>ke.enc (u.gw i)):: .var (bm (u.cells (.ms σ.length 3 0 u.nw)) c m rg e):: .var [.ptr (σ.length+1) 0]:: .var (r.enc.map .d)::τ) (.d (B (!jc u m rg e r.Reader x.Unit))):=by
 refine ak.bt func320 ?_;refine az.mk (Dz σ _ u c m rg e r.Reader x.Unit hm hp h1) (sm ?_);exact af so
theorem Lr(u c m rg e)(hu:br u)(hn:1<=e.nn)(hb:e.nn<1000000000)(hm:m<1000000000)(h1:σ[1]? =some (.loc 1))(bc:gJ σ):CS prog 220 [.ptr (σ.length+1) 0] (σ++[.arr 3 u.nw (fun i=>ke.enc (u.gw i)),.var (bm (u.cells (.ms σ.length 3 0 u.nw)) c m rg e)]) (fun r σ' X'=>X'=[σ.length]/\r= .d (I (ml u m rg e))/\∃cs,σ'=σ++[.dead,.var cs]/\(ml u m rg e=0->cs=bm ((KY u e).cells (KY u e).aX) c m rg e)):=by
 have b1:=hu.nb;have b3:=hu.nv;have b4:=hu.nr;have b5:=hu.nk;have b8:=hu.nw;have k1:=zS u.nb u.gb (bJ u (e.gn 0)).1.Box;obtain⟨r,hr⟩: ∃r,r=(bJ u (e.gn 0)).1:=⟨_,rfl⟩;rw[←hr] at k1;refine CS.Gc true [σ.length] func220 fun hwf=> ?_;simp[go_sem];apply cU 14 12 13 T.mixed aD
 ·intro τ K hK;refine wB ?_;refine bK.mk (IU σ (.var [.ptr (σ.length+1) 0]::τ) u c m rg e (e.gn 0) aa) ?_;simp[go_sem,←hr];exact hK _ _
 intro K hK;refine wd hK ?_;refine gc [1,3] ?_ ?_<;>intro d0
 ·have hz:ml u m rg e=7:=if_pos l5;simp[go_sem];refine aF bc σ.length ?_;refine wJ ?_;rw[hz];simp[go_sem];refine ij ?_;exact ae bf
 ·have hf0: ¬(bJ u (e.gn 0)).2=false:=l5;refine wL ?_;refine T.dr 7 fun K hK=> ?_;simp[go_sem];refine bK.mk (Pz _ u σ.length r.Box aa) ?_;refine wd hK ?_;refine gc [1,3,5,6] ?_ ?_<;>intro d1
  ·obtain⟨i0,hi0,hin0⟩: ∃i:Nat,hZ u.nb u.gb r.Box=(i:Int)/\i<u.nb:=⟨(hZ u.nb u.gb r.Box).toNat,aa,aa⟩;have hld:sE u r.Box=((u.gb i0).nc,(u.gb i0).gc):=by unfold sE;rw[if_neg aa,hi0,Int.toNat_natCast]
   have hzz:ml u m rg e=gT u m rg e r (u.gb i0).nc (u.gb i0).gc:=by unfold ml;rw[if_neg hf0,←hr,hld]
   have hyy:KY u e= { nF u e r with nw:=u.nw+(u.gb i0).nc,gw:=jD u e r (u.gb i0).gc } :=by unfold KY;rw[←hr,hld]
   have g0:=hu.bx i0 hin0;simp[go_sem,hi0,hin0];refine wM ?_;refine wM ?_;refine wM ?_;refine az.mk (nR _ none (u.gb i0).nc (u.gb i0).gc _ _ (fun x=> !jc u m rg e r.Reader x.Unit) aa (fun i hi=>by have h:=wv σ [.var [.d (I e.Day)]] u c m rg e ((u.gb i0).gc i) r hm hu.P h1;simpa[go_sem] using h)) ?_;refine wH ?_;refine gc [1,3,5,7,8] ?_ ?_<;>intro d2
   ·have hz:ml u m rg e=22:=by rw[hzz];unfold gT;rw[if_pos o9]
    simp[go_sem];refine aF bc σ.length ?_;refine wJ ?_;rw[hz];simp[go_sem];refine ij ?_;exact ae bf
   ·have hq1: ¬((lst (u.gb i0).nc (u.gb i0).gc).any fun x=> !jc u m rg e r.Reader x.Unit)=true:=o9;simp[go_sem];refine az.mk (nS _ none u.nk u.gk _ _ (ix r.Reader e.Day) aa (fun i hi=>abJ)) ?_;refine wH ?_;refine gc [1,3,5,7] ?_ ?_<;>intro d3
    ·have hz:ml u m rg e=23:=by rw[hzz];unfold gT;rw[if_neg hq1,if_pos o8]
     simp[go_sem];refine aF bc σ.length ?_;refine wJ ?_;rw[hz];simp[go_sem];refine ij ?_;exact ae bf
    ·have hq2: ¬((lst u.nk u.gk).any (ix r.Reader e.Day))=false:=o8;simp[go_sem];refine T.dr 10 fun K hK=> ?_;simp[go_sem];refine bK.mk (rO _ u σ.length r.Box aa) ?_;refine wD hK ?_;refine go false ?_;refine gc [1,3,5,7] ?_ ?_<;>intro d4
     ·have hz:ml u m rg e=11:=by rw[hzz];unfold gT;rw[if_neg hq1,if_neg hq2,if_pos uo]
      simp[go_sem];refine aF bc σ.length ?_;refine wJ ?_;rw[hz];simp[go_sem];refine ij ?_;exact ae bf
     ·have hq3: ¬(aM u r.Box).Kind=0:=uo;simp[go_sem];refine T.dr 13 fun K hK=> ?_;simp[go_sem];refine bK.mk (qZ _ none u.nr u.gr r.ID e.Day aa) ?_;refine wd hK ?_;refine gc [1,3,5,7,9,10] ?_ ?_<;>intro d5
      ·have hk: ¬cz (cf u.nr u.gr) u.nr u.gr r.ID e.Day=0:=Dj;have hz:ml u m rg e=cz (cf u.nr u.gr) u.nr u.gr r.ID e.Day:=by rw[hzz];unfold gT;rw[if_neg hq1,if_neg hq2,if_neg hq3,if_pos hk]
       simp[go_sem];refine aF bc σ.length ?_;refine wJ ?_;rw[hz];simp[go_sem,hk];refine ij ?_;exact ae bf
      ·have hk4:cz (cf u.nr u.gr) u.nr u.gr r.ID e.Day=0:=Dj;simp[go_sem,hk4];refine az.gen (ur σ _ u c m rg e r.Box ⟨3,r.Reader⟩ aa) ?_;rintro r' σ' X ⟨rfl,rfl,rfl⟩;refine wU ?_;refine gc [1,3,5,7,9,11] ?_ ?_<;>intro d6
       ·have hk: ¬dn u e r.Box ⟨3,r.Reader⟩=0:=vX;have hz:ml u m rg e=dn u e r.Box ⟨3,r.Reader⟩:=by rw[hzz];unfold gT;rw[if_neg hq1,if_neg hq2,if_neg hq3,if_neg (fun h=>h hk4),if_pos hk]
        simp[go_sem];refine aF bc σ.length ?_;refine wJ ?_;rw[hz];simp[go_sem,hk];refine ij ?_;exact ae bf
       ·have hk5:dn u e r.Box ⟨3,r.Reader⟩=0:=vX;simp(disch:=first|omega|simp) [go_sem,hk5,aS];refine go false ?_;refine gc [1,3,5,7,9] ?_ ?_<;>intro d7
        ·have hz:ml u m rg e=12:=by rw[hzz];unfold gT;rw[if_neg hq1,if_neg hq2,if_neg hq3,if_neg (fun h=>h hk4),if_neg (fun h=>h hk5),if_pos aa]
         simp[go_sem];refine aF bc σ.length ?_;refine wJ ?_;rw[hz];simp[go_sem];refine ij ?_;exact ae bf
        ·have hz:ml u m rg e=0:=by rw[hzz];unfold gT;rw[if_neg hq1,if_neg hq2,if_neg hq3,if_neg (fun h=>h hk4),if_neg (fun h=>h hk5),if_neg aa]
         refine wL ?_;refine ax σ.length (fun q=>ke.enc (jD u e r (u.gb i0).gc q)) bj Q9 aN ?_;refine JQ (α:=Nat) false [1,3,7,115,116,117] [σ.length] (fun i=>[(117,.d (I i))]) (fun i=>σ++[.arr 3 (u.nw+i) (fun q=>ke.enc (jD u e r (u.gb i0).gc q)),.var (bm (((nF u e r).cells (.ms σ.length 3 0 (u.nw+i)))) c m rg e),.var [.ptr (σ.length+1) 0],.var (r.enc.map .d),.var [.d (I e.Day)]]) (fun i=>i<=(u.gb i0).nc) (fun i=>(u.gb i0).nc-i) 0 au (rfl) an an ?_;rintro i hi;refine wH ?_;refine gc [1,3,7,115,116,117] ?_ ?_<;>intro d8
         ·have hi8:i<(u.gb i0).nc:=aa;simp[go_sem,hi8];refine wb ?_;apply Pf.gZ 17 13 134 (.ms σ.length 3 0 (u.nw+i+1)) ((σ++[.arr 3 (u.nw+i+1) (aO (u.nw+i) (fun q=>ke.enc (jD u e r (u.gb i0).gc q)) (rowsOf 3 [I r.Reader,I ((u.gb i0).gc i).Unit,I e.Day])),.var (bm (((nF u e r).cells .undef)) c m rg e),.var [.ptr (σ.length+1) 0],.var (r.enc.map .d),.var [.d (I e.Day)],.var (((u.gb i0).gc i).enc.map .d)])) ([σ.length]) [2,3,4,5,6,7,8,9,10,11,12] T.mixed aD
          ·intro K hK;simp[go_sem,Nat.add_assoc];exact hK _ _
          ·decide
          ·simp[go_sem,bc.zero,Nat.add_assoc];repeat refine⟨aa,?_⟩
           all_goals omega
          ·intro K hK;simp[go_sem,Nat.add_assoc];exact hK _ _
          ·simp[go_sem,Nat.add_assoc]
          intro K hK;simp[go_sem,Nat.add_assoc];refine hK _ ?_;refine ax σ.length (fun q=>ke.enc (jD u e r (u.gb i0).gc q)) bj (by exact fun q hq=>LG hq) aN ?_;refine wW ?_;refine bF (i+1) aa (h:=aR) (hσ:=au) (hb:=ae aR)
         ·obtain rfl:i=(u.gb i0).nc:=by omega
          simp[go_sem];refine aF bc σ.length ?_;refine wa ?_;refine af ?_;rw[hz,hyy];simp[go_sem,nF,dz];exact ae bf
  ·have hld:sE u r.Box=(0,fun _=>⟨0,0⟩):=by unfold sE;rw[if_pos aa]
   have hzz:ml u m rg e=gT u m rg e r 0 (fun _=>⟨0,0⟩):=by unfold ml;rw[if_neg hf0,←hr,hld]
   have hyy:KY u e= { nF u e r with nw:=u.nw+0,gw:=jD u e r (fun _=>⟨0,0⟩) } :=by unfold KY;rw[←hr,hld]
   simp[go_sem];refine YY 5 2 (fun i=>Cnt.enc ((fun _=>⟨0,0⟩:Nat->Cnt) i)) AD AD ?_;refine wb ?_;refine az.mk (nR _ none 0 (fun _=>⟨0,0⟩:Nat->Cnt) _ _ (fun x=> !jc u m rg e r.Reader x.Unit) aa (fun i hi=>by have h:=wv σ [.var [.d (I e.Day)]] u c m rg e ((fun _=>⟨0,0⟩:Nat->Cnt) i) r hm hu.P h1;simpa[go_sem] using h)) ?_;refine gc [1,3,5,7,8] ?_ ?_<;>intro d9
   ·have hz:ml u m rg e=22:=by rw[hzz];unfold gT;rw[if_pos (by simpa using d9)]
    simp[go_sem];refine aF bc σ.length ?_;refine wJ ?_;rw[hz];simp[go_sem];refine ij ?_;exact ae bf
   ·have hq1: ¬((lst 0 (fun _=>⟨0,0⟩:Nat->Cnt)).any fun x=> !jc u m rg e r.Reader x.Unit)=true:=by simpa using d9
    simp[go_sem];refine az.mk (nS _ none u.nk u.gk _ _ (ix r.Reader e.Day) aa (fun i hi=>abJ)) ?_;refine gc [1,3,5,7] ?_ ?_<;>intro d10
    ·have hz:ml u m rg e=23:=by rw[hzz];unfold gT;rw[if_neg hq1,if_pos (by simpa using d10)]
     simp[go_sem];refine aF bc σ.length ?_;refine wJ ?_;rw[hz];simp[go_sem];refine ij ?_;exact ae bf
    ·have hq2: ¬((lst u.nk u.gk).any (ix r.Reader e.Day))=false:=by simpa using d10
     simp[go_sem];refine T.dr 10 fun K hK=> ?_;simp[go_sem];refine bK.mk (rO _ u σ.length r.Box aa) ?_;refine wD hK ?_;refine go false ?_;refine gc [1,3,5,7] ?_ ?_<;>intro d11
     ·have hz:ml u m rg e=11:=by rw[hzz];unfold gT;rw[if_neg hq1,if_neg hq2,if_pos (by simpa using d11)]
      simp[go_sem];refine aF bc σ.length ?_;refine wJ ?_;rw[hz];simp[go_sem];refine ij ?_;exact ae bf
     ·have hq3: ¬(aM u r.Box).Kind=0:=by simpa using d11
      simp[go_sem];refine T.dr 13 fun K hK=> ?_;simp[go_sem];refine bK.mk (qZ _ none u.nr u.gr r.ID e.Day aa) ?_;refine wd hK ?_;refine gc [1,3,5,7,9,10] ?_ ?_<;>intro d12
      ·have hk: ¬cz (cf u.nr u.gr) u.nr u.gr r.ID e.Day=0:=by simpa using d12
       have hz:ml u m rg e=cz (cf u.nr u.gr) u.nr u.gr r.ID e.Day:=by rw[hzz];unfold gT;rw[if_neg hq1,if_neg hq2,if_neg hq3,if_pos hk]
       simp[go_sem];refine aF bc σ.length ?_;refine wJ ?_;rw[hz];simp[go_sem,hk];refine ij ?_;exact ae bf
      ·have hk4:cz (cf u.nr u.gr) u.nr u.gr r.ID e.Day=0:=by simpa using d12
       simp[go_sem,hk4];refine az.gen (ur σ _ u c m rg e r.Box ⟨3,r.Reader⟩ aa) ?_;rintro r' σ' X ⟨rfl,rfl,rfl⟩;refine wU ?_;refine gc [1,3,5,7,9,11] ?_ ?_<;>intro d13
       ·have hk: ¬dn u e r.Box ⟨3,r.Reader⟩=0:=by simpa using d13
        have hz:ml u m rg e=dn u e r.Box ⟨3,r.Reader⟩:=by rw[hzz];unfold gT;rw[if_neg hq1,if_neg hq2,if_neg hq3,if_neg (fun h=>h hk4),if_pos hk]
        simp[go_sem];refine aF bc σ.length ?_;refine wJ ?_;rw[hz];simp[go_sem,hk];refine ij ?_;exact ae bf
       ·have hk5:dn u e r.Box ⟨3,r.Reader⟩=0:=by simpa using d13
        simp(disch:=first|omega|simp) [go_sem,hk5,aS];refine go false ?_;refine gc [1,3,5,7,9] ?_ ?_<;>intro d14
        ·have hz:ml u m rg e=12:=by rw[hzz];unfold gT;rw[if_neg hq1,if_neg hq2,if_neg hq3,if_neg (fun h=>h hk4),if_neg (fun h=>h hk5),if_pos aa]
         simp[go_sem];refine aF bc σ.length ?_;refine wJ ?_;rw[hz];simp[go_sem];refine ij ?_;exact ae bf
        ·have hz:ml u m rg e=0:=by rw[hzz];unfold gT;rw[if_neg hq1,if_neg hq2,if_neg hq3,if_neg (fun h=>h hk4),if_neg (fun h=>h hk5),if_neg aa]
         refine wL ?_;refine ax σ.length (fun q=>ke.enc (jD u e r (fun _=>⟨0,0⟩:Nat->Cnt) q)) bj Q9 aN ?_;refine JQ (α:=Nat) false [1,3,7,115,116,117] [σ.length] (fun i=>[(117,.d (I i))]) (fun i=>σ++[.arr 3 (u.nw+i) (fun q=>ke.enc (jD u e r (fun _=>⟨0,0⟩:Nat->Cnt) q)),.var (bm (((nF u e r).cells (.ms σ.length 3 0 (u.nw+i)))) c m rg e),.var [.ptr (σ.length+1) 0],.var (r.enc.map .d),.var [.d (I e.Day)]]) (fun i=>i<=0) (fun i=>0-i) 0 au (rfl) an an ?_;rintro i hi;refine wH ?_;refine gc [1,3,7,115,116,117] ?_ ?_<;>intro d15
         ·exact absurd d15 aa
         ·obtain rfl:i=0:=by omega
          simp[go_sem];refine aF bc σ.length ?_;refine wa ?_;refine af ?_;rw[hz,hyy];simp[go_sem,nF,dz];exact ae bf
end Go.Proofs.YthpplckmbbachaaGreatDoor
