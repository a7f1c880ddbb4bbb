/- Lemmas, no conditions. -/
import Derived.Test.YthpplckmbbachaaGreatDoorKB43
set_option linter.unusedSimpArgs false
set_option linter.unusedVariables false
set_option maxHeartbeats 4000000
set_option maxRecDepth 100000
namespace Go.Proofs.YthpplckmbbachaaGreatDoor
open Go.aI Go.bI Go.Proofs.Tryz
variable (σ : List aZ)
theorem uy(n):ak prog 78 [.d (I n)] σ (.d (B (Ql n))):=by
 refine ak.bt func78 ?_;refine af ?_;simp[go_sem,Ql]<;>grind
theorem D4(e)(hn:e.nn<1000000000)(ht:e.nt<1000000000):ak prog 38 [.agg (e.enc.map .d)] σ (.d (B (okB e))):=by
 rw[←acW];refine ak.bt func38 ?_;refine T.dr 7 fun K hK=>sm ?_;refine hK _ ?_;refine go true (gc [1,3,4] ?_ ?_)<;>intro d0
 ·refine wA ?_;simp[go_sem];rw[Bool.eq_iff_iff];unfold l8;simp[d0];omega
 ·refine gc [1,3] ?_ ?_<;>intro d1
  ·refine wA ?_;simp[go_sem]<;>(grind [l8])
  ·refine gc [1,3,23] ?_ ?_<;>intro d2
   ·refine wB ?_;refine cE.mk' (.d (B (Ql (e.gn 3)))) (fun _=>uy _ (e.gn 3)) (sm ?_);refine af ?_;simp[go_sem]<;>(grind [l8])
   ·refine gc [1,3,23] ?_ ?_<;>intro d3
    ·refine wB ?_;refine cE.mk' (.d (B (Ql (e.gn 3)))) (fun _=>uy _ (e.gn 3)) (sm ?_);refine af ?_;simp[go_sem]<;>(grind [l8])
    ·refine gc [1,3,23] ?_ ?_<;>intro d4
     ·refine wA ?_;simp[go_sem]<;>(grind [l8])
     ·refine gc [1,3,23] ?_ ?_<;>intro d5
      ·refine wA ?_;simp[go_sem]<;>(grind [l8])
      ·refine gc [1,3,23,54] ?_ ?_<;>intro d6
       ·refine gc [1,3,23] ?_ ?_<;>intro d7
        ·refine wA ?_;simp[go_sem]<;>(grind [l8])
        ·exfalso;grind
       ·refine gc [1,3,23] ?_ ?_<;>intro d8
        ·refine wA ?_;simp[go_sem]<;>(grind [l8])
        ·refine gc [1,3,23,59] ?_ ?_<;>intro d9
         ·refine gc [1,3,23] ?_ ?_<;>intro d10
          ·refine wA ?_;simp[go_sem]<;>(grind [l8])
          ·exfalso;grind
         ·refine gc [1,3,23,59] ?_ ?_<;>intro d11
          ·refine gc [1,3,23] ?_ ?_<;>intro d12
           ·refine wA ?_;simp[go_sem]<;>(grind [l8])
           ·exfalso;grind
          ·refine gc [1,3,23,59] ?_ ?_<;>intro d13
           ·refine gc [1,3,23] ?_ ?_<;>intro d14
            ·refine wA ?_;simp[go_sem]<;>(grind [l8])
            ·exfalso;grind
           ·refine gc [1,3,23] ?_ ?_<;>intro d15
            ·refine wA ?_;simp[go_sem]<;>(grind [l8])
            ·refine gc [1,3,23] ?_ ?_<;>intro d16
             ·refine wA ?_;simp[go_sem]<;>(grind [l8])
             ·refine gc [1,3,23,70] ?_ ?_<;>intro d17
              ·refine gc [1,3,23] ?_ ?_<;>intro d18
               ·refine wA ?_;simp[go_sem]<;>(grind [l8])
               ·exfalso;grind
              ·refine gc [1,3,23,70] ?_ ?_<;>intro d19
               ·refine gc [1,3,23] ?_ ?_<;>intro d20
                ·refine wA ?_;simp[go_sem]<;>(grind [l8])
                ·exfalso;grind
               ·refine gc [1,3,23,70] ?_ ?_<;>intro d21
                ·refine gc [1,3,23] ?_ ?_<;>intro d22
                 ·refine wA ?_;simp[go_sem]<;>(grind [l8])
                 ·exfalso;grind
                ·refine gc [1,3,23] ?_ ?_<;>intro d23
                 ·refine wA ?_;simp[go_sem]<;>(grind [l8])
                 ·refine gc [1,3,23,77] ?_ ?_<;>intro d24
                  ·refine gc [1,3,23] ?_ ?_<;>intro d25
                   ·refine wA ?_;simp[go_sem]<;>(grind [l8])
                   ·exfalso;grind
                  ·refine gc [1,3,23,77] ?_ ?_<;>intro d26
                   ·refine gc [1,3,23] ?_ ?_<;>intro d27
                    ·refine wA ?_;simp[go_sem]<;>(grind [l8])
                    ·exfalso;grind
                   ·refine gc [1,3,23] ?_ ?_<;>intro d28
                    ·refine wA ?_;simp[go_sem]<;>(grind [l8])
                    ·refine gc [3] ?_ ?_<;>intro d29
                     ·refine wA ?_;simp[go_sem]<;>(grind [l8])
                     ·refine wA ?_;simp[go_sem]<;>(grind [l8])
theorem yZ(c n g s n' g')(hL:sbL n g s=lst n' g')(hn:n<100000000):ak prog 86 [.d (SL c 5 ej.enc n g),.agg (s.enc.map .d)] σ (.d (SL none 5 ej.enc n' g')):=by
 refine ak.bs true func86 fun hwf=> ?_;refine bq 5 5 (fun i=>ej.enc (nth ([]:List ej) i)) au aN ?_;refine JQ (α:=Nat) false [3,5,6,9,10,11] [σ.length+1] (fun i=>[(5,.ms (σ.length+1) 5 0 (mw g s i).1.length),(6,.d (B (mw g s i).2)),(11,.d (I i))]) (fun i=>σ++[.var (s.enc.map .d),.arr 5 (mw g s i).1.length (fun q=>ej.enc (nth (mw g s i).1 q))]) (fun i=>i<=n) (fun i=>n-i) 0 (by simp[go_sem,mw]) (by simp[go_sem,mw]) an an ?_;rintro i hi;simp[go_sem];refine go false (gc [3,5,6,9,10,11] ?_ ?_)<;>intro d0
 ·have hi0:i<n:=aa;have hl:=I1 g s i;simp[go_sem,hi0];refine wM ?_;refine go false ?_;refine gc [3,5,6,8,9,10,11] ?_ ?_<;>intro d1
  ·have h1:(mw g s i).2=false/\s.Unit<=(g i).Unit:=ai;have e1:TO (mw g s i) s (g i)=((mw g s i).1++[s],true):=if_pos h1;simp[go_sem,hwf.one];repeat refine⟨aa,?_⟩
   refine ax (σ.length+1) (fun q=>ej.enc (nth ((mw g s i).1++[s]) q)) bj (by exact fun q hq=>fH (enc:=ej.enc) (x:=s) rfl hq) aN ?_;refine wM ?_;refine go false ?_;refine gc [3,5,6,8,9,10,11] ?_ ?_<;>intro d2
   ·have hs:mw g s (i+1)=((mw g s i).1++[s]++[g i],true):=by grind [mw,ph]
    simp[go_sem,hwf.one];repeat refine⟨aa,?_⟩
    refine ax (σ.length+1) (fun q=>ej.enc (nth ((mw g s i).1++[s]++[g i]) q)) bj (by intro q hq;have hl2:(mw g s i).1.length+1=((mw g s i).1++[s]).length:=an;rw[hl2] at hq⊢;exact fH (enc:=ej.enc) (x:=g i) rfl hq) aN ?_;refine wW ?_;refine bF (i+1) aa (h:=mr) (hσ:=aP) (hb:=ae au)
   ·have hs:mw g s (i+1)=((mw g s i).1++[s],true):=by grind [mw,I2]
    refine wC ?_;refine bF (i+1) aa (h:=mr) (hσ:=aP) (hb:=ae au)
  ·have e1:TO (mw g s i) s (g i)=mw g s i:=CK ai;refine wH ?_;refine gc [3,5,6,8,9,10,11] ?_ ?_<;>intro d3
   ·have hs:mw g s (i+1)=((mw g s i).1++[g i],(mw g s i).2):=by grind [mw,ph]
    simp[go_sem,hwf.one];repeat refine⟨aa,?_⟩
    refine ax (σ.length+1) (fun q=>ej.enc (nth ((mw g s i).1++[g i]) q)) bj (by exact fun q hq=>fH (enc:=ej.enc) (x:=g i) rfl hq) aN ?_;refine wW ?_;refine bF (i+1) aa (h:=mr) (hσ:=aP) (hb:=ae au)
   ·have hs:mw g s (i+1)=mw g s i:=by grind [mw,I2]
    refine wC ?_;refine bF (i+1) aa (h:=mr) (hσ:=aP) (hb:=ae au)
 ·obtain rfl:i=n:=by omega
  have hl:=I1 g s i;simp[go_sem];refine go false (sm ?_);refine go false (gc [3,5] ?_ ?_)<;>intro d4
  ·have hz:(mw g s i).1++[s]=lst n' g':=by grind [sbL]
   have hq:n'=(mw g s i).1.length+1:=by grind [cd]
   subst hq;simp[go_sem,hwf.one];repeat refine⟨aa,?_⟩
   refine ax (σ.length+1) (fun q=>ej.enc (nth ((mw g s i).1++[s]) q)) bj (by exact fun q hq=>fH (enc:=ej.enc) (x:=s) rfl hq) aN ?_;refine go false (sm ?_);refine go true (sm ?_);refine aF hwf (σ.length+1) ?_;refine af ?_;rw[hz];simp[go_sem];grind [JN]
  ·have hz:(mw g s i).1=lst n' g':=by grind [sbL]
   have hq:n'=(mw g s i).1.length:=by grind [cd]
   subst hq;refine wF ?_;refine aF hwf (σ.length+1) ?_;refine af ?_;rw[hz];simp[go_sem];grind [JN]
theorem Gu(u b n k)(hn:u.nr<1000000000)(hb:b<σ.length):ak prog 170 [.agg (u.cells (.ms b 3 0 n)),.d (I k)] σ (.cj [.agg ((bJ u k).1.enc.map .d),.d (B (bJ u k).2)]):=by
 refine ak.bd true func170 fun hwf=> ?_;simp[go_sem];refine mA (α:=Nat) true [1,4,9,10,11] (fun i=>[(11,.d (I i))]) (fun i=>σ++[.var (u.cells (.ms b 3 0 n)),.var [.d (I 0),.d (I 0),.d (I 0),.d (I 0),.d (I 0),.d (I 0),.d (I 0)]]) (fun i=>i<=u.nr/\xf u k=idxFrom (fun r:cT=>r.ID==k) ((lst u.nr u.gr).drop i) i) (fun i=>u.nr-i) 0 au (rfl) (⟨aa,rfl⟩) ?_;rintro i ⟨hi,hx⟩;refine gc [1,4,9,10,11] ?_ ?_<;>intro d0
 ·rw[bU d0,idxFrom] at hx;refine wB ?_;refine dH [1,4,7,9,10,11] ?_ ?_<;>intro d1
  ·rw[if_pos ai] at hx;have hz:bJ u k=(u.gr i,true):=by grind [bJ]
   exact sx hz
  ·refine wC ?_;refine bF (i+1) ⟨aa,ai⟩ (h:=aR) (hσ:=aP) (hb:=ae au)
 ·rw[bV d0,idxFrom] at hx;have hz:bJ u k=(cT.zero,false):=by grind [bJ]
  refine wO ?_;rw[hz];simp[go_sem,cT.zero]
theorem pn(u b n c m rg e rd un)(hp:dT u.P)(hm:m<1000000000)(hd:u.Changed=e.Day)(hb:b<σ.length):ak prog 92 [.agg (u.cells (.ms b 3 0 n)),.d (SL c 3 Row.enc m rg),.d (I rd),.d (I un)] σ (.d (B (jc u m rg e rd un))):=by
 refine ak.bd true func92 fun hwf=> ?_;simp[go_sem];refine az.mk (BZ _ c m rg u.P rd un u.Changed hm hp) ?_;refine wA ?_;unfold jc;rw[←hd];simp[go_sem]
def vH(u:Use)(e:Ev):Int:=if hZ u.nb u.gb (e.gn 0)<0\/(e.gn 1=1/\ky u.nf u.gf (e.gn 2)<0) then 7 else if(aM u (e.gn 0)).Kind=3\/e.gn 1=3 then 11
 else if e.gn 1=1 then qB u (u.gf (ky u.nf u.gf (e.gn 2)).toNat) (u.gb (hZ u.nb u.gb (e.gn 0)).toNat) else 0
theorem Xp(u e):AQ u e=if vH u e≠0 then vH u e else dn u e (e.gn 0) ⟨e.gn 1,e.gn 2⟩:=by
 grind [AQ,vH]
def YG(u:Use)(e:Ev):Use:=if vH u e≠0 then u else { dz u e (e.gn 0) ⟨e.gn 1,e.gn 2⟩ with nv:=if dn u e (e.gn 0) ⟨e.gn 1,e.gn 2⟩=0 then u.nv+1 else 0 }
theorem zb(u e)(hu:br u)(hm:bX u.nv u.gv=0):ak prog 91 [.agg (u.cells u.aX),.d (I e.Day),.d (I (e.gn 0)),.agg [.d (I (e.gn 1)),.d (I (e.gn 2))]] σ (.cj [.agg ((YG u e).cells (YG u e).aX),.d (I (AQ u e))]):=by
 have b1:=hu.nb;have b2:=hu.nf;have b3:=hu.nv;have k1:=zS u.nb u.gb (e.gn 0);have k2:=PL u.nf u.gf (e.gn 2);have hpl:=nx hm;have hcr:=Xp u e;refine ak.bt func91 ?_;refine T.dr 10 fun K hK=>sm ?_;refine bK.mk (gN _ none u.nb u.gb (e.gn 0) aa) (sm ?_);refine bK.mk (se _ none u.nf u.gf (e.gn 2) aa) (sm ?_);refine hK _ ?_;refine go true (gc [1,2,4,7,8,10,11] ?_ ?_)<;>intro d0
 ·have hz:vH u e=7:=if_pos ai;have hx:YG u e=u:=if_pos ai;rw[hz,if_pos aH] at hcr;simp[go_sem];rw[hcr,hx];exact af sc
 ·have n0: ¬(hZ u.nb u.gb (e.gn 0)<0\/(e.gn 1=1/\ky u.nf u.gf (e.gn 2)<0)):=ai;obtain⟨i0,hi0,hin0⟩: ∃i:Nat,hZ u.nb u.gb (e.gn 0)=(i:Int)/\i<u.nb:=⟨(hZ u.nb u.gb (e.gn 0)).toNat,aa,aa⟩;have ahB:(u.gb i0).ID=e.gn 0:=by have:=(F2 (n:=u.nb) (g:=u.gb) (s:=e.gn 0) aa).2;grind
  simp[go_sem,hi0];refine az.mk (dZ _ u (e.gn 0) aa) ?_;refine gc [1,2,4,7,8,10,11] ?_ ?_<;>intro d1
  ·have hz:vH u e=11:=by grind [vH]
   have hx:YG u e=u:=if_pos ai;rw[hz,if_pos aH] at hcr;simp[go_sem];rw[hcr,hx];exact af sc
  ·have n1: ¬((aM u (e.gn 0)).Kind=3\/e.gn 1=3):=ai;refine gc [1,2,4,7,8,10,11] ?_ ?_<;>intro d2
   ·have hk1:e.gn 1=1:=ai;obtain⟨f0,hf0,ag3⟩: ∃i:Nat,ky u.nf u.gf (e.gn 2)=(i:Int)/\i<u.nf:=⟨(ky u.nf u.gf (e.gn 2)).toNat,aa,aa⟩;have hfd0:(u.gf f0).ID=e.gn 2:=by have:=(DT (n:=u.nf) (g:=u.gf) (s:=e.gn 2) aa).2;grind
    have hcz:vH u e=qB u (u.gf f0) (u.gb i0):=by grind [vH]
    simp[go_sem,hf0,ag3];refine T.dr 9 fun K hK=> ?_;simp[go_sem,hin0];refine hK _ ?_;refine go true ?_;refine gc [1,2,4,7,8,10,12] ?_ ?_<;>intro d3
    ·have hz:vH u e=10:=by rw[hcz];exact if_pos ai
     have hx:YG u e=u:=if_pos ai;rw[hz,if_pos aH] at hcr;simp[go_sem];rw[hcr,hx];exact af sc
    ·have n3: ¬(u.gf f0).bH≠(u.gb i0).bH:=ai;simp[go_sem,hin0];refine dm (α:=Nat×Int) true [1,2,4,7,8,12,13,74,75,76] (fun x=>[(76,.d (I x.1)),(13,.d (I x.2))]) (fun x=>σ++[.var (u.cells u.aX),.var [.d (I (e.gn 1)),.d (I (e.gn 2))],.var zU,.var ((u.gf f0).enc.map .d)]) (fun x=>x.1<=u.nb/\gx u (u.gf f0).ID (u.gb i0).ID 0 (u.gb i0).Width u.nb=gx u (u.gf f0).ID (u.gb i0).ID x.1 x.2 (u.nb-x.1)) (fun x=>u.nb-x.1) (0,(u.gb i0).Width) ?_ (hx:=⟨an,an⟩);rintro⟨i,t⟩ ⟨hi,hx⟩;dsimp only at hi hx;refine gc [1,2,4,7,8,12,13,74,75,76] ?_ ?_<;>intro d4
     ·have hi1:i<u.nb:=aa;have hst:=AI (u:=u) (s:=(u.gf f0).ID) (k:=(u.gb i0).ID) (t:=t) hi1;have ahw:aM u (u.gb i).ID=⟨1,(u.gf f0).ID⟩↔(bE u.gv (u.gb i).ID u.nv).Kind=1/\(bE u.gv (u.gb i).ID u.nv).Of=e.gn 2:=by
       rw[hpl,hfd0];rcases bE u.gv (u.gb i).ID u.nv with⟨a,b⟩;simp
      simp[go_sem,hi1];refine T.dr 12 fun K hK=> ?_;simp[go_sem];refine bK.mk' (.agg ((bE u.gv (u.gb i).ID u.nv).enc.map .d)) (fun _=>dZ _ u (u.gb i).ID aa) ?_;refine wc hK ?_;refine gc [1,2,4,7,8,12,13,15,74,75,76] ?_ ?_<;>intro d5
      ·have hc2:(u.gb i).ID≠(u.gb i0).ID/\aM u (u.gb i).ID=⟨1,(u.gf f0).ID⟩:=ai;refine wC ?_;refine bF ((i+1,IntKind.i64.wrap (t+(u.gb i).Width))) ⟨ai,ai⟩ (h:=aR) (hσ:=aP) (hb:=ae au)
      ·have hc2: ¬((u.gb i).ID≠(u.gb i0).ID/\aM u (u.gb i).ID=⟨1,(u.gf f0).ID⟩):=ai;refine wC ?_;refine bF ((i+1,t)) ⟨ai,ai⟩ (h:=aR) (hσ:=aP) (hb:=ae au)
     ·have hsum:gx u (u.gf f0).ID (u.gb i0).ID 0 (u.gb i0).Width u.nb=t:=by rw[hx,show u.nb-i=0 by omega];rfl
      refine wR ?_;refine gc [1,2,4,7,8] ?_ ?_<;>intro d6
      ·have hz:vH u e=12:=by grind [qB]
       have hx:YG u e=u:=if_pos ai;rw[hz,if_pos aH] at hcr;simp[go_sem];rw[hcr,hx];exact af sc
      ·have hz:vH u e=0:=by grind [qB]
       have hx:YG u e= { dz u e (e.gn 0) ⟨e.gn 1,e.gn 2⟩ with nv:=if dn u e (e.gn 0) ⟨e.gn 1,e.gn 2⟩=0 then u.nv+1 else 0 } :=if_neg ai;rw[hz,if_neg aH] at hcr;simp[go_sem];apply Mix.bA 15 [(14,none)] [[0,1,2,3,4,5,6,7,8,9,10,11,13]] [(.undef,(σ++[.var ((u.cells u.aX).set 8 (.d (SL none 6 hY.enc (if gh u.nv u.gv ⟨e.Day,e.gn 0,bE u.gv (e.gn 0) u.nv,⟨e.gn 1,e.gn 2⟩⟩=0 then u.nv+1 else 0) (aL u.gv u.nv ⟨e.Day,e.gn 0,bE u.gv (e.gn 0) u.nv,⟨e.gn 1,e.gn 2⟩⟩)))),.var [.d (I (e.gn 1)),.d (I (e.gn 2))],.var zU,.var ((u.gf f0).enc.map .d)]))] T.mixed aD
       ·intro K hK;simp[go_sem];refine bK.mk (dZ _ u (e.gn 0) aa) ?_;simp[go_sem];refine bK.mk (fP _ none u.nv u.gv ⟨e.Day,e.gn 0,bE u.gv (e.gn 0) u.nv,⟨e.gn 1,e.gn 2⟩⟩ aa) ?_;simp[go_sem];exact hK _ _
       ·refine Mix.aw ?_ (Mix.aW)
        ·intro K hK;simp[go_sem];grind
       ·refine Mix.aG ?_ (Mix.bn)
        ·simp[go_sem];all_goals first|rfl|omega|skip
       intro K hK;refine wQ hK ?_;rw[hcr,hx];simp[go_sem,dz,dn,hpl]
   ·have hz:vH u e=0:=by grind [vH]
    have hx:YG u e= { dz u e (e.gn 0) ⟨e.gn 1,e.gn 2⟩ with nv:=if dn u e (e.gn 0) ⟨e.gn 1,e.gn 2⟩=0 then u.nv+1 else 0 } :=if_neg ai;rw[hz,if_neg aH] at hcr;simp[go_sem];apply Mix.bA 15 [(14,none)] [[0,1,2,3,4,5,6,7,8,9,10,11,13]] [(.undef,(σ++[.var ((u.cells u.aX).set 8 (.d (SL none 6 hY.enc (if gh u.nv u.gv ⟨e.Day,e.gn 0,bE u.gv (e.gn 0) u.nv,⟨e.gn 1,e.gn 2⟩⟩=0 then u.nv+1 else 0) (aL u.gv u.nv ⟨e.Day,e.gn 0,bE u.gv (e.gn 0) u.nv,⟨e.gn 1,e.gn 2⟩⟩)))),.var [.d (I (e.gn 1)),.d (I (e.gn 2))],.var zU]))] T.mixed aD
    ·intro K hK;simp[go_sem];refine bK.mk (dZ _ u (e.gn 0) aa) ?_;simp[go_sem];refine bK.mk (fP _ none u.nv u.gv ⟨e.Day,e.gn 0,bE u.gv (e.gn 0) u.nv,⟨e.gn 1,e.gn 2⟩⟩ aa) ?_;simp[go_sem];exact hK _ _
    ·refine Mix.aw ?_ (Mix.aW)
     ·intro K hK;simp[go_sem];grind
    ·refine Mix.aG ?_ (Mix.bn)
     ·simp[go_sem];all_goals first|rfl|omega|skip
    intro K hK;refine wQ hK ?_;rw[hcr,hx];simp[go_sem,dz,dn,hpl]
end Go.Proofs.YthpplckmbbachaaGreatDoor
namespace Go.aI
open Go.RowKit
theorem RD.none{w d v}(h:RD w [] d v):RD w [none] d v:=by
 induction h with
 |v x=>exact .v x
 |sl a c val h1 h2 h3 h4 h5 h6 h7 h8 ih=>exact .sl a c val h1 h2 h3 h4 an h6 h7 ih
 |zero p c h1 h2=>exact .zero p c h1 h2
theorem RsN.cons{w x v xs vs}(h:R w [none] x v)(t:Rs w [none] xs vs.toArray):Rs w [none] (x::xs) (v::vs).toArray:=
 ⟨by have:=t.1;grind,fun k hk=>by
  cases k with
  |zero=>simp_all
  |succ k=>have:=t.2 k ai;simp_all⟩
end Go.aI
