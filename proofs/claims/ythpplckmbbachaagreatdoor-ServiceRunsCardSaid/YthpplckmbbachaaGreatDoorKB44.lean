/- Lemmas, no conditions. -/
import Derived.Test.YthpplckmbbachaaGreatDoorKB43
set_option linter.unusedVariables false
set_option linter.unusedSimpArgs false
set_option maxHeartbeats 4000000
set_option maxRecDepth 100000
namespace Go.Proofs.YthpplckmbbachaaGreatDoor
open Go.aI Go.bI Go.Proofs.Tryz
variable (σ : List aZ)
theorem nh(c n g)(hn:n<1000000000)(hc: ∀i,i<n->(g i).nc<1000000000):CS prog 31 [.d (SL c 5 Bx.enc n g)] σ (fun r σ' X=>r= .ms σ.length 5 0 n/\σ'=σ++[.arr 5 n fun i=>Bx.enc (g i)]/\X=[]):=by
 refine CS.beW func31 fun hwf=> ?_;refine wP ?_;refine wV fun K hK=> ?_;refine wG hK ?_;refine aq ?_;refine wP ?_;refine aB ?_;refine ba [3,9,10] eE ?_;refine bB (α:=Nat) (fun i=>[(10,.d (I i))]) (fun i=>σ++[.arr 5 n (fun q=>Bx.enc (g q))]) (fun i=>i<=n) (fun i=>n-i) 0 au (rfl) an ?_;rintro i hi;refine wP ?_;refine aq ?_;refine gF [3,9,10,11] ?_;refine ko ?_ ?_<;>intro d0
 ·have hi0:i<n:=aa;have hc0:=hc i hi0;refine aJ ?_;refine aq ?_;refine aB ?_;refine aj fun K hK=> ?_;simp[go_sem,d0];refine hK _ ?_;refine Apd.BB 8 aP fun K hK=> ?_;simp[go_sem,d0];refine wG hK ?_;refine ax σ.length (fun q=>Bx.enc (g q)) bj (by grind [Bx.enc,Cnt.enc]) aN ?_;refine aE fun K hK=> ?_;simp[go_sem];try simp(disch:=omega) only[aS]
  refine hK _ ?_;refine⟨i+1,bp au ((ae au)) iv,aa,ai⟩
 ·obtain rfl:i=n:=by omega
  refine bN ?_;refine wE ?_;exact af sc
theorem IA{n g u}(h:bW n g=0):(cp n g u).2.2=true↔0<=(qS n g u).1:=by
 grind [cp]
theorem W0(gc p)(x:Cnt):(fun q=>aO (p+1) (aO p (fun q=>[I (gc q).Unit,I (gc q).kb]) (rowsOf 2 [I x.Unit,I x.kb])) (fun q=>[I (gc (p+q)).Unit,I (gc (p+q)).kb]) q)=fun q=>[I (fe gc p x q).Unit,I (fe gc p x q).kb]:=by
 funext q
 unfold aO fe;by_cases h1:q<p+1
 ·by_cases h2:q<p
  ·grind
  ·obtain rfl:q=p:=by omega
   simp[rowsOf]
 grind
theorem Tq(gc:Nat->Cnt)(p):(fun q=>aO p (fun q=>[I (gc q).Unit,I (gc q).kb]) (fun q=>[I (gc (p+1+q)).Unit,I (gc (p+1+q)).kb]) q)=fun q=>[I (without gc p q).Unit,I (without gc p q).kb]:=by
 grind [aO,without,skip]
theorem Sl(c n g){i}(hck:bW n g=0)(hin:i<n)(hn:n<1000000000):ak prog 155 [.d (SL c 5 Bx.enc n g),.d (I (g i).ID)] σ (.d (I i)):=by
 have h:=gN σ c n g (g i).ID hn;grind [OX]
theorem Jp(c n g k at_ x)(hn:n<1000000000)(hN: ∀i,i<n->(g i).nc<=1000000):ak prog 88 [.d (SL c 5 Bx.enc n g),.d (I k),.d (I at_),.agg (x.enc.map .d)] σ (.cj [.d (SL none 5 Bx.enc (if kg n g k at_ x=0 then n else 0) (Cl g (hZ n g k).toNat at_.toNat x)),.d (I (kg n g k at_ x))]):=by
 refine ak.bd true func88 fun hwf=> ?_;simp[go_sem];refine az.mk (gO _ c n g hn hN) ?_;refine gc [0,1,2,7] ?_ ?_<;>intro d0
 ·have hz:kg n g k at_ x=1:=o7;refine wA ?_;rw[hz];simp[go_sem,Go.aI.aK]
 ·simp[go_sem];refine az.mk (gN _ c n g k hn) ?_;refine gc [0,2,7,10] ?_ ?_<;>intro d1
  ·have hz:kg n g k at_ x=7:=o7;refine wA ?_;rw[hz];simp[go_sem,Go.aI.aK]
  ·obtain⟨i,hi,hin⟩:=YW (n:=n) (g:=g) (k:=k) aa;have hck:bW n g=0:=ai;have hbx:=jX ((e9 hck).2 i hin);simp[go_sem,hi,hin];refine cE.mk' (.d (B (ei x))) (fun _=>q9 _ x) ?_;refine gc [0,2,7,10,11] ?_ ?_<;>intro d2
   ·have hd:gD at_ 0 (g i).nc=false\/ei x=false:=by
     grind [bO]
    have hz:kg n g k at_ x=2:=o7;refine wA ?_;rw[hz];simp[go_sem,Go.aI.aK]
   ·have hcx:ei x=true:=ai;have hin2:gD at_ 0 (g i).nc=true:=by grind [bO]
    have hn2: ¬(gD at_ 0 (g (hZ n g k).toNat).nc=false\/ei x=false):=ai;simp[go_sem];refine az.mk (jH _ c n g x.Unit hn hN) ?_;refine gc [0,2,7,10,11] ?_ ?_<;>intro d3
    ·have hz:kg n g k at_ x=6:=by grind [kg,IA]
     refine wA ?_;rw[hz];simp[go_sem,Go.aI.aK]
    ·have hw3: ¬0<=(qS n g x.Unit).1:=fun h=>by grind [IA]
     refine gc [0,2,7,10,11] ?_ ?_<;>intro d4
     ·have hz:kg n g k at_ x=8:=o7;refine wA ?_;rw[hz];simp[go_sem,Go.aI.aK]
     ·have hxt:=bO.1 (show gD x.kb 1 10000=true by grind [ei]);have htb:=IF hbx.2.2.2 (g i).nc (Nat.le_refl _);have hw:IntKind.i64.wrap (tb (g i).gc (g i).nc+x.kb)=tb (g i).gc (g i).nc+x.kb:=by grind [aS]
      simp[go_sem];refine T.dr 8 fun K hK=> ?_;simp[go_sem];refine bK.mk (xp _ (g i) aa hbx.2.2.2) ?_;simp[go_sem,hw];refine hK _ ?_;refine go false ?_;refine gc [0,2,7,10,11] ?_ ?_<;>intro d5
      ·have hz:kg n g k at_ x=12:=o7;refine wO ?_;rw[hz];simp[go_sem,Go.aI.aK]
      ·have hz:kg n g k at_ x=0:=o7;obtain⟨p,rfl,hp⟩: ∃p:Nat,at_=(p:Int)/\p<=(g i).nc:=⟨at_.toNat,ai,ai⟩;simp[go_sem];refine az.gen (nh _ c n g hn (fun i hi=>ai)) ?_;rintro r σ' X ⟨rfl,rfl,rfl⟩;refine wX ?_;refine bq 16 2 (fun i=>Cnt.enc (nth ([]:List Cnt) i)) au aN ?_;refine go false ?_;simp[go_sem,hwf.one];repeat refine⟨aa,?_⟩
       refine go true ?_;simp[go_sem,hwf.tY,hin,hwf.one];repeat refine⟨aa,?_⟩
       refine aF hwf (σ.length+2) ?_;refine af ?_;rw[hz];simp[go_sem];intro q hq;by_cases h:q=i
       ·subst h;have e1:Cl g q p x q= { g q with nc:=(g q).nc+1,gc:=fe (g q).gc p x } :=if_pos rfl;have e2:p+1+((g q).nc-p)=(g q).nc+1:=aa;simp[e1,e2,W0];rfl
       ·simp[h,Cl,cJ]
theorem GF(c n g k)(hn:n<1000000000)(hN: ∀i,i<n->(g i).nc<=1000000):ak prog 90 [.d (SL c 5 Bx.enc n g),.d (I k)] σ (.cj [.d (SL none 5 Bx.enc (if fv n g k=0 then n else 0) (qU g (qS n g k).1.toNat (qS n g k).2.toNat)),.agg ((if fv n g k=0 then(g (qS n g k).1.toNat).gc (qS n g k).2.toNat else⟨0,0⟩).enc.map .d),.d (I (fv n g k))]):=by
 refine ak.bd false func90 fun hwf=> ?_;refine wX ?_;refine az.mk (gO _ c n g hn hN) ?_;refine wH ?_;refine gc [0,1,5] ?_ ?_<;>intro d0
 ·have hz:fv n g k=1:=by grind [fv]
  refine wO ?_;rw[hz];simp[go_sem,bw,Go.aI.aK]
 ·have hck:bW n g=0:=ai;simp[go_sem];refine az.mk (jH _ c n g k hn hN) ?_;refine wU ?_;refine gc [0,5,7,8] ?_ ?_<;>intro d1
  ·have hw:(qS n g k).1<0:=by
    grind [IA]
   have hz:fv n g k=7:=by grind [fv]
   refine wO ?_;rw[hz];simp[go_sem,bw,Go.aI.aK]
  ·have hw: ¬(qS n g k).1<0:=by grind [IA]
   obtain⟨i,p,hin,hpn,hi,hp⟩:=IB hw;have hwb:cp n g k=((g i).ID,(p:Int),true):=by grind [cp]
   have hbi:=OX hck hin;have hz:fv n g k=0:=by grind [fv]
   have hc5:=hN i hin;simp[go_sem,hwb];refine az.gen (nh _ c n g hn (fun i hi=>ai)) ?_;rintro r σ' X ⟨rfl,rfl,rfl⟩;refine wX ?_;refine az.mk (Sl _ c n g hck hin hn) ?_;simp[go_sem,hin];refine wM ?_;refine bq 12 2 (fun i=>Cnt.enc (nth ([]:List Cnt) i)) au aN ?_;refine go false ?_;simp[go_sem,hwf.one];repeat refine⟨aa,?_⟩
   refine wb ?_;apply Pf.gZ 13 10 51 (.ms (σ.length+3) 2 0 (p+((g i).nc-(p+1)))) ((σ++[.var [.d (I 0),.d (I 0)],.arr 5 n (fun q=>Bx.enc (g q)),.var ((g i).enc.map .d),.arr 2 (p+((g i).nc-(p+1))) (aO p (fun q=>Cnt.enc ((g i).gc q)) (fun q=>Cnt.enc ((g i).gc (p+1+q))))])) ([σ.length+3]) [1,2,3,4,5,6,7,8,9] T.mixed aD
   ·intro K hK;simp[go_sem];refine bK.mk (Sl _ c n g hck hin hn) ?_;simp[go_sem,hin];try simp(disch:=omega) only[aS]
    repeat refine⟨aa,?_⟩
    exact hK _ _
   ·decide
   ·simp[go_sem,hwf.one];grind
   ·intro K hK;simp[go_sem,hin];exact hK _ _
   ·simp[go_sem]
   intro K hK;simp[go_sem,hwf.tY,hin];refine hK _ ?_;refine wb ?_;refine T.dr 7 fun K hK=> ?_;simp[go_sem,hpn];refine hK _ ?_;refine wb ?_;refine aF hwf (σ.length+1) ?_;refine af ?_;rw[hz,hi,hp];simp[go_sem];intro q hq;by_cases h:q=i
   ·subst h;have e1:qU g q p q= { g q with nc:=(g q).nc-1,gc:=without (g q).gc p } :=if_pos rfl;have e2:p+((g q).nc-(p+1))=(g q).nc-1:=aa;simp[e1,e2,Tq];rfl
   ·simp[h,qU,cJ]
theorem D8(u)(hu:br u):CS prog 9 [.agg (u.cells u.aX)] σ (fun r σ' X=>(∀x∈X,σ.length<=x)/\r= .agg (u.own (σ.length+3))/\σ'=σ++(.var (u.own (σ.length+3)):: .var (u.own (σ.length+3)):: .dead::u.blks)):=by
 have b0:=hu.P.ns;have b9:=hu.P.nc;have b10:=hu.P.np;have b11:=hu.P.na;have b12:=hu.P.nm;have b1:=hu.nb;have b2:=hu.nf;have b3:=hu.nv;have b4:=hu.nr;have b5:=hu.nk;have b6:=hu.nt;have b7:=hu.nl;have b8:=hu.nw;refine CS.beW func9 fun hwf=> ?_;refine we ?_;refine wV fun K hK=> ?_;refine wG hK ?_;refine aq ?_;refine wP ?_;refine aB ?_;refine ba [1,2,3,20,21] eE ?_;refine bB (α:=Nat) (fun i=>[(21,.d (I i))]) (fun i=>(σ++[.var ((u.cells u.aX).set 0 (.ms (σ.length+2) 5 0 u.P.ns)),.var zU,.arr 5 u.P.ns (fun q=>ej.enc (u.P.gs q))])) (fun i=>i<=u.P.ns) (fun i=>u.P.ns-i) 0 au (rfl) an ?_;rintro i hi;refine wP ?_;refine aq ?_;refine gF [1,2,3,20,21,22] ?_;refine ko ?_ ?_<;>intro d0
 ·have hi0:i<u.P.ns:=aa;have g0:=hu.P.ps i hi0;refine aJ ?_;refine aq ?_;refine aB ?_;refine aj fun K hK=> ?_;simp[go_sem,d0];refine hK _ ?_;refine T.dr 17 fun K hK=> ?_;simp[go_sem,d0];refine wG hK ?_;refine ax (σ.length+2) (fun q=>ej.enc (u.P.gs q)) bj (by intro q hq;by_cases h:q=i<;>simp[h,ej.enc,encI]) aN ?_;refine aE fun K hK=> ?_;simp[go_sem];try simp(disch:=omega) only[aS]
  refine hK _ ?_;refine⟨i+1,bp au ((ae au)) iv,aa,AF⟩
 ·obtain rfl:i=u.P.ns:=by omega
  refine aF hwf (σ.length+2) ?_;refine bN ?_;apply Mix.cw 20 [(7,some 49),(13,some 55),(16,none),(19,none)] [[2,3,4,5,6],[2,4,5,6,8,9,10,11,12],[0,2,3,4,5,6,8,9,10,11,12,14,15],[0,1,2,3,4,5,6,8,9,10,11,12,14,15,17,18]] [(.ms (σ.length+3) 6 0 u.P.nc,(σ++[.var (u.cells u.aX),.var zU,.dead,.arr 6 u.P.nc (fun q=>Rule.enc (u.P.gc q))])),(.ms (σ.length+4) 6 0 u.P.np,(σ++[.var (u.cells u.aX),.var zU,.dead,.arr 6 u.P.nc (fun q=>Rule.enc (u.P.gc q)),.arr 6 u.P.np (fun q=>dF.enc (u.P.gp q))])),(.undef,(σ++[.var ((u.cells u.aX).set 1 (.ms (σ.length+3) 6 0 u.P.nc)),.var zU,.dead,.arr 6 u.P.nc (fun q=>Rule.enc (u.P.gc q)),.arr 6 u.P.np (fun q=>dF.enc (u.P.gp q))])),(.undef,(σ++[.var (((u.cells u.aX).set 1 (.ms (σ.length+3) 6 0 u.P.nc)).set 2 (.ms (σ.length+4) 6 0 u.P.np)),.var zU,.dead,.arr 6 u.P.nc (fun q=>Rule.enc (u.P.gc q)),.arr 6 u.P.np (fun q=>dF.enc (u.P.gp q))]))] T.mixed aD
  ·intro K hK;simp[go_sem];exact hK _ _
  ·refine Mix.aw ?_ (Mix.aw ?_ (Mix.aw ?_ (Mix.aw ?_ (Mix.aW))))
   ·intro K hK;simp[go_sem];exact hK _ _
   ·intro K hK;simp[go_sem];exact hK _ _
   ·intro K hK;simp[go_sem];exact hK _ _
   ·intro K hK;simp[go_sem];exact hK _ _
  ·refine Mix.aG ?_ (Mix.aG ?_ (Mix.aG ?_ (Mix.aG ?_ (Mix.bn))))
   ·simp[go_sem];all_goals first|rfl|omega|skip
   ·simp[go_sem];all_goals first|rfl|omega|skip
   ·simp[go_sem];all_goals first|rfl|omega|skip
   ·simp[go_sem];all_goals first|rfl|omega|skip
  intro K hK;refine wD hK ?_;apply Mix.cw 20 [(7,some 67),(16,none),(19,none)] [[2,3,4,5,6],[0,2,3,4,5,6,8,9,10,11,12,13,14,15],[0,1,2,3,4,5,6,8,9,10,11,12,13,14,15,17,18]] [(.ms (σ.length+5) 6 0 u.P.na,(σ++[.var (((u.cells u.aX).set 1 (.ms (σ.length+3) 6 0 u.P.nc)).set 2 (.ms (σ.length+4) 6 0 u.P.np)),.var zU,.dead,.arr 6 u.P.nc (fun q=>Rule.enc (u.P.gc q)),.arr 6 u.P.np (fun q=>dF.enc (u.P.gp q)),.arr 6 u.P.na (fun q=>fM.enc (u.P.ga q))])),(.undef,(σ++[.var ((((u.cells u.aX).set 1 (.ms (σ.length+3) 6 0 u.P.nc)).set 2 (.ms (σ.length+4) 6 0 u.P.np)).set 4 (.ms (σ.length+5) 6 0 u.P.na)),.var zU,.dead,.arr 6 u.P.nc (fun q=>Rule.enc (u.P.gc q)),.arr 6 u.P.np (fun q=>dF.enc (u.P.gp q)),.arr 6 u.P.na (fun q=>fM.enc (u.P.ga q))])),(.undef,(σ++[.var ((((u.cells u.aX).set 1 (.ms (σ.length+3) 6 0 u.P.nc)).set 2 (.ms (σ.length+4) 6 0 u.P.np)).set 4 (.ms (σ.length+5) 6 0 u.P.na)),.var zU,.dead,.arr 6 u.P.nc (fun q=>Rule.enc (u.P.gc q)),.arr 6 u.P.np (fun q=>dF.enc (u.P.gp q)),.arr 6 u.P.na (fun q=>fM.enc (u.P.ga q))]))] T.mixed aD
  ·intro K hK;refine wB ?_;exact hK _ _
  ·refine Mix.aw ?_ (Mix.aw ?_ (Mix.aw ?_ (Mix.aW)))
   ·intro K hK;refine wB ?_;exact hK _ _
   ·intro K hK;simp[go_sem];exact hK _ _
   ·intro K hK;simp[go_sem];exact hK _ _
  ·refine Mix.aG ?_ (Mix.aG ?_ (Mix.aG ?_ (Mix.bn)))
   ·simp[go_sem];all_goals first|rfl|omega|skip
   ·simp[go_sem];all_goals first|rfl|omega|skip
   ·simp[go_sem];all_goals first|rfl|omega|skip
  intro K hK;refine wD hK ?_;apply Mix.cw 9 [(2,some 80),(6,some 84),(8,none)] [[0,1],[0,1,3,4,5],[0,1,3,4,5,7]] [(.ms (σ.length+6) 5 0 u.nb,(σ++[.var ((((u.cells u.aX).set 1 (.ms (σ.length+3) 6 0 u.P.nc)).set 2 (.ms (σ.length+4) 6 0 u.P.np)).set 4 (.ms (σ.length+5) 6 0 u.P.na)),.var zU,.dead,.arr 6 u.P.nc (fun q=>Rule.enc (u.P.gc q)),.arr 6 u.P.np (fun q=>dF.enc (u.P.gp q)),.arr 6 u.P.na (fun q=>fM.enc (u.P.ga q)),.arr 5 u.nb (fun q=>Bx.enc (u.gb q))])),(.ms (σ.length+7) 4 0 u.nf,(σ++[.var ((((u.cells u.aX).set 1 (.ms (σ.length+3) 6 0 u.P.nc)).set 2 (.ms (σ.length+4) 6 0 u.P.np)).set 4 (.ms (σ.length+5) 6 0 u.P.na)),.var zU,.dead,.arr 6 u.P.nc (fun q=>Rule.enc (u.P.gc q)),.arr 6 u.P.np (fun q=>dF.enc (u.P.gp q)),.arr 6 u.P.na (fun q=>fM.enc (u.P.ga q)),.arr 5 u.nb (fun q=>Bx.enc (u.gb q)),.arr 4 u.nf (fun q=>l4.enc (u.gf q))])),(.undef,(σ++[.var (((((u.cells u.aX).set 1 (.ms (σ.length+3) 6 0 u.P.nc)).set 2 (.ms (σ.length+4) 6 0 u.P.np)).set 4 (.ms (σ.length+5) 6 0 u.P.na)).set 6 (.ms (σ.length+6) 5 0 u.nb)),.var zU,.dead,.arr 6 u.P.nc (fun q=>Rule.enc (u.P.gc q)),.arr 6 u.P.np (fun q=>dF.enc (u.P.gp q)),.arr 6 u.P.na (fun q=>fM.enc (u.P.ga q)),.arr 5 u.nb (fun q=>Bx.enc (u.gb q)),.arr 4 u.nf (fun q=>l4.enc (u.gf q))]))] T.mixed aD
  ·intro K hK;simp[go_sem];exact hK _ _
  ·refine Mix.aw ?_ (Mix.aw ?_ (Mix.aw ?_ (Mix.aW)))
   ·intro K hK;simp[go_sem];exact hK _ _
   ·intro K hK;simp[go_sem];exact hK _ _
   ·intro K hK;simp[go_sem];exact hK _ _
  ·refine Mix.aG ?_ (Mix.aG ?_ (Mix.aG ?_ (Mix.bn)))
   ·simp[go_sem];exact CS.mono (nh _ none u.nb u.gb aa (fun i hi=>AB)) (by rintro r σ1 X ⟨rfl,rfl,rfl⟩;simp;rfl)
   ·simp[go_sem];all_goals first|rfl|omega|skip
   ·simp[go_sem];all_goals first|rfl|omega|skip
  intro K hK;refine wD hK ?_;apply Mix.cw 10 [(9,none)] [[0,1,2,3,4,5,6,7,8]] [(.undef,(σ++[.var ((((((u.cells u.aX).set 1 (.ms (σ.length+3) 6 0 u.P.nc)).set 2 (.ms (σ.length+4) 6 0 u.P.np)).set 4 (.ms (σ.length+5) 6 0 u.P.na)).set 6 (.ms (σ.length+6) 5 0 u.nb)).set 7 (.ms (σ.length+7) 4 0 u.nf)),.var zU,.dead,.arr 6 u.P.nc (fun q=>Rule.enc (u.P.gc q)),.arr 6 u.P.np (fun q=>dF.enc (u.P.gp q)),.arr 6 u.P.na (fun q=>fM.enc (u.P.ga q)),.arr 5 u.nb (fun q=>Bx.enc (u.gb q)),.arr 4 u.nf (fun q=>l4.enc (u.gf q))]))] T.mixed aD
  ·intro K hK;refine wB ?_;exact hK _ _
  ·refine Mix.aw ?_ (Mix.aW)
   ·intro K hK;simp[go_sem];exact hK _ _
  ·refine Mix.aG ?_ (Mix.bn)
   ·simp[go_sem];all_goals first|rfl|omega|skip
  intro K hK;refine wD hK ?_;apply Mix.cw 10 [(7,some 104),(9,none)] [[0,1,2,3,4,5,6],[0,1,2,3,4,5,6,8]] [(.ms (σ.length+8) 8 0 u.nt,(σ++[.var ((((((u.cells u.aX).set 1 (.ms (σ.length+3) 6 0 u.P.nc)).set 2 (.ms (σ.length+4) 6 0 u.P.np)).set 4 (.ms (σ.length+5) 6 0 u.P.na)).set 6 (.ms (σ.length+6) 5 0 u.nb)).set 7 (.ms (σ.length+7) 4 0 u.nf)),.var zU,.dead,.arr 6 u.P.nc (fun q=>Rule.enc (u.P.gc q)),.arr 6 u.P.np (fun q=>dF.enc (u.P.gp q)),.arr 6 u.P.na (fun q=>fM.enc (u.P.ga q)),.arr 5 u.nb (fun q=>Bx.enc (u.gb q)),.arr 4 u.nf (fun q=>l4.enc (u.gf q)),.arr 8 u.nt (fun q=>ek.enc (u.gt q))])),(.undef,(σ++[.var ((((((u.cells u.aX).set 1 (.ms (σ.length+3) 6 0 u.P.nc)).set 2 (.ms (σ.length+4) 6 0 u.P.np)).set 4 (.ms (σ.length+5) 6 0 u.P.na)).set 6 (.ms (σ.length+6) 5 0 u.nb)).set 7 (.ms (σ.length+7) 4 0 u.nf)),.var zU,.dead,.arr 6 u.P.nc (fun q=>Rule.enc (u.P.gc q)),.arr 6 u.P.np (fun q=>dF.enc (u.P.gp q)),.arr 6 u.P.na (fun q=>fM.enc (u.P.ga q)),.arr 5 u.nb (fun q=>Bx.enc (u.gb q)),.arr 4 u.nf (fun q=>l4.enc (u.gf q)),.arr 8 u.nt (fun q=>ek.enc (u.gt q))]))] T.mixed aD
  ·intro K hK;refine wB ?_;exact hK _ _
  ·refine Mix.aw ?_ (Mix.aw ?_ (Mix.aW))
   ·intro K hK;simp[go_sem];exact hK _ _
   ·intro K hK;simp[go_sem];exact hK _ _
  ·refine Mix.aG ?_ (Mix.aG ?_ (Mix.bn))
   ·simp[go_sem];all_goals first|rfl|omega|skip
   ·simp[go_sem];all_goals first|rfl|omega|skip
  intro K hK;refine wD hK ?_;refine aq ?_;refine wE ?_;refine aB ?_;refine ba [1,2,109,110] eE ?_;refine bB (α:=Nat) (fun i=>[(110,.d (I i))]) (fun i=>(σ++[.var (((((((u.cells u.aX).set 1 (.ms (σ.length+3) 6 0 u.P.nc)).set 2 (.ms (σ.length+4) 6 0 u.P.np)).set 4 (.ms (σ.length+5) 6 0 u.P.na)).set 6 (.ms (σ.length+6) 5 0 u.nb)).set 7 (.ms (σ.length+7) 4 0 u.nf)).set 12 (.ms (σ.length+8) 8 0 u.nt)),.var zU,.dead,.arr 6 u.P.nc (fun q=>Rule.enc (u.P.gc q)),.arr 6 u.P.np (fun q=>dF.enc (u.P.gp q)),.arr 6 u.P.na (fun q=>fM.enc (u.P.ga q)),.arr 5 u.nb (fun q=>Bx.enc (u.gb q)),.arr 4 u.nf (fun q=>l4.enc (u.gf q)),.arr 8 u.nt (fun q=>ek.enc (u.gt q))])) (fun i=>i<=u.nt) (fun i=>u.nt-i) 0 au (rfl) an ?_;rintro i hi;refine wE ?_;refine aq ?_;refine gF [1,2,109,110,111] ?_;refine ko ?_ ?_<;>intro d1
  ·have hi0:i<u.nt:=aa;have g0:=hu.bu i hi0;have g1:=hu.bb i hi0;refine aJ ?_;refine aq ?_;refine aB ?_;refine aj fun K hK=> ?_;simp[go_sem,d1];refine hK _ ?_;refine T.dr 9 fun K hK=> ?_;simp[go_sem,d1];refine bK.mk (ly _ _ abI abI) ?_;simp[go_sem,d1];refine hK _ ?_;refine ax (σ.length+8) (fun q=>ek.enc (u.gt q)) bj (by intro q hq;by_cases h:q=i<;>simp[h,ek.enc]) aN ?_;refine aE fun K hK=> ?_;simp[go_sem];try simp(disch:=omega) only[aS]
   refine hK _ ?_;refine⟨i+1,bp au ((ae au)) iv,aa,AF⟩
  ·obtain rfl:i=u.nt:=by omega
   refine bN ?_;apply Mix.cw 10 [(7,some 131),(9,none)] [[0,1,2,3,4,5,6],[0,1,2,3,4,5,6,8]] [(.ms (σ.length+9) 3 0 u.nw,(σ++[.var (((((((u.cells u.aX).set 1 (.ms (σ.length+3) 6 0 u.P.nc)).set 2 (.ms (σ.length+4) 6 0 u.P.np)).set 4 (.ms (σ.length+5) 6 0 u.P.na)).set 6 (.ms (σ.length+6) 5 0 u.nb)).set 7 (.ms (σ.length+7) 4 0 u.nf)).set 12 (.ms (σ.length+8) 8 0 u.nt)),.var zU,.dead,.arr 6 u.P.nc (fun q=>Rule.enc (u.P.gc q)),.arr 6 u.P.np (fun q=>dF.enc (u.P.gp q)),.arr 6 u.P.na (fun q=>fM.enc (u.P.ga q)),.arr 5 u.nb (fun q=>Bx.enc (u.gb q)),.arr 4 u.nf (fun q=>l4.enc (u.gf q)),.arr 8 u.nt (fun q=>ek.enc (u.gt q)),.arr 3 u.nw (fun q=>ke.enc (u.gw q))])),(.undef,(σ++[.var (((((((u.cells u.aX).set 1 (.ms (σ.length+3) 6 0 u.P.nc)).set 2 (.ms (σ.length+4) 6 0 u.P.np)).set 4 (.ms (σ.length+5) 6 0 u.P.na)).set 6 (.ms (σ.length+6) 5 0 u.nb)).set 7 (.ms (σ.length+7) 4 0 u.nf)).set 12 (.ms (σ.length+8) 8 0 u.nt)),.var zU,.dead,.arr 6 u.P.nc (fun q=>Rule.enc (u.P.gc q)),.arr 6 u.P.np (fun q=>dF.enc (u.P.gp q)),.arr 6 u.P.na (fun q=>fM.enc (u.P.ga q)),.arr 5 u.nb (fun q=>Bx.enc (u.gb q)),.arr 4 u.nf (fun q=>l4.enc (u.gf q)),.arr 8 u.nt (fun q=>ek.enc (u.gt q)),.arr 3 u.nw (fun q=>ke.enc (u.gw q))]))] T.mixed aD
   ·intro K hK;refine wB ?_;exact hK _ _
   ·refine Mix.aw ?_ (Mix.aw ?_ (Mix.aW))
    ·intro K hK;simp[go_sem];exact hK _ _
    ·intro K hK;simp[go_sem];exact hK _ _
   ·refine Mix.aG ?_ (Mix.aG ?_ (Mix.bn))
    ·simp[go_sem];all_goals first|rfl|omega|skip
    ·simp[go_sem];all_goals first|rfl|omega|skip
   intro K hK;refine wD hK ?_;refine wE ?_;refine af ?_;simp[go_sem,Use.own,Use.blks]
theorem D9(u)(hu:br u):CS prog 9 [.agg (u.cells u.aX)] σ (fun r σ' X=>X=[]/\r= .agg (u.own (σ.length+3))/\σ'=σ++(.var (u.own (σ.length+3)):: .var (u.own (σ.length+3)):: .dead::u.blks)):=CS.narrow (Q:=fun r σ'=>r= .agg (u.own (σ.length+3))/\σ'=σ++(.var (u.own (σ.length+3)):: .var (u.own (σ.length+3)):: .dead::u.blks)) (D8 σ u hu)
end Go.Proofs.YthpplckmbbachaaGreatDoor
