/- Lemmas, no conditions. -/
import Derived.Test.YthpplckmbbachaaGreatDoorKB38
set_option linter.unusedSimpArgs false
set_option linter.unusedVariables false
set_option maxHeartbeats 1000000
set_option maxRecDepth 100000
namespace Go.Proofs.YthpplckmbbachaaGreatDoor
open Go.aI Go.bI Go.Proofs.Tryz
variable (σ : List aZ)
theorem Eh(s)(hs:s.size<4294967281):ak prog 234 [.d (Sb s)] σ (.d (B (jP s))):=by
 refine ak.bd true func234 fun hwf=> ?_;refine wC ?_;repeat refine⟨aa,?_⟩
 refine dH [0] ?_ ?_<;>intro d0
 ·have hz:jP s=false:=by
   grind [zx,bt]
  exact sx hz
 ·simp[go_sem];refine dm (α:=Nat) true [0,3] (fun i=>[(3,.d (I i))]) (fun i=>_) (fun i=>i<=s.size/\∀q,q<i->nameAt s q=true) (fun i=>s.size-i) 0 ?_;rintro i ⟨hi,hx⟩;refine gc [0,3] ?_ ?_<;>intro d1
  ·simp(disch:=first|omega|simp) [go_sem,aT (i:=i) aa];repeat refine⟨aa,?_⟩
   refine dH [0,3] ?_ ?_<;>intro d2
   ·have hz:jP s=false:=Xo d1 (by
     grind [EH,OM])
    exact sx hz
   ·have hnx:nameAt s i=true:=by
     grind [EH,OM]
    refine wC ?_;refine bF (i+1) ⟨aa,fun q hq=>ai⟩ (h:=aR)
  ·have hin:i=s.size:=aa;rw[hin] at hx;have hz:jP s=true:=(zx s).2 ⟨aa,aa,by grind [bt],by grind [bt],hx⟩;refine wR ?_;exact sx hz
theorem oS(p)(hs:p.Name.size<4294967281):ak prog 159 [.agg (p.enc.map .d)] σ (.d (I (fk p))):=by
 refine ak.bt func159 ?_;refine dH [1] ?_ ?_<;>intro d0
 ·refine wA ?_;simp[go_sem,fk,d0]<;>omega
 ·simp[go_sem];refine az.mk (Eh _ _ ai) (gc [1] ?_ ?_)<;>intro d1
  ·refine wA ?_;simp[go_sem,fk,d0,d1]<;>omega
  ·simp[go_sem];refine az.mk (dK _ p.jv) (sm ?_);refine cE.mk (dK _ p.jr) (gc [1] ?_ ?_)<;>intro d2
   ·refine wA ?_;simp[go_sem,fk,d0,d1,d2]<;>omega
   ·refine gc [] ?_ ?_<;>intro d3
    ·refine wA ?_;simp[go_sem,fk,d0,d1,d2,d3]<;>omega
    ·refine wA ?_;simp[go_sem,fk,d1,d2]<;>omega
theorem gP(c n g)(hn:n<1000000000)(hN: ∀i,i<n->(g i).Name.size<4294967281):ak prog 81 [.d (SL c 6 dF.enc n g)] σ (.d (I (cL n g))):=by
 refine ak.bt func81 ?_;refine dH [0] ?_ ?_<;>intro d0
 ·refine wA ?_;simp[go_sem,cL]<;>omega
 ·simp[go_sem];refine dm (α:=Nat) true [0,9,10,11] (fun i=>[(11,.d (I i))]) (fun i=>_) (fun i=>i<=n/\aA (oh g) 0 n=aA (oh g) i (n-i)) (fun i=>n-i) 0 ?_;rintro i ⟨hi,hx⟩;refine gc [0,9,10,11] ?_ ?_<;>intro d1
  ·obtain⟨k,hk⟩: ∃k,n-i=k+1:=⟨n-i-1,aa⟩;have hk':n-(i+1)=k:=aa;rw[hk,aA] at hx;refine wB ?_;refine az.mk (oS _ (g i) (hN i d1)) ?_;refine gc [0,3,4,5,9,10,11] ?_ ?_<;>intro d2
   ·have he:oh g i=fk (g i):=by grind [oh]
    rw[he,if_pos d2] at hx;refine wA ?_;simp[go_sem,cL,hx]<;>omega
   ·simp[go_sem];refine T.dr 13 fun K hK=> ?_;simp[go_sem,aT (i:=i) aa];refine wK hK ?_;refine gc [0,9,10,11] ?_ ?_<;>intro d3
    ·have he:oh g i=5:=by grind [oh]
     rw[he] at hx;simp at hx;refine wA ?_;simp[go_sem,cL,hx]<;>omega
    ·have he:oh g i=0:=by grind [oh]
     rw[he] at hx;simp at hx;refine wC ?_;refine bF (i+1) ⟨aa,ai⟩ (h:=aR)
  ·obtain rfl:i=n:=by omega
   rw[Nat.sub_self,aA] at hx;refine wO ?_;simp[go_sem,cL,hx]<;>omega
theorem uM(c n g u)(hn:n<1000000000)(hN: ∀i,i<n->(g i).Name.size<4294967281):ak prog 227 [.d (SL c 6 dF.enc n g),.d (I u)] σ (.cj [.agg ((gU n g u).1.enc.map .d),.d (B (gU n g u).2)]):=by
 refine ak.bt func227 ?_;refine az.mk (gP _ c n g hn hN) (gc [0,1,4] ?_ ?_)<;>intro d0
 ·have hz:gU n g u=(dF.zero,false):=by grind [gU]
  refine wA ?_;rw[hz];simp[go_sem,dF.zero]
 ·simp[go_sem];refine dm (α:=Nat) true [1,4,12,13,14] (fun i=>[(14,.d (I i))]) (fun i=>_) (fun i=>i<=n/\ee n g u=idxFrom (fun r=>r.ID==u) ((lst n g).drop i) i) (fun i=>n-i) 0 ?_ (hx:=⟨aa,rfl⟩);rintro i ⟨hi,hx⟩;refine gc [1,4,12,13,14] ?_ ?_<;>intro d1
  ·rw[bU d1,idxFrom] at hx;refine wB ?_;refine dH [1,4,7,12,13,14] ?_ ?_<;>intro d2
   ·refine wA ?_;rw[if_pos ai] at hx;have hz:gU n g u=(g i,true):=by grind [gU]
    rw[hz];simp[go_sem,d2]
   ·refine wC ?_;refine bF (i+1) ⟨aa,ai⟩ (h:=aR)
  ·rw[bV d1,idxFrom] at hx;refine wN ?_;have hz:gU n g u=(dF.zero,false):=by grind [gU]
   rw[hz];simp[go_sem,dF.zero]
theorem uL(d y):ak prog 461 [.d (I d),.d (I y)] σ (.d (I (cN (cN d 110).1 y).1)):=by
 refine ak.bt func461 ?_;refine az.mk (jM _ _ _) (sm ?_);refine az.mk (jM _ _ _) (sm ?_);exact af so
theorem Eg(p made y)(hs:p.Name.size<4294967281):ak prog 431 [.agg (p.enc.map .d),.agg (made.enc.map .d),.d (I y)] σ (.cj [.d (I (lu p made y).1),.d (I (lu p made y).2)]):=by
 have hb:=kF p.jr.Last y;unfold cv at hb;have hb1:=kF (cN p.jv.Last 110).1 y;unfold cv at hb1;have hb2:=kF (cN made.Last 110).1 y;unfold cv at hb2;refine ak.bt func431 ?_;refine az.mk (oS _ p hs) (sm ?_);refine cE.mk (dK _ made) (gc [2,3,4] ?_ ?_)<;>intro d0
 ·have hz:lu p made y=(0,1):=by grind [lu]
  exact sx hz
 ·refine gc [2,3,4] ?_ ?_<;>intro d1
  ·have hz:lu p made y=(0,2):=by grind [lu]
   exact sx hz
  ·have hz:lu p made y=(kH p made y,0):=by grind [lu]
   simp[go_sem];refine az.mk (jM _ _ _) (sm ?_);refine T.dr 12 fun K hK=>sm ?_;refine bK.mk (uL _ _ _) (sm ?_);refine bK.mk (uL _ _ _) (sm ?_);try simp(disch:=omega) only[aS]
   refine hK _ ?_;refine go true (sm ?_);refine af ?_;rw[hz];simp[go_sem,kH]
theorem kS(c n g c' m ids made y d)(hn:n<1000000000)(hm:m<1000000000)(hN: ∀i,i<n->(g i).Name.size<4294967281):ak prog 395 [.d (SL c 6 dF.enc n g),.d (SL c' 1 encI m ids),.agg (made.enc.map .d),.d (I y),.d (I d)] σ (.cj [.d (SL none 4 Ground.enc (ew n g m ids made y d).1.length (nth (ew n g m ids made y d).1)),.d (I (ew n g m ids made y d).2)]):=by
 refine ak.bs true func395 fun hwf=> ?_;refine az.mk (gP _ c n g hn hN) (sm ?_);refine cE.mk (dK _ made) (gc [0,1,3,4,7] ?_ ?_)<;>intro d0
 ·have hz:ew n g m ids made y d=([],1):=by grind [ew]
  exact sx hz
 ·refine gc [0,1,3,4,7] ?_ ?_<;>intro d1
  ·have hz:ew n g m ids made y d=([],2):=by grind [ew]
   exact sx hz
  ·simp[go_sem];refine dm (α:=Nat) false [0,1,3,4,7,43,44] (fun i=>[(44,.d (I i))]) (fun i=>_) (fun i=>i<=m/\∀q,0<q->q<i->ids (q-1)<ids q) (fun i=>m-i) 0 ?_;rintro i ⟨hi,hx⟩;refine wH ?_;refine gc [0,1,3,4,7,43,44] ?_ ?_<;>intro d2
   ·refine wL ?_;refine T.dr 14 fun K hK=> ?_;simp[go_sem,aT (i:=i) aa];refine wK hK ?_;refine gc [0,1,3,4,7,43,44] ?_ ?_<;>intro d3
    ·have hz:ew n g m ids made y d=([],5):=by grind [ew,zV]
     exact sx hz
    ·refine wC ?_;refine bF (i+1) ⟨aa,pV hx d3⟩ (h:=aR)
   ·have him:i=m:=aa;rw[him] at hx;have ha:=tJ hx;refine wX ?_;refine bq 13 4 (fun i=>Ground.enc (nth ([]:List Ground) i)) au aN ?_;refine wa ?_;refine JQ (α:=Nat) false [0,3,4,7,13,62,63,64] [σ.length+1] (fun q=>[(13,.ms (σ.length+1) 4 0 (gather (fQ n g ids made y d) q).length),(64,.d (I q))]) (fun q=>σ++[.var [.d (I made.First),.d (I made.Last)],.arr 4 (gather (fQ n g ids made y d) q).length (fun k=>Ground.enc (nth (gather (fQ n g ids made y d) q) k))]) (fun q=>q<=m/\∀k,k<q->0<=ee n g (ids k)) (fun q=>m-q) 0 Dk (rfl) an an ?_;rintro q ⟨hq,hf⟩;refine wH ?_;refine gc [0,3,4,7,13,62,63,64] ?_ ?_<;>intro d4
    ·have hl:=fF (zm n g ids made y d) q;have hlt:=Fh n g (ids q);refine wB ?_;refine wM ?_;refine az.mk (uM _ c n g (ids q) hn hN) ?_;refine wU ?_;refine gc [0,3,4,7,13,15,16,62,63,64] ?_ ?_<;>intro d5
     ·have hge:ee n g (ids q)<0:=by
       grind [gU]
      have hz:ew n g m ids made y d=([],7):=by unfold ew;rw[if_neg ai,if_neg aa,if_neg ai,if_pos (zD (q:=q) aa aa (by grind [grE]))]
      refine wR ?_;exact sx hz
     ·have hge:0<=ee n g (ids q):=by
       grind [gU]
      have hfr:gU n g (ids q)=(g (ee n g (ids q)).toNat,true):=by grind [gU]
      have hu:(lu (gU n g (ids q)).1 made y).1=kH (g (ee n g (ids q)).toNat) made y:=by rw[hfr];unfold lu;rw[if_neg (by simp[(ac2 d0.1).2 (ee n g (ids q)).toNat aa,d0.2]),if_neg aa]
      have hNf:(gU n g (ids q)).1.Name.size<4294967281:=ai;simp[go_sem];refine az.mk (Eg _ (gU n g (ids q)).1 made y hNf) ?_;simp[go_sem,hu];refine wM ?_;refine go false ?_;refine gc [0,3,4,7,13,15,18,62,63,64] ?_ ?_<;>intro d6
      ·have hg:gather (fQ n g ids made y d) (q+1)=gather (fQ n g ids made y d) q++[HB (ids q) (kH (g (ee n g (ids q)).toNat) made y)]:=by grind [gather,fQ]
       simp[go_sem,hwf.one];repeat refine⟨aa,?_⟩
       refine ax (σ.length+1) (fun k=>Ground.enc (nth (gather (fQ n g ids made y d) q++[HB (ids q) (kH (g (ee n g (ids q)).toNat) made y)]) k)) bj abG aN ?_;refine wW ?_;refine bF (q+1) ⟨aa,fun k hk=>ai⟩ (h:=by simp[go_sem,hg]<;>omega) (hσ:=aP) (hb:=ae au)
      ·have hg:gather (fQ n g ids made y d) (q+1)=gather (fQ n g ids made y d) q:=by grind [gather,fQ]
       refine wC ?_;refine bF (q+1) ⟨aa,fun k hk=>ai⟩ (h:=by simp[go_sem,hg]<;>omega) (hσ:=aP) (hb:=ae au)
    ·obtain rfl:q=m:=by omega
     have hz:ew n g q ids made y d=(gather (fQ n g ids made y d) q,0):=by grind [ew,tD,grE]
     refine wL ?_;refine aF hwf (σ.length+1) ?_;exact sy hz
theorem abf{α:Type}[Inhabited α]{enc:α->List D}{l m:List α}{q:Nat}(hq:q<l.length+m.length):aO l.length (fun i=>enc (nth l i)) (fun i=>enc (nth m i)) q=enc (nth (l++m) q):=by
 grind [aO,nth]
theorem OI{α:Type}[Inhabited α]{enc:α->List D}{l m:List α}{n q:Nat}(hn:n=l.length)(hq:q<n+m.length):aO n (fun i=>enc (nth l i)) (fun i=>enc (nth m i)) q=enc (nth (l++m) q):=by
 simp_all [abf]
theorem Ut{N G r n g k d}(h:(ez N G r n g k d).2=false):(ez N G r n g k d).1=0:=by
 grind [ez]
theorem T4{p}(h:bL p=0):check p.nc p.gc=0/\cL p.np p.gp=0/\dA p.na p.ga=0/\dq p.nm p.gm=0/\0<=p.dE/\p.dE<=200/\db p=0:=by
 unfold bL at h;split at h
 ·grind
 rename_i h1;split at h
 ·omega
 have h1:=Decidable.not_not.1 h1;exact⟨dc h1 0 aa aa,dc h1 1 aa aa,dc h1 2 aa aa,dc h1 3 aa aa,aa,aa,h⟩
theorem RF(p d r):ib p d r=(dP p r d 0++dP p r d 1++dP p r d 2).map (xc r.Unit):=by
 grind [ib,gather,G5]
theorem LI(B u){j q} :(if q=j then[I (nth B j).Kind,I (nth B j).Source,I u,I (nth B j).Until] else if q<j then Ground.enc (xc u (nth B q)) else Ground.enc (nth B q))=if q<j+1 then Ground.enc (xc u (nth B q)) else Ground.enc (nth B q):=by
 by_cases h:q=j
 ·rw[if_pos h,if_pos aa,h];rfl
 grind
theorem Tw{p}(h:db p=0){i}(hi:i<p.ns):0<=(p.gs i).Class:=by
 unfold db at h;split at h
 ·omega
 have:=dc h i aa aa;grind [kK]
def iw(p:u5)(r:Row)(d:Int)(i:Nat):List Ground:=if 0<=lR p.ns p.gs r.Unit/\lR p.ns p.gs r.Unit<i then dP p r d 0++dP p r d 1 else[]
theorem Tv{p}(r d):iw p r d p.ns=dP p r d 0++dP p r d 1:=by
 grind [iw,Fg,dQ,ej.zero,zJ,YK,HA,List.eq_nil_of_length_eq_zero]
theorem Yc{n g u}(h:0<=lR n g u):(lR n g u).toNat<n/\(g (lR n g u).toNat).Unit=u:=by
 grind [fT,lR,cd,qv]
theorem Tu{p}(h:db p=0){i j}(hi:i<p.ns)(hj:j<p.ns)(he:(p.gs i).Unit=(p.gs j).Unit):i=j:=by
 have h1: ∀i,i<p.ns->0<i->(p.gs (i-1)).Unit<(p.gs i).Unit:=fun i hi hp=>by
  unfold db at h;split at h
  ·omega
  have:=dc h i aa aa;grind [kK]
 have h2: ∀i,i<p.ns->∀j,j<i->(p.gs j).Unit<(p.gs i).Unit:=by
  intro i;induction i<;>grind
 rcases Nat.lt_trichotomy i j with h3|h3|h3;all_goals grind
theorem NU{p}(h:db p=0){i}(hi:i<p.ns):lR p.ns p.gs (p.gs i).Unit=(i:Int):=by
 grind [lR,fT,lst,Tu]
theorem PD{p}(h:db p=0){r d i}(hi:i<p.ns)(he:(p.gs i).Unit=r.Unit):iw p r d i=[]/\(dQ p r.Unit).1=p.gs i:=by
 grind [NU,iw,dQ]
theorem DE{p}(h:db p=0){r d i}(hi:i<p.ns):iw p r d (i+1)=if(p.gs i).Unit=r.Unit then dP p r d 0++dP p r d 1 else iw p r d i:=by
 unfold iw;by_cases he:(p.gs i).Unit=r.Unit
 ·grind [NU]
 ·rw[if_neg he];have hne:lR p.ns p.gs r.Unit≠i:=fun hf=>by
   have:=Yc (n:=p.ns) (g:=p.gs) (u:=r.Unit) aa;grind
  grind
theorem fi(c n g u)(hn:n<1000000000):ak prog 77 [.d (SL c 3 Row.enc n g),.d (I u)] σ (.d (I (dL n g u))):=by
 refine ak.bt func77 ?_;refine dm (α:=Nat) true [1,7,8,9] (fun i=>[(9,.d (I i))]) (fun i=>_) (fun i=>i<=n/\idxFrom (fun r=>r.Unit==u) (lst n g) 0=idxFrom (fun r=>r.Unit==u) ((lst n g).drop i) i) (fun i=>n-i) 0 ?_;rintro i ⟨hi,hx⟩;refine gc [1,7,8,9] ?_ ?_<;>intro d0
 ·rw[bU d0,idxFrom] at hx;refine wB ?_;refine dH [1,5,7,8,9] ?_ ?_<;>intro d1
  ·refine wA ?_;unfold dL;rw[hx,if_pos ai];simp[go_sem]
  ·refine wC ?_;refine bF (i+1) ⟨aa,ai⟩ (h:=aR)
 ·rw[bV d0,idxFrom] at hx;refine wN ?_;unfold dL;rw[hx];simp[go_sem]
theorem BY(c n g)(hn:n<1000000000):ak prog 226 [.d (SL c 1 encI n g)] σ (.d (B (fZ g n))):=by
 refine ak.bt func226 ?_;refine dm (α:=Nat) true [0,5,6] (fun i=>[(6,.d (I i))]) (fun i=>_) (fun i=>i<=n/\∀q,0<q->q<i->g (q-1)<g q) (fun i=>n-i) 0 ?_;rintro i ⟨hi,hx⟩;refine gc [0,5,6] ?_ ?_<;>intro d0
 ·simp[go_sem];refine T.dr 14 fun K hK=> ?_;simp[go_sem,aT (i:=i) aa];refine wK hK ?_;refine gc [0,5,6] ?_ ?_<;>intro d1
  ·simp[go_sem];rw[zV d0 d1.1 d1.2];exact af sc
  ·refine wC ?_;refine bF (i+1) ⟨aa,pV hx d1⟩ (h:=aR)
 ·obtain rfl:i=n:=by omega
  refine wR ?_;exact sx (tJ hx)
theorem xq(p)(hp:dT p)(hc:cL p.np p.gp=0):ak prog 146 [.agg (p.enc.map .d)] σ (.d (I (db p))):=by
 refine ak.bt func146 ?_;refine dH [1] ?_ ?_<;>intro d0
 ·refine wA ?_;simp[go_sem,db]<;>omega
 ·simp[go_sem];refine dm (α:=Nat) true [1,14,15,16] (fun i=>[(16,.d (I i))]) (fun i=>σ++[.var (p.enc.map .d)]) (fun i=>i<=p.ns/\aA (kK p) 0 p.ns=aA (kK p) i (p.ns-i)) (fun i=>p.ns-i) 0 ?_;rintro i ⟨hi,hx⟩;refine gc [1,14,15,16] ?_ ?_<;>intro d1
  ·obtain⟨k,hk⟩: ∃k,p.ns-i=k+1:=⟨p.ns-i-1,aa⟩;have hk':p.ns-(i+1)=k:=aa;rw[hk,aA] at hx;refine wB ?_;refine dH [1,3,4,14,15,16] ?_ ?_<;>intro d2
   ·have he:kK p i=2:=by grind [kK,kZ]
    rw[he] at hx;simp at hx;refine wA ?_;simp[go_sem,db,hx]<;>omega
   ·have hd2: ¬(kZ (p.gs i).Unit=false\/(p.gs i).Class<0\/999<(p.gs i).Class):=by
     grind [kZ]
    simp[go_sem];refine az.mk (dK _ (p.gs i).Made) ?_;refine gc [1,3,4,14,15,16] ?_ ?_<;>intro d3
    ·have he:kK p i=1:=by grind [kK]
     rw[he] at hx;simp at hx;refine wA ?_;simp[go_sem,db,hx]<;>omega
    ·simp[go_sem];refine T.dr 20 fun K hK=> ?_;simp[go_sem,aT (i:=i) ai];repeat refine⟨aa,?_⟩
     refine bK.mk (BY _ none (p.gs i).np (p.gs i).ps (by have:=hp.ps i d1;omega)) ?_;refine wc hK ?_;refine gc [1,4,14,15,16] ?_ ?_<;>intro d4
     ·have he:kK p i=5:=by grind [kK]
      rw[he] at hx;simp at hx;refine wA ?_;simp[go_sem,db,hx]<;>omega
     ·have he:kK p i=DH p (p.gs i):=by
       grind [kK]
      simp[go_sem];refine dm (α:=Nat) true [1,14,15,16,64,65,66] (fun q=>[(66,.d (I q))]) (fun q=>σ++[.var (p.enc.map .d),.var ((p.gs i).enc.map .d)]) (fun q=>q<=(p.gs i).np/\DH p (p.gs i)=aA (fun q=>if qC p.np p.gp ((p.gs i).ps q)=false then 7 else 0) q ((p.gs i).np-q)) (fun q=>(p.gs i).np-q) 0 ?_ (hx:=⟨aa,rfl⟩);rintro q ⟨hq,hy⟩;refine gc [1,14,15,16,64,65,66] ?_ ?_<;>intro d5
      ·obtain⟨j,hj⟩: ∃j,(p.gs i).np-q=j+1:=⟨(p.gs i).np-q-1,aa⟩;have hj':(p.gs i).np-(q+1)=j:=aa;rw[hj,aA] at hy;refine wB ?_;refine az.mk (uM _ none p.np p.gp ((p.gs i).ps q) Ax hp.nn) ?_;refine gc [1,14,15,16,64,65,66] ?_ ?_<;>intro d6
       ·have hh:qC p.np p.gp ((p.gs i).ps q)=false:=by grind [NT]
        simp only[hh,if_true] at hy;rw[he,hy] at hx;simp at hx;refine wA ?_;simp[go_sem,db,hx]<;>omega
       ·have hh:qC p.np p.gp ((p.gs i).ps q)=true:=by grind [NT]
        simp only[hh,Bool.true_eq_false,if_false] at hy;simp at hy;refine wI ?_;refine bF (q+1) ⟨aa,ai⟩ (h:=by simp[go_sem,wS q (by have:=hp.ps i d1;omega)]<;>omega) (hσ:=aP)
      ·obtain rfl:q=(p.gs i).np:=by omega
       rw[Nat.sub_self,aA] at hy;rw[he,hy] at hx;simp at hx;refine wT ?_;refine bF (i+1) ⟨aa,ai⟩ (h:=aR) (hσ:=aP)
  ·have hin:i=p.ns:=aa;rw[hin,Nat.sub_self,aA] at hx;refine wO ?_;simp[go_sem,db,hx]<;>omega
theorem ni(p)(hp:dT p):ak prog 67 [.agg (p.enc.map .d)] σ (.d (I (bL p))):=by
 refine ak.bt func67 ?_;refine T.dr 15 fun K hK=>sm ?_;refine bK.mk (jL _ none p.nc p.gc (by have:=hp.nc;omega)) ?_;simp[go_sem];refine bK.mk (gP _ none p.np p.gp Ax hp.nn) ?_;simp[go_sem];refine bK.mk (jJ _ none p.na p.ga Hb) ?_;simp[go_sem];refine bK.mk (jI _ none p.nm p.gm (by have:=hp.nm;omega)) ?_;refine wD hK ?_;refine go true (sm ?_);refine dm (α:=Nat) true [1,17,18,19] (fun i=>[(19,.d (I i))]) (fun i=>_) (fun i=>i<=4/\aA (oV p) 0 4=aA (oV p) i (4-i)) (fun i=>4-i) 0 ?_;rintro i ⟨hi,hx⟩;refine gc [1,17,18,19] ?_ ?_<;>intro d0
 ·obtain⟨k,hk⟩: ∃k,4-i=k+1:=⟨4-i-1,aa⟩;have hk':4-(i+1)=k:=aa;have hs:aA (oV p) i (k+1)=if oV p i≠0 then oV p i else aA (oV p) (i+1) k:=rfl
  rw[hk,hs] at hx;have hrow:rowsOf 1 [I (check p.nc p.gc),I (cL p.np p.gp),I (dA p.na p.ga),I (dq p.nm p.gm)] i=[I (oV p i)]:=by
   have hi4:i=0\/i=1\/i=2\/i=3:=aa;rcases hi4 with rfl|rfl|rfl|rfl<;>rfl
  simp[go_sem,hrow];repeat refine⟨aa,?_⟩
  refine dH [1,4,17,18,19] ?_ ?_<;>intro d1
  ·rw[if_pos d1] at hx;have hz:bL p=oV p i:=by grind [bL]
   exact sx hz
  ·rw[if_neg ai] at hx;refine wC ?_;refine bF (i+1) ⟨aa,ai⟩ (h:=aR)
 ·obtain rfl:i=4:=by omega
  have hx:aA (oV p) 0 4=0:=hx;simp[go_sem];refine go true (gc [1] ?_ ?_)<;>intro d2
  ·have hz:bL p=2:=by grind [bL]
   exact sx hz
  ·have hz:bL p=db p:=by grind [bL]
   simp[go_sem];refine az.mk (xq _ p hp (dc hx 1 aa aa)) (sm ?_);exact sy hz
theorem lA(c n g)(hn:n<1000000000):ak prog 37 [.d (SL c 3 Row.enc n g)] σ (.d (I (bC n g))):=by
 refine ak.bt func37 ?_;refine dH [0] ?_ ?_<;>intro d0
 ·have hz:bC n g=8:=by grind [bC]
  exact sx hz
 ·have hle: ¬256<n:=aa;simp[go_sem];refine dm (α:=Nat) true [0,14,15,16] (fun i=>[(16,.d (I i))]) (fun i=>_) (fun i=>i<=n/\aA (mF g) 0 n=aA (mF g) i (n-i)) (fun i=>n-i) 0 ?_;rintro i ⟨hi,hx⟩;refine gc [0,14,15,16] ?_ ?_<;>intro d1
  ·obtain⟨k,hk⟩: ∃k,n-i=k+1:=⟨n-i-1,aa⟩;have hk':n-(i+1)=k:=aa;rw[hk,aA] at hx;refine wB ?_;refine dH [0,3,4,14,15,16] ?_ ?_<;>intro d2
   ·have hrk:rowOk (g i)=false:=by
     grind [rowOk,kZ]
    have he:mF g i=2:=by grind [mF]
    rw[he] at hx;simp at hx;have hz:=I4 hle hx aH;exact sx hz
   ·have hrk:rowOk (g i)=true:=by grind [rowOk,kZ]
    simp[go_sem];refine T.dr 13 fun K hK=> ?_;simp[go_sem,aT (i:=i) aa];refine wK hK ?_;refine gc [0,14,15,16] ?_ ?_<;>intro d3
    ·have he:mF g i=5:=by grind [mF]
     rw[he] at hx;simp at hx;have hz:=I4 hle hx aH;exact sx hz
    ·have he:mF g i=0:=by grind [mF]
     rw[he] at hx;simp at hx;refine wC ?_;refine bF (i+1) ⟨aa,ai⟩ (h:=aR)
  ·have hin:i=n:=aa;rw[hin,Nat.sub_self,aA] at hx;refine wL ?_;refine dm (α:=Nat) true [0,63,64,65] (fun q=>[(65,.d (I q))]) (fun q=>_) (fun q=>q<=n/\aA (qp n g) 0 n=aA (qp n g) q (n-q)) (fun q=>n-q) 0 ?_;rintro q ⟨hq,hy⟩;refine gc [0,63,64,65] ?_ ?_<;>intro d4
   ·obtain⟨j,hj⟩: ∃j,n-q=j+1:=⟨n-q-1,aa⟩;have hj':n-(q+1)=j:=aa;rw[hj,aA] at hy;refine wB ?_;refine cE.mk (fi _ c n g (g q).Parent hn) ?_;refine gc [0,63,64,65] ?_ ?_<;>intro d5
    ·have he:qp n g q=7:=by grind [qp]
     rw[he] at hy;simp at hy;have hz:=WW hle hx hy aH;exact sx hz
    ·have he:qp n g q=0:=by grind [qp]
     rw[he] at hy;simp at hy;refine wC ?_;refine bF (q+1) ⟨aa,ai⟩ (h:=aR)
   ·have vB:q=n:=aa;rw[vB,Nat.sub_self,aA] at hy;have hg:=J3 aa hx hy;refine wL ?_;refine dm (α:=Nat) true [0,80,81,82] (fun r=>[(82,.d (I r))]) (fun r=>_) (fun r=>r<=n/\∀z,z<r->¬Cyc n g z) (fun r=>n-r) 0 ?_;rintro r ⟨hr,hc⟩;refine gc [0,80,81,82] ?_ ?_<;>intro d6
    ·refine wB ?_;refine mA (α:=Nat) true [0,9,10,80,81,82] (fun k=>[(9,.d (I (g (cS n g r k)).Parent)),(10,.d (I k))]) (fun k=>σ++[.var ((g r).enc.map .d)]) (fun k=>k<=n/\∀q,q<k->(g (cS n g r q)).Parent≠0) (fun k=>n+1-k) 0 (by simp[go_sem,cS]) (rfl) an ?_;rintro k ⟨hk1,hks⟩;refine gc [0,9,10,80,81,82] ?_ ?_<;>intro d7
     ·simp(disch:=first|omega|simp) [go_sem,wS k];refine dH [0,9,10,80,81,82] ?_ ?_<;>intro d8
      ·have hkn:k=n:=aa;have hcy:Cyc n g r:=fun q hq=>by
        grind
       have hz:=WV hle hx hy d6 hcy;exact sx hz
      ·have hnx:=(hg.qJ d6 (k:=k) (fun q hq=>ai)).1;have hnl:=hg.nW d6 (k+1) (fun q hq=>ai);simp[go_sem];refine az.mk (fi _ c n g (g (cS n g r k)).Parent hn) ?_;simp[go_sem,hnx,hnl];refine bF (k+1) ⟨aa,fun q hq=>ai⟩ (h:=aR) (hσ:=aP)
     ·have hcy: ¬Cyc n g r:=fun h=>h k hk1 d7;refine wT ?_;refine bF (r+1) ⟨aa,fun z hz=>ai⟩ (h:=aR)
    ·have hrn:r=n:=aa;have hz:=WU hle hx hy (fun i hi=>hc i aa);refine wR ?_;exact sx hz
theorem sf(c n g p r u d)(hn:n<1000000000)(hp:dT p):ak prog 237 [.d (SL c 3 Row.enc n g),.agg (p.enc.map .d),.d (I r),.d (I u),.d (I d)] σ (.d (I (jy n g p r u d))):=by
 refine ak.bt func237 ?_;refine az.mk (lA _ c n g hn) (sm ?_);refine cE.mk (ni _ p hp) (gc [0,2,3,4] ?_ ?_)<;>intro d0
 ·have hz:jy n g p r u d=1:=by grind [jy]
  exact sx hz
 ·have hd0: ¬(bC n g≠0\/bL p≠0):=aa;refine gc [0,3] ?_ ?_<;>intro d1
  ·have hz:jy n g p r u d=2:=by grind [jy,kZ]
   exact sx hz
  ·have hd1: ¬(kZ r=false\/d<0\/1048575<d):=by grind [kZ]
   simp[go_sem];refine cE.mk (fi _ c n g u hn) (gc [] ?_ ?_)<;>intro d2
   ·have hz:jy n g p r u d=7:=by
     unfold jy;rw[if_neg hd0,if_neg hd1,if_pos];apply Classical.byContradiction;intro h;have:=Li (n:=n) (g:=g) aa (u:=u) aa;omega
    exact sx hz
   ·have hz:jy n g p r u d=0:=by grind [jy]
    exact sx hz
theorem uI(c n g u)(hn:n<1000000000):ak prog 239 [.d (SL c 3 Row.enc n g),.d (I u)] σ (.cj [.d (SL none 1 encI (rh n g u).1 (fun i=>(g (bY n g u i)).Unit)),.d (I (rh n g u).2)]):=by
 refine ak.bs false func239 fun hwf=> ?_;refine go false (sm ?_);refine az.mk (lA _ c n g hn) (sm ?_);refine go false (gc [0,1] ?_ ?_)<;>intro d0
 ·have hz:rh n g u=(0,1):=by grind [rh]
  refine wF ?_;exact sy hz
 ·simp[go_sem];refine cE.mk (fi _ c n g u hn) (sm ?_);refine go false (gc [0,1] ?_ ?_)<;>intro d1
  ·have hz:rh n g u=(0,7):=by
    unfold rh;rw[if_neg ai,if_pos];apply Classical.byContradiction;intro h;have:=Li d0 (u:=u) aa;omega
   refine wF ?_;exact sy hz
  ·have hz:rh n g u=(dt n g u,0):=by grind [rh]
   obtain⟨hwk,Cu⟩:=rL d0 u;obtain⟨hw0,hw1,hw2⟩:=Ti d0 u;have hkp:0<dt n g u:=by
    grind [V6]
   have hgo:=(kO d0).1;simp[go_sem];refine bq 6 1 (fun i=>encI (g (bY n g u i)).Unit) au aN ?_;refine go false (sm ?_);refine go true (sm ?_);refine JQ (α:=Nat) false [0,6,7] [σ.length] (fun k=>[(6,.ms σ.length 1 0 k),(7,.d (I (if k=dt n g u then 0 else(g (bY n g u k)).Unit)))]) (fun k=>σ++[.arr 1 k (fun i=>encI (g (bY n g u i)).Unit)]) (fun k=>k<=dt n g u) (fun k=>dt n g u-k) 0 (by simp[go_sem,show ¬0=dt n g u by omega,hw0 hkp]) (rfl) an an ?_;rintro k hk1;simp[go_sem];refine go false (gc [0,6,7] ?_ ?_)<;>intro d2
   ·have hkk: ¬k=dt n g u:=d2.1;have hnx:(if k+1=dt n g u then 0 else(g (bY n g u (k+1))).Unit)=(g (bY n g u k)).Parent:=by
     grind
    have hkl:=Cu.lt k aa;have hun:=hgo.find hkl;simp[go_sem,hkk,hwf.zero];repeat refine⟨aa,?_⟩
    refine ax σ.length (fun i=>encI (g (bY n g u i)).Unit) bj (by intro i hi;refine FK (enc:=encI) (f:=fun i=>(g (bY n g u i)).Unit) ?_ hi;simp[encI]) aN ?_;refine wM ?_;refine az.mk (fi _ c n g (g (bY n g u k)).Unit hn) ?_;simp[go_sem,hun];repeat refine⟨aa,?_⟩
    refine bF (k+1) aa (h:=by simp[go_sem,hkk,hnx]<;>omega) (hσ:=aP) (hb:=ae au)
   ·have hkk:k=dt n g u:=by
     apply Classical.byContradiction;intro h;have d2':=d2 h;have hkl:=Cu.lt k aa;have:=hgo.ok _ hkl;grind [rowOk,kZ]
    refine wF ?_;refine bg (σ.length) bj aN eS ?_;refine af ?_;rw[hz];simp[go_sem,hkk]
theorem Ed(c n g p k d)(hr:bC n g=0)(hp:dT p)(hc:bL p=0)(hk:k<n):ak prog 335 [.d (SL c 3 Row.enc n g),.agg (p.enc.map .d),.d (I (g k).Unit),.d (I d)] σ (.d (SL none 4 Ground.enc (ib p d (g k)).length (nth (ib p d (g k))))):=by
 obtain⟨hc1,hc2,hc3,hc4,hy1,hy2,hsc⟩:=T4 hc;have hn:=CM hr;have hfk:=(kO hr).1.find hk;have hrk:=(kO hr).1.ok k hk;simp[rowOk,kZ] at hrk;have hl0:=sS hp (g k) d 0;have hl1:=sS hp (g k) d 1;have hl2:=sS hp (g k) d 2;have hs0:iw p (g k) d 0=[]:=by grind [iw]
 have hsl: ∀i,(iw p (g k) d i).length<=2000:=fun i=>by
  grind [iw]
 refine ak.bs false func335 fun hwf=> ?_;refine go false (sm ?_);refine bq 9 4 (fun i=>Ground.enc (nth ([]:List Ground) i)) au aN ?_;refine go false (sm ?_);refine go true (sm ?_);refine JQ (α:=Nat) false [0,2,3,5,9,19,20,21] [σ.length+1] (fun i=>[(9,.ms (σ.length+1) 4 0 (iw p (g k) d i).length),(21,.d (I i))]) (fun i=>σ++[.var (p.enc.map .d),.arr 4 (iw p (g k) d i).length (fun q=>Ground.enc (nth (iw p (g k) d i) q))]) (fun i=>i<=p.ns) (fun i=>p.ns-i) 0 (by simp[go_sem,hs0]) (by grind [u5.enc,Ground.enc]) an an ?_;rintro i hi;simp[go_sem];refine go false (gc [0,2,3,5,9,19,20,21] ?_ ?_)<;>intro d0
 ·have hsi:=hsl i;refine wB ?_;refine go false (sm ?_);refine go false (gc [0,2,3,5,9,11,19,20,21] ?_ ?_)<;>intro d1
  ·have he:iw p (g k) d (i+1)=iw p (g k) d i:=by grind [DE]
   refine wI ?_;refine bF (i+1) aa (h:=by simp[go_sem,wS i abB,he]<;>omega) (hσ:=aP) (hb:=ae au)
  ·obtain⟨hi0,hsub⟩:=PD (d:=d) hsc aa d1;have hi1:=Tw hsc (i:=i) aa;have adz:(ew p.np p.gp (p.gs i).np (p.gs i).ps (p.gs i).Made p.dE d).1=dP p (g k) d 1:=by rw[YK,hsub]
   have he0:iw p (g k) d (i+1)=dP p (g k) d 0++dP p (g k) d 1:=by grind [DE]
   generalize hA:iw p (g k) d i=A at hi0 hsi
   refine wH ?_;refine gc [0,2,3,5,9,11,19,20,21] ?_ ?_<;>intro d2
   ·simp[go_sem];refine az.mk (B7 _ none p.nc p.gc (p.gs i).Class (p.gs i).Made d (by have:=hp.nc;omega)) ?_;refine wU ?_;refine gc [0,2,3,5,9,11,12,19,20,21] ?_ ?_<;>intro d3
    ·have hcl0:dP p (g k) d 0=[(du p.nc p.gc (p.gs i).Class (p.gs i).Made d).1]:=by grind [zJ]
     obtain⟨B1,hB1⟩: ∃B,B=A++[(du p.nc p.gc (p.gs i).Class (p.gs i).Made d).1]:=⟨_,rfl⟩;have aha:A.length+1=B1.length:=ai;obtain⟨B2,hB2⟩: ∃B,B=B1++dP p (g k) d 1:=⟨_,rfl⟩;have Qh:B1.length+(dP p (g k) d 1).length=B2.length:=ai;have he:iw p (g k) d (i+1)=B2:=ai;simp[go_sem,aha,hwf.one];repeat refine⟨aa,?_⟩
     refine ax (σ.length+1) (fun q=>Ground.enc (nth B1 q)) bj (by intro q hq;rw[hB1];exact fH (enc:=Ground.enc) (x:=(du p.nc p.gc (p.gs i).Class (p.gs i).Made d).1) rfl aa) aN ?_;refine wM ?_;refine az.mk (kS _ none p.np p.gp none (p.gs i).np (p.gs i).ps (p.gs i).Made p.dE d Ax (by have:=hp.ps i aa;omega) hp.nn) ?_;simp[go_sem,adz];refine go false ?_;simp[go_sem,Qh,hwf.one];repeat refine⟨aa,?_⟩
     refine ax (σ.length+1) (fun q=>Ground.enc (nth B2 q)) bj Rf aN ?_;refine go false ?_;refine wI ?_;refine bF (i+1) aa (h:=VZ) (hσ:=aP) (hb:=ae au)
    ·have hcl0:dP p (g k) d 0=[]:=by grind [zJ]
     obtain⟨B2,hB2⟩: ∃B,B=A++dP p (g k) d 1:=⟨_,rfl⟩;have Qh:A.length+(dP p (g k) d 1).length=B2.length:=ai;have he:iw p (g k) d (i+1)=B2:=ai;simp[go_sem];refine az.mk (kS _ none p.np p.gp none (p.gs i).np (p.gs i).ps (p.gs i).Made p.dE d Ax (by have:=hp.ps i aa;omega) hp.nn) ?_;simp[go_sem,adz];refine go false ?_;simp[go_sem,Qh,hwf.one];repeat refine⟨aa,?_⟩
     refine ax (σ.length+1) (fun q=>Ground.enc (nth B2 q)) bj Rf aN ?_;refine go false ?_;refine wI ?_;refine bF (i+1) aa (h:=VZ) (hσ:=aP) (hb:=ae au)
   ·have hcl0:dP p (g k) d 0=[]:=by grind [zJ]
    obtain⟨B2,hB2⟩: ∃B,B=A++dP p (g k) d 1:=⟨_,rfl⟩;have Qh:A.length+(dP p (g k) d 1).length=B2.length:=ai;have he:iw p (g k) d (i+1)=B2:=ai;simp[go_sem];refine az.mk (kS _ none p.np p.gp none (p.gs i).np (p.gs i).ps (p.gs i).Made p.dE d Ax (by have:=hp.ps i aa;omega) hp.nn) ?_;simp[go_sem,adz];refine go false ?_;simp[go_sem,Qh,hwf.one];repeat refine⟨aa,?_⟩
    refine ax (σ.length+1) (fun q=>Ground.enc (nth B2 q)) bj Rf aN ?_;refine go false ?_;refine wI ?_;refine bF (i+1) aa (h:=VZ) (hσ:=aP) (hb:=ae au)
 ·obtain rfl:i=p.ns:=by omega
  have hall:=Tv (p:=p) (g k) d;have hsi:=hsl p.ns;generalize hA:iw p (g k) d p.ns=A at hall hsi
  refine wX ?_;refine az.mk (fi _ c n g (g k).Unit aa) ?_;simp[go_sem,hfk];repeat refine⟨aa,?_⟩
  refine wM ?_;refine go false ?_;refine gc [2,3,5,9,16] ?_ ?_<;>intro d4
  ·have afp:kD p.na p.ga (g k).dg d=dP p (g k) d 2:=by grind [Kr]
   obtain⟨B2,hB2⟩: ∃B,B=A++dP p (g k) d 2:=⟨_,rfl⟩;have Qh:A.length+(dP p (g k) d 2).length=B2.length:=ai;have hrow:ib p d (g k)=B2.map (xc (g k).Unit):=by grind [RF]
   simp[go_sem];refine az.mk (zf _ none p.na p.ga (g k).dg d Hb) ?_;simp[go_sem,afp,Qh,hwf.one];repeat refine⟨aa,?_⟩
   refine ax (σ.length+1) (fun q=>Ground.enc (nth B2 q)) bj Rf aN ?_;refine wa ?_;refine mA (α:=Nat) false [2,9,82,83] (fun j=>[(83,.d (I j))]) (fun j=>σ++[.var (p.enc.map .d),.arr 4 B2.length (fun q=>if q<j then Ground.enc (xc (g k).Unit (nth B2 q)) else Ground.enc (nth B2 q))]) (fun j=>j<=B2.length) (fun j=>B2.length-j) 0 au (by simp[u5.enc,Ground.enc]) an ?_;rintro j hj;refine wH ?_;refine gc [2,9,82,83] ?_ ?_<;>intro d5
   ·refine wX ?_;repeat refine⟨aa,?_⟩
    refine ax (σ.length+1) (fun q=>if q<j+1 then Ground.enc (xc (g k).Unit (nth B2 q)) else Ground.enc (nth B2 q)) bj (by intro q hq;exact LI B2 _) aN ?_;refine wW ?_;refine bF (j+1) aa (h:=aR) (hσ:=aP) (hb:=ae au)
   ·obtain rfl:j=B2.length:=by omega
    refine wL ?_;refine aF hwf (σ.length+1) ?_;refine af ?_;rw[hrow];simp[go_sem];grind [RV]
  ·have afp:dP p (g k) d 2=[]:=by grind [Kr]
   have hrow:ib p d (g k)=A.map (xc (g k).Unit):=by grind [RF]
   refine wL ?_;refine mA (α:=Nat) false [2,9,82,83] (fun j=>[(83,.d (I j))]) (fun j=>σ++[.var (p.enc.map .d),.arr 4 A.length (fun q=>if q<j then Ground.enc (xc (g k).Unit (nth A q)) else Ground.enc (nth A q))]) (fun j=>j<=A.length) (fun j=>A.length-j) 0 au (by simp[u5.enc,Ground.enc]) an ?_;rintro j hj;refine wH ?_;refine gc [2,9,82,83] ?_ ?_<;>intro d6
   ·refine wX ?_;repeat refine⟨aa,?_⟩
    refine ax (σ.length+1) (fun q=>if q<j+1 then Ground.enc (xc (g k).Unit (nth A q)) else Ground.enc (nth A q)) bj (by intro q hq;exact LI A _) aN ?_;refine wW ?_;refine bF (j+1) aa (h:=aR) (hσ:=aP) (hb:=ae au)
   ·obtain rfl:j=A.length:=by omega
    refine wL ?_;refine aF hwf (σ.length+1) ?_;refine af ?_;rw[hrow];simp[go_sem];grind [RV]
theorem ze(c n g p u d)(hn:n<1000000000)(hp:dT p):ak prog 238 [.d (SL c 3 Row.enc n g),.agg (p.enc.map .d),.d (I u),.d (I d)] σ (.cj [.d (SL none 4 Ground.enc (J2 n g p u d).1.length (nth (J2 n g p u d).1)),.d (I (J2 n g p u d).2)]):=by
 refine ak.bs false func238 fun hwf=> ?_;refine go false (sm ?_);refine az.mk (sf _ c n g p 1 u d hn hp) (sm ?_);refine go false (sm ?_);refine go false (gc [0,2,3,5,10] ?_ ?_)<;>intro d0
 ·have hz:J2 n g p u d=([],jy n g p 1 u d):=by grind [J2]
  refine wF ?_;exact sy hz
 ·have hz:J2 n g p u d=(dN n g p u d,0):=by grind [J2]
  obtain⟨hr,hpc,hir,hd1,hd2,hfu⟩:=F3 d0;have hp1:rh n g u=(dt n g u,0):=by grind [rh]
  have hn:=CM hr;obtain⟨hwk,Cu⟩:=rL hr u;simp[go_sem];refine az.mk (uI _ c n g u aa) ?_;simp[go_sem,hp1];refine wM ?_;refine bq 13 4 (fun i=>Ground.enc (nth ([]:List Ground) i)) au aN ?_;refine wa ?_;refine JQ (α:=Nat) false [0,3,5,13,30,31,32] [σ.length+1] (fun i=>[(13,.ms (σ.length+1) 4 0 (gather (fun k=>ib p d (g (bY n g u k))) i).length),(32,.d (I i))]) (fun i=>σ++[.var (p.enc.map .d),.arr 4 (gather (fun k=>ib p d (g (bY n g u k))) i).length (fun q=>Ground.enc (nth (gather (fun k=>ib p d (g (bY n g u k))) i) q))]) (fun i=>i<=dt n g u) (fun i=>dt n g u-i) 0 Dk (rfl) an an ?_;rintro i hi;refine wH ?_;refine gc [0,3,5,13,30,31,32] ?_ ?_<;>intro d1
  ·have hl:=mR (f:=(fun k=>ib p d (g (bY n g u k)))) (i:=i) (m:=3000) fun q _=>xg hp d _;have hl1:=xg hp d (g (bY n g u i));have hal:(gather (fun k=>ib p d (g (bY n g u k))) i).length+(ib p d (g (bY n g u i))).length=(gather (fun k=>ib p d (g (bY n g u k))) (i+1)).length:=by simp[gather]
   refine wB ?_;refine wM ?_;refine az.mk (Ed _ c n g p (bY n g u i) d hr hp hpc (Cu.lt i aa)) ?_;simp[go_sem,hal,hwf.one];repeat refine⟨aa,?_⟩
   refine ax (σ.length+1) (fun q=>Ground.enc (nth (gather (fun k=>ib p d (g (bY n g u k))) (i+1)) q)) bj (by intro q hq;exact OI (enc:=Ground.enc) rfl ai) aN ?_;refine wW ?_;refine bF (i+1) aa (h:=aR) (hσ:=aP) (hb:=ae au)
  ·have hin:i=dt n g u:=aa;refine wL ?_;refine aF hwf (σ.length+1) ?_;refine af ?_;rw[hz];simp[go_sem,dN,hin]
theorem BZ(c n g p r u d)(hn:n<1000000000)(hp:dT p):ak prog 167 [.d (SL c 3 Row.enc n g),.agg (p.enc.map .d),.d (I r),.d (I u),.d (I d)] σ (.cj [.agg ((fG n g p r u d).1.enc.map .d),.d (I (fG n g p r u d).2)]):=by
 refine ak.bs false func167 fun hwf=> ?_;refine go false (sm ?_);refine az.mk (sf _ c n g p r u d hn hp) (sm ?_);refine go false (sm ?_);refine go false (gc [0,2,3,4,6,10,12] ?_ ?_)<;>intro d0
 ·have hz:fG n g p r u d=(Acc.zero,jy n g p r u d):=by grind [fG]
  refine wN ?_;rw[hz];simp[go_sem,Acc.zero]
 ·have hz:fG n g p r u d=(QA n g p r u d,0):=by grind [fG]
  obtain⟨hr,hpc,hir,hd1,hd2,hfu⟩:=F3 d0;have hg1:J2 n g p u d=(dN n g p u d,0):=by
   grind [J2,jy,kZ]
  have hp1:rh n g u=(dt n g u,0):=by grind [rh]
  have hn:=CM hr;obtain⟨hwk,Cu⟩:=rL hr u;have hwl:=Lf hp hn hr u d;simp[go_sem];refine az.mk (ze _ c n g p u d aa hp) ?_;simp[go_sem,hg1];refine wM ?_;refine az.mk (uI _ c n g u aa) ?_;simp[go_sem,hp1];refine wM ?_;refine Ir (σ.length+2) 4 5 (fun q=>Reason.enc (vV p r (dt n g u) (fun i=>(g (bY n g u i)).Unit) d (nth (dN n g p u d) q))) aN ai aN aN ?_;refine wa ?_;refine JQ (α:=Nat) false [2,4,6,10,15,17,50,51,52] [σ.length+3] (fun q=>[(52,.d (I q))]) (fun q=>σ++[.var (p.enc.map .d),.var [.d (I 0),.d (I 0),.d (I 0),.d (B false),.d (.v (.slice none 0 0))],.var [.d (I r),.d (I u),.d (I d),.d (B (lifted (fun q=>vV p r (dt n g u) (fun i=>(g (bY n g u i)).Unit) d (nth (dN n g p u d) q)) q)),.ms (σ.length+3) 5 0 q],.arr 5 q (fun q=>Reason.enc (vV p r (dt n g u) (fun i=>(g (bY n g u i)).Unit) d (nth (dN n g p u d) q)))]) (fun q=>q<=(dN n g p u d).length) (fun q=>(dN n g p u d).length-q) 0 au (rfl) an an ?_;rintro q hq;refine wH ?_;refine gc [2,4,6,10,15,17,50,51,52] ?_ ?_<;>intro d1
  ·refine wB ?_;refine wM ?_;refine az.mk (Ef _ none p.nm p.gm r none (dt n g u) (fun i=>(g (bY n g u i)).Unit) (nth (dN n g p u d) q).Kind d (by have:=hp.nm;omega) aa) ?_;refine wX ?_;refine cE.mk (B5 _ none p.na p.ga (nth (dN n g p u d) q).Source Hb) ?_;refine wH ?_;refine gc [2,4,6,10,15,17,19,20,50,51,52] ?_ ?_<;>intro d2
   ·have hdec:Kj p r (dt n g u) (fun i=>(g (bY n g u i)).Unit) d (nth (dN n g p u d) q)=0:=by grind [Kj]
    have hlf:lifted (fun q=>vV p r (dt n g u) (fun i=>(g (bY n g u i)).Unit) d (nth (dN n g p u d) q)) (q+1)=false:=by grind [lifted,vV]
    refine wH ?_;simp[go_sem,hwf.one];repeat refine⟨aa,?_⟩
    refine ax (σ.length+3) (fun q=>Reason.enc (vV p r (dt n g u) (fun i=>(g (bY n g u i)).Unit) d (nth (dN n g p u d) q))) bj (by intro i hi;refine FK (enc:=Reason.enc) (f:=(fun q=>vV p r (dt n g u) (fun i=>(g (bY n g u i)).Unit) d (nth (dN n g p u d) q))) ?_ hi;simp_all [vV,Reason.enc]) aN ?_;refine wi ?_;refine wC ?_;refine bF (q+1) aa (h:=aR) (hσ:=aP) (hb:=ae au)
   ·have hdec:Kj p r (dt n g u) (fun i=>(g (bY n g u i)).Unit) d (nth (dN n g p u d) q)=(ez p.nm p.gm r (dt n g u) (fun i=>(g (bY n g u i)).Unit) (nth (dN n g p u d) q).Kind d).1:=by
     grind [Kj,Ut]
    have hlf:lifted (fun q=>vV p r (dt n g u) (fun i=>(g (bY n g u i)).Unit) d (nth (dN n g p u d) q)) (q+1)=(lifted (fun q=>vV p r (dt n g u) (fun i=>(g (bY n g u i)).Unit) d (nth (dN n g p u d) q)) q&&((ez p.nm p.gm r (dt n g u) (fun i=>(g (bY n g u i)).Unit) (nth (dN n g p u d) q).Kind d).1 !=0)):=by grind [lifted,vV]
    simp[go_sem,hwf.one];repeat refine⟨aa,?_⟩
    refine ax (σ.length+3) (fun q=>Reason.enc (vV p r (dt n g u) (fun i=>(g (bY n g u i)).Unit) d (nth (dN n g p u d) q))) bj (by intro i hi;refine FK (enc:=Reason.enc) (f:=(fun q=>vV p r (dt n g u) (fun i=>(g (bY n g u i)).Unit) d (nth (dN n g p u d) q))) ?_ hi;grind [vV,Reason.enc]) aN ?_;refine wi ?_;refine wC ?_;refine bF (q+1) aa (h:=aR) (hσ:=aP) (hb:=ae au)
  ·obtain rfl:q=(dN n g p u d).length:=by omega
   refine wL ?_;refine aF hwf (σ.length+3) ?_;refine af ?_;rw[hz];simp[go_sem,QA,ad2]
end Go.Proofs.YthpplckmbbachaaGreatDoor
