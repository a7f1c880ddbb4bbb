/- Lemmas, no conditions. -/
import Derived.Test.YthpplckmbbachaaGreatDoorKB33
import Derived.ProofKit
import Derived.OpenShut
import Derived.ShutString
import Derived.ChangeOld
import Derived.Below
import Derived.Carry
import Derived.Deep.Slices
set_option linter.unusedSimpArgs false
set_option linter.unusedVariables false
set_option maxHeartbeats 1000000
set_option maxRecDepth 100000
namespace Go.Proofs.YthpplckmbbachaaGreatDoor
open Go.aI Go.bI Go.Proofs.Tryz
variable (σ : List aZ)
theorem uO(y)(hy:0<=y):ak prog 485 [.d (I y)] σ (.d (B (kz y))):=by
 refine ak.bd true func485 fun hwf=> ?_;simp(disch:=first|omega|simp) [go_sem,mu];refine af ?_;simp[go_sem,aag]<;>omega
theorem uP(d):ak prog 483 [.d (I d)] σ (.d (B (decide (cv d)))):=by
 refine ak.bt func483 ?_;refine af ?_;simp[go_sem,HX]<;>omega
theorem me(y)(h1:1600<=y)(h2:y<=4700):ak prog 512 [.d (I y)] σ (.d (I (jw y))):=by
 refine ak.bd true func512 fun hwf=> ?_;refine wC ?_;refine dH [3] ?_ ?_<;>intro d0
 ·obtain rfl:y=1600:=by omega
  simp[go_sem];rw[OU];exact af sc
 ·simp(disch:=first|omega|simp) [go_sem,wo,aS];refine af ?_;simp[go_sem];grind [U7]
theorem iM(y m):ak prog 513 [.d (I y),.d (I m)] σ (.d (I (sD y m))):=by
 refine ak.bt func513 ?_;refine dH [0,1] ?_ ?_<;>intro d0
 ·exact sx (Ns d0)
 ·simp[go_sem];refine cE.mk (uO _ y aa) (gc [1] ?_ ?_)<;>intro d1
  ·obtain⟨rfl,d1⟩:=d1;simp[go_sem];rw[lC aa,Np d1];exact af sc
  ·refine wC ?_;have hL:=Nr (y:=y) (m:=m) aa aa d1;simp[go_sem] at hL;simp[go_sem,hL];repeat refine⟨aa,?_⟩
   rw[lC aa];exact af sc
theorem sg(y m k):ak prog 486 [.d (I y),.d (I m),.d (I k)] σ (.cj [.d (I (Pg y m k).1),.d (I (Pg y m k).2)]):=by
 refine ak.bd true func486 fun hwf=> ?_;simp[go_sem];refine cE.mk (iM _ _ _) ?_;refine gc [0,1,2] ?_ ?_<;>intro d0
 ·refine wA ?_;have hz:Pg y m k=(0,2):=by grind [Pg]
  rw[hz];simp[go_sem]
 ·obtain⟨hy,hm1,hm2,hl⟩:=Sd d0.1 d0.2;have hb:=vO hy.1 aa;have hlm:=tv y m;refine wI ?_;refine az.mk (me _ y aa aa) ?_;refine wC ?_;refine mA (α:=Nat) true [0,1,8,9] (fun q=>[(8,.d (I (jw y+k-1+rF y (q+1)))),(9,.d (I ((q+1:Nat):Int)))]) (fun q=>_) (fun q=>(q:Int)+1<=m) (fun q=>12-q) 0 Q7 (rfl) aa ?_;rintro q hq;have hcb:=Fx y (m:=q+1) aa aa;refine gc [0,1,8,9] ?_ ?_<;>intro d1
  ·have hlq:sD y (q+1)=iA y (q+1):=lC aa;have hcs:=pM (y:=y) (m:=(q:Int)+1) aa aa;have hlb:=tv y (q+1);have hlp:=xQ y (q+1);refine wI ?_;refine az.mk (iM _ _ _) ?_;refine wC ?_;refine bF (q+1) aa (h:=aR)
  ·obtain rfl:m=q+1:=by omega
   have ho:MK y (q+1) k=jw y+k-1+rF y (q+1):=by grind [MK]
   refine wR ?_;refine gc [8] ?_ ?_<;>intro d2
   ·simp[go_sem];rw[tq d0,ho,if_pos aa];exact af sc
   ·simp[go_sem];rw[tq d0,ho,if_neg aa];exact af sc
theorem uQ(d):ak prog 484 [.d (I d)] σ (.cj [.d (I (iJ d).1),.d (I (iJ d).2.1),.d (I (iJ d).2.2.1),.d (I (iJ d).2.2.2)]):=by
 refine ak.bd true func484 fun hwf=> ?_;simp[go_sem];refine az.mk (uP _ _) ?_;refine gc [0] ?_ ?_<;>intro d0
 ·refine wA ?_;have hz:iJ d=(0,0,0,2):=by grind [iJ]
  rw[hz];simp[go_sem]
 ·have hd:cv d:=d0;have hgu:=Uq hd;have hgt:=pb hd hgu.2;simp(disch:=first|omega|simp) [go_sem,wo,aS];refine mA (α:=Int) true [0,6] (fun y=>[(6,.d (I y))]) (fun y=>_) (fun y=>1600<=y/\jw y<=d) (fun y=>(4471-y).toNat) (1600+d/366) au (rfl) (hgu) ?_;rintro y ⟨hy1,hy2⟩;have hy3:=pb hd hy2;refine wC ?_;refine az.mk (me _ (y+1) aa aa) ?_;refine wI ?_;refine dH [0,6] ?_ ?_<;>intro d1
  ·have hy4:=pb hd d1;refine wC ?_;refine bF (y+1) ⟨aa,d1⟩ (h:=aR)
  ·obtain rfl:aV d=y:=Hi hd.1 hd.2 hy2 aa;have hbb:=vO hy1 aa;have hdi:=hd;unfold cv at hdi;refine wR ?_;refine wI ?_;refine az.mk (me _ (aV d) aa aa) ?_;refine wC ?_;refine mA (α:=Int) true [0,6,7] (fun m=>[(0,.d (I (d-jw (aV d)-rF (aV d) m))),(7,.d (I m))]) (fun m=>_) (fun m=>1<=m/\m<=12/\rF (aV d) m<=d-jw (aV d)) (fun m=>(12-m).toNat) 1 Q7 (rfl) (⟨aa,aa,by grind [yb]⟩) ?_;rintro m ⟨hm1,hm2,hm3⟩;have hlf:sD (aV d) m=iA (aV d) m:=lC aa;have hcs:=pM (y:=aV d) hm1 hm2;have hlb:=tv (aV d) m;have hlp:=xQ (aV d) m;have hcb:=Fx (aV d) hm1 aa;simp[go_sem];refine az.mk (iM _ _ _) ?_;refine gc [0,6,7] ?_ ?_<;>intro d2
   ·have hm4:m≠12:=by
     grind [tH]
    refine wI ?_;refine az.mk (iM _ _ _) ?_;refine wC ?_;refine bF (m+1) ⟨aa,aa,aa⟩ (h:=aR)
   ·obtain rfl:iz d=m:=by
     unfold iz;have:=(je hd.1 hd.2).2;rw[tH] at this;have hs:=vt (y:=aV d) (r:=d-jw (aV d)) aa aa;exact xL hs.2.2.1 hs.2.2.2 hm3 aa
    refine wT ?_;refine af ?_;have hz:iJ d=(aV d,iz d,nQ d,0):=by grind [iJ]
    rw[hz];simp[go_sem,nQ]
theorem jM(d n):ak prog 459 [.d (I d),.d (I n)] σ (.cj [.d (I (cN d n).1),.d (I (cN d n).2)]):=by
 refine ak.bt func459 ?_;refine az.mk (uP _ _) (gc [0,1] ?_ ?_)<;>intro d0
 ·have hz:cN d n=(0,2):=by
   grind [cN]
  exact sx hz
 ·have hd:cv d:=d0.1.1;have hr:=eT hd.1 hd.2;have hz:cN d n=(l6 d n,0):=by grind [cN]
  have hdf:=pK hd;refine wI ?_;refine az.mk (uQ _ _) ?_;simp(disch:=first|omega|simp) [go_sem,hdf,aS];refine cE.mk (uO _ (aV d+n) aa) ?_;refine wI ?_;refine dH [6,7,8] ?_ ?_<;>intro d1
  ·have hy:=Hh hd (n:=n) aa aa (k:=28) ai;simp[go_sem];refine az.mk (sg _ _ _ _) ?_;refine gc [10] ?_ ?_<;>intro d2
   ·rw[if_neg d2] at hy;simp[go_sem];rw[hz,hy];exact af sc
   ·rw[if_pos d2] at hy;simp[go_sem];rw[hz,hy];exact af sc
  ·have hy:=Hh hd (n:=n) aa aa (k:=nQ d) (by all_goals grind);simp[go_sem];refine az.mk (sg _ _ _ _) ?_;refine gc [10] ?_ ?_<;>intro d3
   ·rw[if_neg d3] at hy;simp[go_sem];rw[hz,hy];exact af sc
   ·rw[if_pos d3] at hy;simp[go_sem];rw[hz,hy];exact af sc
theorem zi(d):ak prog 460 [.d (I d)] σ (.cj [.d (I (dI d).1),.d (I (dI d).2)]):=by
 refine ak.bt func460 ?_;refine az.mk (uQ _ _) (sm ?_);refine km [4,7] ?_ ?_<;>intro c0 d0
 ·have hn: ¬cv d:=fun h=>d0 (sQ.2 h);have hz:dI d=(0,2):=by grind [dI]
  refine wA ?_;rw[hz];simp[go_sem,Fw hn]
 ·have hd:cv d:=sQ.1 d0;have hy:=K8 hd;have hz:dI d=(lH d,0):=by grind [dI]
  simp only[pK hd] at c0 d0⊢;simp[go_sem];refine az.mk (sg _ _ _ _) (gc [8] ?_ ?_)<;>intro d1
  ·rw[if_neg d1] at hy;simp[go_sem];rw[hz,hy];exact af sc
  ·rw[if_pos d1] at hy;simp[go_sem];rw[hz,hy];exact af sc
theorem GJ(m):ak prog 235 [.agg (m.enc.map .d)] σ (.d (B (Ou m))):=by
 refine ak.bt func235 ?_;refine af ?_;simp[go_sem,Ou]<;>omega
theorem dK(m):ak prog 160 [.agg (m.enc.map .d)] σ (.d (I (cy m))):=by
 refine ak.bt func160 ?_;refine az.mk (GJ _ _) (sm ?_);refine ue ?_ ?_<;>intro d0
 ·refine wA ?_;simp[go_sem,cy,d0]<;>omega
 ·refine wA ?_;simp[go_sem,cy,d0]<;>omega
theorem fj(s):ak prog 230 [.agg (s.enc.map .d)] σ (.d (B (jA s))):=by
 refine ak.bt func230 ?_;refine af ?_;simp[go_sem,jA]<;>omega
theorem uN(r):ak prog 157 [.agg (r.enc.map .d)] σ (.d (B (formed r))):=by
 refine ak.bt func157 ?_;refine cE.mk (fj _ r.In) (sm ?_);refine af ?_;simp[go_sem,formed]<;>omega
theorem GH(a b):ak prog 158 [.agg (a.enc.map .d),.agg (b.enc.map .d)] σ (.d (B (ab6 a b))):=by
 refine ak.bt func158 ?_;refine af ?_;simp[go_sem,ab6]<;>omega
theorem jL(c n g)(hn:n<1000000000):ak prog 79 [.d (SL c 6 Rule.enc n g)] σ (.d (I (check n g))):=by
 refine ak.bt func79 ?_;refine dH [0] ?_ ?_<;>intro d0
 ·refine wA ?_;simp[go_sem,check]<;>omega
 ·simp[go_sem];refine dm (α:=Nat) true [0,10,11,12] (fun i=>[(12,.d (I i))]) (fun i=>_) (fun i=>i<=n/\vN g 0 n=vN g i (n-i)) (fun i=>n-i) 0 ?_;rintro i ⟨hi,hx⟩;refine gc [0,10,11,12] ?_ ?_<;>intro d1
  ·obtain⟨k,hk⟩: ∃k,n-i=k+1:=⟨n-i-1,aa⟩;have hk':n-(i+1)=k:=aa;rw[hk,vN] at hx;refine wB ?_;refine az.mk (uN _ (g i)) ?_;refine gc [0,3,4,10,11,12] ?_ ?_<;>intro d2
   ·refine wA ?_;simp[go_sem,check,hx,d2]<;>omega
   ·simp[go_sem];refine T.dr 13 fun K hK=> ?_;simp[go_sem,aT (i:=i) aa];refine wZ hK ?_;refine km [0,3,4,10,11,12] ?_ ?_<;>intro c3 d3
    ·refine wA ?_;simp[go_sem,check,hx,d2,d3]<;>omega
    ·simp[go_sem,hi];refine dm (α:=Nat) true [0,4,10,11,12,35,36,37] (fun q=>[(37,.d (I q))]) (fun q=>_) (fun q=>q<=i/\(lst i g).any (clash (g i))=((lst i g).drop q).any (clash (g i))) (fun q=>i-q) 0 ?_;rintro q ⟨hq,hy⟩;refine gc [0,4,10,11,12,35,36,37] ?_ ?_<;>intro d4
     ·rw[bU d4,List.any_cons] at hy;refine wB ?_;refine cE.mk (GH _ (g q).In (g i).In) ?_;simp[go_sem];refine km [0,4,10,11,12,35,36,37] ?_ ?_<;>intro c5 d5
      ·have hany:(lst i g).any (clash (g i))=true:=by rw[hy];simp only[clash,Bool.and_assoc];rw[show((g q).Class==(g i).Class&&(decide ((g q).In.From<(g i).In.Until)&&decide ((g i).In.From<(g q).In.Until)))=true from c5];rfl
       simp[go_sem,hany];refine af ?_;simp[go_sem,check,hx,hany,d2,c3,d5]<;>omega
      ·refine wC ?_;refine bF (q+1) ⟨aa,by rw[hy,show clash (g i) (g q)=false by unfold clash;rw[Bool.and_assoc];exact c5];rfl⟩ (h:=aR)
     ·have hany:(lst i g).any (clash (g i))=false:=by grind [bV]
      refine wT ?_;refine bF (i+1) ⟨aa,ai⟩ (h:=aR)
  ·obtain rfl:i=n:=by omega
   rw[Nat.sub_self,vN] at hx;refine wO ?_;simp[go_sem,check,hx]<;>omega
theorem zh(c n g k d)(hn:n<1000000000):ak prog 429 [.d (SL c 6 Rule.enc n g),.d (I k),.d (I d)] σ (.cj [.agg ((bT n g k d).1.enc.map .d),.d (B (bT n g k d).2)]):=by
 refine ak.bt func429 ?_;refine az.mk (jL _ c n g hn) (gc [0,1,2,6] ?_ ?_)<;>intro d0
 ·have hz:bT n g k d=(Rule.zero,false):=by grind [bT]
  refine wA ?_;rw[hz];simp[go_sem,Rule.zero]
 ·simp[go_sem];refine dm (α:=Nat) true [1,2,6,14,15,16] (fun i=>[(16,.d (I i))]) (fun i=>_) (fun i=>i<=n/\nH n g k d=idxFrom (inB k d) ((lst n g).drop i) i) (fun i=>n-i) 0 ?_ (hx:=⟨aa,rfl⟩);rintro i ⟨hi,hx⟩;refine gc [1,2,6,14,15,16] ?_ ?_<;>intro d1
  ·rw[bU d1,idxFrom] at hx;refine wB ?_;refine km [1,2,6,9,14,15,16] ?_ ?_<;>intro c2 d2
   ·rw[if_pos (show inB k d (g i)=true from c2)] at hx;have hz:bT n g k d=(g i,true):=by grind [bT]
    refine wA ?_;rw[hz];simp[go_sem,d2]
   ·refine wC ?_;refine bF (i+1) ⟨aa,by grind [inB]⟩ (h:=aR)
  ·rw[bV d1,idxFrom] at hx;have hz:bT n g k d=(Rule.zero,false):=by grind [bT]
   refine wN ?_;rw[hz];simp[go_sem,Rule.zero]
theorem Ej(r m):ak prog 430 [.agg (r.enc.map .d),.agg (m.enc.map .d)] σ (.cj [.d (I (oL r m).1),.d (I (oL r m).2)]):=by
 refine ak.bt func430 ?_;refine az.mk (uN _ r) (gc [2,3] ?_ ?_)<;>intro d0
 ·have hz:oL r m=(0,2):=by grind [oL]
  exact sx hz
 ·simp[go_sem];refine az.mk (dK _ m) (gc [2,3] ?_ ?_)<;>intro d1
  ·have hz:oL r m=(0,1):=by grind [oL]
   exact sx hz
  ·have hz:oL r m=(kC r m+1,0):=by grind [oL]
   simp[go_sem];refine az.mk (jM _ m.Last r.dE) (gc [6] ?_ ?_)<;>intro d2
   ·have hl:kC r m=(dI (cN m.Last r.dE).1).1:=by grind [kC]
    have hb:=xR r m;rw[hl] at hb hz;unfold cv at hb;refine wI ?_;refine az.mk (zi _ (cN m.Last r.dE).1) ?_;refine wC ?_;exact sy hz
   ·have hl:kC r m=(cN m.Last r.dE).1:=by grind [kC]
    have hb:=xR r m;rw[hl] at hb hz;unfold cv at hb;refine wC ?_;exact sy hz
theorem B7(c n g k m d)(hn:n<1000000000):ak prog 394 [.d (SL c 6 Rule.enc n g),.d (I k),.agg (m.enc.map .d),.d (I d)] σ (.cj [.agg ((du n g k m d).1.enc.map .d),.d (B (du n g k m d).2)]):=by
 refine ak.bt func394 ?_;refine az.mk (zh _ c n g k d hn) (gc [3,6,8,10] ?_ ?_)<;>intro d0
 ·have hz:du n g k m d=(Ground.zero,false):=by grind [du]
  refine wA ?_;rw[hz];simp[go_sem,Ground.zero]
 ·have hf:=Fc d0;have hu:oL (bT n g k d).1 m=if cy m≠0 then(0,1) else(kC (bT n g k d).1 m+1,0):=by grind [oL]
  simp[go_sem];refine az.mk (Ej _ (bT n g k d).1 m) (gc [8,10,12] ?_ ?_)<;>intro d1
  ·have hz:du n g k m d=(Ground.zero,false):=by
    grind [du]
   refine wA ?_;rw[hz];simp[go_sem,Ground.zero]
  ·have h0:cy m=0:=by
    grind
   rw[if_neg ai] at hu;have hz:du n g k m d=(⟨1,(bT n g k d).1.ID,0,kC (bT n g k d).1 m+1⟩,true):=by
    grind [du]
   refine wA ?_;rw[hz];simp[go_sem,hu]
theorem Jy(c n g id d)(hn:n<1000000000):ak prog 80 [.d (SL c 6 Rule.enc n g),.d (I id),.d (I d)] σ (.cj [.d (SL none 6 Rule.enc (kj n g id d).1.1 (kj n g id d).1.2),.d (I (kj n g id d).2)]):=by
 refine ak.bs true func80 fun hwf=> ?_;refine az.mk (jL _ c n g hn) (gc [0,1,2] ?_ ?_)<;>intro d0
 ·have hz:kj n g id d=((0,g),1):=zZ;exact sx hz
 ·refine wB ?_;refine dm (α:=Nat) true [1,2,8,17,18,19] (fun i=>[(19,.d (I i))]) (fun i=>_) (fun i=>i<=n/\idxFrom (fun r=>r.ID==id) (lst n g) 0=idxFrom (fun r=>r.ID==id) ((lst n g).drop i) i) (fun i=>n-i) 0 ?_ (hx:=⟨aa,rfl⟩);rintro i ⟨hi,hx⟩;refine gc [1,2,8,17,18,19] ?_ ?_<;>intro d1
  ·rw[bU d1,idxFrom] at hx;refine wB ?_;refine dH [1,2,8,9,10,17,18,19] ?_ ?_<;>intro d2
   ·refine wC ?_;refine bF (i+1) ⟨aa,ai⟩ (h:=aR)
   ·rw[if_pos ai] at hx;refine gc [2,8,9] ?_ ?_<;>intro d3
    ·have hz:kj n g id d=((0,g),2):=zZ;exact sx hz
    ·have hz:kj n g id d=((n,fun q=>if q=i then { g q with In:=⟨(g q).In.From,d⟩ } else g q),0):=zZ;refine wB ?_;refine bg (σ.length) bj aN eS ?_;refine af ?_;rw[hz];simp[go_sem];grind
  ·rw[bV d1,idxFrom] at hx;have hz:kj n g id d=((0,g),7):=zZ;refine wF ?_;exact sy hz
end Go.Proofs.YthpplckmbbachaaGreatDoor
namespace Go.Proofs.YthpplckmbbachaaGreatDoor
open Go.aI
def gR{α:Type}(p:Nat->Bool)(f:Nat->α):Nat->List α
 |0=>[]
 |i+1=>if p i=true then gR p f i++[f i] else gR p f i
theorem HC{α}(p)(f:Nat->α): ∀i,(gR p f i).length<=i
 |0=>Nat.le_refl _
 |i+1=>by
  have:=HC p f i;grind [gR]
theorem KO{g n}(h:fZ g n=true): ∀{i j},i<j->j<n->g i<g j:=by
 intro i j;induction j<;>grind [pW]
theorem AO{x}(hx:Rng x)(ha:fZ x.u x.nu=true):(lst x.nu (pY x)).Nodup:=by
 unfold lst;refine List.pairwise_map.2 (List.Pairwise.imp_of_mem ?_ (List.nodup_range (n:=x.nu)));intro a b h1 h2 hne he;rw[List.mem_range] at h1 h2;have ha1:=hx.u1 a h1;have hb1:=hx.u1 b h2;unfold pY at he;rcases Nat.lt_or_gt_of_ne hne with h|h;all_goals grind [KO]
theorem mO{α p f}{x:α} : ∀{n},x∈gR p f n↔∃q,q<n/\p q=true/\f q=x
 |0=>by simp[gR]
 |n+1=>by
  rw[gR];constructor
  ·intro h;split at h
   ·rename_i hp;rcases List.mem_append.1 h with h|h
    ·obtain⟨q,h1,h2⟩:=mO.1 h;grind
    grind
   ·obtain⟨q,h1,h2⟩:=mO.1 h;grind
  ·rintro⟨q,h1,h2,h3⟩;rcases Nat.lt_or_eq_of_le (Nat.le_of_lt_succ h1) with h4|h4
   ·split
    ·exact List.mem_append.2 (.inl (mO.2 ⟨q,h4,h2,h3⟩))
    ·exact mO.2 ⟨q,h4,h2,h3⟩
   grind
theorem HD{p:Nat->Bool}{f:Nat->Int}{n:Nat}(h:fZ f n=true): ∀{i:Nat},i<=n->(gR p f i).Pairwise (·< ·)
 |0,_=> .nil
 |i+1,hi=>by
  have ih:=HD (p:=p) h (i:=i) aa;grind [gR,mO,KO]
noncomputable def fY(ID rd:Nat)(P:List Int)(u:Nat->Nat):Nat->Nat
 |0=>0
 |i+1=>open Classical in if(u i:Int)∈P then fY ID rd P u i
  else if fY ID rd P u i=0\/JP (keyS ID rd (u i)) (keyS ID rd (fY ID rd P u i))=true then u i else fY ID rd P u i
theorem OR{ID rd P u i}(h:(u i:Int)∈P):fY ID rd P u (i+1)=fY ID rd P u i:=by
 grind [fY]
theorem Ij{ID rd P u i}(h: ¬(u i:Int)∈P)(hb:fY ID rd P u i=0\/JP (keyS ID rd (u i)) (keyS ID rd (fY ID rd P u i))=true):fY ID rd P u (i+1)=u i:=by
 grind [fY]
theorem Ii{ID rd P u i}(h: ¬(u i:Int)∈P)(hb: ¬(fY ID rd P u i=0\/JP (keyS ID rd (u i)) (keyS ID rd (fY ID rd P u i))=true)):fY ID rd P u (i+1)=fY ID rd P u i:=by
 grind [fY]
theorem FZ{ID rd P u} : ∀{n},(∀i,i<n->1<=u i)->(∀i j,i<j->j<n->u i<u j)->
  (fY ID rd P u n=0/\∀i,i<n->(u i:Int)∈P)\/(∃j,j<n/\fY ID rd P u n=u j/\¬(u j:Int)∈P/\∀i,i<n->¬(u i:Int)∈P->¬ug ID rd (u i) (u j))
 |0,_,_=> .inl ⟨rfl,fun i hi=>aa⟩
 |n+1,h1,h2=>by
  have ih:=FZ (ID:=ID) (rd:=rd) (P:=P) (u:=u) (n:=n) (fun i hi=>h1 i aa) (fun i j hij hj=>h2 i j hij aa);by_cases hp:(u n:Int)∈P
  ·grind [OR]
  ·right;by_cases hb:fY ID rd P u n=0\/JP (keyS ID rd (u n)) (keyS ID rd (fY ID rd P u n))=true
   ·rw[Ij hp hb];refine⟨n,aa,rfl,hp,fun i hi hip=> ?_⟩;by_cases hin:i=n
    ·grind [s4]
    ·rcases ih with⟨e,h⟩|⟨j,hj,e,hjp,h⟩
     ·grind
     ·have hj1:=h1 j aa;rw[e] at hb;have hlt:JP (keyS ID rd (u n)) (keyS ID rd (u j))=true:=by
       grind
      intro hbad;exact h i aa hip (qM hbad (.inl hlt))
   ·rw[Ii hp hb];rcases ih with⟨e,h⟩|⟨j,hj,e,hjp,h⟩
    ·grind
    ·refine⟨j,aa,e,hjp,fun i hi hip=> ?_⟩;by_cases hin:i=n
     ·rw[hin];rw[e] at hb;intro hbad;rcases hbad with hl|⟨_,hl⟩;all_goals grind
     grind
theorem QO{ID rd n k u}(h1: ∀i,i<n->1<=u i)(h2: ∀i j,i<j->j<n->u i<u j)(hnd:(lst n u).Nodup){L}(hL:G8 ID rd (lst n u) L)(hk):
  fY ID rd ((L.take k).map fun n:Nat=>(n:Int)) u n=L[k]:=by
 have hmem: ∀x:Nat,((x:Int)∈(L.take k).map fun n:Nat=>(n:Int))↔x∈L.take k:=by
  grind
 have hLn:L.Nodup:=hL.1.nodup_iff.2 hnd;have hkn:L[k]∉L.take k:=by
  grind [List.mem_iff_getElem,List.getElem_inj]
 obtain⟨q,hq,heq⟩: ∃q,q<n/\u q=L[k]:=by
  have:=hL.1.mem_iff.1 (List.getElem_mem hk);obtain⟨q,h,e⟩:=List.mem_map.1 this;grind
 rcases FZ (ID:=ID) (rd:=rd) (P:=(L.take k).map fun n:Nat=>(n:Int)) h1 h2 with⟨_,h⟩|⟨j,hj,e,hjp,h⟩
 ·grind
 ·rw[e];have hjL:u j∈L:=hL.1.mem_iff.2 (List.mem_map.2 ⟨j,List.mem_range.2 hj,rfl⟩);obtain⟨r,hr,her⟩:=List.mem_iff_getElem.1 hjL;have hrk: ¬r<k:=by
   grind [List.mem_iff_getElem]
  by_cases hre:r=k
  ·grind
  ·have hb1: ¬ug ID rd (u j) L[k]:=by
    have:=(List.pairwise_iff_getElem.1 hL.2) k r hk hr aa;grind
   grind [qN]
theorem UK{x}(hx:Rng x)(ha:fZ x.u x.nu=true)(rd):
  gR (fun i=>decide (x.u i∈((MH x.ID.toNat rd.toNat (lst x.nu (pY x))).take x.iB.toNat).map fun n:Nat=>(n:Int))) x.u x.nu=de x rd:=by
 classical
 unfold de;have hnd:=AO hx ha;have hO:=zu x.ID.toNat rd.toNat (lst x.nu (pY x));have hasc:=HD (p:=fun i=>decide (x.u i∈((MH x.ID.toNat rd.toNat (lst x.nu (pY x))).take x.iB.toNat).map fun n:Nat=>(n:Int))) ha (Nat.le_refl _);refine rT ?_ (hasc.imp fun h=>aa);refine(List.perm_ext_iff_of_nodup (hasc.imp fun h=>aa) ?_).2 fun a=> ?_
 ·refine List.pairwise_map.2 (List.Pairwise.imp (R:=(·≠·)) (fun h e=>h (Int.ofNat_inj.1 e)) ?_);exact List.Pairwise.sublist (List.take_sublist _ _) (hO.1.nodup_iff.2 hnd)
 ·rw[mO];constructor
  ·grind
  ·intro h;obtain⟨y,hy,rfl⟩:=List.mem_map.1 h;have h3:=hO.1.mem_iff.1 (List.mem_of_mem_take hy);obtain⟨q,hq,e⟩:=List.mem_map.1 h3;rw[List.mem_range] at hq;have h4:=hx.u1 q hq;grind [pY]
open Go.bI Go.Proofs.Tryz
variable (σ : List aZ)
theorem U9{P c Q N t t' σ mv}(k sz row){sz0 row0}(hk:get t k=some (.d (.sl (some 0) sz0 0 row0)))(ht:put t k (.ms σ.length sz 0 0)=t')
  (h:cV P c Q ⟨N,t',σ++[.arr sz 0 row],mv⟩):cV P c Q ⟨N,t,σ,mv⟩:=by
 refine fg (s':=⟨N,t',σ++[.arr sz 0 row],mv⟩) ?_ h;intro j0 j a w hr;subst ht;have hval: ∃p,a.tmps.getD k Go.undef= .slice p 0 0:=by
  have hx:=(hr.tmp k _ hk).2;generalize a.tmps.getD k Go.undef=v at hx
  cases hx with|d hx=>
  cases hx with
  |sl a c' val hcap _ _ _ _ _ _ _=>all_goals simp_all
  |zero p c' hcap _=>all_goals simp_all
 obtain⟨p,hp⟩:=hval;obtain⟨h1,h2,h3⟩:=hr.cm.yM (sz:=sz) (rows:=row) (p:=p);refine⟨j++[none],⟨hr.defers.mono h3,hr.fC,hr.size,fun q av hq=> ?_,h1,by have:=hr.len0;grind,fun c hc hn=> ?_⟩,h3⟩
 ·simp only at hq;rw[get_put] at hq;split at hq
  ·rename_i e;subst e;simp only[Option.some.injEq] at hq;subst hq;exact⟨(hr.tmp k _ hk).1,ai⟩
  ·exact⟨(hr.tmp q av hq).1,(hr.tmp q av hq).2.iy h3 hr.cm.lt (cg _ _)⟩
 ·have hcj:c<j.length:=by have:=hr.len0;omega
  rw[List.getElem?_append_left hcj];exact hr.ag c hc hn
theorem YU{x}(h: ∀q,q<x.nb->qt (de x x.Round).length (nth (de x x.Round)) (x.b q)=true):zR x=false:=by
 grind [zR,rQ]
theorem abm{x q}(hq:q<x.nb)(h:qt (de x x.Round).length (nth (de x x.Round)) (x.b q)=false):zR x=true:=by
 grind [zR,rQ]
def bkS(ID rd m:Nat):ByteArray:=if m=0 then⟨#[]⟩ else keyS ID rd m
theorem KJ{ID rd m}(h:m≠0):bkS ID rd m=keyS ID rd m:=if_neg h
theorem YT(ID rd):bkS ID rd 0=⟨#[]⟩:=rfl
theorem aba{x} :eK x=0↔r4 x=true/\fZ x.u x.nu=true/\fZ x.b x.nb=true/\zR x=false/\eG x=true:=by
 grind [eK]
theorem abb{x}(h:eK x=0):fZ x.u x.nu=true:=(aba.1 h).2.1
theorem Uk{x m g}(h:eK x=0)(hs:x.State=2)(ha:fZ g m=true)(hm:IX (de x x.Round).length (nth (de x x.Round)) m g=true):dD x m g=(oz x m g,0):=by
 grind [dD]
theorem MX{L v} :qt L.length (nth L) v=decide (v∈L):=by
 rw[Bool.eq_iff_iff,sv,decide_eq_true_eq,List.mem_iff_getElem];constructor
 ·grind [EE]
 ·rintro⟨i,h1,h2⟩;exact⟨i,h1,by grind [EE]⟩
theorem T8{p i q}(hq:q<p.size+1+i+1):aO (p.size+1+i) (p8 (pw p)) (rowsOf 1 [.v (.int .u8 0)]) q=p8 (pw p) q:=by
 unfold aO;split
 ·rfl
 ·rw[show q=p.size+1+i by omega];grind [rowsOf,p8,pw]
theorem Xc{p q}(hq:q<p.size+1):aO p.size (strRow p) (rowsOf 1 [.v (.int .u8 6)]) q=p8 (pw p) q:=by
 unfold aO;split
 ·grind [p8,pw,strRow,nX]
 ·rw[show q=p.size by omega];simp[rowsOf,p8,pw]
def sr(L:List Nat)(j:Nat):List Int:=(L.take j).map fun n:Nat=>(n:Int)
theorem Z5{L j}(h){q}(hq:q<j+1):aO j (fun q=>encI (nth (sr L j) q)) (rowsOf 1 [I ((L[j]:Nat):Int)]) q=encI (nth (sr L (j+1)) q):=by
 grind [aO,sr,encI,nth,rowsOf]
theorem RN{L j}(h:j<=L.length):(sr L j).length=j:=by grind [sr]
theorem I6{x}(h: ¬Rng x):r4 x=false:=by
 grind [pj]
theorem uB(b)(hn:b.nu<1000000000)(hm:b.nb<1000000000):ak prog 233 [.agg (b.enc.map .d)] σ (.d (B (eG b))):=by
 refine ak.bt func233 ?_;refine dH [1,4] ?_ ?_<;>intro d0
 ·refine wA ?_;have e:eG b=(b.Round==0&&(b.nb:Int)==0):=by
   grind [eG]
  rw[e];simp[go_sem]
 ·refine gc [1,4] ?_ ?_<;>intro d1
  ·refine wA ?_;have e:eG b=(decide (0<b.Round)&&(b.nb:Int)==0):=by
    grind [eG]
   rw[e];simp[go_sem]
  ·refine gc [1,4] ?_ ?_<;>intro d2
   ·refine wA ?_;have e:eG b=(decide (0<b.Round)&&decide ((b.nb:Int)<=b.Accept)):=by
     grind [eG]
    rw[e];simp[go_sem]
   ·refine gc [1] ?_ ?_<;>intro d3
    ·refine wA ?_;have e:eG b=(decide (0<b.Round)&&decide (b.Accept<(b.nb:Int))):=by
      grind [eG]
     rw[e];simp[go_sem]
    ·refine wA ?_;have e:eG b=false:=by
      grind [eG]
     rw[e];simp[go_sem]
theorem l9(c n g)(hn:n<1000000000):ak prog 174 [.d (SL c 1 encI n g)] σ (.d (B (fZ g n))):=by
 refine ak.bt func174 ?_;refine dm (α:=Nat) true [0,5,6] (fun i=>[(6,.d (I i))]) (fun i=>_) (fun i=>i<=n/\∀q,0<q->q<i->g (q-1)<g q) (fun i=>n-i) 0 ?_;rintro i ⟨hi,hx⟩;refine gc [0,5,6] ?_ ?_<;>intro d0
 ·simp[go_sem];refine T.dr 14 fun K hK=> ?_;simp[go_sem,aT (i:=i) aa];refine wK hK ?_;refine gc [0,5,6] ?_ ?_<;>intro d1
  ·simp[go_sem];rw[zV d0 d1.1 d1.2];exact af sc
  ·refine wC ?_;refine bF (i+1) ⟨aa,pV hx d1⟩ (h:=aR)
 ·obtain rfl:i=n:=by omega
  refine wR ?_;exact sx (tJ hx)
theorem xY(c n g k)(hn:n<1000000000):ak prog 176 [.d (SL c 1 encI n g),.d (I k)] σ (.d (B (qt n g k))):=by
 refine ak.bt func176 ?_;refine dm (α:=Nat) true [1,7,8,9] (fun i=>[(9,.d (I i))]) (fun i=>_) (fun i=>i<=n/\∀q,q<i->g q≠k) (fun i=>n-i) 0 ?_;rintro i ⟨hi,hx⟩;refine gc [1,7,8,9] ?_ ?_<;>intro d0
 ·refine wB ?_;refine dH [1,7,8,9] ?_ ?_<;>intro d1
  ·simp[go_sem];rw[(sv n g k).2 ⟨i,d0,d1⟩];exact af sc
  ·refine wC ?_;refine bF (i+1) ⟨aa,fun q hq=>ai⟩ (h:=aR)
 ·obtain rfl:i=n:=by omega
  refine wN ?_;have hz:qt i g k=false:=by
   grind [sv]
  rw[hz];simp[go_sem]
theorem re(x)(k:Nat)(hk:k<64):ak prog 437 [.d (U x),.d (I k)] σ (.d (U (yU x k))):=by
 have hs:IntKind.i64.wrap (64-(k:Int))=64-(k:Int):=aS aa aa;refine ak.bd true func437 fun hwf=> ?_;simp[go_sem];refine T.dr 8 fun K hK=> ?_;simp[go_sem,hs];refine wZ hK ?_;refine af ?_;simp[go_sem,yU]<;>omega
theorem vh:ak prog 400 [] σ (.agg (bh .i64 25 qh)):=by
 refine ak.bt func400 ?_;refine af ?_;simp[go_sem];exact iq (k:= .i64) (n:=25) (f:=qh)
theorem vi:ak prog 399 [] σ (.agg (bh .u64 24 Zq)):=by
 refine ak.bt func399 ?_;refine af ?_;simp[go_sem];exact iq (k:= .u64) (n:=24) (f:=Zq)
theorem Ek(a c):ak prog 401 [.agg (bh .u64 25 a),.d (U c),.agg (bh .i64 25 qh)] σ (.agg (bh .u64 25 (rY a c))):=by
 refine ak.bd true func401 fun hwf=> ?_;simp[go_sem];refine mA (α:=Nat) true [1,3,5,6,7,8] (fun i=>[(8,.d (I i))]) (fun i=>σ++[.var (bh .u64 25 a),.var (bh .i64 25 qh),.var (bh .u64 25 fun _=>0),.var (bh .u64 5 (aU a i))]) (fun i=>i<=25) (fun i=>25-i) 0 au (rfl) an ?_;rintro i hi;refine gc [1,3,5,6,7,8] ?_ ?_<;>intro d0
 ·have hi5:i<25:=aa;have hi4:i<=24:=aa;have ht:(i:Int).tmod 5=(i:Int)%5:=mu aa;have hsu:aU a (i+1)=upd (aU a i) (i%5) (l7 .u64 (aU a i (i%5)) (a i)):=rfl;simp[go_sem];refine T.dr 10 fun K hK=> ?_;simp[go_sem,Rn,HM,Sg,hi5,hi4,ht];refine wK hK ?_;refine wC ?_;refine bF (i+1) aa (h:=aR) (hσ:=aP) (hb:=ae au)
 ·obtain rfl:i=25:=by omega
  refine wL ?_;refine mA (α:=Nat) true [1,3,5,6,7,9] (fun i=>[(9,.d (I i))]) (fun i=>σ++[.var (bh .u64 25 (bG a (aU a 25) i)),.var (bh .i64 25 qh),.var (bh .u64 25 fun _=>0),.var (bh .u64 5 (aU a 25))]) (fun i=>i<=25) (fun i=>25-i) 0 au (rfl) an ?_;rintro i hi;refine gc [1,3,5,6,7,9] ?_ ?_<;>intro d1
  ·have hi5:i<25:=aa;have hi4:i<=24:=aa;have hw4:IntKind.i64.wrap ((i:Int)+4)=(i:Int)+4:=aS aa aa;have hw1:IntKind.i64.wrap ((i:Int)+1)=(i:Int)+1:=aS aa aa;have hth:bG a (aU a 25) (i+1)=upd (bG a (aU a 25) i) i (l7 .u64 (l7 .u64 (bG a (aU a 25) i i) (aU a 25 ((i+4)%5))) (yU (aU a 25 ((i+1)%5)) 1)):=rfl;simp[go_sem];refine T.dr 17 fun K hK=> ?_;simp[go_sem,abP,abQ,HM,Sg,hi5,hi4,hw4,hw1,ab7,RX];repeat refine⟨aa,?_⟩
   refine bK.mk (re _ (aU a 25 ((i+1)%5)) 1 aH) ?_;simp[go_sem,hi5,hi4];refine wK hK ?_;simp(disch:=first|omega|simp) [go_sem,hw1];refine bF (i+1) aa (h:=aR) (hσ:=aP) (hb:=ae au)
  ·obtain rfl:i=25:=by omega
   refine wL ?_;refine mA (α:=Nat) true [1,3,5,6,10,11] (fun x=>[(11,.d (I x))]) (fun x=>σ++[.var (bh .u64 25 (bG a (aU a 25) 25)),.var (bh .i64 25 qh),.var (bh .u64 25 fun _=>0),.var (bh .u64 5 (aU a 25)),.var (bh .u64 25 (eU (bG a (aU a 25) 25) x))]) (fun x=>x<=5) (fun x=>5-x) 0 au (rfl) an ?_;rintro x hx;refine gc [1,3,5,6,10,11] ?_ ?_<;>intro d2
   ·have hx5:x<5:=aa;simp[go_sem];refine mA (α:=Nat) true [1,3,5,6,10,11,12] (fun y=>[(12,.d (I y))]) (fun y=>σ++[.var (bh .u64 25 (bG a (aU a 25) 25)),.var (bh .i64 25 qh),.var (bh .u64 25 fun _=>0),.var (bh .u64 5 (aU a 25)),.var (bh .u64 25 (PS (bG a (aU a 25) 25) x (eU (bG a (aU a 25) 25) x) y))]) (fun y=>y<=5) (fun y=>5-y) 0 au (rfl) an ?_;rintro y hy;refine gc [1,3,5,6,10,11,12] ?_ ?_<;>intro d3
    ·have XV:y<5:=aa;have hbu:PS (bG a (aU a 25) 25) x (eU (bG a (aU a 25) 25) x) (y+1)=upd (PS (bG a (aU a 25) 25) x (eU (bG a (aU a 25) 25) x) y) (y+5*((2*x+3*y)%5)) (yU ((bG a (aU a 25) 25) (x+5*y)) (I5 (x+5*y))):=rfl;simp[go_sem];refine T.dr 22 fun K hK=> ?_;simp[go_sem,Ll,hx5,XV,acQ,age,agd,V0,aex,ae1,aew,agc,MZ,EW];repeat refine⟨aa,?_⟩
     refine bK.mk (re _ ((bG a (aU a 25) 25) (x+5*y)) (I5 (x+5*y)) (RG _)) ?_;simp[go_sem,aey,HM,XV,MZ,EW];refine wK hK ?_;refine wC ?_;refine bF (y+1) aa (h:=aR) (hσ:=aP) (hb:=ae au)
    ·obtain rfl:y=5:=by omega
     have hbo:eU (bG a (aU a 25) 25) (x+1)=PS (bG a (aU a 25) 25) x (eU (bG a (aU a 25) 25) x) 5:=rfl;refine wT ?_;refine bF (x+1) aa (h:=aR) (hσ:=aP) (hb:=ae au)
   ·obtain rfl:x=5:=by omega
    refine wL ?_;refine mA (α:=Nat) true [1,3,6,10,13] (fun x=>[(13,.d (I x))]) (fun x=>σ++[.var (bh .u64 25 (rZ (eU (bG a (aU a 25) 25) 5) (bG a (aU a 25) 25) x)),.var (bh .i64 25 qh),.var (bh .u64 25 fun _=>0),.var (bh .u64 5 (aU a 25)),.var (bh .u64 25 (eU (bG a (aU a 25) 25) 5))]) (fun x=>x<=5) (fun x=>5-x) 0 au (rfl) an ?_;rintro x hx;refine gc [1,3,6,10,13] ?_ ?_<;>intro d4
    ·have hx5:x<5:=aa;simp[go_sem];refine mA (α:=Nat) true [1,3,6,10,13,14] (fun y=>[(14,.d (I y))]) (fun y=>σ++[.var (bh .u64 25 (TS (eU (bG a (aU a 25) 25) 5) x (rZ (eU (bG a (aU a 25) 25) 5) (bG a (aU a 25) 25) x) y)),.var (bh .i64 25 qh),.var (bh .u64 25 fun _=>0),.var (bh .u64 5 (aU a 25)),.var (bh .u64 25 (eU (bG a (aU a 25) 25) 5))]) (fun y=>y<=5) (fun y=>5-y) 0 au (rfl) an ?_;rintro y hy;refine gc [1,3,6,10,13,14] ?_ ?_<;>intro d5
     ·have XV:y<5:=aa;have hou:TS (eU (bG a (aU a 25) 25) 5) x (rZ (eU (bG a (aU a 25) 25) 5) (bG a (aU a 25) 25) x) (y+1)=upd (TS (eU (bG a (aU a 25) 25) 5) x (rZ (eU (bG a (aU a 25) 25) 5) (bG a (aU a 25) 25) x) y) (x+5*y) (FI (eU (bG a (aU a 25) 25) 5) x y):=rfl;have hch:l7 .u64 ((eU (bG a (aU a 25) 25) 5) (x+5*y)) (QX .u64 (YH .u64 ((eU (bG a (aU a 25) 25) 5) ((x+1)%5+5*y))) ((eU (bG a (aU a 25) 25) 5) ((x+2)%5+5*y)))=FI (eU (bG a (aU a 25) 25) 5) x y:=rfl;simp[go_sem];refine T.dr 29 fun K hK=> ?_;simp[go_sem,Ll,abS,abR,HM,hx5,XV,acQ,V0,V1,abL,RX,ab8,abN,abM,MZ,EW,hch];refine wK hK ?_;refine wC ?_;refine bF (y+1) aa (h:=aR) (hσ:=aP) (hb:=ae au)
     ·obtain rfl:y=5:=by omega
      have hoo:rZ (eU (bG a (aU a 25) 25) 5) (bG a (aU a 25) 25) (x+1)=TS (eU (bG a (aU a 25) 25) 5) x (rZ (eU (bG a (aU a 25) 25) 5) (bG a (aU a 25) 25) x) 5:=rfl;refine wT ?_;refine bF (x+1) aa (h:=aR) (hσ:=aP) (hb:=ae au)
    ·obtain rfl:x=5:=by omega
     refine wL ?_;refine af (sm ?_);rw[←Y6 (fun q hq=>round_eq a c hq)];grind [iq,PM]
theorem zj(a):ak prog 339 [.agg (bh .u64 25 a)] σ (.agg (bh .u64 25 (nB a 24))):=by
 refine ak.bt func339 ?_;refine az.mk (vi _) (sm ?_);refine az.mk (vh _) (sm ?_);refine dm (α:=Nat) true [1,2,3,4,5] (fun i=>[(5,.d (I i))]) (fun i=>σ++[.var (bh .u64 25 (nB a i)),.var (bh .u64 25 fun _=>0),.var (bh .u64 24 Zq),.var (bh .i64 25 qh)]) (fun i=>i<=24) (fun i=>24-i) 0 ?_;rintro i hi;refine gc [1,2,3,4,5] ?_ ?_<;>intro d0
 ·have hi5:i<24:=aa;have hi4:i<=23:=aa;have hpu:nB a (i+1)=rY (nB a i) (Zq i):=rfl;simp[go_sem];refine T.dr 6 fun K hK=> ?_;simp[go_sem,hi5,hi4];repeat refine⟨aa,?_⟩
  refine bK.mk (Ek _ (nB a i) (Zq i)) ?_;refine wc hK ?_;refine wC ?_;refine bF (i+1) aa (h:=aR) (hσ:=by simp[go_sem,hpu]) (hb:=ae au)
 ·obtain rfl:i=24:=by omega
  refine wN ?_;simp[go_sem];grind [iq]
theorem Jz(p)(hp:p.size<=100):ak prog 246 [.d (Sb p)] σ (.d (Sb (YD p))):=by
 refine ak.be func246 fun hwf=> ?_;refine wP ?_;refine aj fun K hK=> ?_;simp[go_sem,hwf.zero];refine wG hK ?_;refine aq ?_;refine aB ?_;refine ba [3] eE ?_;refine mo [σ.length] an ?_;refine bB (α:=Nat×(Nat->List D)) (fun z=>[(3,.ms σ.length 1 0 (p.size+1+z.1))]) (fun z=>σ++[.arr 1 (p.size+1+z.1) z.2]) (fun z=>p.size+1+z.1<=136/\∀q,q<p.size+1+z.1->z.2 q=p8 (pw p) q) (fun z=>136-z.1) (0,aO p.size (strRow p) (rowsOf 1 [.v (.int .u8 6)])) au (rfl) (⟨ai,fun q hq=>Xc hq⟩) ?_;rintro⟨i,row⟩ ⟨hi,hrow⟩;replace hi:p.size+1+i<=136:=hi;refine ax σ.length (p8 (pw p)) aN hrow aN ?_
 refine aq ?_;refine aj fun K hK=>sm ?_;try simp(disch:=omega) only[mu]
 refine hK _ ?_;refine gF [3,16] ?_;refine fL ?_ ?_<;>intro c0 d0
 ·have hlt:p.size+1+i<136:=aa;refine aJ ?_;refine aB ?_;refine aE fun K hK=> ?_;simp[go_sem,c0,hwf.zero];refine wG hK ?_;refine⟨(i+1,aO (p.size+1+i) (p8 (pw p)) (rowsOf 1 [.v (.int .u8 0)])),bp (by simp_all [Nat.add_assoc]) ((ae au)) (by(simp[go_sem,(Nat.add_assoc (p.size+1) i 1)]<;>omega)),⟨ai,fun q hq=>T8 hq⟩,ai⟩
 ·have hk6:p.size+1+i=136:=aa;have ahb:p8 (pw p) 135=[.v (.int .u8 (pw p 135))]:=rfl;have hw5:IntKind.i64.wrap 135=135:=rfl;rw[hk6];refine bN ?_;refine aj fun K hK=> ?_;simp[go_sem,d0,ahb,hw5];refine hK _ ?_;refine ax σ.length (p8 (lL p)) bj (by
   grind [p8,lL]) aN ?_
  refine wE ?_;refine aq ?_;refine wE ?_;refine aB ?_;refine ba [3,4,5] eE ?_;refine bB (α:=Nat) (fun q=>[(5,.d (I ((136*q:Nat):Int)))]) (fun q=>σ++[.arr 1 136 (p8 (lL p)),.var (bh .u64 25 (if q=0 then fun _=>0 else stS p))]) (fun q=>q<=1) (fun q=>1-q) 0 au (rfl) an ?_;rintro q hq1;refine aq ?_;refine wE ?_;refine gF [3,4,5,36] ?_;refine ko ?_ ?_<;>intro d1
  ·have hq0:q=0:=aa;subst hq0;refine aJ ?_;refine aq ?_;refine aB ?_;refine aq ?_;refine wE ?_;refine aB ?_;refine ba [3,4,5,6] eE ?_;refine bB (α:=Nat) (fun r=>[(6,.d (I r))]) (fun r=>σ++[.arr 1 136 (p8 (lL p)),.var (bh .u64 25 (o5 (fun _=>0) (lL p) r))]) (fun r=>r<=136) (fun r=>136-r) 0 au (rfl) an ?_;rintro r hr;refine aq ?_;refine wE ?_;refine gF [3,4,5,6,40] ?_;refine ko ?_ ?_<;>intro d2
   ·have hr5:r<136:=aa;have hd:r/8<25:=aa;have hd4:r/8<=24:=aa;have h1:(r:Int).tdiv 8=(r:Int)/8:=wo aa;have h2:IntKind.i64.wrap ((r:Int)/8)=(r:Int)/8:=aS aa aa;have h3:(r:Int).tmod 8=(r:Int)%8:=mu aa;have h4:IntKind.i64.wrap (8*((r:Int)%8))=8*((r:Int)%8):=aS aa aa;have hau:o5 (fun _=>0) (lL p) (r+1)=upd (o5 (fun _=>0) (lL p) r) (r/8) (l7 .u64 (o5 (fun _=>0) (lL p) r (r/8)) (TG .u64 (IntKind.u64.wrap (lL p r)) (8*((r:Int)%8)))):=rfl;have hur:p8 (lL p) r=[.v (.int .u8 (lL p r))]:=rfl;have hwr:IntKind.i64.wrap (r:Int)=r:=aS aa aa;have hrn:((r:Int)).toNat=r:=rfl;refine aJ ?_;refine aq ?_;refine aB ?_;refine T.dr 18 fun K hK=> ?_;simp[go_sem,d2,hr5,hd,hd4,h1,h2,h3,h4,hur,Ro,hwr,hrn];refine wG hK ?_;refine aE fun K hK=> ?_;simp[go_sem];try simp(disch:=omega) only[aS]
    refine hK _ ?_;refine⟨r+1,bp aP ((ae au)) iv,aa,ai⟩
   ·obtain rfl:r=136:=by omega
    have hst:nB (o5 (fun _=>0) (lL p) 136) 24=stS p:=rfl;have hdr:List.drop 25 (bh .u64 25 (o5 (fun _=>0) (lL p) 136))=[]:=Vq (Nat.le_refl _);refine bN ?_;refine aE fun K hK=> ?_;simp[go_sem];refine az.mk (zj _ (o5 (fun _=>0) (lL p) 136)) ?_;simp[go_sem,hst,hdr];refine hK _ ?_;refine aE fun K hK=> ?_;simp[go_sem];try simp(disch:=omega) only[aS]
    refine hK _ ?_;refine⟨1,bp aP ((ae au)) iv,aa,ai⟩
  ·obtain rfl:q=1:=by omega
   refine bN ?_;refine wE ?_;refine aq ?_;refine U9 7 1 (p8 (JH p)) v7 aN ?_;refine wE ?_;refine aB ?_;refine ba [4,7,8] eE ?_;refine mo [σ.length,σ.length+2] an ?_;refine bB (α:=Nat) (fun i=>[(7,.ms (σ.length+2) 1 0 i),(8,.d (I i))]) (fun i=>σ++[.arr 1 136 (p8 (lL p)),.var (bh .u64 25 (stS p)),.arr 1 i (p8 (JH p))]) (fun i=>i<=32) (fun i=>32-i) 0 au (rfl) an ?_;rintro i hi;refine aq ?_;refine wE ?_;refine gF [4,7,8,66] ?_;refine ko ?_ ?_<;>intro d3
   ·have hi5:i<32:=aa;have hd:i/8<25:=aa;have hd4:i/8<=24:=aa;have h1:(i:Int).tdiv 8=(i:Int)/8:=wo aa;have h2:IntKind.i64.wrap ((i:Int)/8)=(i:Int)/8:=aS aa aa;have h3:(i:Int).tmod 8=(i:Int)%8:=mu aa;have h4:IntKind.i64.wrap (8*((i:Int)%8))=8*((i:Int)%8):=aS aa aa;refine aJ ?_;refine aq ?_;refine aB ?_;refine aE fun K hK=> ?_;simp[go_sem,d3,hd,hd4,h1,h2,h3,h4,Ro,hwf.one];refine wG hK ?_;refine ax (σ.length+2) (p8 (JH p)) bj (by intro q hq;unfold aO;split;rfl;rw[show q=i by omega];simp[rowsOf,p8,JH]) aN ?_;refine aE fun K hK=> ?_;simp[go_sem];try simp(disch:=omega) only[aS]
    refine hK _ ?_;refine⟨i+1,bp aP ((ae au)) iv,aa,ai⟩
   ·obtain rfl:i=32:=by omega
    refine bN ?_;refine aj fun K hK=> ?_;simp[go_sem,E4];refine hK _ ?_;refine af ?_;simp[go_sem];rfl
theorem uC(x rd)(hx:Rng x)(ha:fZ x.u x.nu=true)(h0:0<=rd)(h1:rd<=1024)(hσ:σ[0]? =some (.tab 0 dG)):ak prog 175 [.agg (x.enc.map .d),.d (I rd)] σ (.d (SL none 1 encI (de x rd).length (nth (de x rd)))):=by
 have hdp:=UK hx ha rd;obtain⟨ID,KZ⟩: ∃ID:Nat,x.ID=ID:=⟨x.ID.toNat,by have:=hx.id1;omega⟩;obtain⟨r,rfl⟩: ∃r:Nat,rd=r:=⟨rd.toNat,aa⟩;obtain⟨k,hk⟩: ∃k:Nat,x.iB=k:=⟨x.iB.toNat,by have:=hx.s1;omega⟩;have g1:=hx.id1;have g2:=hx.id2;have g3:=hx.n1;have g4:=hx.n2;have g5:=hx.s1;have g6:=hx.s2;obtain⟨L,hLd⟩: ∃L,L=MH ID r (lst x.nu (pY x)):=⟨_,rfl⟩;have hO:G8 ID r (lst x.nu (pY x)) L:=by grind [zu]
 rw[KZ,hk,Int.toNat_natCast,Int.toNat_natCast,Int.toNat_natCast,←hLd] at hdp;replace hdp:gR (fun i=>decide (x.u i∈sr L k)) x.u x.nu=de x r:=hdp
 have hLn:L.length=x.nu:=by rw[hO.1.length_eq,cd]
 have hkL:k<=L.length:=aa;have hu1: ∀i,i<x.nu->1<=pY x i:=fun i hi=>by have:=hx.u1 i hi;grind [pY]
 have hu2: ∀i,i<x.nu->pY x i<=1073741824:=fun i hi=>by have:=hx.u1 i hi;grind [pY]
 have hu3: ∀i,i<x.nu->x.u i=((pY x i:Nat):Int):=fun i hi=>by grind [pY]
 have hu4: ∀i j,i<j->j<x.nu->pY x i<pY x j:=fun i j h1 h2=>by
  grind [KO]
 have hnd:=AO hx ha;have s1:=kX (n:=ID) aa;have s2:=kX (n:=r) aa;refine ak.be func175 fun hwf=> ?_;refine aj fun K hK=> ?_;simp[go_sem,KZ,hk];refine wY hK fun K hK=> ?_;refine az.mk (tw _ ID aa (ay hσ)) ?_;simp[go_sem,qd];repeat refine⟨aa,?_⟩
 refine az.mk (tw _ r aa (ay hσ)) ?_;simp[go_sem,ByteArray.size_append,qd];refine wG hK ?_;refine wE ?_;refine aq ?_;refine aB ?_;refine bq 6 1 (fun q=>encI (nth (sr L 0) q)) au aN ?_;refine ba [2,5,6] eE ?_;refine mo [σ.length+1,σ.length+2] an ?_;refine bB (α:=Nat×(Nat->List D)) (fun z=>[(6,.ms (σ.length+1) 1 0 z.1)]) (fun z=>σ++[.var (x.enc.map .d),.arr 1 z.1 z.2]) (fun z=>z.1<=k/\∀q,q<z.1->z.2 q=encI (nth (sr L z.1) q)) (fun z=>k-z.1) (0,fun q=>encI (nth (sr L 0) q)) au Hd (⟨Nat.zero_le _,fun q hq=>rfl⟩) ?_;rintro⟨j,row⟩ ⟨hj,hrow⟩;replace hj:j<=k:=hj;refine ax (σ.length+1) (fun q=>encI (nth (sr L j) q)) aN hrow aN ?_
 refine aq ?_;refine aj fun K hK=> ?_;simp[go_sem,KZ,hk];refine hK _ ?_;refine gF [2,5,6,27] ?_;refine ko ?_ ?_<;>intro d0
 ·have hj5:j<k:=aa;have hpl:=RN (L:=L) (j:=j) aa;refine aJ ?_;refine aB ?_;refine aj fun K hK=> ?_;simp[go_sem,d0];refine hK _ ?_;refine aq ?_;refine wE ?_;refine aB ?_;refine ba [2,5,6,7,8,29,30,31] eE ?_;refine bB (α:=Nat) (fun i=>[(31,.d (I i)),(7,.d (I ((fY ID r (sr L j) (pY x) i:Nat):Int))),(8,.d (Sb (bkS ID r (fY ID r (sr L j) (pY x) i))))]) (fun i=>σ++[.var (x.enc.map .d),.arr 1 j (fun q=>encI (nth (sr L j) q))]) (fun i=>i<=x.nu) (fun i=>x.nu-i) 0 (by simp[go_sem,fY,YT]) Hd an ?_;rintro i hi;refine aj fun K hK=> ?_;simp[go_sem,KZ,hk];refine hK _ ?_;refine aq ?_;refine gF [2,5,6,7,8,29,30,31,32] ?_;refine ko ?_ ?_<;>intro d1
  ·have hi5:i<x.nu:=aa;have e3:=hu3 i hi5;have hin:qt j (nth (sr L j)) ((pY x i:Nat):Int)=decide (((pY x i:Nat):Int)∈sr L j):=by
    grind [MX]
   refine aJ ?_;refine aq ?_;refine aB ?_;refine aj fun K hK=> ?_;simp[go_sem,d1,e3];refine hK _ ?_;refine aq ?_;refine wV fun K hK=> ?_;refine az.mk ((xY [] none j (nth (sr L j)) ((pY x i:Nat):Int) aa).abO rfl au) ?_;simp[go_sem,hin];refine hK _ ?_;refine gF [2,5,6,7,8,10,29,30,31,37] ?_;refine ko ?_ ?_<;>intro d2
   ·have hb:=OR (ID:=ID) (rd:=r) (P:=sr L j) (u:=pY x) (i:=i) ai;refine bN ?_;refine aE fun K hK=> ?_;simp[go_sem,d2];try simp(disch:=omega) only[aS]
    refine hK _ ?_;refine⟨i+1,bp Hd ((ae au)) (by(simp[go_sem,KZ,hk,hb]<;>omega)),aa,ai⟩
   ·have afk: ¬((pY x i:Nat):Int)∈sr L j:=ai;have s3:=kX (n:=pY x i) (hu2 i hi5);have ht:E2 ID++⟨#[32]⟩++E2 r++⟨#[32]⟩++E2 (pY x i)=textS ID r (pY x i):=rfl;have hks:YD (textS ID r (pY x i))=keyS ID r (pY x i):=rfl;refine aJ ?_;refine aj fun K hK=> ?_;simp[go_sem,d2];refine az.mk (tw _ (pY x i) (hu2 i hi5) (ay hσ)) ?_;simp[go_sem,ByteArray.size_append,qd,ht];repeat refine⟨aa,?_⟩
    refine az.mk (Jz _ (textS ID r (pY x i)) (Dt aa aa (hu2 i hi5))) ?_;simp[go_sem,hks];refine wY hK fun K hK=> ?_;refine hK _ ?_;refine gF [2,5,6,7,8,10,11,29,30,31,49] ?_;refine fL ?_ ?_<;>intro c3 d3
    ·have hb:=Ij (ID:=ID) (rd:=r) (P:=sr L j) (u:=pY x) (i:=i) afk (by
      grind [KJ,JP])
     have hp:=hu1 i hi5;have hkp:=KJ (ID:=ID) (rd:=r) (m:=pY x i) aa;refine aE fun K hK=> ?_;simp[go_sem,c3];refine hK _ ?_;refine aE fun K hK=> ?_;simp[go_sem];try simp(disch:=omega) only[aS]
     refine hK _ ?_;refine⟨i+1,bp Hd ((ae au)) (by(simp[go_sem,KZ,hk,hb,hkp]<;>omega)),aa,ai⟩
    ·have hb:=Ii (ID:=ID) (rd:=r) (P:=sr L j) (u:=pY x) (i:=i) afk (by
      grind [KJ,JP])
     refine aJ ?_;refine aE fun K hK=> ?_;simp[go_sem,d3];try simp(disch:=omega) only[aS]
     refine hK _ ?_;refine⟨i+1,bp Hd ((ae au)) (by(simp[go_sem,KZ,hk,hb]<;>omega)),aa,ai⟩
  ·obtain rfl:i=x.nu:=by omega
   have hnx:=QO (ID:=ID) (rd:=r) (k:=j) hu1 hu4 hnd hO aa;replace hnx:fY ID r (sr L j) (pY x) x.nu=L[j]'(aa):=hnx
   refine bN ?_;refine aE fun K hK=> ?_;simp[go_sem,hnx,hwf.one];refine wG hK ?_;refine⟨(j+1,aO j (fun q=>encI (nth (sr L j) q)) (rowsOf 1 [I ((L[j]'(aa):Nat):Int)])),bp Hd ((ae au)) (by(simp[go_sem,KZ,hk]<;>omega)),⟨ai,fun q hq=>Z5 aa hq⟩,ai⟩
 ·obtain rfl:j=k:=by omega
  have hpl:=RN (L:=L) (j:=j) aa;refine bN ?_;refine wE ?_;refine aq ?_;refine wE ?_;refine aB ?_;refine bq 12 1 (fun q=>encI (nth ([]:List Int) q)) au aN ?_;refine ba [6,12,58,59,60] eE ?_;refine bB (α:=Nat) (fun i=>[(60,.d (I i)),(12,.ms (σ.length+2) 1 0 (gR (fun i=>decide (x.u i∈sr L j)) x.u i).length)]) (fun i=>σ++[.var (x.enc.map .d),.arr 1 j (fun q=>encI (nth (sr L j) q)),.arr 1 (gR (fun i=>decide (x.u i∈sr L j)) x.u i).length (fun q=>encI (nth (gR (fun i=>decide (x.u i∈sr L j)) x.u i) q))]) (fun i=>i<=x.nu) (fun i=>x.nu-i) 0 (by simp[go_sem,gR]) (by simp[go_sem,KZ,hk,gR]) an ?_;rintro i hi;refine aj fun K hK=> ?_;simp[go_sem,KZ,hk];refine hK _ ?_;refine aq ?_;refine gF [6,12,58,59,60,61] ?_;refine ko ?_ ?_<;>intro d4
  ·have hi5:i<x.nu:=aa;have hin:qt j (nth (sr L j)) (x.u i)=decide (x.u i∈sr L j):=by
    grind [MX]
   have hll:=HC (fun i=>decide (x.u i∈sr L j)) x.u i;refine aJ ?_;refine aq ?_;refine aB ?_;refine aj fun K hK=> ?_;simp[go_sem,d4];refine wY hK fun K hK=> ?_;refine az.mk ((xY [] none j (nth (sr L j)) (x.u i) aa).abO rfl au) ?_;simp[go_sem,hin];refine hK _ ?_;refine gF [6,12,14,58,59,60,66] ?_;refine ko ?_ ?_<;>intro d5
   ·have hp:gR (fun i=>decide (x.u i∈sr L j)) x.u (i+1)=gR (fun i=>decide (x.u i∈sr L j)) x.u i++[x.u i]:=by grind [gR]
    refine aE fun K hK=> ?_;simp[go_sem,d5,hwf.one];refine wG hK ?_;refine ax (σ.length+2) (fun q=>encI (nth (gR (fun i=>decide (x.u i∈sr L j)) x.u i++[x.u i]) q)) bj (by exact fun q hq=>fH (enc:=encI) (x:=x.u i) rfl hq) aN ?_;refine aE fun K hK=> ?_;simp[go_sem];try simp(disch:=omega) only[aS]
    refine hK _ ?_;refine⟨i+1,bp (by simp[go_sem,KZ,hk,hp]) ((ae au)) (by(simp[go_sem,KZ,hk,hp]<;>omega)),aa,ai⟩
   ·have hp:gR (fun i=>decide (x.u i∈sr L j)) x.u (i+1)=gR (fun i=>decide (x.u i∈sr L j)) x.u i:=by grind [gR]
    refine aJ ?_;refine aE fun K hK=> ?_;simp[go_sem,d5];try simp(disch:=omega) only[aS]
    refine hK _ ?_;refine⟨i+1,bp (by simp[go_sem,KZ,hk,hp]) ((ae au)) (by(simp[go_sem,KZ,hk,hp]<;>omega)),aa,ai⟩
  ·obtain rfl:i=x.nu:=by omega
   refine bN ?_;refine aj fun K hK=> ?_;simp[go_sem,hdp];refine hK _ ?_;refine aF hwf (σ.length+2) ?_;refine af ?_;simp[go_sem]<;>omega
theorem gM(x)(hn:x.nu<1000000000)(hm:x.nb<1000000000)(hσ:σ[0]? =some (.tab 0 dG)):ak prog 153 [.agg (x.enc.map .d)] σ (.d (I (eK x))):=by
 refine ak.bt func153 ?_;refine dH [1] ?_ ?_<;>intro d0
 ·have hz:r4 x=false:=I6 fun h=>by have:=h.id1;have:=h.id2;have:=h.d1;have:=h.d2;have:=h.r1;have:=h.r2;have:=h.n1;have:=h.n2;omega
  exact sx (OG hz)
 ·simp[go_sem];refine dm (α:=Nat) true [1,49,50,51] (fun i=>[(51,.d (I i))]) (fun i=>σ++[.var (x.enc.map .d)]) (fun i=>i<=x.nu/\∀q,q<i->1<=x.u q/\x.u q<=1073741824) (fun i=>x.nu-i) 0 ?_;rintro i ⟨hi,hx⟩;refine gc [1,49,50,51] ?_ ?_<;>intro d1
  ·have hi5:i<x.nu:=aa;simp[go_sem,hi5];refine dH [1,49,50,51] ?_ ?_<;>intro d2
   ·have hz:r4 x=false:=I6 fun h=>by have:=h.u1 i hi5;omega
    exact sx (OG hz)
   ·refine wC ?_;refine bF (i+1) ⟨aa,fun q hq=>ai⟩ (h:=aR) (hσ:=aP) (hb:=ae au)
  ·obtain rfl:i=x.nu:=by omega
   simp[go_sem];refine go true (gc [1] ?_ ?_)<;>intro d3
   ·have hz:r4 x=false:=I6 fun h=>by have:=h.s1;have:=h.s2;have:=h.a1;have:=h.a2;omega
    exact sx (OG hz)
   ·have hx:Rng x:=⟨aa,aa,aa,aa,aa,aa,aa,aa,hx,aa,aa,aa,aa⟩;have hz:r4 x=true:=(pj x).2 hx;simp[go_sem];refine az.mk (l9 _ none x.nu x.u hn) (sm ?_);refine cE.mk (l9 _ none x.nb x.b hm) (sm ?_);refine km [1] ?_ ?_<;>intro c4 d4
    ·simp[go_sem];rw[acE hz c4];exact af sc
    ·have hasc:fZ x.u x.nu=true:=ai;have hr1:=hx.r1;have hr2:=hx.r2;have hdl:=sO x x.Round;simp[go_sem];refine km [1] ?_ ?_<;>intro c5 d5
     ·simp[go_sem];refine az.mk (uC _ x x.Round hx hasc hr1 hr2 (ay hσ)) (sm ?_);refine dm (α:=Nat) true [1,5,104,105,106] (fun i=>[(106,.d (I i))]) (fun i=>σ++[.var (x.enc.map .d)]) (fun i=>i<=x.nb/\∀q,q<i->qt (de x x.Round).length (nth (de x x.Round)) (x.b q)=true) (fun i=>x.nb-i) 0 ?_;rintro i ⟨hi,hy⟩;refine gc [1,5,104,105,106] ?_ ?_<;>intro d6
      ·have hi5:i<x.nb:=aa;simp[go_sem,hi5];refine az.mk (xY _ none (de x x.Round).length (nth (de x x.Round)) (x.b i) aa) ?_;refine gc [1,5,104,105,106] ?_ ?_<;>intro d7
       ·have hb:=abm hi5 ai;simp[go_sem];rw[acD hz c4 hb];exact af sc
       ·refine wC ?_;refine bF (i+1) ⟨aa,fun q hq=>ai⟩ (h:=aR) (hσ:=aP) (hb:=ae au)
      ·obtain rfl:i=x.nb:=by omega
       have hb:=YU hy;refine wF ?_;refine az.mk (uB _ x hn hm) (gc [] ?_ ?_)<;>intro d8
       ·simp[go_sem];rw[QF hz c4 hb ai];exact af sc
       ·simp[go_sem];rw[YL hz c4 hb ai];exact af sc
     ·have hb:zR x=false:=YU fun q hq=>by omega
      clear c5 d5;have c5:True:=trivial;have d5:True:=trivial;simp[go_sem];refine az.mk (uB _ x hn hm) (gc [] ?_ ?_)<;>intro d9
      ·simp[go_sem];rw[QF hz c4 hb ai];exact af sc
      ·simp[go_sem];rw[YL hz c4 hb ai];exact af sc
theorem Gw(id day n u s a)(hn:n<1000000000)(hσ:σ[0]? =some (.tab 0 dG)):ak prog 97 [.d (I id),.d (I day),.d (SL none 1 encI n u),.d (I s),.d (I a)] σ (.cj [.agg ((lM id day n u s a).1.enc.map .d),.d (I (lM id day n u s a).2)]):=by
 refine ak.bs false func97 fun hwf=> ?_;refine wM ?_;repeat refine⟨aa,?_⟩
 refine aF hwf (σ.length+1) ?_;refine go false (sm ?_);refine az.mk ((gM _ (xI id day n u s a) hn (show(0:Nat)<1000000000 by decide) (ay hσ)).sub (by simp[go_sem,mY,my,bw,Go.aI.aK,xI])) (sm ?_);refine go true (gc [10,12,13] ?_ ?_)<;>intro d0
 ·have hz:lM id day n u s a=(fb,eK (xI id day n u s a)):=by grind [lM]
  refine wA ?_;rw[hz];simp[go_sem,bw,Go.aI.aK,fb]
 ·have hz:lM id day n u s a=(xI id day n u s a,0):=by grind [lM]
  refine wA ?_;rw[hz];simp[go_sem,bw,Go.aI.aK,xI]
theorem Gv(x)(hn:x.nu<1000000000)(hm:x.nb<1000000000)(hσ:σ[0]? =some (.tab 0 dG)):ak prog 98 [.agg (x.enc.map .d)] σ (.cj [.agg ((dJ x).1.enc.map .d),.d (I (dJ x).2)]):=by
 refine ak.bt func98 ?_;refine az.mk (gM _ x hn hm (ay hσ)) (gc [1,2] ?_ ?_)<;>intro d0
 ·have hz:dJ x=(fb,1):=by grind [dJ]
  refine wA ?_;rw[hz];simp[go_sem,bw,Go.aI.aK,fb]
 ·have hch:eK x=0:=ai;have hx:=lD hch;have hr1:=hx.r1;have hr2:=hx.r2;have hwr:IntKind.i64.wrap (x.Round+1)=x.Round+1:=aS aa aa;refine gc [1,2] ?_ ?_<;>intro d1
  ·have hz:dJ x=(fb,11):=by grind [dJ]
   refine wA ?_;rw[hz];simp[go_sem,bw,Go.aI.aK,fb]
  ·refine gc [1,2] ?_ ?_<;>intro d2
   ·have hz:dJ x=(fb,15):=by grind [dJ]
    refine wA ?_;rw[hz];simp[go_sem,bw,Go.aI.aK,fb]
   ·have hz:dJ x=(DS x,0):=by grind [dJ]
    refine wI ?_;refine az.mk (ly _ x hn hm) ?_;simp(disch:=first|omega|simp) [go_sem,hwr];refine af ?_;rw[hz];simp[go_sem,bw,Go.aI.aK,DS]
theorem zd(x m h)(hn:x.nu<1000000000)(hm:x.nb<1000000000)(hk:m<1000000000)(hσ:σ[0]? =some (.tab 0 dG)):ak prog 99 [.agg (x.enc.map .d),.d (SL none 1 encI m h)] σ (.cj [.agg ((dD x m h).1.enc.map .d),.d (I (dD x m h).2)]):=by
 refine ak.bs true func99 fun hwf=> ?_;refine az.mk (gM _ x hn hm (ay hσ)) (gc [1,2,4] ?_ ?_)<;>intro d0
 ·have hz:dD x m h=(fb,1):=by grind [dD]
  refine wA ?_;rw[hz];simp[go_sem,bw,Go.aI.aK,fb]
 ·have hch:eK x=0:=ai;have hx:=lD hch;have hr1:=hx.r1;have hr2:=hx.r2;simp[go_sem];refine km [1,2,4] ?_ ?_<;>intro c1 d1
  ·have hz:dD x m h=(fb,11):=by grind [dD]
   refine wA ?_;rw[hz];simp[go_sem,bw,Go.aI.aK,fb]
  ·have h2:x.State=2:=ai;clear d1 c1;have d1:True:=trivial;have c1:True:=trivial;simp[go_sem];refine az.mk (l9 _ none m h hk) (gc [1,2,4] ?_ ?_)<;>intro d2
   ·have hz:dD x m h=(fb,5):=by grind [dD]
    refine wA ?_;rw[hz];simp[go_sem,bw,Go.aI.aK,fb]
   ·have hdl:=sO x x.Round;simp[go_sem];refine az.mk (uC _ x x.Round hx (abb hch) hr1 hr2 (ay hσ)) (sm ?_);refine dm (α:=Nat) false [1,2,4,6,25,26,27] (fun i=>[(27,.d (I i))]) (fun i=>σ++[.var (x.enc.map .d),.var [.d (.v (.int .i64 0)),.d (.v (.int .i64 0)),.d (.v (.int .i64 0)),.d (.v (.int .i64 0)),.d (.v (.int .i64 0)),.d (.v (.int .i64 0)),.d (.v (.slice none 0 0)),.d (.v (.slice none 0 0))]]) (fun i=>i<=m/\∀q,q<i->qt (de x x.Round).length (nth (de x x.Round)) (h q)=true) (fun i=>m-i) 0 ?_;rintro i ⟨hi,hy⟩;simp[go_sem];refine go false (gc [1,2,4,6,25,26,27] ?_ ?_)<;>intro d3
    ·have hi5:i<m:=aa;simp[go_sem,hi5];refine wb ?_;refine az.mk (xY _ none (de x x.Round).length (nth (de x x.Round)) (h i) aa) ?_;refine gc [1,2,4,6,25,26,27] ?_ ?_<;>intro d4
     ·have hs:IX (de x x.Round).length (nth (de x x.Round)) m h=false:=by
       grind [rQ]
      have hz:dD x m h=(fb,7):=by grind [dD]
      refine wA ?_;rw[hz];simp[go_sem,bw,Go.aI.aK,fb]
     ·refine wC ?_;refine bF (i+1) ⟨aa,fun q hq=>ai⟩ (h:=aR) (hσ:=aP) (hb:=ae au)
    ·obtain rfl:i=m:=by omega
     have hz:dD x i h=(oz x i h,0):=Uk hch h2 ai ((rQ _ _ _ _).2 hy);simp[go_sem];refine go false (sm ?_);refine az.mk (ly _ x hn hm) (sm ?_);refine wM ?_;repeat refine⟨aa,?_⟩
     refine aF hwf (σ.length+2) ?_;refine go false (sm ?_);refine go true (gc [2,4] ?_ ?_)<;>intro d5
     ·refine wA ?_;rw[hz];simp[go_sem,bw,Go.aI.aK,oz,d5]
     ·refine wA ?_;rw[hz];simp[go_sem,bw,Go.aI.aK,oz,d5]
theorem r9(c n g)(hn:n<1000000000):ak prog 154 [.d (SL c 2 kE.enc n g)] σ (.d (B (jl g n))):=by
 refine ak.bt func154 ?_;refine dm (α:=Nat) true [0,5,6,7] (fun i=>[(7,.d (I i))]) (fun i=>_) (fun i=>i<=n/\∀q,q<i->CI g q) (fun i=>n-i) 0 ?_;rintro i ⟨hi,hx⟩;refine gc [0,5,6,7] ?_ ?_<;>intro d0
 ·have hi5:i<n:=aa;simp[go_sem,hi5];refine T.dr 33 fun K hK=> ?_;simp[go_sem,aT (i:=i) aa];refine wK hK ?_;refine gc [0,5,6,7] ?_ ?_<;>intro d1
  ·have hz:jl g n=false:=M9 hi5 fun hr=>by
    have h1:=hr.1;have h2:=hr.2.1;have h3:=hr.2.2;omega
   exact sx hz
  ·have hr:CI g i:=⟨d1.1.1.1,⟨d1.1.1.2,d1.1.2⟩,d1.2⟩;refine wC ?_;refine bF (i+1) ⟨aa,M5 hx hr⟩ (h:=aR)
 ·obtain rfl:i=n:=by omega
  have hz:=HR hx;refine wL ?_;rw[hz];exact af so
theorem uD(n g x f)(hn:n<1000000000)(hu:x.nu<1000000000)(hm:x.nb<1000000000)(hσ:σ[0]? =some (.tab 0 dG)):ak prog 100 [.d (SL none 2 kE.enc n g),.agg (x.enc.map .d),.d (I f)] σ (.cj [.d (SL none 2 kE.enc (nD g n x f) (sB g n x f)),.d (I (fp g n x f))]):=by
 refine ak.bs true func100 fun hwf=> ?_;refine az.mk (r9 _ none n g hn) (sm ?_);refine cE.mk' _ (fun _=>gM _ x hu hm (ay hσ)) (gc [0,2,4] ?_ ?_)<;>intro d0
 ·have hz:=Sa (f:=f) (show(!jl g n|| !decide (eK x=0))=true by grind);have hn0:=eL hz aH;refine wA ?_;rw[hz,hn0];simp[go_sem,Go.aI.aK]
 ·have h1:(!jl g n|| !decide (eK x=0))=false:=ai;simp[go_sem];refine km [0,2,4] ?_ ?_<;>intro c1 d1
  ·have hz:=M8 (f:=f) h1 (show x.State≠3 by grind);have hn0:=eL hz aH;refine wA ?_;rw[hz,hn0];simp[go_sem,Go.aI.aK]
  ·have h2:x.State=3:=ai;have hch:eK x=0:=ai;have hl:=px.1 (show jl g n=true by grind);have hx:=lD hch;have g3:=hx.n1;have g4:=hx.n2;have hn7:=hl.2;clear d1 c1;have d1:True:=trivial;have c1:True:=trivial;refine wI ?_;refine dH [0,2,4] ?_ ?_<;>intro d2
   ·have h3:f<1\/1073741824-(x.nu:Int)+1<f:=by
     grind [aS]
    have hz:=R9 h1 h2 h3;have hn0:=eL hz aH;refine wA ?_;rw[hz,hn0];simp[go_sem,Go.aI.aK]
   ·have e1:IntKind.i64.wrap (f+(x.nu:Int))=f+x.nu:=aS aa aa;have e2:IntKind.i64.wrap (f+(x.nu:Int)-1)=f+x.nu-1:=aS aa aa;have h3: ¬(f<1\/1073741824-(x.nu:Int)+1<f):=by
     grind
    refine wC ?_;repeat refine⟨aa,?_⟩
    refine dH [0,2,4] ?_ ?_<;>intro d3
    ·have h4:0<n/\f<=(g (n-1)).fx:=by exact d3
     have hz:=R8 h1 h2 h3 h4;have hn0:=eL hz aH;refine wA ?_;rw[hz,hn0];simp[go_sem,Go.aI.aK]
    ·have h4: ¬(0<n/\f<=(g (n-1)).fx):=ai;simp[go_sem];refine dm (α:=Nat) true [0,2,4,53,54,55] (fun i=>[(55,.d (I i))]) (fun i=>σ++[.var (x.enc.map .d)]) (fun i=>i<=n/\∀q,q<i->qt x.nu x.u (g q).Unit=false) (fun i=>n-i) 0 ?_;rintro i ⟨hi,hy⟩;refine gc [0,2,4,53,54,55] ?_ ?_<;>intro d4
     ·have hi5:i<n:=aa;simp[go_sem,hi5];refine az.mk (xY _ none x.nu x.u (g i).Unit hu) ?_;refine gc [0,2,4,53,54,55] ?_ ?_<;>intro d5
      ·have hz:=R7 h1 h2 h3 h4 (Rm.2 ⟨i,hi5,ai⟩);have hn0:=eL hz aH;refine wA ?_;rw[hz,hn0];simp[go_sem,Go.aI.aK]
      ·refine wC ?_;refine bF (i+1) ⟨aa,fun q hq=>ai⟩ (h:=aR) (hσ:=aP) (hb:=ae au)
     ·obtain rfl:i=n:=by omega
      have h5:We g i x.u x.nu=false:=acS hy;refine wT ?_;refine dH [0,2,4] ?_ ?_<;>intro d6
      ·have hz:=M7 h1 h2 h3 h4 h5 aa;have hn0:=eL hz aH;refine wA ?_;rw[hz,hn0];simp[go_sem,Go.aI.aK]
      ·have hz:=Sc h1 h2 h3 h4 h5 aa;have hn0:=ES hz;refine wB ?_;refine ax (σ.length+1) (fun q=>kE.enc (mB g i x.u f q)) bj (by intro q hq;simp[go_sem,sC hq]) aN ?_;refine JQ (α:=Nat) false [2,10,76,77,78] [σ.length+1] (fun k=>[(78,.d (I k)),(10,.ms (σ.length+1) 2 0 (i+k))]) (fun k=>σ++[.var (x.enc.map .d),.arr 2 (i+k) (fun q=>kE.enc (mB g i x.u f q))]) (fun k=>k<=x.nu) (fun k=>x.nu-k) 0 au (rfl) an an ?_;rintro k hk;simp[go_sem];refine go false (gc [2,10,76,77,78] ?_ ?_)<;>intro d7
       ·have hi5:k<x.nu:=aa;have hwr:IntKind.i64.wrap (f+(k:Int))=f+(k:Int):=aS aa aa;have hni:=Nat.add_assoc i k 1;simp[go_sem,hi5];refine go false ?_;simp(disch:=first|omega|simp) [go_sem,hwr,hni,hwf.one];repeat refine⟨aa,?_⟩
        refine ax (σ.length+1) (fun q=>kE.enc (mB g i x.u f q)) bj (by exact fun q hq=>HQ hq) aN ?_;refine wW ?_;refine bF (k+1) aa (h:=aR) (hσ:=aP) (hb:=ae au)
       ·obtain rfl:k=x.nu:=by omega
        refine wF ?_;refine aF hwf (σ.length+1) ?_;refine af ?_;rw[hz,hn0];simp[go_sem,Go.aI.aK,sB]
end Go.Proofs.YthpplckmbbachaaGreatDoor
namespace Go.aI
open Go.ChangeShapes Go.WideShapes Go.ChangeAt Go.RowKit Go.Deep
def Vz(w:World)(ds:List D)(cs:List Value):Prop:=cs.length=ds.length/\∀k,k<ds.length->RD w [] (ds.getD k default) (cs.getD k Go.undef)
theorem Vz.nil(w):Vz w [] []:=⟨rfl,an⟩
theorem Vz.append{w a b c e}(h:Vz w a c)(k:Vz w b e):Vz w (a++b) (c++e):=by
 refine⟨by simp[h.1,k.1],fun i hi=> ?_⟩;rcases Nat.lt_or_ge i a.length with hl|hl
 ·have:=h.2 i hl;rw[List.getD_eq_getElem?_getD,List.getD_eq_getElem?_getD,List.getElem?_append_left hl,List.getElem?_append_left (by rw[h.1];exact hl)];grind
 ·have:=k.2 (i-a.length) ai;rw[List.getD_eq_getElem?_getD,List.getD_eq_getElem?_getD,List.getElem?_append_right hl,List.getElem?_append_right (by rw[h.1];exact hl),h.1];grind
theorem Vz.one{w d c}(h:RD w [] d c):Vz w [d] [c]:=⟨rfl,fun k hk=>by
 grind⟩
def Opn(P:Program)(t:TypeId)(g:List D->Prop):Prop:=
 ∀(H:Type) (enc:TypeId×Value->H) (w:World) (base:Nat) (spare:Nat->Bool) (held:Bool) (fuel:Nat) (cs:List Value) (x:DataW H×List MemPlace),DataW.trod enc P w base spare held fuel t cs=some x->∃ds,g ds/\Vz w ds cs
section
variable {P : Program} {t : TypeId}
theorem Opn.mono{g g'}(h:Opn P t g)(hg: ∀ds,g ds->g' ds):Opn P t g':=fun H enc w base spare held fuel cs x hx=>
 let⟨ds,h1,h2⟩:=h H enc w base spare held fuel cs x hx
 ⟨ds,hg ds h1,h2⟩
theorem Z8{k}(ht:P.underlying t=some (.int k)):Opn P t fun ds=> ∃n,ds=[.v (.int k n)]/\(Lit.int k n).wf=true:=by
 intro H enc w base spare held fuel cs x hx;obtain⟨n,rfl,_,hw⟩:=DataW.trod_int ht hx;exact⟨_,⟨n,rfl,hw⟩,.one (.v _)⟩
theorem Xg(ht:P.underlying t=some .bool):Opn P t fun ds=> ∃b,ds=[.v (.bool b)]:=by
 intro H enc w base spare held fuel cs x hx;obtain⟨n,rfl,_⟩:=DataW.trod_bool ht hx;exact⟨_,⟨n,rfl⟩,.one (.v _)⟩
theorem P1(ht:P.underlying t=some .string):Opn P t fun ds=> ∃s,ds=[.v (.string s)]/\s.size<=maxLen:=by
 intro H enc w base spare held fuel cs x hx;obtain⟨n,rfl,_,hw⟩:=DataW.trod_string ht hx;exact⟨_,⟨n,rfl,hw⟩,.one (.v _)⟩
def Zl:List (List D->Prop)->List D->Prop
 |[],ds=>ds=[]
 |g::gs,ds=> ∃a b,ds=a++b/\g a/\Zl gs b
def pG(P:Program)(tot:Nat):Nat->List Field->Bool
 |off,[]=>Nat.beq off tot
 |off,f::fs=>Nat.beq f.offset off&&pG P tot (off+P.cellsOf f.type) fs
inductive Zn{α β:Type}(r:α->β->Prop):List α->List β->Prop
 |nil:Zn r [] []
 |cons {a:α} {b:β} {as0:List α} {bs:List β} (h:r a b) (t:Zn r as0 bs):Zn r (a::as0) (b::bs)
theorem A9{tot} : ∀{fs off},pG P tot off fs=true->off<=tot
 |[],off,h=>by have:=Nat.eq_of_beq_eq_true h;omega
 |f::fs,off,h=>by
  simp[pG] at h;have:=A9 h.2;omega
theorem EA{H}{enc:TypeId×Value->H}{w base spare held fuel}{cs:List Value} :
  ∀{fs gs off},Zn (fun f g=>Opn P f.type g) fs gs->pG P cs.length off fs=true->
   (∀f∈fs,∃y,DataW.trod enc P w base spare held fuel f.type ((cs.drop f.offset).take (P.cellsOf f.type))=some y)->∃ds,Zl gs ds/\Vz w ds (cs.drop off)
 |[],_,off,.nil,hf,_=>by
  have:=Nat.eq_of_beq_eq_true hf;refine⟨[],rfl,?_⟩;rw[List.drop_eq_nil_of_le aa];exact .nil w
 |f::fs,_,off,.cons h hs,hf,hy=>by
  simp[pG] at hf;obtain⟨h1,h2⟩:=hf;have hle:=A9 h2;obtain⟨y,hy0⟩:=hy f an;obtain⟨a,ga,ra⟩:=h _ _ _ _ _ _ _ _ _ hy0;obtain⟨b,gb,rb⟩:=EA hs h2 fun f' hf'=>hy f' (List.mem_cons_of_mem _ hf');refine⟨a++b,⟨a,b,rfl,ga,gb⟩,?_⟩;have:=ra.append rb;grind [List.drop_drop,List.take_append_drop]
theorem bZ{fs gs}(ht:P.underlying t=some (.struct fs))(hat:pG P (P.cellsOf t) 0 fs.toList=true)(h:Zn (fun f g=>Opn P f.type g) fs.toList gs):Opn P t (Zl gs):=by
 intro H enc w base spare held fuel cs x hx;obtain⟨xs,n,_,_,hlen,hxl,hf⟩:=DataW.trod_struct ht hx;rw[←hlen] at hat;have:=EA (H:=H) (enc:=enc) (w:=w) (base:=base) (spare:=spare) (held:=held) (fuel:=n) (cs:=cs) (off:=0) h hat ?_;all_goals grind [List.getElem?_of_mem]
theorem O9(b off n):(⟨b,off,none⟩:Addr).add n=⟨b,off+n,none⟩:=by
 grind [Addr.add]
theorem cW{e g sz}(d0)(ht:P.underlying t=some (.slice e))(hC:P.cellsOf e=sz)(hsz:0<sz)(h:Opn P e g)(h0:g d0):Opn P t fun ds=> ∃n row,ds=[.sl none sz n row]/\n<=maxLen/\∀i,g (row i):=by
 intro H enc w base spare held fuel cs x hx;rcases open_slice ht hx with⟨rfl,_⟩|⟨a,len,cap,m,n,DD,Pl,rfl,hb,hl,hm,hmm,_,hi⟩
 ·exact⟨_,⟨0,fun _=>d0,rfl,an,fun _=>h0⟩,.one (.zero none 0 (.inl rfl) fun _=>rfl)⟩
 ·have hml:len<=m:=ai;have key: ∀i,∃ds,g ds/\(i<len->∃cs',cs'.length=sz/\(∀k,k<sz->w.cell? (a.add (i*sz+k))=some (cs'.getD k Go.undef))/\Vz w ds cs'):=by
   intro i;by_cases hil:i<len
   ·obtain⟨cs',h1,h2⟩:=hi i aa;rw[hC] at h1;obtain⟨_,hcl,hat⟩:=World.cells?_some h1;obtain⟨ds,g1,g2⟩:=h _ _ _ _ _ _ _ _ _ h2;grind [Go.Deep.add_add]
   grind
  obtain⟨row,hgr⟩: ∃row:Nat->List aI.D,∀i,g (row i)/\(i<len->∃cs',cs'.length=sz/\(∀k,k<sz->w.cell? (a.add (i*sz+k))=some (cs'.getD k Go.undef))/\Vz w (row i) cs'):=⟨fun i=>(key i).choose,fun i=>(key i).choose_spec⟩;have hg:=fun i=>(hgr i).1;have hrow:=fun i=>(hgr i).2;refine⟨_,⟨len,row,rfl,aa,hg⟩,.one ?_⟩;rcases Nat.eq_zero_or_pos len with hz|hp
  ·subst hz;exact .zero (some a) cap (.inl rfl) an
  ·have hcell: ∀i,i<len->∃cs',cs'.length=sz/\(∀k,k<sz->w.cell? (a.add (i*sz+k))=some (cs'.getD k Go.undef))/\Vz w (row i) cs':=fun i hi=>hrow i hi;obtain⟨c0,_,hc0,_⟩:=hcell 0 hp;have h00:=hc0 0 hsz;obtain⟨b,off,spot⟩:=a;have hspot:spot=none:=by simpa[Addr.add] using World.cell?_spot h00
   subst hspot;have hlt:b<w.heap.size:=by
    grind [World.cell?,Addr.add]
   refine .sl ⟨b,off,none⟩ cap (fun i k=>(w.cell? ⟨b,off+i*sz+k,none⟩).getD Go.undef) (.inl rfl) hl rfl hlt an (fun i hi=> ?_) (fun i hi k hk=> ?_) (fun i hi k hk=> ?_)
   ·obtain⟨c,k1,k2,k3⟩:=hcell i hi;rw[←k3.1,k1]
   ·grind [O9]
   ·obtain⟨c,k1,k2,k3⟩:=hcell i hi;have:=k2 k hk;rw[O9] at this;rw[Nat.add_assoc,this];exact k3.2 k (by rw[←k3.1,k1];exact hk)
end
section
variable {P : Program} {t : TypeId} {H : Type} {enc : TypeId × Value -> H} {w : World} {base : Nat} {spare : Nat -> Bool} {held : Bool} {v : Value} {d : DataW H} {p : List MemPlace} {r : Reach} {b0 : Nat} {g : List D -> Prop}
theorem abv(h:Opn P t g)(hv: ∃cs,v= .agg cs)(hd:DataW.Trod enc P w base spare held t v d p): ∃ds,g ds/\R w [] (.agg (ds.map .d)) v:=by
 obtain⟨cs,rfl⟩:=hv;obtain⟨fuel,hf⟩:=hd;obtain⟨ds,h1,h2⟩:=h _ _ _ _ _ _ _ _ _ hf;refine⟨ds,h1,.agg cs (by have:=h2.1;grind [Value.cells]) fun k hk=> ?_⟩;have hk':k<ds.length:=ai;have:=h2.2 k hk';have e1:(ds.map AV.d).getD k .undef=AV.d (ds.getD k default):=ai;rw[e1];refine .d ?_;grind [Value.cells,Array.getD_eq_getD_getElem?]
theorem vR{x}(hs:P.underlying t=some (.struct x))(h:Opn P t g)(hv:Value.okWide P w r b0 t v)(hd:DataW.Trod enc P w base spare held t v d p): ∃ds,g ds/\R w [] (.agg (ds.map .d)) v:=by
 obtain⟨cs,rfl,_⟩:=okWide_struct hs hv;exact abv h ⟨cs,rfl⟩ hd
theorem abu(hc:v.cells= #[v]){x:D->Prop}(h:Opn P t fun ds=> ∃y,ds=[y]/\x y)(hd:DataW.Trod enc P w base spare held t v d p): ∃y,x y/\R w [] (.d y) v:=by
 obtain⟨fuel,hf⟩:=hd;rw[hc] at hf;obtain⟨ds,⟨y,rfl,hx⟩,h2⟩:=h _ _ _ _ _ _ _ _ _ hf;exact⟨y,hx,.d (h2.2 0 an)⟩
theorem zX{e}{x:D->Prop}(ht:P.underlying t=some (.slice e))(h:Opn P t fun ds=> ∃y,ds=[y]/\x y)(hv:Value.okWide P w r b0 t v)(hd:DataW.Trod enc P w base spare held t v d p): ∃y,x y/\R w [] (.d y) v:=by
 obtain⟨a,len,cap,rfl⟩:=okWide_slice ht hv;exact abu rfl h hd
end
theorem Rs.cons{w x v xs vs}(h:R w [] x v)(t:Rs w [] xs vs.toArray):Rs w [] (x::xs) (v::vs).toArray:=
 ⟨by have:=t.1;grind,fun k hk=>by
  cases k with
  |zero=>simp_all
  |succ k=>have:=t.2 k ai;simp_all⟩
end Go.aI
