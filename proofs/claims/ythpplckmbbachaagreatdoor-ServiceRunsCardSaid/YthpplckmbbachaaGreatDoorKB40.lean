/- Lemmas, no conditions. -/
import Derived.Test.YthpplckmbbachaaGreatDoorKB39
set_option linter.unusedSimpArgs false
set_option linter.unusedVariables false
set_option maxHeartbeats 1000000
set_option maxRecDepth 100000
namespace Go.Proofs.YthpplckmbbachaaGreatDoor
open Go.aI Go.bI Go.Proofs.Tryz
variable (σ : List aZ)
theorem UT{b}(h: ∀k,k<b.nc->ei (b.gc k)=true):nV b=false:=by
 grind [nV,vS]
theorem UU{b k}(hk:k<b.nc)(h:ei (b.gc k)=false):nV b=true:=by
 grind [nV,dw]
def FN(b:Bx):Bool:=gD b.ID 1 1073741824&&gD b.Width 1 10000&&gD b.Room 1 b.Width&&gD b.bH 0 7
theorem abi{b}(h:FN b=false):sX b=2:=by
 grind [rz,FN,sX]
theorem abj{b k}(hk:k<b.nc)(h:ei (b.gc k)=false):sX b=2:=by
 grind [rz,UU,sX]
theorem abh{b}(h:FN b=true)(hc: ∀k,k<b.nc->ei (b.gc k)=true):rz b=true:=by
 grind [rz,FN,UT]
theorem q9(c):ak prog 164 [.agg (c.enc.map .d)] σ (.d (B (ei c))):=by
 refine ak.bt func164 ?_;refine af ?_;simp[go_sem,ei,gD,Bool.and_assoc]<;>omega
theorem xp(b:Bx)(hn:b.nc<=1000000)(hg: ∀i,i<b.nc->ei (b.gc i)=true):ak prog 165 [.agg (b.enc.map .d)] σ (.d (I (tb b.gc b.nc))):=by
 have hb:=IF hg;refine ak.bt func165 ?_;refine mA (α:=Nat) true [3,7,8,9] (fun i=>[(9,.d (I i)),(3,.d (I (tb b.gc i)))]) (fun i=>σ++[.var (b.enc.map .d)]) (fun i=>i<=b.nc) (fun i=>b.nc-i) 0 (by simp[go_sem,tb]) (rfl) an ?_;rintro i hi;have hb1:=hb i aa;simp[go_sem];refine km [3,7,8,9] ?_ ?_<;>intro c0 d0
 ·have hb2:=hb (i+1) aa;rw[tb] at hb2;refine wC ?_;repeat refine⟨aa,?_⟩
  refine bF (i+1) aa (h:=by simp[go_sem,tb]<;>omega) (hσ:=aP) (hb:=ae au)
 ·obtain rfl:i=b.nc:=by omega
  refine wF ?_;exact af so
theorem GD(b)(hn:b.nc<=1000000):ak prog 147 [.agg (b.enc.map .d)] σ (.d (I (sX b))):=by
 refine ak.bt func147 ?_;refine km [1] ?_ ?_<;>intro c0 d0
 ·have hz:sX b=2:=abi (by
   grind [FN,bO])
  exact sx hz
 ·have hfl:FN b=true:=by grind [FN,bO]
  simp[go_sem];refine dm (α:=Nat) true [1,46,47,48] (fun i=>[(48,.d (I i))]) (fun i=>σ++[.var (b.enc.map .d)]) (fun i=>i<=b.nc/\∀k,k<i->ei (b.gc k)=true) (fun i=>b.nc-i) 0 ?_ (hx:=⟨aa,fun k hk=>absurd hk (Nat.not_lt_zero _)⟩);rintro i ⟨hi,hx⟩;simp[go_sem];refine km [1,46,47,48] ?_ ?_<;>intro c1 d1
  ·refine wB ?_;refine az.mk (q9 _ (b.gc i)) (sm ?_);refine km [1,46,47,48] ?_ ?_<;>intro c2 d2
   ·have hz:sX b=2:=abj (k:=i) d1 ai;exact sx hz
   ·refine wC ?_;refine bF (i+1) ⟨aa,fun k hk=>ai⟩ (h:=aR) (hσ:=aP) (hb:=ae au)
  ·obtain rfl:i=b.nc:=by omega
   have hk:=abh hfl hx;refine wF ?_;refine km [1] ?_ ?_<;>intro c3 d3
   ·have hz:sX b=8:=by grind [sX]
    exact sx hz
   ·simp[go_sem];refine T.dr 5 fun K hK=>sm ?_;refine bK.mk (xp _ b hn hx) (sm ?_);refine hK _ ?_;refine go true (sm ?_);refine km [] ?_ ?_<;>intro c4 d4
    ·have hz:sX b=12:=by grind [sX]
     exact sx hz
    ·have hz:sX b=0:=by grind [sX]
     exact sx hz
theorem q8(b:Bx)(u)(hn:b.nc<1000000000):ak prog 148 [.agg (b.enc.map .d),.d (I u)] σ (.d (I (kY b.gc u b.nc))):=by
 refine ak.bt func148 ?_;refine mA (α:=Nat) true [1,5,9,10,11] (fun i=>[(11,.d (I i)),(5,.d (I (kY b.gc u i)))]) (fun i=>σ++[.var (b.enc.map .d)]) (fun i=>i<=b.nc) (fun i=>b.nc-i) 0 (by simp[go_sem,kY]) (rfl) an ?_;rintro i hi;simp[go_sem];refine km [1,5,9,10,11] ?_ ?_<;>intro c0 d0
 ·refine wB ?_;refine km [1,5,9,10,11] ?_ ?_<;>intro c1 d1
  ·have hs:kY b.gc u (i+1)=kY b.gc u i+1:=by grind [kY]
   have hw1:=wrap_succ (i:=kY b.gc u i) (by grind [Sq]);simp(disch:=first|omega|simp) [go_sem,hw1,aS];refine bF (i+1) aa (h:=mr) (hσ:=aP) (hb:=ae au)
  ·have hs:kY b.gc u (i+1)=kY b.gc u i:=by grind [kY]
   refine wC ?_;refine bF (i+1) aa (h:=mr) (hσ:=aP) (hb:=ae au)
 ·obtain rfl:i=b.nc:=by omega
  refine wF ?_;exact af so
theorem gO(c n g)(hn:n<1000000000)(hN: ∀i,i<n->(g i).nc<=1000000):ak prog 68 [.d (SL c 5 Bx.enc n g)] σ (.d (I (bW n g))):=by
 refine ak.bt func68 ?_;refine km [0] ?_ ?_<;>intro c0 d0
 ·have hz:bW n g=8:=by grind [bW]
  exact sx hz
 ·have hz:bW n g=uf g 0 [] (n-0):=by grind [bW]
  simp[go_sem];refine dm (α:=Nat) true [0,13,14,15] (fun i=>[(15,.d (I i))]) (fun i=>_) (fun i=>i<=n/\∃ks,Seen g i ks/\bW n g=uf g i ks (n-i)) (fun i=>n-i) 0 ?_ (hx:=⟨an,[],acZ g,ai⟩);rintro i ⟨hi,ks,hS,hx⟩;simp[go_sem];refine km [0,13,14,15] ?_ ?_<;>intro c1 d1
  ·have hst:=Ih (g:=g) (ks:=ks) d1;refine wB ?_;refine az.mk (GD _ (g i) (hN i d1)) ?_;simp[go_sem];refine km [0,3,4,5,13,14,15] ?_ ?_<;>intro c2 d2
   ·have hz:bW n g=sX (g i):=ai;exact sx hz
   ·simp[go_sem];refine T.dr 13 fun K hK=> ?_;simp[go_sem,aT (i:=i) aa];refine wZ hK ?_;refine km [0,3,4,13,14,15] ?_ ?_<;>intro c3 d3
    ·have hz:bW n g=5:=ai;exact sx hz
    ·simp[go_sem];refine dm (α:=Nat) true [0,3,4,13,14,15,39,40,41] (fun q=>[(41,.d (I q))]) (fun q=>σ++[.var ((g i).enc.map .d)]) (fun q=>q<=(g i).nc/\∀k,k<q->kY (g i).gc ((g i).gc k).Unit (g i).nc<=1/\∀x,x<i->kY (g x).gc ((g i).gc k).Unit (g x).nc=0) (fun q=>(g i).nc-q) 0 ?_ (hx:=⟨an,fun k hk=>absurd hk (Nat.not_lt_zero _)⟩);rintro q ⟨hq,hy⟩;simp[go_sem];refine km [0,3,4,13,14,15,39,40,41] ?_ ?_<;>intro c4 d4
     ·refine wB ?_;refine az.mk (q8 _ (g i) ((g i).gc q).Unit ai) ?_;simp[go_sem];refine km [0,3,4,7,13,14,15,39,40,41] ?_ ?_<;>intro c5 d5
      ·have hz:bW n g=6:=by grind [Hl]
       exact sx hz
      ·refine wB ?_;refine dm (α:=Nat) true [0,3,4,7,13,14,15,39,40,41,52,53,54] (fun y=>[(54,.d (I y))]) (fun y=>σ++[.var ((g i).enc.map .d),.var (((g i).gc q).enc.map .d)]) (fun y=>y<=i/\∀x,x<y->kY (g x).gc ((g i).gc q).Unit (g x).nc=0) (fun y=>i-y) 0 ?_ (hx:=⟨an,fun x hx=>absurd hx (Nat.not_lt_zero _)⟩);rintro y ⟨hyi,hv⟩;simp[go_sem];refine km [0,3,4,7,13,14,15,39,40,41,52,53,54] ?_ ?_<;>intro c6 d6
       ·refine wB ?_;refine az.mk (q8 _ (g y) ((g i).gc q).Unit ai) ?_;simp[go_sem];refine km [0,3,4,7,13,14,15,39,40,41,52,53,54] ?_ ?_<;>intro c7 d7
        ·have hz:bW n g=6:=by grind [Hl]
         exact sx hz
        ·refine wC ?_;refine bF (y+1) ⟨aa,fun x hx=>ai⟩ (h:=aR) (hσ:=aP) (hb:=ae au)
       ·refine wR ?_;refine wI ?_;refine bF (q+1) ⟨aa,fun k hk=>ai⟩ (h:=by simp[go_sem,wS q ai]<;>omega) (hσ:=aP) (hb:=ae au)
     ·obtain⟨Nv,hcg,hS2⟩:=Wd hS (fun k hk=>hy k aa);refine wT ?_;refine bF (i+1) ⟨aa,Nv,hS2,ai⟩ (h:=aR)
  ·have hz:bW n g=0:=by simp_all [uf]
   refine wR ?_;exact sx hz
theorem gN(c n g k)(hn:n<1000000000):ak prog 155 [.d (SL c 5 Bx.enc n g),.d (I k)] σ (.d (I (hZ n g k))):=by
 refine ak.bt func155 ?_;refine dm (α:=Nat) true [1,7,8,9] (fun i=>[(9,.d (I i))]) (fun i=>_) (fun i=>i<=n/\hZ n g k=idxFrom (fun b:Bx=>b.ID==k) ((lst n g).drop i) i) (fun i=>n-i) 0 ?_ (hx:=⟨aa,rfl⟩);rintro i ⟨hi,hx⟩;simp[go_sem];refine km [1,7,8,9] ?_ ?_<;>intro c0 d0
 ·rw[bU d0,idxFrom] at hx;refine wB ?_;refine km [1,5,7,8,9] ?_ ?_<;>intro c1 d1
  ·rw[if_pos ai] at hx;exact sx hx
  ·refine wC ?_;refine bF (i+1) ⟨aa,ai⟩ (h:=aR)
 ·rw[bV d0,idxFrom] at hx;refine wF ?_;exact sy hx
theorem se(c n g k)(hn:n<1000000000):ak prog 156 [.d (SL c 4 l4.enc n g),.d (I k)] σ (.d (I (ky n g k))):=by
 refine ak.bt func156 ?_;refine dm (α:=Nat) true [1,7,8,9] (fun i=>[(9,.d (I i))]) (fun i=>_) (fun i=>i<=n/\ky n g k=idxFrom (fun s:l4=>s.ID==k) ((lst n g).drop i) i) (fun i=>n-i) 0 ?_ (hx:=⟨aa,rfl⟩);rintro i ⟨hi,hx⟩;simp[go_sem];refine km [1,7,8,9] ?_ ?_<;>intro c0 d0
 ·rw[bU d0,idxFrom] at hx;refine wB ?_;refine km [1,5,7,8,9] ?_ ?_<;>intro c1 d1
  ·rw[if_pos ai] at hx;exact sx hx
  ·refine wC ?_;refine bF (i+1) ⟨aa,ai⟩ (h:=aR)
 ·rw[bV d0,idxFrom] at hx;refine wF ?_;exact sy hx
theorem po(c n g)(hn:n<1000000000):ak prog 69 [.d (SL c 4 l4.enc n g)] σ (.d (I (dp n g))):=by
 refine ak.bt func69 ?_;refine km [0] ?_ ?_<;>intro c0 d0
 ·have hz:dp n g=8:=by grind [dp]
  exact sx hz
 ·have hz:dp n g=aA (oN g) 0 (n-0):=by grind [dp]
  simp[go_sem];refine dm (α:=Nat) true [0,8,9,10] (fun i=>[(10,.d (I i))]) (fun i=>_) (fun i=>i<=n/\dp n g=aA (oN g) i (n-i)) (fun i=>n-i) 0 ?_ (hx:=⟨an,ai⟩);rintro i ⟨hi,hx⟩;simp[go_sem];refine km [0,8,9,10] ?_ ?_<;>intro c1 d1
  ·have hst:=jm (e:=oN g) d1;refine wB ?_;refine km [0,3,4,8,9,10] ?_ ?_<;>intro c2 d2
   ·have hk:xb (g i)=false:=by
     grind [xb,bO]
    have he:oN g i=2:=by grind [oN]
    simp[go_sem];rw[hx,hst,he];exact af sc
   ·have hk:xb (g i)=true:=by grind [xb,bO]
    simp[go_sem];refine T.dr 13 fun K hK=> ?_;simp[go_sem,aT (i:=i) aa];refine wZ hK ?_;refine km [0,8,9,10] ?_ ?_<;>intro c3 d3
    ·have he:oN g i=5:=by grind [oN]
     simp[go_sem];rw[hx,hst,he];exact af sc
    ·have he:oN g i=0:=by grind [oN]
     refine wC ?_;refine bF (i+1) ⟨aa,ai⟩ (h:=aR)
  ·have hz:dp n g=0:=by grind [lg]
   refine wR ?_;exact sx hz
theorem q7(p):ak prog 228 [.agg (p.enc.map .d)] σ (.d (B (ey p))):=by
 refine ak.bt func228 ?_;refine km [1] ?_ ?_<;>intro c0 d0
 ·simp[go_sem];refine af (sm ?_);grind [ey,fc,gD]
 ·simp[go_sem];refine af (sm ?_);grind [ey]
theorem GB(c n g b)(hn:n<1000000000):ak prog 229 [.d (SL c 6 hY.enc n g),.d (I b)] σ (.agg ((bE g b n).enc.map .d)):=by
 refine ak.bt func229 ?_;refine mA (α:=Nat) true [1,4,5,9,10,11] (fun i=>[(11,.d (I i))]) (fun i=>σ++[.var [.d (I 0),.d (I 0)],.var ((bE g b i).enc.map .d)]) (fun i=>i<=n) (fun i=>n-i) 0 au (rfl) an ?_;rintro i hi;simp[go_sem];refine km [1,4,5,9,10,11] ?_ ?_<;>intro c0 d0
 ·refine wB ?_;refine km [1,4,5,7,9,10,11] ?_ ?_<;>intro c1 d1
  ·have hs:bE g b (i+1)=(g i).To:=by grind [bE]
   refine wC ?_;refine bF (i+1) aa (h:=aR) (hσ:=aP) (hb:=ae au)
  ·have hs:bE g b (i+1)=bE g b i:=by grind [bE]
   refine wC ?_;refine bF (i+1) aa (h:=aR) (hσ:=aP) (hb:=ae au)
 ·obtain rfl:i=n:=by omega
  refine wF ?_;exact af so
theorem uH(c n g m)(hn:n<1000000000):ak prog 149 [.d (SL c 6 hY.enc n g),.agg (m.enc.map .d)] σ (.d (I (nj n g m))):=by
 have hwp:=aT (i:=n) aa;refine ak.bd true func149 fun hwf=> ?_;simp[go_sem];refine cE.mk' (.d (B (ey m.From))) (fun _=>q7 _ m.From) ?_;simp[go_sem];refine cE.mk' (.d (B (ey m.To))) (fun _=>q7 _ m.To) ?_;simp[go_sem];refine km [0,3] ?_ ?_<;>intro c0 d0
 ·have hz:nj n g m=2:=by
   grind [nj,gW,fc,gD]
  exact sx hz
 ·have hf:(gW m.Day&&fc m.Box&&ey m.From&&ey m.To)=true:=by
   grind [gW,fc,gD]
  simp[go_sem];refine km [0,3] ?_ ?_<;>intro c1 d1
  ·have hz:nj n g m=1:=by unfold nj;rw[if_neg ai,if_pos (by rcases h1:m.From with⟨a,b⟩;simp_all)]
   exact sx hz
  ·have hne:m.From≠m.To:=fun h=>by grind
   simp[go_sem];refine T.dr 15 fun K hK=> ?_;simp[go_sem,hwp];refine wZ hK ?_;refine km [0,3] ?_ ?_<;>intro c2 d2
   ·have hz:nj n g m=5:=by grind [nj]
    exact sx hz
   ·simp[go_sem];refine T.dr 7 fun K hK=> ?_;simp[go_sem];refine bK.mk (GB _ c n g m.Box hn) ?_;refine wg hK ?_;refine km [] ?_ ?_<;>intro c3 d3
    ·have hz:nj n g m=10:=by grind [nj]
     exact sx hz
    ·have hpl:bE g m.Box n=m.From:=by rcases h1:m.From with⟨a,b⟩;rcases h2:bE g m.Box n with⟨a',b'⟩;simp_all
     have hz:nj n g m=0:=by grind [nj]
     exact sx hz
theorem sb(c n g)(hn:n<1000000000):ak prog 70 [.d (SL c 6 hY.enc n g)] σ (.d (I (bX n g))):=by
 refine ak.bt func70 ?_;refine km [0] ?_ ?_<;>intro c0 d0
 ·have hz:bX n g=8:=by grind [bX,bo]
  exact sx hz
 ·have hz:bX n g=(cX g 0 vw (n-0)).1:=by grind [bX,bo]
  simp[go_sem];refine dm (α:=Nat) true [0,9,10,11] (fun i=>[(11,.d (I i))]) (fun i=>_) (fun i=>i<=n/\∃s,BF g i s/\bX n g=(cX g i s (n-i)).1) (fun i=>n-i) 0 ?_ (hx:=⟨an,vw,Se g,ai⟩);rintro i ⟨hi,s,hS,hx⟩;simp[go_sem];refine km [0,9,10,11] ?_ ?_<;>intro c1 d1
  ·have hst:=EJ (g:=g) (s:=s) d1;refine wB ?_;refine T.dr 5 fun K hK=>sm ?_;repeat refine⟨aa,?_⟩
   refine bK.mk (uH _ _ i g (g i) aa) (sm ?_);refine hK _ ?_;refine go true (sm ?_);refine km [0,5,9,10,11] ?_ ?_<;>intro c2 d2
   ·have hz:bX n g=nj i g (g i):=by grind [CO]
    exact sx hz
   ·refine wC ?_;refine bF (i+1) ⟨aa,kV s (g i),EU hS (by grind [CO]),by grind [CO]⟩ (h:=aR)
  ·have hz:bX n g=0:=by simp_all [cX]
   refine wF ?_;exact sy hz
theorem WZ(r):(fc r.ID&&fc r.Reader&&fc r.Unit&&fc r.Box&&gW r.Day&&decide (1<=r.State)&&decide (r.State<=5)&&decide (r.Day<=r.Changed)&&decide (r.Changed<=1048575)&&(r.State !=1||r.Changed==r.Day))=lx r:=by
 unfold lx;cases h:gW r.Day
 ·simp
 ·have h1:0<=r.Day:=by unfold gW at h;rw[bO] at h;exact h.1
  by_cases h2:r.Day<=r.Changed
  ·have:gW r.Changed=decide (r.Changed<=1048575):=by unfold gW gD;rw[Bool.eq_iff_iff];simp;omega
   rw[this]
  ·simp[h2]
theorem fw(n):ak prog 168 [.d (I n)] σ (.d (B (fc n))):=by
 refine ak.bt func168 ?_;refine af ?_;simp[go_sem,fc,gD]<;>omega
theorem xo(n):ak prog 169 [.d (I n)] σ (.d (B (gW n))):=by
 refine ak.bt func169 ?_;refine af ?_;simp[go_sem,gW,gD]<;>omega
theorem oP(r):ak prog 151 [.agg (r.enc.map .d)] σ (.d (B (gB r))):=by
 refine ak.bt func151 ?_;refine af ?_;simp[go_sem,gB]<;>omega
theorem Gy(r):ak prog 150 [.agg (r.enc.map .d)] σ (.d (B (lx r))):=by
 refine ak.bt func150 ?_;refine az.mk (fw _ _) (sm ?_);refine cE.mk (fw _ _) (sm ?_);refine cE.mk (fw _ _) (sm ?_);refine cE.mk (fw _ _) (sm ?_);refine cE.mk (xo _ _) (sm ?_);refine af (sm ?_);exact WZ r
theorem jG(c n g)(hn:n<1000000000):ak prog 71 [.d (SL c 7 cT.enc n g)] σ (.d (I (cr n g))):=by
 refine ak.bt func71 ?_;refine dH [0] ?_ ?_<;>intro d0
 ·have hz:cr n g=8:=by unfold cr;rw[if_pos aa]
  exact sx hz
 ·have hz:cr n g=aA (iD g) 0 (n-0):=by unfold cr;rw[if_neg aa];rfl
  simp[go_sem];refine dm (α:=Nat) true [0,12,13,14] (fun i=>[(14,.d (I i))]) (fun i=>_) (fun i=>i<=n/\cr n g=aA (iD g) i (n-i)) (fun i=>n-i) 0 ?_ (hx:=⟨an,by simpa using hz⟩);rintro i ⟨hi,hx⟩;refine gc [0,12,13,14] ?_ ?_<;>intro d1
  ·have hst:=jm (e:=iD g) d1;refine wB ?_;refine az.mk (Gy _ (g i)) ?_;refine gc [0,3,4,12,13,14] ?_ ?_<;>intro d2
   ·have he:iD g i=2:=by unfold iD;rw[if_pos o9]
    simp[go_sem];rw[hx,hst,he];exact af sc
   ·simp[go_sem];refine T.dr 24 fun K hK=> ?_;simp[go_sem,aT (i:=i) aa];refine wK hK ?_;refine gc [0,3,4,12,13,14] ?_ ?_<;>intro d3
    ·have he:iD g i=5:=by unfold iD;rw[if_neg o9,if_pos aa]
     simp[go_sem];rw[hx,hst,he];exact af sc
    ·refine wB ?_;refine dm (α:=Nat) true [0,3,4,12,13,14,48,49,50] (fun q=>[(50,.d (I q))]) (fun q=>_) (fun q=>q<=i/\∀k,k<q->(g i).State=2->py (g i).Box (g k)=false) (fun q=>i-q) 0 ?_ (hx:=⟨aa,fun k hk=>absurd hk (Nat.not_lt_zero _)⟩);rintro q ⟨hq,hy⟩;refine gc [0,3,4,12,13,14,48,49,50] ?_ ?_<;>intro d4
     ·refine wB ?_;refine dH [0,3,4,12,13,14,48,49,50] ?_ ?_<;>intro d5
      ·have he:iD g i=11:=by unfold iD;rw[if_neg o9,if_neg aa,if_pos ⟨aa,dw.2 ⟨q,d4,by simp[py];omega⟩⟩]
       simp[go_sem];rw[hx,hst,he];exact af sc
      ·refine wC ?_;refine bF (q+1) ⟨aa,fun k hk h9=>by by_cases h:k=q;(subst h;simp[py];omega);exact hy k aa h9⟩ (h:=aR)
     ·refine wL ?_;repeat refine⟨aa,?_⟩
      refine dm (α:=Nat) true [0,4,12,13,14,72,73,74] (fun y=>[(74,.d (I y))]) (fun y=>_) (fun y=>y<=i/\∀k,k<y->gB (g i)=true->x7 (g i).Reader (g i).Unit (g k)=false) (fun y=>i-y) 0 ?_ (hx:=⟨aa,fun k hk=>absurd hk (Nat.not_lt_zero _)⟩);rintro y ⟨hyi,hv⟩;refine gc [0,4,12,13,14,72,73,74] ?_ ?_<;>intro d6
      ·refine wB ?_;refine az.mk (oP _ (g y)) ?_;simp[go_sem];refine cE.mk' (.d (B (gB (g i)))) (fun _=>oP _ (g i)) ?_;refine gc [0,4,12,13,14,72,73,74] ?_ ?_<;>intro d7
       ·have he:iD g i=6:=by unfold iD;rw[if_neg o9,if_neg aa,if_neg abC,if_pos (by simp_all;exact dw.2 ⟨y,d6,by simp_all [x7]⟩)]
        simp[go_sem];rw[hx,hst,he];exact af sc
       ·refine wC ?_;refine bF (y+1) ⟨aa,fun k hk h9=>by by_cases h:k=y;(subst h;simp_all [x7]);exact hv k aa h9⟩ (h:=aR)
      ·have he:iD g i=0:=by
        unfold iD;rw[if_neg o9,if_neg aa,if_neg abC,if_neg (by rintro⟨h1,h2⟩;obtain⟨k,h3,h4⟩:=dw.1 h2;exact absurd h4 (by rw[hv k aa h1];simp))]
       refine wT ?_;refine bF (i+1) ⟨aa,by rw[hx,hst,if_neg (by simp[he])]⟩ (h:=aR)
  ·have hz:cr n g=0:=by rw[hx,lg aa]
   refine wR ?_;exact sx hz
theorem uF(c n g d)(hn:n<1000000000):ak prog 232 [.d (SL c 4 ju.enc n g),.d (I d)] σ (.d (I (dC g d n))):=by
 refine ak.bt func232 ?_;refine mA (α:=Nat) true [1,5,8,9,10] (fun i=>[(10,.d (I i)),(5,.d (I (dC g d i)))]) (fun i=>_) (fun i=>i<=n) (fun i=>n-i) 0 (by simp[go_sem,dC]) (rfl) an ?_;rintro i hi;refine gc [1,5,8,9,10] ?_ ?_<;>intro d0
 ·refine wB ?_;refine az.mk (fj _ (g i).In) (sm ?_);refine km [1,5,8,9,10] ?_ ?_<;>intro c1 d1
  ·have hs:dC g d (i+1)=dC g d i+1:=by rw[dC,if_pos (by simpa[M3,show kv=jA from rfl] using c1)]
   have hw1:=wrap_succ (i:=dC g d i) (by have:=sw g d i;omega);simp(disch:=first|omega|simp) [go_sem,hw1,aS];refine bF (i+1) aa (h:=mr)
  ·have hs:dC g d (i+1)=dC g d i:=by rw[dC,if_neg (by simpa[M3,show kv=jA from rfl] using c1)]
   refine wC ?_;refine bF (i+1) aa (h:=mr)
 ·obtain rfl:i=n:=by omega
  refine wF ?_;exact af so
theorem Gx(a b):ak prog 231 [.agg (a.enc.map .d),.agg (b.enc.map .d)] σ (.d (B (uV a b))):=by
 refine ak.bt func231 ?_;refine af ?_;simp[go_sem,uV]<;>omega
theorem uE(k c n g b)(hn:n<100000000)(hs: ∀i,i<n->kv (g i).In=true):ak prog 152 [.d (I k),.d (SL c 4 ju.enc n g),.agg (b.enc.map .d)] σ (.d (I (pS k n g b))):=by
 have hwp:=aT (i:=n) aa;have hfe:=aas (k:=k) (s:=b.In) hs;have hw0:=wrap_succ (i:=dC g b.In.From n) (by have:=sw g b.In.From n;omega);refine ak.bd true func152 fun hwf=> ?_;simp[go_sem];refine cE.mk' (.d (B (kv b.In))) (fun _=>fj _ b.In) ?_;refine gc [0,1,5] ?_ ?_<;>intro d0
 ·have hz:pS k n g b=2:=by unfold pS fc gD;rw[if_pos (by cases h:kv b.In<;>simp_all<;>omega)]
  exact sx hz
 ·have hz0: ¬(fc b.ID=false\/fc b.Reader=false\/kv b.In=false):=by unfold fc gD;cases h:kv b.In<;>simp_all<;>omega
  simp[go_sem];refine T.dr 15 fun K hK=> ?_;simp[go_sem,hwp];refine wK hK ?_;refine gc [0,1,5] ?_ ?_<;>intro d1
  ·have hz:pS k n g b=5:=by unfold pS;rw[if_neg hz0,if_pos aa]
   exact sx hz
  ·simp[go_sem];refine mA (α:=Nat) true [0,1,5,50,51,52] (fun q=>[(52,.d (I q))]) (fun q=>_) (fun q=>q<=n/\∀j,j<q->(g j).Reader=b.Reader->uV (g j).In b.In=false) (fun q=>n-q) 0 au (rfl) (⟨aa,fun k hk=>absurd hk (Nat.not_lt_zero _)⟩) ?_;rintro q ⟨hq,hy⟩;refine gc [0,1,5,50,51,52] ?_ ?_<;>intro d2
   ·refine wB ?_;refine cE.mk' (.d (B (uV (g q).In b.In))) (fun _=>Gx _ (g q).In b.In) ?_;refine gc [0,1,5,50,51,52] ?_ ?_<;>intro d3
    ·have hz:pS k n g b=6:=by unfold pS;rw[if_neg hz0,if_neg aa,if_pos (by unfold FO;exact dw.2 ⟨q,d2,o8⟩)]
     exact sx hz
    ·refine wC ?_;refine bF (q+1) ⟨aa,fun j hj h9=>by by_cases h:j=q;(subst h;simpa[h9] using d3);exact hy j aa h9⟩ (h:=aR)
   ·have hbz: ¬FO n g b.Reader b.In=true:=by unfold FO;rw[Bool.not_eq_true];exact vS.2 fun j hj=>by by_cases h:(g j).Reader=b.Reader;(simp[h,hy j aa h]);(simp[h])
    refine wR ?_;refine wI ?_;refine az.mk (uF _ c n g b.In.From aa) ?_;simp(disch:=first|omega|simp) [go_sem,hw0];refine dH [0,1,5] ?_ ?_<;>intro d4
    ·have hz:pS k n g b=12:=by unfold pS;rw[if_neg hz0,if_neg aa,if_neg hbz,if_pos (by rw[hfe];unfold L8;rw[Bool.or_eq_true];left;simp;omega)]
     exact sx hz
    ·simp[go_sem];refine mA (α:=Nat) true [0,1,5,77,78,79] (fun y=>[(79,.d (I y))]) (fun y=>_) (fun y=>y<=n/\∀j,j<y->b.In.From<=(g j).In.From->(g j).In.From<b.In.Until->(dC g (g j).In.From n:Int)<k) (fun y=>n-y) 0 au (rfl) (⟨aa,fun k hk=>absurd hk (Nat.not_lt_zero _)⟩) ?_;rintro y ⟨hyn,hv⟩;refine gc [0,1,5,77,78,79] ?_ ?_<;>intro d5
     ·have hw2:=wrap_succ (i:=dC g (g y).In.From n) (by have:=sw g (g y).In.From n;omega);refine wI ?_;repeat refine⟨aa,?_⟩
      refine cE.mk' (.d (I (dC g (g y).In.From n))) (fun _=>uF _ c n g (g y).In.From aa) ?_;simp(disch:=first|omega|simp) [go_sem,hw2];refine dH [0,1,5,77,78,79] ?_ ?_<;>intro d6
      ·have hz:pS k n g b=12:=by unfold pS;rw[if_neg hz0,if_neg aa,if_neg hbz,if_pos (by rw[hfe];unfold L8;rw[Bool.or_eq_true];right;exact dw.2 ⟨y,d5,K4⟩)]
       exact sx hz
      ·refine wC ?_;refine bF (y+1) ⟨aa,fun j hj h1 h2=>by by_cases h:j=y;(subst h;have:=d6 h1 h2;omega);exact hv j aa h1 h2⟩ (h:=aR)
     ·have hz:pS k n g b=0:=by
       unfold pS;rw[if_neg hz0,if_neg aa,if_neg hbz,if_neg];rw[hfe];unfold L8;rw[Bool.or_eq_true];rintro(h|h)
       ·simp at h;omega
       ·obtain⟨j,hj,h⟩:=dw.1 h;simp at h;have:=hv j aa h.1.1 h.1.2;omega
      refine wR ?_;exact sx hz
theorem sa(k c n g)(hn:n<100000000):ak prog 72 [.d (I k),.d (SL c 4 ju.enc n g)] σ (.d (I (dM k n g))):=by
 refine ak.bt func72 ?_;refine dH [0,1] ?_ ?_<;>intro d0
 ·have hz:dM k n g=1:=by unfold dM;rw[if_pos aa]
  exact sx hz
 ·refine gc [0,1] ?_ ?_<;>intro d1
  ·have hz:dM k n g=8:=by unfold dM;rw[if_neg aa,if_pos aa]
   exact sx hz
  ·have hz:dM k n g=aA (fun i=>pS k i g (g i)) 0 (n-0):=by unfold dM;rw[if_neg aa,if_neg aa];rfl
   simp[go_sem];refine dm (α:=Nat) true [0,1,17,18,19] (fun i=>[(19,.d (I i))]) (fun i=>_) (fun i=>i<=n/\dM k n g=aA (fun i=>pS k i g (g i)) i (n-i)/\∀j,j<i->kv (g j).In=true) (fun i=>n-i) 0 ?_ (hx:=⟨aa,hz,fun k hk=>absurd hk (Nat.not_lt_zero _)⟩);rintro i ⟨hi,hx,hs⟩;refine gc [0,1,17,18,19] ?_ ?_<;>intro d2
   ·have hst:=jm (e:=fun i=>pS k i g (g i)) d2;refine wB ?_;refine T.dr 6 fun K hK=>sm ?_;repeat refine⟨aa,?_⟩
    refine bK.mk (uE _ k _ i g (g i) aa hs) (sm ?_);refine hK _ ?_;refine go true (gc [0,1,7,17,18,19] ?_ ?_)<;>intro d3
    ·have hz1:dM k n g=pS k i g (g i):=by rw[hx,hst,if_pos o8]
     exact sx hz1
    ·refine wC ?_;refine bF (i+1) ⟨aa,by rw[hx,hst,if_neg o8],fun j hj=>by by_cases h:j=i;(subst h;exact SX o8);exact hs j aa⟩ (h:=aR)
   ·have hz1:dM k n g=0:=by rw[hx,lg aa]
    refine wF ?_;exact sy hz1
end Go.Proofs.YthpplckmbbachaaGreatDoor
