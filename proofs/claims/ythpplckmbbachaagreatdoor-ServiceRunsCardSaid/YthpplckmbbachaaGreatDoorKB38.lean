/- Lemmas, no conditions. -/
import Derived.Test.YthpplckmbbachaaGreatDoorKB35
import Derived.Test.YthpplckmbbachaaGreatDoorKB37
set_option linter.unusedSimpArgs false
set_option linter.unusedVariables false
set_option maxHeartbeats 2000000
set_option maxRecDepth 100000
namespace Go.Proofs.YthpplckmbbachaaGreatDoor
open Go.aI Go.bI
def kY(g:Nat->Cnt)(u:Int):Nat->Nat
 |0=>0
 |n+1=>if(g n).Unit=u then kY g u n+1 else kY g u n
theorem Sq(g u): ∀n,kY g u n<=n
 |0=>Nat.le_refl _
 |n+1=>by rw[kY];have:=Sq g u n;split<;>omega
theorem xV{g u} : ∀{n},0<kY g u n↔∃k,k<n/\(g k).Unit=u
 |0=>by simp[kY]
 |n+1=>by
  rw[kY];split
  ·grind
  ·rename_i h;rw[xV (n:=n)];grind
theorem Fa{g u} : ∀{n},1<kY g u n↔∃p q,p<q/\q<n/\(g p).Unit=u/\(g q).Unit=u
 |0=>by simp[kY]
 |n+1=>by
  rw[kY];split
  ·grind [xV]
  ·rename_i h;rw[Fa (n:=n)];constructor
   ·rintro⟨p,q,h1,h2,h3⟩;exact⟨p,q,h1,aa,h3⟩
   ·rintro⟨p,q,h1,h2,h3,h4⟩;refine⟨p,q,h1,?_,h3,h4⟩;grind
theorem Kq{g} : ∀{k i ks Nv},fW g i ks k=some Nv->(∀q,i<=q->q<i+k->Key.i (g q).Unit∉ks/\∀p,i<=p->p<q->(g p).Unit≠(g q).Unit)/\∀u,Key.i u∈Nv↔(Key.i u∈ks\/∃q,i<=q/\q<i+k/\(g q).Unit=u)
 |0,i,ks,Nv,h=>by
  grind [fW]
 |k+1,i,ks,Nv,h=>by
  rw[fW] at h;split at h
  ·cases h
  ·rename_i h0;obtain⟨h1,h2⟩:=Kq (k:=k) h;grind [eV]
theorem SP{g} : ∀{k i ks},fW g i ks k=none->∃q,i<=q/\q<i+k/\(Key.i (g q).Unit∈ks\/∃p,i<=p/\p<q/\(g p).Unit=(g q).Unit)
 |0,i,ks,h=>by grind [fW]
 |k+1,i,ks,h=>by
  rw[fW] at h;split at h
  ·grind
  ·rename_i h0;obtain⟨q,h1,h2,h3⟩:=SP (k:=k) h;grind [eV]
def Seen(g:Nat->Bx)(i:Nat)(ks:List Key):Prop:= ∀u,Key.i u∈ks↔∃x,x<i/\∃k,k<(g x).nc/\((g x).gc k).Unit=u
theorem acZ(g):Seen g 0 []:=fun u=>⟨fun h=>(by cases h),fun⟨x,h,_⟩=>aa⟩
theorem Wd{g i ks}(hS:Seen g i ks)(H: ∀q,q<(g i).nc->kY (g i).gc ((g i).gc q).Unit (g i).nc<=1/\∀x,x<i->kY (g x).gc ((g i).gc q).Unit (g x).nc=0): ∃Nv,fW (g i).gc 0 ks (g i).nc=some Nv/\Seen g (i+1) Nv:=by
 cases h:fW (g i).gc 0 ks (g i).nc with
 |none=>
  obtain⟨q,_,h2,h3⟩:=SP h;rw[Nat.zero_add] at h2;obtain⟨h4,h5⟩:=H q h2;rcases h3 with h3|⟨p,_,h6,h7⟩
  ·obtain⟨x,h8,k,h9,h10⟩:=(hS _).1 h3;grind [xV]
  ·have h12:=Fa.2 ⟨p,q,h6,h2,h7,rfl⟩;omega
 |some Nv=>
  refine⟨Nv,rfl,fun u=> ?_⟩;rw[(Kq h).2 u,hS u];grind
theorem Hl{g i ks}(hS:Seen g i ks){q}(hq:q<(g i).nc)(h:1<kY (g i).gc ((g i).gc q).Unit (g i).nc\/∃x,x<i/\0<kY (g x).gc ((g i).gc q).Unit (g x).nc):fW (g i).gc 0 ks (g i).nc=none:=by
 cases h0:fW (g i).gc 0 ks (g i).nc with
 |none=>rfl
 |some Nv=>
  exfalso;have h1:=(Kq h0).1;rcases h with h|⟨x,hx,h⟩
  ·grind [Fa]
  ·obtain⟨k,h2,h3⟩:=xV.1 h;exact(h1 q (Nat.zero_le _) aa).1 ((hS _).2 ⟨x,hx,k,h2,h3⟩)
def bE(g:Nat->hY)(b:Int):Nat->yK
 |0=>⟨0,0⟩
 |n+1=>if(g n).Box=b then(g n).To else bE g b n
def nj(n:Nat)(g:Nat->hY)(m:hY):Int:=if(gW m.Day&&fc m.Box&&ey m.From&&ey m.To)=false then 2 else if m.From=m.To then 1 else if 0<n/\m.Day<(g (n-1)).Day then 5 else if bE g m.Box n≠m.From then 10 else 0
structure BF(g:Nat->hY)(i:Nat)(s:Zw):Prop where
 pl: ∀b,s.pl b=bE g b i
 day:s.day=if i=0 then 0 else(g (i-1)).Day
theorem Se(g):BF g 0 vw:=⟨fun _=>rfl,rfl⟩
theorem CO{g i s}(h:BF g i s)(m):kh s m=nj i g m:=by
 unfold kh nj;rw[h.pl,h.day];grind [gW,bO]
theorem EU{g i s}(h:BF g i s)(h0:kh s (g i)=0):BF g (i+1) (kV s (g i)):=by
 unfold kV;rw[if_pos h0];refine⟨fun b=> ?_,an⟩;show xd s.pl (g i).Box (g i).To b=bE g b (i+1)
 rw[bE];unfold xd;by_cases hb:b=(g i).Box
 ·grind
 ·rw[if_neg hb,if_neg (fun e=>hb e.symm),h.pl]
theorem MS{g} : ∀{k i s},BF g i s->(cX g i s k).1=0->BF g (i+k) (cX g i s k).2
 |0,_,_,h,_=>h
 |k+1,i,s,h,h0=>by
  rw[cX] at h0⊢;split at h0
  ·grind
  ·rename_i h1;rw[if_neg h1,show i+(k+1)=i+1+k by omega];exact MS (EU h (Classical.byContradiction h1)) h0
theorem XA{n g}(h:bX n g=0):BF g n (bo n g).2:=by
 grind [bX,bo,MS,Se]
theorem MR{g} : ∀{k i s},(cX g i s k).1=0->∀q,i<=q->q<i+k->fc (g q).Box=true
 |0,i,_,_=>by grind
 |k+1,i,s,h=>by
  rw[cX] at h;split at h
  ·grind
  ·rename_i h1;intro q h2 h3;by_cases hq:q=i
   ·subst hq;exact(tu (Classical.byContradiction fun h9=>h1 h9)).2.1
   ·exact MR h q aa aa
theorem E0{g b} : ∀{n},(∀q,q<n->(g q).Box≠b)->bE g b n=⟨0,0⟩
 |0,_=>rfl
 |n+1,h=>by rw[bE,if_neg (h n aa)];exact E0 fun q hq=>h q aa
theorem nx{u}(h:bX u.nv u.gv=0)(x):aM u x=bE u.gv x u.nv:=by
 rw[JC h];split
 ·exact(XA h).pl x
 ·rename_i h1;have hn:=CU h;unfold bX bo at h;rw[if_neg aa] at h;exact(E0 fun q hq e=>h1 (by rw[←e];exact MR h q (Nat.zero_le _) aa)).symm
def L8(k:Int)(n:Nat)(g:Nat->ju)(s:Span):Bool:=decide (k<=(dC g s.From n:Int))||(lst n g).any fun x=>decide (s.From<=x.In.From)&&decide (x.In.From<s.Until)&&decide (k<=(dC g x.In.From n:Int))
theorem DK{g s d} : ∀{n},d∈rp g s n↔d=s.From\/∃x,x<n/\stP s (g x)=true/\d=(g x).In.From
 |0=>by simp[rp]
 |n+1=>by
  rw[rp];split
  ·rename_i h;rw[List.mem_append,DK (n:=n),List.mem_singleton];grind
  ·rename_i h;rw[DK (n:=n)];grind
theorem aas{k n g s}(h: ∀i,i<n->kv (g i).In=true):H2 k n g s=L8 k n g s:=by
 grind [H2,L8,dw,DK,stP]
theorem SX{k n g b}(h:pS k n g b=0):kv b.In=true:=by
 grind [pS]
theorem aea{k n g}(h:dM k n g=0): ∀i,i<n->kv (g i).In=true:=by
 grind [dM,SX,eX]
open Go.Proofs.Tryz
variable (σ : List aZ)
theorem uJ(a):ak prog 162 [.agg (a.enc.map .d)] σ (.d (B (BE a))):=by
 refine ak.bt func162 ?_;refine cE.mk (fj _ a.In) (sm ?_);refine af ?_;simp[go_sem,BE]<;>omega
theorem jJ(c n g)(hn:n<1000000000):ak prog 83 [.d (SL c 6 fM.enc n g)] σ (.d (I (dA n g))):=by
 refine ak.bt func83 ?_;refine dH [0] ?_ ?_<;>intro d0
 ·refine wA ?_;simp[go_sem,dA]<;>omega
 ·simp[go_sem];refine dm (α:=Nat) true [0,8,9,10] (fun i=>[(10,.d (I i))]) (fun i=>_) (fun i=>i<=n/\aA (rB g) 0 n=aA (rB g) i (n-i)) (fun i=>n-i) 0 ?_;rintro i ⟨hi,hx⟩;refine gc [0,8,9,10] ?_ ?_<;>intro d1
  ·obtain⟨k,hk⟩: ∃k,n-i=k+1:=⟨n-i-1,aa⟩;have hk':n-(i+1)=k:=aa;rw[hk,aA] at hx;refine wB ?_;refine az.mk (uJ _ _) ?_;refine gc [0,3,4,8,9,10] ?_ ?_<;>intro d2
   ·have he:rB g i=2:=by grind [rB]
    rw[he] at hx;simp at hx;refine wA ?_;simp[go_sem,dA,hx]<;>omega
   ·simp[go_sem];refine T.dr 13 fun K hK=> ?_;simp[go_sem,aT (i:=i) aa];refine wK hK ?_;refine gc [0,8,9,10] ?_ ?_<;>intro d3
    ·have he:rB g i=5:=by grind [rB]
     rw[he] at hx;simp at hx;refine wA ?_;simp[go_sem,dA,hx]<;>omega
    ·have he:rB g i=0:=by grind [rB]
     rw[he] at hx;simp at hx;refine wC ?_;refine bF (i+1) ⟨aa,ai⟩ (h:=aR)
  ·obtain rfl:i=n:=by omega
   rw[Nat.sub_self,aA] at hx;refine wO ?_;simp[go_sem,dA,hx]<;>omega
theorem B6(a k d):ak prog 432 [.agg (a.enc.map .d),.d (I k),.d (I d)] σ (.d (B (Iu a k d))):=by
 refine ak.bt func432 ?_;refine az.mk (uJ _ a) (sm ?_);refine af ?_;simp[go_sem,Iu]<;>omega
theorem zf(c n g k d)(hn:n<1000000000):ak prog 396 [.d (SL c 6 fM.enc n g),.d (I k),.d (I d)] σ (.d (SL none 4 Ground.enc (kD n g k d).length (nth (kD n g k d)))):=by
 refine ak.bs false func396 fun hwf=> ?_;refine go false (sm ?_);refine az.mk (jJ _ _ _ _ ai) (sm ?_);refine go false (gc [0,1,2] ?_ ?_)<;>intro d0
 ·have hz:kD n g k d=[]:=by grind [kD]
  refine wF ?_;exact sy hz
 ·have hz:kD n g k d=gather (gj g k d) n:=by grind [kD]
  simp[go_sem];refine bq 7 4 (fun i=>Ground.enc (nth ([]:List Ground) i)) au aN ?_;refine go false (sm ?_);refine go true (sm ?_);refine JQ (α:=Nat) false [1,2,7,13,14,15] [σ.length] (fun i=>[(7,.ms σ.length 4 0 (gather (gj g k d) i).length),(15,.d (I i))]) (fun i=>σ++[.arr 4 (gather (gj g k d) i).length (fun q=>Ground.enc (nth (gather (gj g k d) i) q))]) (fun i=>i<=n) (fun i=>n-i) 0 Dk (rfl) an an ?_;rintro i hi;simp[go_sem];refine go false (gc [1,2,7,13,14,15] ?_ ?_)<;>intro d1
  ·have hl:=fF (zY g k d) i;refine wB ?_;refine go false (sm ?_);refine az.mk (B6 _ _ _ _) (sm ?_);refine go false (gc [1,2,7,9,13,14,15] ?_ ?_)<;>intro d2
   ·have ha:gather (gj g k d) (i+1)=gather (gj g k d) i++[yE (g i)]:=by grind [gather,gj]
    simp[go_sem,hwf.zero];repeat refine⟨aa,?_⟩
    refine ax σ.length (fun q=>Ground.enc (nth (gather (gj g k d) i++[yE (g i)]) q)) bj (by exact fun q hq=>fH (enc:=Ground.enc) (x:=yE (g i)) rfl hq) aN ?_;refine wW ?_;refine bF (i+1) aa (h:=by simp[go_sem,ha]<;>omega) (hσ:=aP) (hb:=ae au)
   ·have ha:gather (gj g k d) (i+1)=gather (gj g k d) i:=by grind [gather,gj]
    refine wC ?_;refine bF (i+1) aa (h:=by simp[go_sem,ha]<;>omega) (hσ:=aP) (hb:=ae au)
  ·obtain rfl:i=n:=by omega
   refine wF ?_;refine bg (σ.length) bj aN eS ?_;exact sy hz
theorem B5(c n g k)(hn:n<1000000000):ak prog 241 [.d (SL c 6 fM.enc n g),.d (I k)] σ (.d (B (o4 n g k))):=by
 refine ak.bt func241 ?_;refine az.mk (jJ _ _ _ _ ai) (gc [0,1] ?_ ?_)<;>intro d0
 ·have hz:o4 n g k=false:=by grind [o4]
  exact sx hz
 ·simp[go_sem];refine dm (α:=Nat) true [1,10,11,12] (fun i=>[(12,.d (I i))]) (fun i=>_) (fun i=>i<=n/\∀q,q<i->(g q).ID≠k) (fun i=>n-i) 0 ?_;rintro i ⟨hi,hx⟩;refine gc [1,10,11,12] ?_ ?_<;>intro d1
  ·refine wB ?_;refine dH [1,6,10,11,12] ?_ ?_<;>intro d2
   ·simp[go_sem];rw[acU d0 d1 d2];exact af sc
   ·refine wC ?_;refine bF (i+1) ⟨aa,fun q hq=>ai⟩ (h:=aR)
  ·obtain rfl:i=n:=by omega
   refine wF ?_;exact sy (acT hx)
theorem oQ(a):ak prog 163 [.agg (a.enc.map .d)] σ (.d (B (sj a))):=by
 refine ak.bt func163 ?_;refine cE.mk (fj _ a.In) (sm ?_);refine af ?_;simp[go_sem,sj,kZ,Bool.and_assoc]<;>omega
theorem jI(c n g)(hn:n<1000000000):ak prog 145 [.d (SL c 6 fu.enc n g)] σ (.d (I (dq n g))):=by
 refine ak.bt func145 ?_;refine dH [0] ?_ ?_<;>intro d0
 ·refine wA ?_;simp[go_sem,dq]<;>omega
 ·simp[go_sem];refine dm (α:=Nat) true [0,8,9,10] (fun i=>[(10,.d (I i))]) (fun i=>_) (fun i=>i<=n/\aA (ql g) 0 n=aA (ql g) i (n-i)) (fun i=>n-i) 0 ?_;rintro i ⟨hi,hx⟩;refine gc [0,8,9,10] ?_ ?_<;>intro d1
  ·obtain⟨k,hk⟩: ∃k,n-i=k+1:=⟨n-i-1,aa⟩;have hk':n-(i+1)=k:=aa;rw[hk,aA] at hx;refine wB ?_;refine az.mk (oQ _ _) ?_;refine gc [0,3,4,8,9,10] ?_ ?_<;>intro d2
   ·have he:ql g i=2:=by grind [ql]
    rw[he] at hx;simp at hx;refine wA ?_;simp[go_sem,dq,hx]<;>omega
   ·simp[go_sem];refine T.dr 13 fun K hK=> ?_;simp[go_sem,aT (i:=i) aa];refine wK hK ?_;refine gc [0,8,9,10] ?_ ?_<;>intro d3
    ·have he:ql g i=5:=by grind [ql]
     rw[he] at hx;simp at hx;refine wA ?_;simp[go_sem,dq,hx]<;>omega
    ·have he:ql g i=0:=by grind [ql]
     rw[he] at hx;simp at hx;refine wC ?_;refine bF (i+1) ⟨aa,ai⟩ (h:=aR)
  ·obtain rfl:i=n:=by omega
   rw[Nat.sub_self,aA] at hx;refine wO ?_;simp[go_sem,dq,hx]<;>omega
theorem aam(c n g k)(hn:n<1000000000):ak prog 397 [.d (SL c 1 encI n g),.d (I k)] σ (.d (B ((lst n g).any fun x=>k==x))):=by
 have hq:=gE (fun x=>k==x) (lst n g) 0;refine ak.bt func397 ?_;refine dm (α:=Nat) true [1,7,8,9] (fun i=>[(9,.d (I i))]) (fun i=>_) (fun i=>i<=n/\idxFrom (fun x=>k==x) (lst n g) 0=idxFrom (fun x=>k==x) ((lst n g).drop i) i) (fun i=>n-i) 0 ?_;rintro i ⟨hi,hx⟩;refine gc [1,7,8,9] ?_ ?_<;>intro d0
 ·rw[bU d0,idxFrom] at hx;refine wB ?_;refine dH [1,7,8,9] ?_ ?_<;>intro d1
  ·refine wA ?_;rw[←hq,hx,if_pos ai];simp[go_sem]
  ·refine wC ?_;refine bF (i+1) ⟨aa,ai⟩ (h:=aR)
 ·rw[bV d0,idxFrom] at hx;refine wF ?_;rw[←hq,hx];exact af sc
theorem B4(a r c n g k d)(hn:n<1000000000):ak prog 336 [.agg (a.enc.map .d),.d (I r),.d (SL c 1 encI n g),.d (I k),.d (I d)] σ (.d (B (ye a r n g k d))):=by
 refine ak.bt func336 ?_;refine az.mk (oQ _ a) (gc [1,2,3,4,5] ?_ ?_)<;>intro d0
 ·have hz:ye a r n g k d=false:=by grind [ye,xy,JV]
  exact sx hz
 ·have hpo:=d0.1.1;have hp:=T5.1 d0.1.1;have hrow:rowsOf 1 [D.v (Value.int IntKind.i64 1),D.v (Value.int IntKind.i64 2),D.v (Value.int IntKind.i64 4)] (k.toNat-1)=[I (kd k)]:=by
   have hk:k=1\/k=2\/k=3:=aa;rcases hk with rfl|rfl|rfl<;>rfl
  have hkd:1<=kd k/\kd k<=4:=by grind [kd]
  have hwk:IntKind.i64.wrap (k-1)=k-1:=aS aa aa;have hb:=aah hp.2.2.2.2.2.2.1 hp.2.2.2.2.2.2.2.1 d0.1.2 d0.2;simp[go_sem];refine T.dr 36 fun K hK=> ?_;simp[go_sem];refine bK.mk (aam _ c n g a.Unit hn) ?_;simp[go_sem,hwk,hrow,hb];try simp(disch:=omega) only[wo,mu,aS]
  refine⟨fun h1 h2=>aa,?_⟩;refine wZ hK ?_;refine af ?_;simp[go_sem,ye,xy,JV,hpo,d0,Bool.and_assoc,Bool.and_comm,Bool.and_left_comm]
theorem Ef(C N G r c n g k d)(hN:N<1000000000)(hn:n<1000000000):ak prog 240 [.d (SL C 6 fu.enc N G),.d (I r),.d (SL c 1 encI n g),.d (I k),.d (I d)] σ (.cj [.d (I (ez N G r n g k d).1),.d (B (ez N G r n g k d).2)]):=by
 refine ak.bt func240 ?_;refine az.mk (jI _ C N G hN) (gc [0,1,2,3,4] ?_ ?_)<;>intro d0
 ·have hz:ez N G r n g k d=(0,false):=by grind [ez]
  exact sx hz
 ·simp[go_sem];refine dm (α:=Nat) true [1,2,3,4,17,18,19] (fun i=>[(19,.d (I i))]) (fun i=>_) (fun i=>i<=N/\idxFrom (fun a=>ye a r n g k d) (lst N G) 0=idxFrom (fun a=>ye a r n g k d) ((lst N G).drop i) i) (fun i=>N-i) 0 ?_;rintro i ⟨hi,hx⟩;refine gc [1,2,3,4,17,18,19] ?_ ?_<;>intro d1
  ·rw[bU d1,idxFrom] at hx;refine wB ?_;refine az.mk (B4 _ (G i) r c n g k d hn) (sm ?_);refine km [1,2,3,4,13,17,18,19] ?_ ?_<;>intro c2 d2
   ·rw[if_pos c2] at hx;have hz:ez N G r n g k d=((G i).ID,true):=by grind [ez]
    exact sx hz
   ·refine wC ?_;refine bF (i+1) ⟨aa,ai⟩ (h:=aR)
  ·rw[bV d1,idxFrom] at hx;refine wN ?_;have hz:ez N G r n g k d=(0,false):=by grind [ez]
   rw[hz];simp[go_sem]
end Go.Proofs.YthpplckmbbachaaGreatDoor
namespace Go.aI.Vars
open Go.aI Go.aI.Mix
open Go.aI.Steps (lN Qy)
structure Own where
 ia:Nat
 d:Tmp
 cs:List D
 cC:Nat
 cs1:List D
def Own.blk(o:Own)(b:Bool):aZ:= .var ((if b then o.cs1 else o.cs).map .d)
def Own.now(o:Own)(listed:Array Bool):aZ:=if listed.getD o.ia false then o.blk (listed.getD o.cC false) else .dead
def mU(L:List Own)(listed:Array Bool):List aZ:=L.map fun o=>o.now listed
def ri:Nat->List Own->List (Nat×AV)
 |_,[]=>[]
 |b,o::os=>(o.ia,.ptr b 0)::(o.cC,.undef)::ri (b+1) os
theorem Ey{i r} : ∀{L b},get (ri b L) i=some r->∃q o,L[q]? =some o/\((o.ia=i/\r= .ptr (b+q) 0)\/(o.cC=i/\r= .undef))
 |[],b,h=>by grind [ri,get]
 |o::os,b,h=>by
  simp only[ri,get] at h;split at h
  ·rename_i e;exact⟨0,o,rfl,.inl ⟨Nat.eq_of_beq_eq_true e,(Option.some.inj h).symm⟩⟩
  ·split at h
   ·rename_i e;exact⟨0,o,rfl,.inr ⟨Nat.eq_of_beq_eq_true e,(Option.some.inj h).symm⟩⟩
   ·obtain⟨q,o',h1,h2⟩:=Ey h;exact⟨q+1,o',h1,by rw[show b+(q+1)=b+1+q by omega];exact h2⟩
theorem vr{i} : ∀{L b},get (ri b L) i=none->∀o∈L,o.ia≠i/\o.cC≠i
 |[],b,h=>by simp
 |o::os,b,h=>by
  simp only[ri,get] at h;split at h
  ·cases h
  ·rename_i e;split at h
   ·cases h
   ·rename_i e2;intro o' ho';rcases List.mem_cons.1 ho' with rfl|ho'
    ·exact⟨fun he=>by rw[he] at e;simp at e,fun he=>by rw[he] at e2;simp at e2⟩
    ·exact vr h o' ho'
def Apart(L:List Own):Prop:= ∀(p q:Nat) (o o':Own),L[p]? =some o->L[q]? =some o'->p≠q->∀i,o.ia=i\/o.cC=i->o'.ia≠i/\o'.cC≠i
theorem Ln{L listed i q o}(hL:Apart L)(hq:L[q]? =some o)(hi:o.ia=i\/o.cC=i):mU L (listed.setIfInBounds i true)=(mU L listed).set q (o.now (listed.setIfInBounds i true)):=by
 apply List.ext_getElem?;intro k;rw[List.getElem?_set];by_cases hk:q=k
 ·grind [mU]
 ·rw[if_neg hk];simp only[mU,List.getElem?_map];cases ho:L[k]? with
  |none=>rfl
  |some o'=>
   obtain⟨h1,h2⟩:=hL q k o o' hq ho hk i hi;simp only[Option.map_some,Own.now];rw[getD_set_ne false (fun e=>h1 e.symm),getD_set_ne false (fun e=>h2 e.symm)]
theorem Tp{L listed i}(h: ∀o∈L,o.ia≠i/\o.cC≠i):mU L (listed.setIfInBounds i true)=mU L listed:=by
 refine List.map_congr_left fun o ho=> ?_;unfold Own.now;rw[getD_set_ne false (fun e=>(h o ho).1 e.symm),getD_set_ne false (fun e=>(h o ho).2 e.symm)]
structure abz(s:St)(ops:List Oper)(m:Nat)(L:List Own)(t1:List (Nat×AV))(j0:J0)(listed:Array Bool)(j:Js)(a:Act)(w:World):Prop extends Core s.N s.t t1 (fun av=>av.under s.σ.length) ops m j0 listed j a w where
 cm:aQ w j (s.σ++mU L listed)
 len0:j0.js.length<=s.σ.length
 ag:Ag j0.js j s.mv
 free: ∀(q:Nat) o,L[q]? =some o->listed.getD o.ia false=false->j[s.σ.length+q]? =some none
theorem abz.aaj{s ops m L t1 j0 listed j a w}(h:abz s ops m L t1 j0 listed j a w):j.length=s.σ.length+L.length:=by
 rw[h.cm.len,List.length_append];simp[mU]
section
variable {P : Program} {ops : List Oper} {m : Nat} {L : List Own}
structure acJ(P:Program)(s:St)(ops:List Oper)(m:Nat)(t1:List (Nat×AV))(rs:List (Nat×AV)):Prop where
 at_: ∀τ:List aZ,∃xs:Nat->AV,(cD s (ops.take m) xs m).t=t1/\(∀i r,get rs i=some r->xs i=r)/\
  ∀i o,i<m->ops[i]? =some o->get rs i=none->Local P ops o ⟨s.N,(cD s (ops.take m) xs i).t,s.σ++τ,s.mv⟩ (xs i)
structure afV(P:Program)(ops:List Oper)(m:Nat)(L:List Own)(s:St)(t1:List (Nat×AV))(q:Nat)(o:Own):Prop where
 al: ∃oa,ops[o.ia]? =some oa/\o.ia<m/\oa.guard=none/\oa.dst=some o.d/\(∀d,oa.dst=some d->d∉looks ops oa)/\(∀q oq d,o.ia<q->q<m->ops[q]? =some oq->oq.dst=some d->d∉looks ops oa)/\
  ∀τ:List aZ,τ.length=L.length->yG P oa ⟨s.N,t1,s.σ++τ,s.mv⟩ fun r' σ'=>r'= .ptr (s.σ++τ).length 0/\σ'=(s.σ++τ)++[o.blk false]
 st:o.cC<m->∃os,ops[o.cC]? =some os/\os.guard=none/\os.dst=none/\(∀q oq d,o.cC<q->q<m->ops[q]? =some oq->oq.dst=some d->d∉looks ops os)/\x6 ops m 3 os o.ia=true/\
  ∀τ:List aZ,τ[q]? =some (o.blk false)->yG P os ⟨s.N,t1,s.σ++τ,s.mv⟩ fun r' σ'=>r'= .undef/\σ'=s.σ++τ.set q (o.blk true)
 hav: ∀k av,get t1 k=some av->k≠o.d->av.avoids [s.σ.length+q]=true
theorem Lg{w j j'}(hs: ∀o,o∈j->o∈j'){cs:List D}{o}(h:RB w j' (.var (cs.map .d)) o):RB w j (.var (cs.map .d)) o:=by
 cases o with
 |none=>exact h.elim
 |some cb=>
  obtain⟨C,e,h1,h2,h3⟩:=h;refine⟨C,e,h1,h2,fun k hk=> ?_⟩;have h4:=h3 k hk;have hk':k<cs.length:=ai;have e1:(cs.map AV.d).getD k .undef= .d cs[k]:=ai;rw[e1] at h4⊢;cases h4 with|d h5=>exact .d (h5.less hs)
theorem T7{w w' j j1 js ws σ τ}{cs:List D}{q v}(hS:aQ ws js σ)(h0:aQ w j (σ++τ))(hq:q<τ.length)(ahu:τ[q]? =some .dead)(hnone:j[σ.length+q]? =some none)
  (h1:aQ w' j1 ((σ++τ)++[.var (cs.map .d)])) (hr:R w' j1 (.ptr (σ++τ).length 0) v) (he:Ev j w j1 w') (hag:Ag j j1 []) (XU: ∀y∈τ,y= .dead\/∃cs:List D,y= .var (cs.map .d)):
  ∃j2,aQ w' j2 (σ++τ.set q (.var (cs.map .d)))/\R w' j2 (.ptr (σ.length+q) 0) v/\Ev j w j2 w'/\Ag j j2 [σ.length+q]/\j2.length=j.length:=by
 have hjl:j.length=σ.length+τ.length:=by rw[h0.len,List.length_append]
 have hj1:j1.length=σ.length+τ.length+1:=by rw[h1.len];grind
 obtain⟨x,hx⟩: ∃x,j1[j.length]? =some x:=⟨j1[j.length]'(aa),List.getElem?_eq_getElem aa⟩;have hj2: ∀b:Nat,((j1.take j.length).set (σ.length+q) x)[b]? =if b=σ.length+q then some x else if b<j.length then j1[b]? else none:=by
  grind
 have hsub: ∀y,y∈(j1.take j.length).set (σ.length+q) x->y∈j1:=by
  grind
 have hpl: ∀y o2,y∈τ->RB w' j1 y o2->RB w' ((j1.take j.length).set (σ.length+q) x) y o2:=by
  intro y o2 hy hB;rcases XU y hy with rfl|⟨o',rfl⟩
  ·trivial
  grind [Lg]
 refine⟨(j1.take j.length).set (σ.length+q) x,⟨ai,fun b cb hb=> ?_,fun b b' cb hb hb'=> ?_,fun b y hy=> ?_⟩,?_,⟨he.size,he.keep,fun b hb hm=>he.sub b hb (hsub _ hm),he.LH,he.tY,he.os,he.tape,he.output,he.lps⟩,fun b hb hn=> ?_,ai⟩
 ·rw[hj2] at hb;split at hb
  ·obtain rfl:x=some cb:=by grind
   exact h1.lt _ cb hx
  ·split at hb
   ·exact h1.lt b cb hb
   grind
 ·rw[hj2] at hb hb';split at hb
  ·rename_i e;obtain rfl:x=some cb:=by grind
   split at hb'
   ·grind
   ·split at hb'
    ·have:=h1.inj _ _ cb hx hb';omega
    grind
  ·split at hb
   ·split at hb'
    ·obtain rfl:x=some cb:=by grind
     have:=h1.inj _ _ cb hx hb;omega
    ·split at hb'
     ·exact h1.inj _ _ cb hb hb'
     grind
   grind
 ·by_cases hb:b<σ.length
  ·rw[List.getElem?_append_left hb] at hy;obtain⟨o1,ho1,hB1⟩:=hS.blk b y hy;obtain⟨o2,ho2,hB2⟩:=h1.blk b y ai;refine⟨o2,ai,?_⟩;exact hB1.shrink hsub (fun b' hb'=>by
    rw[hS.len] at hb';grind) hB2
  ·rw[List.getElem?_append_right aa,List.getElem?_set] at hy;by_cases hbq:q=b-σ.length
   ·rw[if_pos hbq,if_pos aa] at hy;obtain rfl:aZ.var (cs.map .d)=y:=Option.some.inj hy;obtain⟨o2,ho2,hB2⟩:=h1.blk j.length (.var (cs.map .d)) ai;grind [Lg]
   ·rw[if_neg hbq] at hy;obtain⟨o2,ho2,hB2⟩:=h1.blk b y (by
     grind)
    grind
 ·have hlen:(σ++τ).length=j.length:=ai;rw[hlen] at hr;have hat:((j1.take j.length).set (σ.length+q) x)[σ.length+q]? =some x:=ai;cases hr with
  |ptr h=>exact .ptr ai
 ·have h2:b≠σ.length+q:=ai;rw[hj2,if_neg h2,if_pos hb];exact hag b hb an
theorem ac9(hok:cO ops m=true)(hmn:m<=ops.length){Q j0 j1 w1 s t1 js ws}(hS:aQ ws js s.σ)(hL:Apart L)(hne: ∀o∈L,o.ia≠o.cC)
  (hW: ∀(q:Nat) o,L[q]? =some o->afV P ops m L s t1 q o) (hP:acJ P s ops m t1 (ri s.σ.length L))
  (hK:bz P false ops (ops.drop m) ⟨s.N,t1,s.σ++L.map (fun o=>o.blk (Nat.blt o.cC m)),s.mv⟩ (Q .normal)):
  ∀fuel j a w listed,left listed ops.length=fuel->abz s ops m L t1 j0 listed j a w->Ev j1 w1 j w->wpAnyIn (FW j0.rd) 0 P .any ops.toArray (u6 j0 j1 w1 Q) fuel listed a w:=by
 refine JG hok hmn (abz s ops m L t1 j0) (fun hI=>⟨_,_,_,_,hI.toCore⟩) ?_ ?_
 ·intro listed j a w hI hdone;have afa:mU L listed=L.map fun o=>o.blk (Nat.blt o.cC m):=List.map_congr_left fun o ho=>by
   obtain⟨q,hq,rfl⟩:=List.mem_iff_getElem.1 ho;obtain⟨oa,_,hlt,_⟩:=(hW q L[q] (List.getElem?_eq_getElem hq)).al;have e:listed.getD L[q].cC false=Nat.blt L[q].cC m:=by
    by_cases h1:L[q].cC<m
    ·rw[qD hI.lsize (show L[q].cC<ops.length by omega),hdone _ h1];simp_all
    ·have hb:Nat.blt L[q].cC m=false:=by rw[←Bool.not_eq_true];simp_all
     rw[hb];by_cases h2:L[q].cC<ops.length
     ·exact hI.lB _ aa h2 _
     ·have: ¬L[q].cC<listed.size:=by rw[hI.lsize];exact h2
      grind
   unfold Own.now;rw[qD hI.lsize (show L[q].ia<ops.length by omega),hdone _ hlt,if_pos rfl,e]
  obtain⟨xs,hxs,_,_⟩:=hP.at_ [];exact⟨⟨s.N,t1,s.σ++L.map (fun o=>o.blk (Nat.blt o.cC m)),s.mv⟩,⟨hI.defers,hI.fC,hI.size,fun k av hk=>hI.toCore.done hxs hdone hk,by have:=hI.cm;grind,by have:=hI.aaj;have:=hI.len0;omega,hI.ag⟩,hK⟩
 ·intro listed j a w i o next hI him ho h0 hall hn
  have hil:i<ops.length:=aa;have Un:i<listed.size:=ai;have afb:(listed.setIfInBounds i true).getD i false=true:=by simp[Un]
  have hnl:listed.getD i false=false:=ai;have hj0:j0.js.length<=j.length:=by have:=hI.aaj;have:=hI.len0;omega
  have step: ∀(j':Js) (w':World) (v:Value),aQ w' j' (s.σ++mU L (listed.setIfInBounds i true))->Ev j w j' w'->(∀b,b<s.σ.length->j'[b]? =j[b]?)->
    (∀(q:Nat) o,L[q]? =some o->(listed.setIfInBounds i true).getD o.ia false=false->j'[s.σ.length+q]? =some none)->
    (∀k av x,get t1 k=some av->o.dst≠some k->R w j av x->R w' j' av x)->(∀(av:AV) x,av.under s.σ.length->R w j av x->R w' j' av x)->
    (∀k av,o.dst=some k->get t1 k=some av->k<s.N/\R w' j' av v)->next (a.put o.dst v) w':=by
   intro j' w' v ki hev aan hN' tr tr2 hv;refine hn j' v w' ⟨hI.toCore.step hok hmn him ho hall hev (fun k av h hne=>⟨av,h,fun x=>tr k av x h hne⟩) (fun k av h=>⟨av,h,fun x h1 h2=>⟨h1,tr2 av x h1 h2⟩⟩) hv,ki,hI.len0,fun b hb hn=> ?_,hN'⟩ hev;rw[aan b (by have:=hI.len0;omega)];exact hI.ag b hb hn
  have late: ∀{oa:Oper},o=oa->(∀d,oa.dst=some d->d∉looks ops oa)->(∀q oq d,i<q->q<m->ops[q]? =some oq->oq.dst=some d->d∉looks ops oa)->Rel j0 ((⟨s.N,t1,s.σ++mU L listed,s.mv⟩:St).bQ (looks ops o)) j a w:=by
   rintro oa rfl hself pA;obtain⟨xs,hxs,_,_⟩:=hP.at_ [];refine⟨hI.defers,hI.fC,hI.size,fun k av hk=> ?_,hI.cm,hj0,hI.ag⟩;simp only[St.bQ,eM] at hk;split at hk
   ·rename_i hkl;exact hI.toCore.late hok hmn hxs him ho hall hself pA ai hk
   grind
  cases hia:get (ri s.σ.length L) i with
  |some r=>
   obtain⟨p,c,hp,hc⟩:=Ey hia;have hw:=hW p c hp;have hpl:p<L.length:=(List.getElem?_eq_some_iff.1 hp).1;have afl:=hne c (List.mem_of_getElem? hp);obtain⟨oa,hoa,hlt,hgd,hdst,hself,pA,hact⟩:=hw.al;rcases hc with⟨rfl,rfl⟩|⟨rfl,rfl⟩
   ·
    obtain rfl:o=oa:=by grind
    have hwn:Region.wanted o (yielded ops.toArray a.tmps)=true:=C9;rw[if_pos hwn];refine vT (hact (mU L listed) (by simp[mU])) (late rfl hself pA) fun v w' r' σ' j' h6 h7 h8 h9 h10 h11=> ?_;obtain⟨rfl,rfl⟩:=h11;have hno:listed.getD c.cC false=false:=by
     by_cases hb:listed.getD c.cC false=true
     ·by_cases h1:c.cC<m
      ·obtain⟨os,hos,_,_,_,hd,_⟩:=hw.st h1;have:=hI.toCore.far (fun e he1 he2=>hI.cl c.cC os h1 hos ai e he1 he2) hd;grind
      ·by_cases h2:c.cC<ops.length
       ·rw[hI.lB _ aa h2] at hb;cases hb
       ·have: ¬c.cC<listed.size:=by rw[hI.lsize];exact h2
        grind
     grind
    have afj:c.now (listed.setIfInBounds c.ia true)=c.blk false:=by
     simp_all [Own.now]
    obtain⟨xs,hxs,hxa,hloc⟩:=hP.at_ [];obtain⟨j2,k1,k2,k3,k4,k5⟩:=T7 (q:=p) hS hI.cm (by grind [mU]) (by grind [mU,Own.now]) (hI.free p c hp hnl) h6 h7 h8 h9 (by
     intro y hy;obtain⟨o',ho',rfl⟩:=List.mem_map.1 hy;unfold Own.now;split
     ·exact .inr ⟨_,rfl⟩
     grind)
    have hne': ∀b,b≠s.σ.length+p->b<j.length->j2[b]? =j[b]? :=fun b hb hlt=>k4 b hlt ai;refine step j2 w' v (by rw[Ln hL hp (.inl rfl),afj];exact k1) k3 (fun b hb=>hne' b aa (by rw[hI.aaj];omega)) (fun q' o' hq' hl'=> ?_) (fun k av x hk hd hx=> ?_) (fun av x hu hx=> ?_) (fun k av hk hgt=> ?_)
    ·have hqp:q'≠p:=fun h=>by
      grind
     have hql:q'<L.length:=(List.getElem?_eq_some_iff.1 hq').1;rw[hne' _ aa (by rw[hI.aaj];omega)];refine hI.free q' o' hq' ?_;rwa [getD_set_ne false (fun h=>(hL p q' c o' hp hq' (fun e=>hqp e.symm) c.ia (.inl rfl)).1 h.symm)] at hl'
    ·exact hx.mono k3 hI.cm.lt k4 (hw.hav k av hk fun h=>hd ai)
    ·exact hx.mono k3 hI.cm.lt k4 (pZ (n:=s.σ.length) an av hu)
    grind [iG]
   ·
    obtain⟨os,hos,hgs,hds,hls,hd,ag9⟩:=hw.st him;obtain rfl:o=os:=by grind
    have ag2:listed.getD c.ia false=true:=hI.toCore.far hall hd;have hq0:(mU L listed)[p]? =some (c.blk false):=by grind [mU,Own.now]
    have hwn:Region.wanted o (yielded ops.toArray a.tmps)=true:=C9;rw[if_pos hwn];refine vT (ag9 (mU L listed) hq0) (late rfl (fun d h=>ai) hls) fun v w' r' σ' j' h6 h7 h8 h9 h10 h11=> ?_;obtain⟨rfl,rfl⟩:=h11;obtain rfl:j'=j:=by
     have hl:j'.length=j.length:=by rw[h6.len,hI.cm.len];simp
     apply List.ext_getElem?;intro b;rcases Nat.lt_or_ge b j.length with h|h
     ·exact h9 b h an
     grind
    have afj:c.now (listed.setIfInBounds c.cC true)=c.blk true:=by
     unfold Own.now;rw[afb,getD_set_ne false (fun h=>afl h.symm),ag2,if_pos rfl]
    have mono: ∀{av:AV} {v:Value},R w j' av v->R w' j' av v:=fun hR=>hR.iy h8 hI.cm.lt (.refl _ _);refine step j' w' v (by grind [Ln]) h8 (fun _ _=>rfl) (fun q' o' hq' hl'=> ?_) (fun k av x _ _ hx=>mono hx) (fun av x _ hx=>mono hx) (fun k av hk=>ai);refine hI.free q' o' hq' ?_;by_cases hqp:q'=p
    ·subst hqp;rw[hp] at hq';cases hq';rwa [getD_set_ne false (fun h=>afl h.symm)] at hl'
    ·rwa [getD_set_ne false (fun h=>(hL p q' c o' hp hq' (fun e=>hqp e.symm) c.cC (.inr rfl)).1 h.symm)] at hl'
  |none=>
   obtain⟨xs,hxs,hxa,hloc⟩:=hP.at_ (mU L listed);have hLc:=hloc i o him ho hia;have hrel:Rel j0 ((⟨s.N,(cD s (ops.take m) xs i).t,s.σ++mU L listed,s.mv⟩:St).bQ (looks ops o)) j a w:=by
    refine⟨hI.defers,hI.fC,hI.size,fun k av hk=> ?_,hI.cm,hj0,hI.ag⟩;simp only[St.bQ,eM] at hk;split at hk
    ·rename_i hkl;exact hI.toCore.looks hok hmn hxs him ho h0 hall ai hk
    grind
   have afa:mU L (listed.setIfInBounds i true)=mU L listed:=Tp (vr hia);have hN2: ∀(q:Nat) o,L[q]? =some o->(listed.setIfInBounds i true).getD o.ia false=false->j[s.σ.length+q]? =some none:=fun q o hq hl=>hI.free q o hq (by
    rwa [getD_set_ne false (fun h=>(vr hia o (List.mem_of_getElem? hq)).1 h.symm)] at hl)
   have hval: ∀(w':World) (v:Value),R w' j (xs i) v->∀k av,o.dst=some k->get t1 k=some av->k<s.N/\R w' j av v:=by
    grind [iG]
   by_cases hw:Region.wanted o (yielded ops.toArray a.tmps)=true
   ·rw[if_pos hw];exact hLc.run j0 j a w _ _ hrel hw fun w' v h1 h2 h3=>step j w' v ai h2 (fun _ _=>rfl) hN2 (fun _ _ _ _ _ h=>h.iy h2 hI.cm.lt (.refl _ _)) (fun _ _ _ h=>h.iy h2 hI.cm.lt (.refl _ _)) (hval w' v h3)
   ·rw[if_neg hw];exact step j w Go.undef (by rw[afa];exact hI.cm) (.refl _ _) (fun _ _=>rfl) hN2 (fun _ _ _ _ _ h=>h) (fun _ _ _ h=>h) (hval w _ (hLc.skip j0 j a w hrel ai))
end
def vq(ops:List Oper)(m:Nat):List (Nat×Tmp×Nat)->Bool
 |[]=>true
 |(ia,d,cC)::L=>decide (ia≠cC)&&L.all (fun x=>decide (ia≠x.1)&&decide (ia≠x.2.2)&&decide (cC≠x.1)&&decide (cC≠x.2.2))&&dh ops m (if Nat.blt cC m then[(ia,some d),(cC,none)] else[(ia,some d)])&&vq ops m L
theorem xD{ops m} : ∀{L},vq ops m (L.map fun o=>(o.ia,o.d,o.cC))=true->Apart L
 |[],_=>fun p q o o' h=>by grind
 |x::xs,h=>fun p q o o' hp hq hne i hi=>by
  simp only[List.map_cons,vq,Bool.and_eq_true,List.all_eq_true,List.mem_map,forall_exists_index,and_imp,forall_apply_eq_imp_iff₂,decide_eq_true_eq] at h;obtain⟨⟨⟨h1,h2⟩,h3⟩,h4⟩:=h;cases p with
  |zero=>
   grind
  |succ p=>
   cases q with
   |zero=>
    grind
   |succ q=>exact xD h4 p q o o' ai ai (fun e=>hne (by rw[e])) i hi
theorem vp{ops m} : ∀{L:List Own},vq ops m (L.map fun o=>(o.ia,o.d,o.cC))=true->∀o∈L,o.ia≠o.cC/\dh ops m (if Nat.blt o.cC m then[(o.ia,some o.d),(o.cC,none)] else[(o.ia,some o.d)])=true
 |[],_,o,ho=>by grind
 |x::xs,h,o,ho=>by
  simp only[List.map_cons,vq,Bool.and_eq_true,decide_eq_true_eq] at h;obtain⟨⟨⟨h1,h2⟩,h3⟩,h4⟩:=h;rcases List.mem_cons.1 ho with rfl|ho
  ·exact⟨h1,h3⟩
  ·exact vp h4 o ho
def HG(P:Program)(ops:List Oper)(m N:Nat)(t1:List (Nat×AV))(σ:List aZ)(mv:List Nat)(n:Nat):Nat->List Own->Prop
 |_,[]=>True
 |b,o::os=>((∀τ:List aZ,τ.length=n->VV P ops o.ia ⟨N,t1,σ++τ,mv⟩ fun r' σ'=>r'= .ptr (σ++τ).length 0/\σ'=(σ++τ)++[.var (o.cs.map .d)])/\
  cq [b] (del t1 o.d)=del t1 o.d/\
  (o.cC<m->get t1 o.d=some (.ptr b 0)/\match mz ops o.cC with
   |some os=>(match os.op with
    | .store t' p v=>p= .tmp o.d/\arg true ⟨N,t1,[],mv⟩ v fun av=>(match eH P t' with
     |some (_,k)=>fJ (cellsOf av)=true/\(cellsOf av).length=k/\o.cs.length=k/\cellsOf av=o.cs1.map .d
     |none=>False)
    |_=>False)
   |none=>False))/\HG P ops m N t1 σ mv n (b+1) os
theorem MM{P ops m N t1 σ mv n} : ∀{L b q o},HG P ops m N t1 σ mv n b L->L[q]? =some o->HG P ops m N t1 σ mv n (b+q) [o]
 |[],b,q,o,_,h=>by grind
 |x::xs,b,0,o,h,hq=>by simp at hq;subst hq;exact⟨h.1,trivial⟩
 |x::xs,b,q+1,o,h,hq=>by
  rw[show b+(q+1)=b+1+q by omega];exact MM h.2 ai
theorem Ww{P tt N t1 σ τ mv z av b k q}(h1:eH P tt=some (b,k))(h2:fJ (cellsOf av)=true)(h3:(cellsOf av).length=k)(h4:z.length=k)(hq:τ[q]? =some (.var z)):
  kL P tt ⟨N,t1,σ++τ,mv⟩ (.ptr (σ.length+q) 0) av fun s'=>(AV.undef= .undef)/\s'.σ=σ++τ.set q (.var (cellsOf av)):=by
 simp_all [kL,pf,List.drop_eq_nil_of_le,List.getElem?_append_right,fO]
theorem abt{g s}{d:Tmp}{b off K}(h:get s.t d=some (.ptr b off))(hk:K (.ptr b off)):arg g s (.tmp d) K:=by
 grind [arg,val]
theorem YX{P Q N t σ mv id ops}(m L)(hm:P.follows .mixedOrders=true)(hok:(cO ops m&&Nat.ble m ops.length&&vq ops m (L.map fun(o:Own)=>(o.ia,o.d,o.cC)))=true){t1}
  (h1: ∀(τ:List aZ) (K:St->Prop),(∀σ' mv',K ⟨N,t1,σ',mv'⟩)->fV P ops (ri σ.length L) [] [] (ops.take m) 0 ⟨N,t,σ++τ,mv⟩ K)
  (h2:HG P ops m N t1 σ mv L.length σ.length L)
  (h3:bz P false ops (ops.drop m) ⟨N,t1,σ++L.map (fun o=>o.blk (Nat.blt o.cC m)),mv⟩ (Q .normal)):cV P (.region id ops.toArray true) Q ⟨N,t,σ,mv⟩:=by
 intro j0 j a w hr;simp only[Bool.and_eq_true,Nat.ble_eq] at hok;obtain⟨⟨hok,hmn⟩,hown⟩:=hok;have hP:acJ P ⟨N,t,σ,mv⟩ ops m t1 (ri σ.length L):=⟨fun τ=>by
  have h:=h1 τ (fun s'=>s'.t=t1) (fun _ _=>rfl);have hlen:(ops.take m).length=m:=ai;obtain⟨xs,hK,hia,hloc⟩:=wm h;have hext:=Steps.mV ⟨N,t,σ,mv⟩ (σ++τ) (ops.take m) xs;refine⟨xs,?_,fun i r hi=>hia i r ai,fun i o him ho h3=> ?_⟩
  ·grind
  ·have:=hloc i o ai ai rfl;grind⟩
 have hr':Rel j0 ⟨N,t,σ,mv⟩ j a w.drew:=hr.after (eA j w) hr.cm.drew (Nat.le_refl _) (.refl _ []);have hf: ∀k b,k<ops.length->(Array.replicate ops.toArray.size false).getD k b=false:=by
  simp_all
 have hjl:j.length=σ.length:=hr'.cm.len;have hW: ∀(q:Nat) (o:Own),L[q]? =some o->afV P ops m L ⟨N,t,σ,mv⟩ t1 q o:=by
  intro q o hq;have hc:=(vp hown o (List.mem_of_getElem? hq)).2;obtain⟨⟨g1,g2,g3⟩,_⟩:=MM h2 hq;obtain⟨oa,hoa,hga,hda,hlt,hself,pA,_⟩:=bD hc (k:=0) (by split<;>simp);have e0: ∀c:Bool,lN (if c then[(o.ia,some o.d),(o.cC,none)] else[(o.ia,some o.d)]) 0=o.ia/\Qy (if c then[(o.ia,some o.d),(o.cC,none)] else[(o.ia,some o.d)]) 0=some o.d:=fun c=>by cases c<;>exact⟨rfl,rfl⟩
  rw[(e0 _).1] at hoa hlt pA;rw[(e0 _).2] at hda;refine⟨⟨oa,hoa,hlt,hga,hda,hself,pA,fun τ XU=> ?_⟩,fun hl=> ?_,fun k av hk hne=> ?_⟩
  ·have:=g1 τ XU;unfold VV at this;rw[fo,hoa] at this;exact this
  ·have hb:Nat.blt o.cC m=true:=aP;rw[hb] at hc;obtain⟨os,hos,hgs,hds,_,_,hls,hd⟩:=bD hc (k:=1) an;have hos:ops[o.cC]? =some os:=hos;have hd:x6 ops m 3 os o.ia=true:=(hd aa).1;refine⟨os,hos,hgs,hds,hls,hd,fun τ XU=> ?_⟩;obtain⟨k1,k2⟩:=g3 hl;rw[fo,hos] at k2;unfold yG;split at k2
   ·rename_i os' he;cases he
    split at k2
    ·rename_i t' p v hop;obtain⟨rfl,k2⟩:=k2;obtain⟨av,k3,k4⟩:=Y8 k2;rw[hop];refine abt k1 (k4 _ _ ?_);split at k3
     ·rename_i b k hk;obtain⟨a1,a2,a3,a4⟩:=k3;have:=Ww (N:=N) (t1:=t1) (σ:=σ) (mv:=mv) hk a1 a2 ai XU;rw[a4] at this;exact this
     grind
    grind
   grind
  ·have h9:get (del t1 o.d) k=some av:=by grind [tC]
   exact tf g2 k av (get_mem h9)
 have hext:Ev j w.drew (j++List.replicate L.length none) w.drew:=⟨Nat.le_refl _,fun _ _ _=>rfl,fun b _ hm=>(by
  grind),fun _ _=>rfl,fun _ _=>rfl,rfl,rfl,rfl,fun _ r h=>⟨r,h⟩⟩
 have afq:Ag j (j++List.replicate L.length none) []:=fun b hb _=>by grind
 have ahs:mU L (Array.replicate ops.toArray.size false)=L.map fun _=>aZ.dead:=by
  refine List.map_congr_left fun o ho=> ?_;obtain⟨q,hq,rfl⟩:=List.mem_iff_getElem.1 ho;obtain⟨oa,_,hlt,_⟩:=(hW q L[q] (List.getElem?_eq_getElem hq)).al;unfold Own.now;rw[hf _ false aa];rfl
 have ki:aQ w.drew (j++List.replicate L.length none) (σ++L.map fun _=>aZ.dead):=by
  refine⟨ai,fun b cb hb=> ?_,fun b b' cb hb hb'=> ?_,fun b x hx=> ?_⟩
  ·rw[List.getElem?_append] at hb;split at hb
   ·exact hr'.cm.lt b cb hb
   grind
  ·rw[List.getElem?_append] at hb hb';split at hb
   ·split at hb'
    ·exact hr'.cm.inj b b' cb hb hb'
    grind
   grind
  ·rw[List.getElem?_append] at hx;split at hx
   ·rename_i hb;obtain⟨o,ho,hB⟩:=hr'.cm.blk b x hx;exact⟨o,ai,hB.mono hext hr'.cm.lt afq fun _ _=>rfl⟩
   ·rename_i hb;have hlt:b-σ.length<L.length:=ai;rw[List.getElem?_map,List.getElem?_eq_getElem hlt] at hx;simp at hx;subst hx;exact⟨none,ai,trivial⟩
 refine wpIn_region_any hm (ac9 hok hmn hr'.cm (xD hown) (fun o ho=>(vp hown o ho).1) hW hP h3 _ (j++List.replicate L.length none) a w.drew _ ?_ ⟨?_,ai,by have:=hr'.len0;grind,fun b hb hn=> ?_,fun q o hq _=> ?_⟩ ((eA j w).trans hext))
 ·rw[qx];simp
 ·have hC:=Core.start (t1:=t1) (U:=fun av=>av.under σ.length) hmn hr' fun k av hk=>by have:=(hr'.tmp k av hk).2.under;grind
  exact⟨hC.defers.mono hext,hC.fC,hC.size,hC.lsize,hC.lB,hC.cl,fun q oq k av h1 h2 h3 h4 h5=>(by rw[hf q true aa] at h4;cases h4),fun k av h1 h2=>by
   have:=hC.c2 k av h1 h2;exact⟨this.1,this.2.1,this.2.2.iy hext hr'.cm.lt afq⟩⟩
 ·rw[List.getElem?_append_left (by have:=hr'.len0;omega)];exact hr'.ag b hb hn
 grind
theorem KK{P Q N t σ mv id ops}(m L)(hm:P.follows .mixedOrders=true)(hok:(cO ops m&&Nat.ble m ops.length&&vq ops m (L.map fun(o:Own)=>(o.ia,o.d,o.cC)))=true){t1}
  (h1: ∀(τ:List aZ) (K:St->Prop),(∀σ' mv',K ⟨N,t1,σ',mv'⟩)->fV P ops (ri σ.length L) [] [] (ops.take m) 0 ⟨N,t,σ++τ,mv⟩ K)
  (h2:HG P ops m N t1 σ mv L.length σ.length L)
  (h3: ∀K:St->Prop,(∀s',Q .normal s'->K s')->bz P false ops (ops.drop m) ⟨N,t1,σ++L.map (fun o=>o.blk (Nat.blt o.cC m)),mv⟩ K):cV P (.region id ops.toArray true) Q ⟨N,t,σ,mv⟩:=
 YX m L hm hok h1 h2 (h3 _ fun s' h=>h)
attribute [go_sem] ri Own.blk HG VV
end Go.aI.Vars
namespace Go.Proofs.YthpplckmbbachaaGreatDoor
open Go.aI Go.bI Go.Proofs.Tryz
variable (σ : List aZ)
theorem acY(p:u5)(hn:p.nc<1000000000):ak prog 102 [.d (SL none 6 Rule.enc p.nc p.gc),.d (SL none 6 Rule.enc p.nc p.gc)] σ (.d (B true)):=by
 have h:=GI σ none p.nc p.gc none p.nc p.gc (Classical.propDecidable _) hn;grind
theorem mW(c c' n g)(hn:n<1000000000):ak prog 101 [.d (SL c 1 encI n g),.d (SL c' 1 encI n g)] σ (.d (B true)):=by
 refine ak.bt func101 ?_;refine dH [0,1] ?_ ?_<;>intro d0
 ·first|(exfalso;omega)|simp at d0
 ·simp[go_sem];refine dm (α:=Nat) true [0,1,12,13] (fun i=>[(13,.d (I i))]) (fun i=>_) (fun i=>i<=n) (fun i=>n-i) 0 ?_;rintro i hi;refine gc [0,1,12,13] ?_ ?_<;>intro d1
  ·have hi5:i<n:=aa;simp[go_sem];refine T.dr 9 fun K hK=> ?_;simp[go_sem,hi5];refine hK _ ?_;refine go true ?_;refine gc [0,1,12,13] ?_ ?_<;>intro d2
   ·first|(exfalso;omega)|simp at d2
   ·refine wC ?_;refine bF (i+1) (aa) (h:=aR)
  ·refine wF ?_;exact af so
theorem TL(x:ek)(hn:x.nu<1000000000)(hm:x.nb<1000000000):ak prog 43 [.agg (x.enc.map .d),.agg (x.enc.map .d)] σ (.d (B true)):=by
 refine ak.bt func43 ?_;refine cE.mk' (.d (B true)) (fun _=>mW _ none none x.nu x.u hn) (sm ?_);refine cE.mk' (.d (B true)) (fun _=>mW _ none none x.nb x.b hm) (sm ?_);exact af so
theorem TM(n g)(hn:n<1000000000)(hc: ∀i,i<n->(g i).nc<1000000000):ak prog 45 [.d (SL none 5 Bx.enc n g),.d (SL none 5 Bx.enc n g)] σ (.d (B true)):=by
 refine ak.bt func45 ?_;refine dH [0,1] ?_ ?_<;>intro d0
 ·first|(exfalso;omega)|simp at d0
 ·simp[go_sem];refine dm (α:=Nat) true [0,1,13,14] (fun i=>[(14,.d (I i))]) (fun i=>_) (fun i=>i<=n) (fun i=>n-i) 0 ?_;rintro i hi;refine gc [0,1,13,14] ?_ ?_<;>intro d1
  ·have hi5:i<n:=aa;have hc5:=hc i hi5;simp[go_sem];refine T.dr 65 fun K hK=> ?_;simp[go_sem,hi5];refine hK _ ?_;refine go true ?_;refine gc [0,1,5,13,14] ?_ ?_<;>intro d2
   ·first|(exfalso;omega)|simp at d2
   ·simp[go_sem,hi5];refine dm (α:=Nat) true [0,1,5,13,14,87,88] (fun k=>[(88,.d (I k))]) (fun k=>_) (fun k=>k<=(g i).nc) (fun k=>(g i).nc-k) 0 ?_;rintro k hk;refine gc [0,1,5,13,14,87,88] ?_ ?_<;>intro d3
    ·have hk5:k<(g i).nc:=aa;simp[go_sem];refine T.dr 17 fun K hK=> ?_;simp[go_sem,hi5,hk5];refine hK _ ?_;refine go true ?_;refine gc [0,1,5,13,14,87,88] ?_ ?_<;>intro d4
     ·first|(exfalso;omega)|simp at d4
     ·refine wC ?_;refine bF (k+1) (aa) (h:=aR)
    ·refine wT ?_;refine bF (i+1) (aa) (h:=aR)
  ·refine wF ?_;exact af so
theorem PK(p)(hp:dT p):ak prog 44 [.agg (p.enc.map .d),.agg (p.enc.map .d)] σ (.d (B true)):=by
 have z1:=hp.ns;have z2:=hp.nc;have z3:=hp.np;have z5:=hp.na;have z6:=hp.nm;refine ak.bd true func44 fun hwf=> ?_;refine gc [2,3] ?_ ?_<;>intro d0
 ·first|(exfalso;omega)|simp at d0
 ·simp[go_sem];refine mA (α:=Nat) true [2,3,24,25] (fun i=>[(25,.d (I i))]) (fun i=>σ++[.var (p.enc.map .d),.var (p.enc.map .d)]) (fun i=>i<=p.ns) (fun i=>p.ns-i) 0 au (rfl) an ?_;rintro i hi;refine gc [2,3,24,25] ?_ ?_<;>intro d1
  ·have hi5:i<p.ns:=aa;have hs5:=hp.ps i hi5;simp[go_sem];apply Vars.KK 13 [⟨10,6,[I 0,I 0,I 0,I 0,.v (.slice none 0 0)],12,ej.enc (p.gs i)⟩,⟨11,7,[I 0,I 0,I 0,I 0,.v (.slice none 0 0)],99,[]⟩] T.mixed aD
   ·intro τ K hK;simp[go_sem,hi5];exact hK _ _
   ·simp[go_sem,Nat.add_assoc]
   intro K hK;simp[go_sem,Nat.add_assoc];refine hK _ ?_;refine wb ?_;refine cE.mk' (.d (B true)) (fun _=>mW _ none none (p.gs i).np (p.gs i).ps aa) ?_;refine gc [2,3,24,25] ?_ ?_<;>intro d2
   ·first|(exfalso;omega)|simp at d2
   ·refine wC ?_;refine bF (i+1) (aa) (h:=aR) (hσ:=aP) (hb:=ae au)
  ·refine wL ?_;refine az.mk (acY _ p aa) ?_;simp[go_sem];refine cE.mk' (.d (B true)) (fun _=>by have h:=N9 (σ++[.var (p.enc.map .d),.var (p.enc.map .d)]) none none p.np p.np p.gp p.gp aa aa;rw[lT] at h;exact h) ?_;simp[go_sem];refine cE.mk' (.d (B true)) (fun _=>by have h:=Oi (σ++[.var (p.enc.map .d),.var (p.enc.map .d)]) none none p.na p.na p.ga p.ga aa aa;rw[lT] at h;exact h) ?_;simp[go_sem];refine cE.mk' (.d (B true)) (fun _=>by have h:=Oe (σ++[.var (p.enc.map .d),.var (p.enc.map .d)]) none none p.nm p.nm p.gm p.gm aa aa;rw[lT] at h;exact h) ?_;refine wA ?_;simp[go_sem]<;>omega
theorem Hq(u)(hu:br u):ak prog 13 [.agg (u.cells u.aX),.agg (u.cells u.aX)] σ (.d (B true)):=by
 have z1:=hu.nb;have z2:=hu.nf;have z3:=hu.nv;have z4:=hu.nr;have z6:=hu.nk;have z7:=hu.nt;have z8:=hu.nl;have z9:=hu.nw;refine ak.bt func13 ?_;refine dH [2,3] ?_ ?_<;>intro d0
 ·first|(exfalso;omega)|simp at d0
 ·simp[go_sem];refine dm (α:=Nat) true [2,3,39,40] (fun i=>[(40,.d (I i))]) (fun i=>σ++[.var (u.cells u.aX),.var (u.cells u.aX)]) (fun i=>i<=u.nf) (fun i=>u.nf-i) 0 ?_;rintro i hi;refine gc [2,3,39,40] ?_ ?_<;>intro d1
  ·have hi5:i<u.nf:=aa;simp[go_sem];refine T.dr 11 fun K hK=> ?_;simp[go_sem,hi5];refine hK _ ?_;refine go true ?_;refine gc [2,3,39,40] ?_ ?_<;>intro d2
   ·first|(exfalso;omega)|simp at d2
   ·refine wC ?_;refine bF (i+1) (aa) (h:=aR) (hσ:=aP) (hb:=ae au)
  ·refine wF ?_;refine dm (α:=Nat) true [2,3,57,58] (fun i=>[(58,.d (I i))]) (fun i=>σ++[.var (u.cells u.aX),.var (u.cells u.aX)]) (fun i=>i<=u.nt) (fun i=>u.nt-i) 0 ?_;rintro i hi;refine gc [2,3,57,58] ?_ ?_<;>intro d3
   ·have hi5:i<u.nt:=aa;have hb1:=hu.bu i hi5;have hb2:=hu.bb i hi5;simp[go_sem];refine T.dr 12 fun K hK=> ?_;simp[go_sem,hi5];refine bK.mk (TL _ (u.gt i) aa aa) ?_;refine wc hK ?_;refine gc [2,3,57,58] ?_ ?_<;>intro d4
    ·first|(exfalso;omega)|simp at d4
    ·refine wC ?_;refine bF (i+1) (aa) (h:=aR) (hσ:=aP) (hb:=ae au)
   ·refine wF ?_;refine az.mk (PK _ u.P hu.P) (sm ?_);refine cE.mk' (.d (B true)) (fun _=>TM _ u.nb u.gb aa (fun i hi=>AB)) ?_;simp[go_sem];refine cE.mk' (.d (B true)) (fun _=>by have h:=Og (σ++[.var (u.cells u.aX),.var (u.cells u.aX)]) none none u.nv u.nv u.gv u.gv aa aa;rw[lT] at h;exact h) ?_;simp[go_sem];refine cE.mk' (.d (B true)) (fun _=>by have h:=N8 (σ++[.var (u.cells u.aX),.var (u.cells u.aX)]) none none u.nr u.nr u.gr u.gr aa aa;rw[lT] at h;exact h) ?_;simp[go_sem];refine cE.mk' (.d (B true)) (fun _=>by have h:=Oh (σ++[.var (u.cells u.aX),.var (u.cells u.aX)]) none none u.nk u.nk u.gk u.gk aa aa;rw[lT] at h;exact h) ?_;simp[go_sem];refine cE.mk' (.d (B true)) (fun _=>by have h:=vg (σ++[.var (u.cells u.aX),.var (u.cells u.aX)]) none none u.nl u.nl u.gl u.gl aa aa;rw[lT] at h;exact h) ?_;simp[go_sem];refine cE.mk' (.d (B true)) (fun _=>by have h:=Bp (σ++[.var (u.cells u.aX),.var (u.cells u.aX)]) none none u.nw u.nw u.gw u.gw aa aa;rw[lT] at h;exact h) ?_;simp[go_sem];exact af so
end Go.Proofs.YthpplckmbbachaaGreatDoor
