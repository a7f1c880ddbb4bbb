/- Contracts and lemmas, joined out of smaller texts by a program; no conditions. -/
import Derived.Test.YtmahphgjkpgidaaGreatDoorKB10
import Derived.Test.YtmahphgjkpgidaaGreatDoorKB13
set_option linter.unusedVariables false
set_option linter.unusedSimpArgs false
set_option maxHeartbeats 400000
set_option maxRecDepth 100000
namespace Go.Proofs.YtmahphgjkpgidaaGreatDoor
open Go.aU Go.dh Go.Proofs.Tryz
structure Yh(n:Nat)(g:Nat->Row)(u:Int)(K:Nat)(x:Nat->Nat):Prop where
 first:iK n g u=if 0=K then-1 else(x 0:Int)
 lt: ∀i,i<K->x i<n
 mid: ∀i,i+1<K->(g (x i)).Parent≠0/\iK n g (g (x i)).Parent=(x (i+1):Int)
 fin: ∀i,i+1=K->(g (x i)).Parent≠0->iK n g (g (x i)).Parent= -1
theorem cat_fun{f:Nat->Int}{k:Nat}{ds:List D}(h:ds.take 1=encI (f k)){q:Nat}(hq:q<k+1):bf k (fun q=>encI (f q)) (rowsOf 1 ds) q=encI (f q):=by
 unfold bf;split
 ·rfl
 ·have:q=k:=by omega
  subst this;simp[rowsOf,h]
theorem QK(σ:List aG)(c:Option Nat)(n:Nat)(g:Nat->Row)(u:Int)(K':Nat)(x:Nat->Nat)(hP:Yh n g u K' x)(hn:n<1000000000)(hK:K'<1000000000):aA prog 98 [.d (SL c 3 Row.enc n g),.d (I u)] σ (.d (SL none 1 encI K' (fun i=>(g (x i)).Unit))):=by
 refine aA.be func98 fun hwf=> ?_;refine ak fun K hK=>sm ?_;refine hK _ ?_;refine ak fun K hK=>sm ?_;refine hK _ ?_;refine VJ σ.length 1 (fun i=>encI (g (x i)).Unit) (by simp[go_sem]) (by simp[go_sem];rfl) ?_;refine aK ?_;refine ak fun K hK=>sm ?_;have hcl:=nP (rW (σ++[.var [.ms (σ.length+1) 1 0 0],.arr 1 0 (fun i=>encI (g (x i)).Unit)]) c n g u);refine aO.gen hcl ?_;rintro r σ' X ⟨rfl,rfl,rfl⟩;simp[go_sem];refine hK _ ?_;refine aS ?_;refine zF rfl [(5,.ptr σ.length 0)] (by simp[go_sem]) ?_;intro La hLa;have nI: ∀i,i<K'->YS prog (σ.length+4) [.agg ((g (x i)).enc.map .d)] (σ++[.var [.ms (σ.length+1) 1 0 i],.arr 1 i (fun q=>encI (g (x q)).Unit),.var [.d (SL c 3 Row.enc n g)],.var [.d (I u)],.lp La .ready none]) (fun r σ' X=>X=[σ.length+1]/\r= .d (B true)/\σ'=σ++[.var [.ms (σ.length+1) 1 0 (i+1)],.arr 1 (i+1) (fun q=>encI (g (x q)).Unit),.var [.d (SL c 3 Row.enc n g)],.var [.d (I u)],.lp La .ready none]):=by
  intro i hi;refine YS.WZ (L:=La) (pd:=none) (by simp[go_sem]) (by rw[hLa];rfl) ?_;intro hwf';have eN:=congrArg jJ.N hLa;have et:=congrArg jJ.t hLa;have ep:=congrArg jJ.ps hLa;have ea:=congrArg jJ.assign hLa;have eb:=congrArg jJ.body hLa;dsimp only at eN et ep ea eb;have h1:cZ [σ.length+1] La.t=La.t:=by rw[et];simp[cZ,AV.avoids]
  rw[eN,et,ep,ea,eb];clear eN et ep ea eb hLa hcl;refine aZ fun K hK=> ?_;simp[go_sem,St.QJ];refine hK _ ?_;simp[LM,go_sem,oW];refine aS ?_;refine JW ?_;refine aZ fun K hK=> ?_;simp[go_sem,hwf.one,h1];repeat refine⟨by omega,?_⟩
  refine hK _ ?_;refine⟨_,YH (σ.length+1) (fun q=>encI (g (x q)).Unit) (by simp[go_sem];exact⟨rfl,rfl,rfl⟩) (by exact fun q hq=>cat_fun (f:=fun q=>(g (x q)).Unit) rfl hq) (by simp[go_sem];rfl),?_⟩;simp[go_sem,FQ,Gg,oW,uM];exact au (by simp[go_sem])
 have hR:Ways (fun i=>σ++[.var [.ms (σ.length+1) 1 0 i],.arr 1 i (fun q=>encI (g (x q)).Unit),.var [.d (SL c 3 Row.enc n g)],.var [.d (I u)],.lp La .ready none]) c n g u K' x true (σ.length+4) (σ.length+2) (σ.length+3) (σ.length+1):=by
  refine⟨fun i=>by simp[go_sem],fun i=>by simp[go_sem],fun i=>by simp[go_sem],fun i=>by simp[go_sem],fun i=>au (by simp[go_sem]),fun i=>au (by simp[go_sem]),fun i=>by simp,by omega,by omega,by omega,hP.first,hP.lt,hP.mid,fun i hi=>nI i (by omega),fun i hi=>nI i (by omega),fun i hi _=>hP.fin i hi⟩
 have h3:=kM σ _ c n g u K' x true _ _ _ _ hR hn;refine CS.mono (Q:=fun r σ' X'=>X'=[σ.length+1]/\r= .eU []/\σ'=_) (by simpa[go_sem] using h3) ?_;rintro r σ' X ⟨rfl,rfl,rfl⟩;clear h3 hR nI hLa hcl;refine⟨σ++[.var [.ms (σ.length+1) 1 0 K'],.arr 1 K' (fun q=>encI (g (x q)).Unit),.var [.d (SL c 3 Row.enc n g)],.var [.d (I u)]],La,.ready,none,by simp[go_sem],au (by simp[go_sem]),by simp,by simp[oW],?_⟩;simp[Vf,go_sem,cZ,AV.avoids,dQ];refine ak fun K hK=>sm ?_;refine hK _ ?_;refine aF hwf (σ.length+1) ?_;exact aj sc
variable (σ : List aG)
def qO(g:Nat->Int):Nat->Bool
 |0=>true
 |1=>true
 |i+2=>qO g (i+1)&&decide (g i<g (i+1))
theorem DI(g:Nat->Int): ∀n,qO g n=true↔∀i,0<i->i<n->g (i-1)<g i
 |0=>by simp[qO]
 |1=>by simp only[qO,true_iff];intro i h1 h2;omega
 |n+2=>by
  rw[qO,Bool.and_eq_true,DI g (n+1)];constructor
  ·rintro⟨h1,h2⟩ i hp hi;by_cases he:i=n+1
   ·subst he;simpa using h2
   ·exact h1 i hp (by omega)
  ·intro h;exact⟨fun i hp hi=>h i hp (by omega),by simpa using h (n+1) (by omega) (by omega)⟩
theorem Tm{g:Nat->Int}{i:Nat}(hx: ∀q,0<q->q<i->g (q-1)<g q)(h:0<i->g (i-1)<g i): ∀q,0<q->q<i+1->g (q-1)<g q:=by
 intro q hp hq;by_cases hqi:q=i
 ·subst hqi;exact h hp
 ·exact hx q hp (by omega)
theorem Yb{g:Nat->Int}{n:Nat}(h: ∀q,0<q->q<n->g (q-1)<g q):qO g n=true:=(DI g n).2 h
theorem asc_no{g:Nat->Int}{n i:Nat}(hi:i<n)(hp:0<i)(h:g i<=g (i-1)):qO g n=false:=by
 cases hb:qO g n with
 |false=>rfl
 |true=>have:=(DI g n).1 hb i hp hi;omega
theorem FY(c:Option Nat)(n:Nat)(g:Nat->Int)(hn:n<1000000000):aA prog 191 [.d (SL c 1 encI n g)] σ (.d (B (qO g n))):=by
 refine aA.bs true func191 fun hwf=> ?_;refine kQ (α:=Nat) true [0,5,6] (fun i=>[(6,.d (I i))]) (fun i=>_) (fun i=>i<=n/\∀q,0<q->q<i->g (q-1)<g q) (fun i=>n-i) 0 ?_;rintro i ⟨hi,hx⟩;simp[go_sem];refine aJ [0,5,6] ?_ ?_<;>intro c0 d0
 ·simp[go_sem];refine T.dr 14 fun K hK=> ?_;simp[go_sem,dn (i:=i) (by omega)];repeat refine⟨by omega,?_⟩
  refine hK _ ?_;refine go true ?_;simp[go_sem];refine aJ [0,5,6] ?_ ?_<;>intro c1 d1
  ·simp[go_sem];rw[asc_no d0 d1.1 d1.2];exact aj sc
  ·simp(disch:=first|omega|simp) [go_sem,aH];refine gB (i+1) ⟨by omega,Tm hx d1⟩ (h:=by simp[go_sem]<;>omega)
 ·obtain rfl:i=n:=by omega
  simp[go_sem];refine go true ?_;simp[go_sem];rw[Yb hx];exact aj sc
theorem cloneAgr_cs(c:Option Nat)(n:Nat)(g:Nat->jW)(hn:n<1000000000):aA prog 79 [.d (SL c 6 jW.enc n g)] σ (.d (SL none 6 jW.enc n g)):=by
 refine aA.bd true func79 fun hwf=> ?_;simp[go_sem,-Bool.forall_bool];try intro b1 hb1
 refine fZ ?_ ?_<;>intro c0 d0
 ·simp[go_sem];refine aj ?_;have:=hb1 c0;simp[go_sem,this]
 ·simp[go_sem];repeat refine⟨by omega,?_⟩
  refine bK (σ.length) (by simp[go_sem];exact⟨rfl,rfl,rfl⟩) (by simp[go_sem];rfl) (by simp[go_sem,hwf.sZ,hwf.qH];rfl) ?_;exact aj so
theorem rM(c:Option Nat)(n:Nat)(g:Nat->Int)(hn:n<1000000000):aA prog 43 [.d (SL c 1 encI n g)] σ (.d (SL none 1 encI n g)):=by
 refine aA.bd true func43 fun hwf=> ?_;simp[go_sem,-Bool.forall_bool];try intro b1 hb1
 refine fZ ?_ ?_<;>intro c0 d0
 ·simp[go_sem];refine aj ?_;have:=hb1 c0;simp[go_sem,this]
 ·simp[go_sem];repeat refine⟨by omega,?_⟩
  refine bK (σ.length) (by simp[go_sem];exact⟨rfl,rfl,rfl⟩) (by simp[go_sem];rfl) (by simp[go_sem,hwf.sZ,hwf.qH];rfl) ?_;exact aj so
end Go.Proofs.YtmahphgjkpgidaaGreatDoor
namespace Go.Proofs.YtmahphgjkpgidaaGreatDoor
open Go.aU Go.dh
theorem pigeon: ∀(n K:Nat) (x:Nat->Nat),(∀i,i<K->x i<n)->(∀i j,i<j->j<K->x i≠x j)->K<=n
 |0,K,x,h1,_=>by
  cases K with
  |zero=>omega
  |succ K=>exact absurd (h1 0 (by omega)) (by omega)
 |n+1,K,x,h1,h2=>by
  by_cases he: ∃i,i<K/\x i=n
  ·obtain⟨i,hi,hx⟩:=he;have:=pigeon n (K-1) (fun k=>if k<i then x k else x (k+1)) (fun k hk=>by
    by_cases hki:k<i
    ·simp only[hki,if_true];have:=h1 k (by omega);have:=h2 k i hki hi;omega
    ·simp only[hki,if_false];have:=h1 (k+1) (by omega);have:=h2 i (k+1) (by omega) (by omega);omega) (fun a b hab hb=>by
    by_cases ha:a<i
    ·by_cases hbi:b<i
     ·simp only[ha,hbi,if_true];exact h2 a b hab (by omega)
     ·simp only[ha,hbi,if_true,if_false];exact h2 a (b+1) (by omega) (by omega)
    ·simp only[ha,show ¬b<i by omega,if_false];exact h2 (a+1) (b+1) (by omega) (by omega))
   omega
  ·have:=pigeon n K x (fun k hk=>by
    have:=h1 k hk;have:x k≠n:=fun h=>he ⟨k,hk,h⟩;omega) h2
   omega
def parI(n:Nat)(g:Nat->Row)(i:Nat):Nat:=(iK n g (g i).Parent).toNat
def fK(n:Nat)(g:Nat->Row)(i:Nat):Nat->Nat
 |0=>i
 |k+1=>parI n g (fK n g i k)
theorem LG(n:Nat)(g:Nat->Row)(i a:Nat): ∀b,fK n g i (a+b)=fK n g (fK n g i a) b
 |0=>rfl
 |b+1=>by rw[←Nat.add_assoc,fK,LG n g i a b,fK]
def rowOk(r:Row):Bool:=IY r.Unit&&decide (0<=r.Parent)&&decide (r.Parent<=1073741824)&&decide (0<=r.fP)&&decide (r.fP<=1073741824)
def Ew(g:Nat->Row)(i:Nat):Int:=if rowOk (g i)=false then 2 else if 0<i/\(g i).Unit<=(g (i-1)).Unit then 5 else 0
def KU(n:Nat)(g:Nat->Row)(i:Nat):Int:=if(g i).Parent≠0/\iK n g (g i).Parent<0 then 7 else 0
def Cyc(n:Nat)(g:Nat->Row)(i:Nat):Prop:= ∀k,k<=n->(g (fK n g i k)).Parent≠0
open Classical in
noncomputable def cu(n:Nat)(g:Nat->Row):Int:=
 if 256<n then 8 else if aQ (Ew g) 0 n≠0 then aQ (Ew g) 0 n else if aQ (KU n g) 0 n≠0 then aQ (KU n g) 0 n
 else if ∃i,i<n/\Cyc n g i then 17 else 0
theorem findR_lt(n:Nat)(g:Nat->Row)(u:Int):iK n g u<n:=mX _ n g
theorem I7{n:Nat}{g:Nat->Row}{u:Int}(h:0<=iK n g u):(iK n g u).toNat<n/\(g (iK n g u).toNat).Unit=u/\iK n g u=((iK n g u).toNat:Int):=by
 have h1:=findR_lt n g u;refine⟨by omega,?_,by omega⟩;rcases mg (fun r:Row=>r.Unit==u) (lst n g) 0 with⟨h2,_⟩|⟨q,h2,h3,x,h4,h5,_⟩
 ·unfold iK at h;omega
 ·have e:(iK n g u).toNat=q:=by unfold iK;rw[h3];omega
  rw[bT] at h2;rw[yY h2] at h4;rw[e];cases h4;simpa using h5
theorem findR_ge(n:Nat)(g:Nat->Row)(u:Int): -1<=iK n g u:=by
 rcases mg (fun r:Row=>r.Unit==u) (lst n g) 0 with⟨h2,_⟩|⟨q,h2,h3,_⟩<;>unfold iK<;>omega
structure Good(n:Nat)(g:Nat->Row):Prop where
 le:n<=256
 ok: ∀i,i<n->rowOk (g i)=true
 asc: ∀i j,j<i->i<n->(g j).Unit<(g i).Unit
 par: ∀i,i<n->(g i).Parent≠0->0<=iK n g (g i).Parent
theorem good_of{n:Nat}{g:Nat->Row}(h0:n<=256)(h1:aQ (Ew g) 0 n=0)(h2:aQ (KU n g) 0 n=0):Good n g:=by
 have he: ∀i,i<n->rowOk (g i)=true/\(0<i->(g (i-1)).Unit<(g i).Unit):=fun i hi=>by
  have:=wz h1 i (by omega) (by omega);unfold Ew at this;split at this
  ·omega
  ·rename_i h1;split at this
   ·omega
   ·exact⟨by simpa using h1,fun hp=>by omega⟩
 refine⟨h0,fun i hi=>(he i hi).1,?_,fun i hi hp=> ?_⟩
 ·intro i;induction i with
  |zero=>intro j hj;omega
  |succ i ih=>
   intro j hj hi;have h1:=(he (i+1) hi).2 (by omega);simp only[Nat.add_sub_cancel] at h1;rcases Nat.lt_or_eq_of_le (Nat.le_of_lt_succ hj) with h|h
   ·have:=ih j h (by omega);omega
   ·rw[h];exact h1
 ·have:=wz h2 i (by omega) (by omega);unfold KU at this;split at this
  ·omega
  ·rename_i h;omega
theorem Good.find{n:Nat}{g:Nat->Row}(h:Good n g){i:Nat}(hi:i<n):iK n g (g i).Unit=(i:Int):=by
 have h1:0<=iK n g (g i).Unit:=by
  rcases mg (fun r:Row=>r.Unit==(g i).Unit) (lst n g) 0 with⟨h2,h3⟩|⟨q,h2,h3,_⟩
  ·have:=h3 (g i) (by simp only[lst,List.mem_map,List.mem_range];exact⟨i,hi,rfl⟩);simp at this
  ·unfold iK;omega
 obtain⟨h2,h3,h4⟩:=I7 h1;rw[h4];congr 1
 rcases Nat.lt_trichotomy (iK n g (g i).Unit).toNat i with h5|h5|h5
 ·have:=h.asc _ _ h5 hi;omega
 ·exact h5
 ·have:=h.asc _ _ h5 h2;omega
theorem Good.yg{n:Nat}{g:Nat->Row}(h:Good n g){i:Nat}(hi:i<n): ∀k,(∀q,q<k->(g (fK n g i q)).Parent≠0)->fK n g i k<n
 |0,_=>hi
 |k+1,hk=>by
  have h1:=h.yg hi k fun q hq=>hk q (by omega);rw[fK,parI];exact(I7 (h.par _ h1 (hk k (by omega)))).1
theorem Good.Gw{n:Nat}{g:Nat->Row}(h:Good n g){i:Nat}(hi:i<n){k:Nat}(hk: ∀q,q<=k->(g (fK n g i q)).Parent≠0):iK n g (g (fK n g i k)).Parent=(fK n g i (k+1):Int)/\(g (fK n g i (k+1))).Unit=(g (fK n g i k)).Parent:=by
 have h1:=h.yg hi k fun q hq=>hk q (by omega);have h2:=I7 (h.par _ h1 (hk k (by omega)));exact⟨h2.2.2,h2.2.1⟩
theorem aak{p:Nat->Prop} : ∀(k:Nat),p k->∃q,q<=k/\p q/\∀r,r<q->¬p r
 |0,h=>⟨0,by omega,h,fun r hr=>by omega⟩
 |k+1,h=>by
  by_cases h0: ∃r,r<=k/\p r
  ·obtain⟨r,hr,hp⟩:=h0;obtain⟨q,h1,h2,h3⟩:=aak (p:=fun j=>p j/\j<=r) r ⟨hp,by omega⟩;exact⟨q,by omega,h2.1,fun j hj hpj=>h3 j hj ⟨hpj,by omega⟩⟩
  ·exact⟨k+1,by omega,h,fun r hr hp=>h0 ⟨r,by omega,hp⟩⟩
theorem Good.ends{n:Nat}{g:Nat->Row}(h:Good n g){i:Nat}(hi:i<n){k:Nat}(hk:(g (fK n g i k)).Parent=0): ∃K,K<n/\K<=k/\(g (fK n g i K)).Parent=0/\∀q,q<K->(g (fK n g i q)).Parent≠0:=by
 obtain⟨K,h1,h2,h3⟩:=aak (p:=fun k=>(g (fK n g i k)).Parent=0) k hk;refine⟨K,?_,h1,h2,h3⟩;have:=pigeon n (K+1) (fK n g i) (fun q hq=>h.yg hi q fun r hr=>h3 r (by omega)) (fun a b hab hb he=>by
  have e1:=LG n g i b (K-b);have e2:=LG n g i a (K-b);rw[←he,←e2,show b+(K-b)=K by omega] at e1;rw[e1] at h2;exact h3 _ (by omega) h2)
 omega
theorem UL{n:Nat}{g:Nat->Row}(h:cu n g=0):Good n g/\∀i,i<n->∃K,K<n/\(g (fK n g i K)).Parent=0/\∀q,q<K->(g (fK n g i q)).Parent≠0:=by
 unfold cu at h;split at h
 ·omega
 rename_i h0;split at h
 ·omega
 rename_i h1;split at h
 ·omega
 rename_i h2;split at h
 ·omega
 rename_i h3;have hg:=good_of (by omega) (Decidable.not_not.1 h1) (Decidable.not_not.1 h2);refine⟨hg,fun i hi=> ?_⟩;apply Classical.byContradiction;intro hn;refine h3 ⟨i,hi,fun k hk he=> ?_⟩;obtain⟨K,h4,_,h5,h6⟩:=hg.ends hi he;exact hn ⟨K,h4,h5,h6⟩
def gQ(n:Nat)(g:Nat->Row)(u:Int):Nat->Nat:=fK n g (iK n g u).toNat
noncomputable def uq(n:Nat)(g:Nat->Row)(u:Int):Nat:=Classical.epsilon fun K=>K<=n/\Yh n g u K (gQ n g u)
theorem way_of{n:Nat}{g:Nat->Row}(h:cu n g=0)(u:Int):uq n g u<=n/\Yh n g u (uq n g u) (gQ n g u):=by
 obtain⟨hg,hc⟩:=UL h;refine Classical.epsilon_spec (p:=fun K=>K<=n/\Yh n g u K (gQ n g u)) ?_;by_cases hf:0<=iK n g u
 ·obtain⟨h1,h2,h3⟩:=I7 hf;obtain⟨K,h4,h5,h6⟩:=hc _ h1;refine⟨K+1,by omega,?_,fun i hi=>hg.yg h1 i fun q hq=>h6 q (by omega),fun i hi=>⟨h6 i (by omega),(hg.Gw h1 fun q hq=>h6 q (by omega)).1⟩,fun i hi he=> ?_⟩
  ·rw[if_neg (by omega)];exact h3
  ·obtain rfl:i=K:=by omega
   exact absurd h5 he
 ·have:=findR_ge n g u;refine⟨0,by omega,by rw[if_pos rfl];omega,fun i hi=>by omega,fun i hi=>by omega,fun i hi=>by omega⟩
end Go.Proofs.YtmahphgjkpgidaaGreatDoor
