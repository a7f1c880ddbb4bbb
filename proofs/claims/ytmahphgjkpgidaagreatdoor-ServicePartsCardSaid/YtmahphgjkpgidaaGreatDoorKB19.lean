/- Contracts and lemmas, joined out of smaller texts by a program; no conditions. -/
import Derived.Test.YtmahphgjkpgidaaGreatDoorKB2
set_option linter.unusedVariables false
set_option linter.unusedSimpArgs false
namespace Go.aU.Steps
open Go.aU
open Go.aU.Mix (fG bI qL Dw)
def actB(P:Program)(o:Oper)(s:St)(K:AV->List aG->Prop):Prop:=
 match o.op with
 | .mapEntry t m k=>arg true s m fun m=>arg true s k fun k=>entA P t s.σ m k K
 | .entryStore t m x v=>arg true s m fun m=>arg true s x fun x=>arg true s v fun v=>estA s.σ m x v fun σ'=>K .undef σ'
 | .store t p v=>arg true s p fun p=>arg true s v fun v=>uy P t s p v fun s'=>K .undef s'.σ
 | .extract x i=>pv P true s (.extract x i) fun av=>K av s.σ
 |_=>False
theorem actB_sound{P:Program}{all:List Oper}{o:Oper}{s:St}{K:AV->List aG->Prop}(h:actB P o s K){j0:J0}{j:Js}{a:Act}{w:World}{next:Act->World->Prop}{Q:Exit->Act->World->Prop}
  (hr:Rel j0 (s.bD (looks all o)) j a w) (hn: ∀v w' r σ',aT w' j σ'->R w' j r v->Ev j w j w'->K r σ'->next (a.put o.dst v) w'):o.wpIn (FW j0.rd) 0 P a w next Q:=by
 have o9:aT w j s.σ:=hr.dA;have mem: ∀x∈o.op.operands,∀t,x= .tmp t->t∈looks all o:=fun x hx t ht=>List.mem_append.2 (.inl (uN hx ht));unfold actB at h;split at h
 ·rename_i t m k ho;rw[←aN (mem m (by simp[ho,Op.operands]))] at h;obtain⟨ma,h,hm⟩:=aB h;rw[←aN (mem k (by simp[ho,Op.operands]))] at h;obtain⟨ka,h,hk⟩:=aB h;obtain⟨v,w',r,σ',h1,h2,h3,h4,h5⟩:=Vs (P:=P) o9 h (hm rfl j0 j a w hr) (hk rfl j0 j a w hr);have hrun:(execOp a.eval o).run P w= .ok (.value v) w':=by
   simp only[execOp,ho];exact iI h1
  refine xg (by simp[ho]) hrun ?_;exact hn v w' r σ' h2 h3 h4 h5
 ·rename_i t m x v ho;rw[←aN (mem m (by simp[ho,Op.operands]))] at h;obtain⟨ma,h,hm⟩:=aB h;rw[←aN (mem x (by simp[ho,Op.operands]))] at h;obtain⟨xa,h,hx⟩:=aB h;rw[←aN (mem v (by simp[ho,Op.operands]))] at h;obtain⟨va,h,hv⟩:=aB h;obtain⟨w',σ',h1,h2,h3,h4⟩:=Vq (P:=P) (t:=t) o9 h (hm rfl j0 j a w hr) (hx rfl j0 j a w hr) (hv rfl j0 j a w hr);have hrun:(execOp a.eval o).run P w= .ok .skip w':=by simp[execOp,ho,h1]
  refine xg (by simp[ho]) hrun ?_;exact hn _ w' _ σ' h2 (.undef _) h3 h4
 ·rename_i t p v ho;rw[←aN (mem p (by simp[ho,Op.operands]))] at h;obtain⟨pa,h,hp⟩:=aB h;rw[←aN (mem v (by simp[ho,Op.operands]))] at h;obtain⟨va,h,hv⟩:=aB h;unfold uy at h;split at h
  ·rename_i agg m ht;obtain⟨hone,hlen,h⟩:=h;split at h
   ·rename_i side σ' hst;obtain⟨hside,hK⟩:=h;obtain⟨w',h1,h2,h3⟩:=BD (P:=P) o9 ht (hp rfl j0 j a w hr) (hv rfl j0 j a w hr) hone hlen hst hside;have hrun:(execOp a.eval o).run P w= .ok .skip w':=by simp[execOp,ho,h1]
    refine xg (by simp[ho]) hrun ?_;exact hn _ w' _ σ' h2 (.undef _) h3 hK
   ·exact h.elim
  ·exact h.elim
 ·rename_i x i ho;rw[←Zb (by rw[←ho];exact mem)] at h;obtain⟨av,hK,hy⟩:=QH h;obtain⟨v,h1,h2⟩:=hy rfl j0 j a w o ho hr;refine xg (by simp[ho]) h1 ?_;exact hn v w av s.σ o9 h2 (.refl _ _) hK
 ·exact h.elim
def Fp(P:Program)(all:List Oper)(is:List (Nat×Option Nat)):List Oper->Nat->St->(St->Prop)->Prop
 |[],_,s,K=>K s
 |o::os,i,s,K=>if yV is i then Fp P all is os (i+1) (s.put o.dst .undef) K
  else jQ all s o fun gd g=>WY P true gd g o s fun s'=>Fp P all is os (i+1) s' K
theorem unrollH{P:Program}{all:List Oper}{is:List (Nat×Option Nat)} : ∀{os:List Oper} {i0:Nat} {s:St} {K:St->Prop},Fp P all is os i0 s K->
  ∃xs:Nat->AV,K (dK s os xs os.length)/\(∀i,yV is (i0+i)=true->xs i= .undef)/\∀i o,os[i]? =some o->yV is (i0+i)=false->Local P all o (dK s os xs i) (xs i)
 |[],i0,s,K,h=>⟨fun _=> .undef,h,fun _ _=>rfl,by simp⟩
 |o::os,i0,s,K,h=>by
  have key: ∀x:AV,Fp P all is os (i0+1) (s.put o.dst x) K->(yV is i0=true->x= .undef)->(yV is i0=false->Local P all o s x)->
    ∃xs:Nat->AV,K (dK s (o::os) xs (o::os).length)/\(∀i,yV is (i0+i)=true->xs i= .undef)/\∀i o',(o::os)[i]? =some o'->yV is (i0+i)=false->Local P all o' (dK s (o::os) xs i) (xs i):=by
   intro x h hx hl;obtain⟨xs,hK,hia,hloc⟩:=unrollH h;have hst: ∀i,dK s (o::os) (fun|0=>x|i+1=>xs i) (i+1)=dK (s.put o.dst x) os xs i:=by
    intro i;induction i with
    |zero=>rfl
    |succ i ih=>
     show(match(o::os)[i+1]? with|some o'=>(dK s (o::os) (fun|0=>x|i+1=>xs i) (i+1)).put o'.dst (xs i)|none=>dK s (o::os) (fun|0=>x|i+1=>xs i) (i+1))=_
     rw[ih];simp only[List.getElem?_cons_succ];rfl
   refine⟨fun|0=>x|i+1=>xs i,?_,fun i hi=> ?_,fun i o' hi h1=> ?_⟩
   ·rw[List.length_cons,hst];exact hK
   ·cases i with
    |zero=>exact hx (by simpa using hi)
    |succ i=>exact hia i (by rw[show i0+1+i=i0+(i+1) by omega];exact hi)
   ·cases i with
    |zero=>simp at hi;subst hi;exact hl (by simpa using h1)
    |succ i=>rw[hst];exact hloc i o' (by simpa using hi) (by rw[show i0+1+i=i0+(i+1) by omega];exact h1)
  simp only[Fp] at h;by_cases h1:yV is i0=true
  ·rw[if_pos h1] at h;exact key _ h (fun _=>rfl) (fun h2=>by rw[h1] at h2;cases h2)
  ·rw[if_neg h1] at h;obtain⟨x,hl,h⟩:=IE h;exact key x h (fun h3=>absurd h3 h1) (fun _=>hl)
def pAt(is:List (Nat×Option Nat))(vs:List (AV×List aG))(t:List (Nat×AV)):Nat->List (Nat×AV)
 |0=>t
 |k+1=>(match dsB is k with
  |some d=>put t d (vs.getD k (.undef,[])).1
  |none=>t)
def tAt(σ:List aG)(vs:List (AV×List aG)):Nat->List aG
 |0=>σ
 |k+1=>(vs.getD k (.undef,[])).2
structure InvH(s:St)(ops:List Oper)(m:Nat)(is:List (Nat×Option Nat))(vs:List (AV×List aG))(t1:List (Nat×AV))(j0:J0)(k0:Nat)(listed:Array Bool)(j:Js)(a:Act)(w:World):Prop extends Core s.N s.t t1 (fun _=>True) ops m j0 listed j a w where
 dA:aT w j (tAt s.σ vs k0)
 len0:j0.js.length<=j.length
 ag:Ag j0.js j s.mv
 Rx:k0<=is.length
 done: ∀k,k<is.length->listed.getD (rC is k) true=decide (k<k0)
 cur: ∀k d,k+1=k0->dsB is k=some d->d<s.N/\R w j (vs.getD k (.undef,[])).1 (a.tmps.getD d Go.undef)
theorem pAt_get{is:List (Nat×Option Nat)}{vs:List (AV×List aG)}{t:List (Nat×AV)}{X:Nat->AV->Prop}{n k:Nat}{av:AV}(hb: ∀av,get t k=some av->X k av)(hc: ∀k' d,k'+1=n->dsB is k'=some d->X d (vs.getD k' (.undef,[])).1)(hk:get (pAt is vs t n) k=some av):X k av:=by
 cases n with
 |zero=>exact hb av hk
 |succ n=>
  simp only[pAt] at hk;cases hds:dsB is n with
  |none=>rw[hds] at hk;exact hb av hk
  |some d=>
   simp only[hds,get_put] at hk;split at hk
   ·rename_i hd;subst hd;obtain rfl:=Option.some.inj hk;exact hc n _ rfl hds
   ·exact hb av hk
section
variable {P : Program} {ops : List Oper} {m : Nat} {is : List (Nat × Option Nat)} {vs : List (AV × List aG)} {V : Nat -> List (AV × List aG)} {F : List aG -> Prop}
structure PureH(P:Program)(F:List aG->Prop)(s:St)(ops:List Oper)(m:Nat)(is:List (Nat×Option Nat))(t1:List (Nat×AV)):Prop where
 at_: ∀σ':List aG,F σ'->∃xs:Nat->AV,(dK s (ops.take m) xs m).t=t1/\(∀i,yV is i=true->xs i= .undef)/\
  ∀i o,i<m->ops[i]? =some o->yV is i=false->Local P ops o ⟨s.N,(dK s (ops.take m) xs i).t,σ',s.mv⟩ (xs i)
structure OwnH(P:Program)(F:List aG->Prop)(ops:List Oper)(is:List (Nat×Option Nat))(V:Nat->List (AV×List aG))(s:St)(t1:List (Nat×AV)):Prop where
 act: ∀k,k<is.length->∃o,ops[rC is k]? =some o/\∀q,actB P o ⟨s.N,pAt is (V q) t1 k,tAt s.σ (V q) k,s.mv⟩ fun r' σ'=> ∃q',(0<k->q'=q)/\r'=((V q').getD k (.undef,[])).1/\σ'=((V q').getD k (.undef,[])).2
 fam: ∀q k,k<=is.length->F (tAt s.σ (V q) k)
 inN: ∀k d,k<is.length->dsB is k=some d->d<s.N
theorem phaseH(hok:dY ops m=true)(hmn:m<=ops.length)(hch:fG ops m is=true){Q:Exit->St->Prop}{j0:J0}{j1:Js}{w1:World}{s:St}{t1:List (Nat×AV)}
  (hW:OwnH P F ops is V s t1) (hP:PureH P F s ops m is t1)
  (hK: ∀q,bH P false ops (ops.drop m) ⟨s.N,pAt is (V q) t1 is.length,tAt s.σ (V q) is.length,s.mv⟩ (Q .normal)):
  ∀(fuel:Nat) (j:Js) (a:Act) (w:World) (listed:Array Bool),left listed ops.length=fuel->(∃k0 q,InvH s ops m is (V q) t1 j0 k0 listed j a w)->Ev j1 w1 j w->wpAnyIn (FW j0.rd) 0 P .any ops.toArray (FD j0 j1 w1 Q) fuel listed a w:=by
 refine WV hok hmn (fun listed j a w=> ∃k0 q,InvH s ops m is (V q) t1 j0 k0 listed j a w) ?_ ?_ ?_
 ·rintro listed j a w ⟨k0,z,hI⟩;exact⟨_,_,_,_,hI.toCore⟩
 ·rintro listed j a w ⟨k0,z,hI⟩ hdone;obtain rfl:k0=is.length:=by
   rcases Nat.lt_or_ge k0 is.length with h|h
   ·obtain⟨_,_,_,_,h1,_⟩:=bI hch h;have h2:=hI.done k0 h;rw[hdone _ h1] at h2;simp at h2
   ·have:=hI.Rx;omega
  obtain⟨xs,hxs,_,_⟩:=hP.at_ _ (hW.fam 0 0 (Nat.zero_le _));exact⟨⟨s.N,pAt is (V z) t1 is.length,tAt s.σ (V z) is.length,s.mv⟩,⟨hI.defers,hI.jY,hI.size,fun k av hk=>pAt_get (X:=fun k av=>k<s.N/\R w j av (a.tmps.getD k Go.undef)) (fun av h=>hI.toCore.done hxs hdone h) hI.cur hk,hI.dA,hI.len0,hI.ag⟩,hK z⟩
 ·rintro listed j a w i o next ⟨k0,z,hI⟩ him ho h0 hall hn
  have hokA:=Cj ((ji hok ho).2.1 him);have hil:i<ops.length:=by omega
  have Xl:i<listed.size:=by rw[hI.lsize];exact hil
  have step: ∀(w':World) (v:Value) (k1 z1:Nat),aT w' j (tAt s.σ (V z1) k1)->Ev j w j w'->
    k1<=is.length->(∀k,k<is.length->(listed.setIfInBounds i true).getD (rC is k) true=decide (k<k1))->
    (∀k d,k+1=k1->dsB is k=some d->d<s.N/\R w' j ((V z1).getD k (.undef,[])).1 ((a.put o.dst v).tmps.getD d Go.undef))->
    (∀k av,o.dst=some k->get t1 k=some av->k<s.N/\R w' j av v)->next (a.put o.dst v) w':=by
   intro w' v k1 z1 o9 hev hk1 hdn hcu hv;have mono: ∀{av:AV} {v:Value},R w j av v->R w' j av v:=fun hR=>hR.lZ hev hI.dA.lt (.refl _ _);exact hn j v w' ⟨k1,z1,hI.toCore.step hok hmn him ho hall hev (fun k av h _=>⟨av,h,fun _=>mono⟩) (fun k av h=>⟨av,h,fun _ h1 h2=>⟨h1,mono h2⟩⟩) hv,o9,hI.len0,hI.ag,hk1,hdn,hcu⟩ hev
  by_cases hia:yV is i=true
  ·
   obtain⟨k,hkl,rfl⟩:=IB.1 hia;obtain⟨oa,hoa,hgd,hdst,_,hself,wo,hprev⟩:=bI hch hkl;obtain rfl:o=oa:=by rw[ho] at hoa;exact Option.some.inj hoa
   obtain⟨ob,hob,hact⟩:=hW.act k hkl;obtain rfl:o=ob:=by rw[ho] at hob;exact Option.some.inj hob
   have hkk:k=k0:=by
    have h1:=hI.done k hkl;rw[h0] at h1;have h2:k0<=k:=by simpa using h1
    rcases Nat.lt_or_ge k0 k with h3|h3
    ·have h4:=hI.toCore.far hall (hprev (by omega)).1;have h5:=qL hch (a:=k-1) (b:=k) (by omega) hkl;rw[jv hI.lsize (show rC is (k-1)<ops.length by omega),hI.done (k-1) (by omega)] at h4;have:k-1<k0:=by simpa using h4
     omega
    ·omega
   subst hkk;obtain⟨xs,hxs,hxa,hloc⟩:=hP.at_ _ (hW.fam 0 0 (Nat.zero_le _));have hr:Rel j0 ((⟨s.N,pAt is (V z) t1 k,tAt s.σ (V z) k,s.mv⟩:St).bD (looks ops o)) j a w:=by
    refine⟨hI.defers,hI.jY,hI.size,fun q av hk=> ?_,hI.dA,hI.len0,hI.ag⟩;simp only[St.bD,iU] at hk;split at hk
    ·rename_i hkl;exact pAt_get (X:=fun k av=>k<s.N/\R w j av (a.tmps.getD k Go.undef)) (fun av h=>hI.toCore.late hok hmn hxs him ho hall hself wo (by simpa using hkl) h) hI.cur hk
    ·simp at hk
   have hw:Region.wanted o (yielded ops.toArray a.tmps)=true:=by simp[Region.wanted,hgd]
   rw[if_pos hw];refine actB_sound (hact z) hr fun v w' r' σ' h6 h7 h8 h11=> ?_;obtain⟨z',_,rfl,rfl⟩:=h11;refine step w' v (k+1) z' h6 h8 hkl (fun q hq=> ?_) (fun q d hq hd=> ?_) (fun q av hq hgt=> ?_)
   ·by_cases hqk:q=k
    ·subst hqk;simp[Xl]
    ·rw[getD_set_ne true (fun h=>hqk (Dw hch hq hkl h.symm)),hI.done q hq];congr 1;apply propext;omega
   ·obtain rfl:q=k:=by omega
    refine⟨hW.inN q d hkl hd,?_⟩;simp only[Act.put,hdst,hd];rw[ni (w:=w) (j:=j) (by rw[hI.size];exact hW.inN q d hkl hd),if_pos rfl];exact h7
   ·rw[←hxs,mF hok hmn him ho hq him (Nat.le_refl _),hxa _ hia] at hgt;split at hgt
    ·rename_i hlt;obtain rfl:AV.undef=av:=Option.some.inj hgt;exact⟨hlt,.undef _⟩
    ·simp at hgt
  ·
   have hia:yV is i=false:=by simpa using hia
   obtain⟨xs,hxs,hxa,hloc⟩:=hP.at_ _ (hW.fam z k0 hI.Rx);have hL:=hloc i o him ho hia;have hrel:Rel j0 ((⟨s.N,(dK s (ops.take m) xs i).t,tAt s.σ (V z) k0,s.mv⟩:St).bD (looks ops o)) j a w:=by
    refine⟨hI.defers,hI.jY,hI.size,fun k av hk=> ?_,hI.dA,hI.len0,hI.ag⟩;simp only[St.bD,iU] at hk;split at hk
    ·rename_i hkl;exact hI.toCore.looks hok hmn hxs him ho h0 hall (by simpa using hkl) hk
    ·simp at hk
   have hdn: ∀k,k<is.length->(listed.setIfInBounds i true).getD (rC is k) true=decide (k<k0):=by
    intro k hk;rw[getD_set_ne true (fun h=>by
     have:=IB.2 ⟨k,hk,h.symm⟩;rw[hia] at this;cases this),hI.done k hk]
   have hcu: ∀(w':World) (v:Value),Ev j w j w'->∀k d,k+1=k0->dsB is k=some d->d<s.N/\R w' j ((V z).getD k (.undef,[])).1 ((a.put o.dst v).tmps.getD d Go.undef):=by
    intro w' v hev k d hk hd0;have h1:=hI.cur k d hk hd0;have hkl:k<is.length:=by have:=hI.Rx;omega
    obtain⟨oa,hoa,_,hdst,hlt,_⟩:=bI hch hkl;have hne:o.dst≠some d:=fun hd=>hokA.2 (rC is k) oa _ hlt (fun h=>by
     have:=IB.2 ⟨k,hkl,h⟩;rw[hia] at this;cases this) hoa hd (by rw[hdst,hd0])
    rw[KN hne];exact⟨h1.1,h1.2.lZ hev hI.dA.lt (.refl _ _)⟩
   have hval: ∀(w':World) (v:Value),R w' j (xs i) v->∀k av,o.dst=some k->get t1 k=some av->k<s.N/\R w' j av v:=by
    intro w' v hr k av hk hgt;rw[←hxs,mF hok hmn him ho hk him (Nat.le_refl _)] at hgt;split at hgt
    ·rename_i hlt;obtain rfl:xs i=av:=Option.some.inj hgt;exact⟨hlt,hr⟩
    ·simp at hgt
   by_cases hw:Region.wanted o (yielded ops.toArray a.tmps)=true
   ·rw[if_pos hw];exact hL.run j0 j a w _ _ hrel hw fun w' v h1 h2 h3=>step w' v k0 z h1 h2 hI.Rx hdn (hcu w' v h2) (hval w' v h3)
   ·rw[if_neg hw];exact step w Go.undef k0 z hI.dA (.refl _ _) hI.Rx hdn (hcu w _ (.refl _ _)) (hval w _ (hL.skip j0 j a w hrel (by simpa using hw)))
end
def Wn(P:Program)(ops:List Oper)(s:St)(t1:List (Nat×AV))(is:List (Nat×Option Nat))(V:Nat->List (AV×List aG)):Nat->Prop
 |0=>True
 |k+1=>Wn P ops s t1 is V k/\(match sV ops (rC is k) with
  |some o=> ∀q,actB P o ⟨s.N,pAt is (V q) t1 k,tAt s.σ (V q) k,s.mv⟩ fun r' σ'=> ∃q',(0<k->q'=q)/\r'=((V q').getD k (.undef,[])).1/\σ'=((V q').getD k (.undef,[])).2
  |none=>False)
theorem Ql{P:Program}{ops:List Oper}{s:St}{t1:List (Nat×AV)}{is:List (Nat×Option Nat)}{V:Nat->List (AV×List aG)} : ∀{n:Nat},Wn P ops s t1 is V n->
  ∀k,k<n->∃o,ops[rC is k]? =some o/\∀q,actB P o ⟨s.N,pAt is (V q) t1 k,tAt s.σ (V q) k,s.mv⟩ fun r' σ'=> ∃q',(0<k->q'=q)/\r'=((V q').getD k (.undef,[])).1/\σ'=((V q').getD k (.undef,[])).2
 |0,_,k,hk=>by omega
 |n+1,h,k,hk=>by
  rcases Nat.lt_or_eq_of_le (Nat.le_of_lt_succ hk) with h1|h1
  ·exact Ql h.1 k h1
  ·subst h1;have h2:=h.2;rw[jA] at h2;split at h2
   ·rename_i o ho;exact⟨o,ho,h2⟩
   ·exact h2.elim
theorem awp_steps{P:Program}{Q:Exit->St->Prop}{N:Nat}{t:List (Nat×AV)}{σ:List aG}{mv:List Nat}{id:Nat}{ops:List Oper}(m:Nat)(is:List (Nat×Option Nat))(V:Nat->List (AV×List aG))(F:List aG->Prop)(hm:P.follows .mixedOrders=true)(hok:(dY ops m&&Nat.ble m ops.length&&fG ops m is)=true){t1:List (Nat×AV)}
  (h1: ∀(σ':List aG) (K:St->Prop),F σ'->(∀AY mv',K ⟨N,t1,AY,mv'⟩)->Fp P ops is (ops.take m) 0 ⟨N,t,σ',mv⟩ K)
  (hN: ∀k d,k<is.length->dsB is k=some d->d<N) (hF: ∀q k,k<=is.length->F (tAt σ (V q) k))
  (h2:Wn P ops ⟨N,t,σ,mv⟩ t1 is V is.length)
  (h3: ∀q,bH P false ops (ops.drop m) ⟨N,pAt is (V q) t1 is.length,tAt σ (V q) is.length,mv⟩ (Q .normal)):fA P (.region id ops.toArray true) Q ⟨N,t,σ,mv⟩:=by
 intro j0 j a w hr;simp only[Bool.and_eq_true,Nat.ble_eq] at hok;obtain⟨⟨hok,hmn⟩,hch⟩:=hok;have hP:PureH P F ⟨N,t,σ,mv⟩ ops m is t1:=⟨fun σ' hσ'=>by
  have h:=h1 σ' (fun s'=>s'.t=t1) hσ' (fun _ _=>rfl);have hlen:(ops.take m).length=m:=by simp;omega
  obtain⟨xs,hK,hia,hloc⟩:=unrollH h;have hext:=uz ⟨N,t,σ,mv⟩ σ' (ops.take m) xs;refine⟨xs,?_,fun i hi=>hia i (by simpa using hi),fun i o him ho h3=> ?_⟩
  ·rw[hlen,hext] at hK;exact hK
  ·have:=hloc i o (by rw[kR him];exact ho) (by simpa using h3);rw[hext] at this;exact this⟩
 have hr':Rel j0 ⟨N,t,σ,mv⟩ j a w.drew:=hr.after (iO j w) hr.dA.drew (Nat.le_refl _) (.refl _ []);have hW:OwnH P F ops is V ⟨N,t,σ,mv⟩ t1:=⟨fun k hk=>Ql h2 k hk,hF,hN⟩;refine wpIn_region_any hm (phaseH hok hmn hch hW hP h3 _ j a w.drew _ ?_ ⟨0,0,.start hmn hr' fun _ _ _=>trivial,hr'.dA,hr'.len0,hr'.ag,Nat.zero_le _,fun k hk=> ?_,fun k d hk=>by omega⟩ (iO j w))
 ·rw[yZ];simp
 ·obtain⟨_,_,_,_,h4,_⟩:=bI hch hk;simp[show rC is k<ops.length by omega]
def RestH(P:Program)(all:List Oper)(is:List (Nat×Option Nat))(os:List Oper)(i:Nat)(K:St->Prop)(s:St):Prop:=Fp P all is os i s K
theorem evalH_nil(P:Program)(all:List Oper)(is:List (Nat×Option Nat))(i:Nat)(s:St)(K:St->Prop):Fp P all is [] i s K=K s:=rfl
theorem evalH_cons(P:Program)(all os:List Oper)(is:List (Nat×Option Nat))(i:Nat)(o:Oper)(s:St)(K:St->Prop):Fp P all is (o::os) i s K=if yV is i then RestH P all is os (i+1) K (s.put o.dst .undef)
  else jQ all s o fun gd g=>WY P true gd g o s (RestH P all is os (i+1) K):=rfl
theorem RestH_mk(P:Program)(all os:List Oper)(is:List (Nat×Option Nat))(i:Nat)(K:St->Prop)(N:Nat)(t:List (Nat×AV))(σ:List aG)(mv:List Nat):RestH P all is os i K ⟨N,t,σ,mv⟩=Fp P all is os i ⟨N,t,σ,mv⟩ K:=rfl
attribute [go_sem ↓] evalH_nil evalH_cons RestH_mk actB
attribute [go_sem] RestH_mk yV pAt tAt dsB rC Wn
end Go.aU.Steps
namespace Go.aU
end Go.aU
