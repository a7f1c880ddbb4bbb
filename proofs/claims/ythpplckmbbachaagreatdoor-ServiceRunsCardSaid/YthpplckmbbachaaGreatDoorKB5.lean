/- Lemmas, no conditions. -/
import Derived.Test.YthpplckmbbachaaGreatDoorKB4
set_option linter.unusedVariables false
set_option linter.unusedSimpArgs false
namespace Go.aI
open Go.aI.Mix
open Go.aI.Steps (lN Qy)
theorem O3{P Q s id ops}(m)(hm:P.follows .mixedOrders=true)(hok:(cO ops m&&Nat.ble m ops.length)=true)
  (h:bz P true ops (ops.take m) s fun s'=>bz P false ops (ops.drop m) s' (Q .normal)):cV P (.region id ops.toArray true) Q s:=by
 simp only[Bool.and_eq_true,Nat.ble_eq] at hok;obtain⟨xs,hK,hloc⟩:=V9 h;have hlen:(ops.take m).length=m:=ai;have he: ∀i,cD s (ops.take m) xs i=⟨s.N,(cD s (ops.take m) xs i).t,s.σ,s.mv⟩:=fun i=>by
  have h1:=ot s (ops.take m) xs i;cases e:cD s (ops.take m) xs i
  grind
 rw[hlen,he m] at hK;exact pT (N:=s.N) (t:=s.t) (σ:=s.σ) (mv:=s.mv) (is:=[]) (SK:=[]) (V:=[]) hm hok.1 hok.2 rfl rfl ⟨fun k hk=>⟨xs,rfl,fun i r h=>by grind [Gr,aI.get],fun i o hi ho _ _=>by
  obtain rfl:k=0:=by grind
  have:=hloc i o ai;rw[he i] at this;exact this⟩⟩ ⟨rfl,fun k hk=>ai⟩ hK
section
variable {P : Program} {Q : Exit -> St -> Prop} {s : St}
theorem im{id ops y}(m)(hm:P.follows .mixedOrders=true)(hok:(cO ops m&&Nat.ble m ops.length)=true)(h: ∀K:St->Prop,(∀s',cV P y Q s'->K s')->bz P true ops (ops.take m) s (Rest P false ops (ops.drop m) K)):cV P (.seq (.region id ops.toArray true) y) Q s:=
 aq (O3 m hm hok (h _ fun _ h=>h))
theorem KM{id ops}(m)(hm:P.follows .mixedOrders=true)(hok:(cO ops m&&Nat.ble m ops.length)=true)(h: ∀K:St->Prop,(∀s',Q .normal s'->K s')->bz P true ops (ops.take m) s (Rest P false ops (ops.drop m) K)):cV P (.region id ops.toArray true) Q s:=
 O3 m hm hok (h _ fun _ h=>h)
end
def fU(P:Program)(all:List Oper)(ia cC:Nat)(r:AV):List Oper->Nat->St->(St->Prop)->Prop
 |[],_,s,K=>K s
 |o::os,i,s,K=>if Nat.beq i ia then fU P all ia cC r os (i+1) (s.put o.dst r) K
  else if Nat.beq i cC then fU P all ia cC r os (i+1) s K
  else fE all s o fun gd g=>JK P true gd g o s fun s'=>fU P all ia cC r os (i+1) s' K
theorem IE{P all ia cC r} : ∀{os i0 s K},fU P all ia cC r os i0 s K->
  (∀i o,os[i]? =some o->i0+i=cC->o.dst=none)->
  ∃xs,K (cD s os xs os.length)/\(∀i,xs i=if i0+i=ia then r else if i0+i=cC then .undef else xs i)/\∀i o,os[i]? =some o->i0+i≠ia->i0+i≠cC->Local P all o (cD s os xs i) (xs i)
 |[],i0,s,K,h,_=>⟨fun i=>if i0+i=ia then r else .undef,h,fun i=>ai,an⟩
 |o::os,i0,s,K,h,hd=>by
  have key: ∀x:AV,fU P all ia cC r os (i0+1) (s.put o.dst x) K->(x=if i0=ia then r else if i0=cC then .undef else x)->(i0≠ia->i0≠cC->Local P all o s x)->
    ∃xs:Nat->AV,K (cD s (o::os) xs (o::os).length)/\(∀i,xs i=if i0+i=ia then r else if i0+i=cC then .undef else xs i)/\∀i o',(o::os)[i]? =some o'->i0+i≠ia->i0+i≠cC->Local P all o' (cD s (o::os) xs i) (xs i):=by
   intro x h hx hl;obtain⟨xs,hK,hia,hloc⟩:=IE h (fun i o' hi he=>hd (i+1) o' uk aa);have hst: ∀i,cD s (o::os) (fun|0=>x|i+1=>xs i) (i+1)=cD (s.put o.dst x) os xs i:=by
    intro i;induction i with
    |zero=>rfl
    |succ i ih=>
     show(match(o::os)[i+1]? with|some o'=>(cD s (o::os) (fun|0=>x|i+1=>xs i) (i+1)).put o'.dst (xs i)|none=>cD s (o::os) (fun|0=>x|i+1=>xs i) (i+1))=_
     rw[ih];simp only[List.getElem?_cons_succ];rfl
   refine⟨fun|0=>x|i+1=>xs i,?_,fun i=> ?_,fun i o' hi h1 h2=> ?_⟩
   ·rw[List.length_cons,hst];exact hK
   ·cases i with
    |zero=>simpa using hx
    |succ i=>have:=hia i;rw[show i0+1+i=i0+(i+1) by omega] at this;exact this
   ·cases i with
    |zero=>simp at hi;subst hi;exact hl He K2
    |succ i=>rw[hst];exact hloc i o' uk aa aa
  simp only[fU] at h;by_cases h1:i0=ia
  ·rw[if_pos He] at h;exact key _ h (by rw[if_pos h1]) (fun h2=>absurd h1 h2)
  ·rw[if_neg He] at h;by_cases h2:i0=cC
   ·rw[if_pos K2] at h;have hdn:=hd 0 o an K2;exact key .undef (by rw[hdn];exact h) (by rw[if_neg h1,if_pos h2]) (fun _ h3=>absurd h2 h3)
   ·rw[if_neg K2] at h;obtain⟨x,hl,h⟩:=xO h;exact key x h (by rw[if_neg h1,if_neg h2]) (fun _ _=>hl)
theorem MB{P ops m ia cC N r t t1 σ σx mv}(hmn:m<=ops.length)(hd: ∀o,ops[cC]? =some o->o.dst=none)
  (h: ∀K:St->Prop,(∀σ' mv',K ⟨N,t1,σ',mv'⟩)->fU P ops ia cC r (ops.take m) 0 ⟨N,t,σx,mv⟩ K):
  ∃xs,(cD ⟨N,t,σ,mv⟩ (ops.take m) xs m).t=t1/\(∀i,xs i=if i=ia then r else if i=cC then .undef else xs i)/\∀i o,i<m->ops[i]? =some o->i≠ia->i≠cC->Local P ops o ⟨N,(cD ⟨N,t,σ,mv⟩ (ops.take m) xs i).t,σx,mv⟩ (xs i):=by
 have h:=h (fun s'=>s'.t=t1) (fun _ _=>rfl);have hlen:(ops.take m).length=m:=ai;obtain⟨xs,hK,hia,hloc⟩:=IE h (fun i o hi he=>by
  grind)
 have hext:=Steps.mV ⟨N,t,σ,mv⟩ σx (ops.take m) xs;grind
def VV(P:Program)(ops:List Oper)(i:Nat)(s:St)(K:AV->List aZ->Prop):Prop:=
 match mz ops i with
 |some o=>yG P o s K
 |none=>False
theorem w9{ops:List Oper}{m:Nat}{is:List (Nat×Option Nat)}(h:dh ops m is=true):kN ops m is (is.map fun _=>[])=true:=by
 grind [kN,Nat.beq_refl,bD]
def x4(ops:List Oper)(i:Nat):Option Nat:=match ops[i]? with|some o=>o.dst|none=>none
def P9(ops:List Oper)(m cC:Nat):Bool:=dh ops m [(cC,none)]
def P0(ops:List Oper)(m ia:Nat)(_:FuncId):Bool:=dh ops m [(ia,x4 ops ia)]
theorem adC{i k a r}(h:get [(k,a)] i=some r):i=k/\r=a:=by
 simp_all [aI.get]
theorem X5{i k a}(h:get [(k,a)] i=none):i≠k:=fun e=>by
 simp_all [aI.get]
section
variable {P : Program} {Q : Exit -> St -> Prop} {N : Nat} {t : List (Nat × AV)} {σ : List aZ} {mv : List Nat} {id : Nat} {ops : List Oper} {y : Code} {t1 : List (Nat × AV)} {σ2 : List aZ}
theorem O2(m cC)(hm:P.follows .mixedOrders=true)(hok:(cO ops m&&Nat.ble m ops.length&&P9 ops m cC)=true)
  (h1: ∀K:St->Prop,(∀σ' mv',K ⟨N,t1,σ',mv'⟩)->fU P ops m cC .undef (ops.take m) 0 ⟨N,t,σ,mv⟩ K)
  (h2:VV P ops cC ⟨N,t1,σ,mv⟩ fun r σ'=>r= .undef/\σ'=σ2)
  (h3: ∀K:St->Prop,(∀σ' mv',K ⟨N,t1,σ',mv'⟩)->fU P ops m cC .undef (ops.take m) 0 ⟨N,t,σ2,mv⟩ K)
  (h4:bz P false ops (ops.drop m) ⟨N,t1,σ2,mv⟩ (Q .normal)):cV P (.region id ops.toArray true) Q ⟨N,t,σ,mv⟩:=by
 simp only[Bool.and_eq_true,Nat.ble_eq] at hok;obtain⟨⟨hok,hmn⟩,hch⟩:=hok;have hch:dh ops m [(cC,none)]=true:=hch;obtain⟨o,ho,_,hd,hlt,_⟩:=bD hch (k:=0) an;have hd': ∀o',ops[cC]? =some o'->o'.dst=none:=fun o' ho'=>by
  have ho:ops[cC]? =some o:=ho;rw[ho] at ho';cases ho';exact hd
 refine pT (is:=[(cC,none)]) (V:=[(.undef,σ2)]) hm hok hmn hch (w9 hch) ⟨fun k hk=> ?_⟩ ⟨rfl,fun k hk=> ?_⟩ h4
 ·have hk:k=0\/k=1:=ai;have: ∃xs:Nat->AV,(cD ⟨N,t,σ,mv⟩ (ops.take m) xs m).t=t1/\(∀i,xs i=if i=m then .undef else if i=cC then .undef else xs i)/\∀i o,i<m->ops[i]? =some o->i≠m->i≠cC->Local P ops o ⟨N,(cD ⟨N,t,σ,mv⟩ (ops.take m) xs i).t,tS σ [(.undef,σ2)] k,mv⟩ (xs i):=by
   rcases hk with rfl|rfl
   ·exact MB hmn hd' h1
   ·exact MB hmn hd' h3
  obtain⟨xs,g1,g2,g3⟩:=this;refine⟨xs,g1,fun i r hr=> ?_,fun i o' hi ho' hn _=>g3 i o' hi ho' aa (X5 hn)⟩;obtain⟨rfl,rfl⟩:=adC hr;grind
 ·obtain rfl:k=0:=by grind
  refine⟨o,ho,?_⟩;unfold VV at h2;rw[fo,show ops[cC]? =some o from ho] at h2;exact h2
theorem qP(m cC)(hm:P.follows .mixedOrders=true)(hok:(cO ops m&&Nat.ble m ops.length&&P9 ops m cC)=true)
  (h1: ∀K:St->Prop,(∀σ' mv',K ⟨N,t1,σ',mv'⟩)->fU P ops m cC .undef (ops.take m) 0 ⟨N,t,σ,mv⟩ K)
  (h2:VV P ops cC ⟨N,t1,σ,mv⟩ fun r σ'=>r= .undef/\σ'=σ2)
  (h3: ∀K:St->Prop,(∀σ' mv',K ⟨N,t1,σ',mv'⟩)->fU P ops m cC .undef (ops.take m) 0 ⟨N,t,σ2,mv⟩ K)
  (h4: ∀K:St->Prop,(∀s',cV P y Q s'->K s')->bz P false ops (ops.drop m) ⟨N,t1,σ2,mv⟩ K):cV P (.seq (.region id ops.toArray true) y) Q ⟨N,t,σ,mv⟩:=
 aq (O2 m cC hm hok h1 h2 h3 (h4 _ fun s' h=>h))
theorem mM(m cC)(hm:P.follows .mixedOrders=true)(hok:(cO ops m&&Nat.ble m ops.length&&P9 ops m cC)=true)
  (h1: ∀K:St->Prop,(∀σ' mv',K ⟨N,t1,σ',mv'⟩)->fU P ops m cC .undef (ops.take m) 0 ⟨N,t,σ,mv⟩ K)
  (h2:VV P ops cC ⟨N,t1,σ,mv⟩ fun r σ'=>r= .undef/\σ'=σ2)
  (h3: ∀K:St->Prop,(∀σ' mv',K ⟨N,t1,σ',mv'⟩)->fU P ops m cC .undef (ops.take m) 0 ⟨N,t,σ2,mv⟩ K)
  (h4: ∀K:St->Prop,(∀s',Q .normal s'->K s')->bz P false ops (ops.drop m) ⟨N,t1,σ2,mv⟩ K):cV P (.region id ops.toArray true) Q ⟨N,t,σ,mv⟩:=
 O2 m cC hm hok h1 h2 h3 (h4 _ fun s' h=>h)
theorem OZ(m ia f r blk)(hm:P.follows .mixedOrders=true)(hok:(cO ops m&&Nat.ble m ops.length&&P0 ops m ia f)=true)
  (h1: ∀(τ:List aZ) (K:St->Prop),(∀σ' mv',K ⟨N,t1,σ',mv'⟩)->fU P ops ia m r (ops.take m) 0 ⟨N,t,σ++τ,mv⟩ K)
  (h2:VV P ops ia ⟨N,t1,σ,mv⟩ fun r' σ'=>r'=r/\σ'=σ++blk)
  (h3:bz P false ops (ops.drop m) ⟨N,t1,σ++blk,mv⟩ (Q .normal)):cV P (.region id ops.toArray true) Q ⟨N,t,σ,mv⟩:=by
 simp only[Bool.and_eq_true,Nat.ble_eq] at hok;obtain⟨⟨hok,hmn⟩,hch⟩:=hok;have hch:dh ops m [(ia,x4 ops ia)]=true:=hch;obtain⟨o,ho,_,hd,hlt,_⟩:=bD hch (k:=0) an;have hmm: ∀(τ:List aZ),∃xs:Nat->AV,(cD ⟨N,t,σ,mv⟩ (ops.take m) xs m).t=t1/\xs ia=r/\∀i o,i<m->ops[i]? =some o->i≠ia->Local P ops o ⟨N,(cD ⟨N,t,σ,mv⟩ (ops.take m) xs i).t,σ++τ,mv⟩ (xs i):=fun τ=>by
  have h:=h1 τ (fun s'=>s'.t=t1) (fun _ _=>rfl);have hlen:(ops.take m).length=m:=ai;obtain⟨xs,hK,hia,hloc⟩:=IE h (fun i o hi he=>ai);have hext:=Steps.mV ⟨N,t,σ,mv⟩ (σ++τ) (ops.take m) xs;grind
 refine pT (is:=[(ia,x4 ops ia)]) (V:=[(r,σ++blk)]) hm hok hmn hch (w9 hch) ⟨fun k hk=> ?_⟩ ⟨rfl,fun k hk=> ?_⟩ h3
 ·have hk:k=0\/k=1:=ai;have: ∃τ,tS σ [(r,σ++blk)] k=σ++τ:=by
   rcases hk with rfl|rfl
   ·exact⟨[],(List.append_nil σ).symm⟩
   ·exact⟨blk,rfl⟩
  obtain⟨τ,XU⟩:=this;obtain⟨xs,g1,g2,g3⟩:=hmm τ;refine⟨xs,g1,fun i r' hr=> ?_,fun i o' hi ho' hn _=>by
   show Local P ops o' ⟨N,_,tS σ [(r,σ++blk)] k,mv⟩ (xs i)
   rw[XU];exact g3 i o' hi ho' (X5 hn)⟩
  obtain⟨rfl,rfl⟩:=adC hr;exact g2
 ·obtain rfl:k=0:=by grind
  refine⟨o,ho,?_⟩;unfold VV at h2;rw[fo,show ops[ia]? =some o from ho] at h2;exact h2
theorem jZ(m ia f r blk)(hm:P.follows .mixedOrders=true)(hok:(cO ops m&&Nat.ble m ops.length&&P0 ops m ia f)=true)
  (h1: ∀(τ:List aZ) (K:St->Prop),(∀σ' mv',K ⟨N,t1,σ',mv'⟩)->fU P ops ia m r (ops.take m) 0 ⟨N,t,σ++τ,mv⟩ K)
  (h2:VV P ops ia ⟨N,t1,σ,mv⟩ fun r' σ'=>r'=r/\σ'=σ++[blk])
  (h3: ∀K:St->Prop,(∀s',Q .normal s'->K s')->bz P false ops (ops.drop m) ⟨N,t1,σ++[blk],mv⟩ K):cV P (.region id ops.toArray true) Q ⟨N,t,σ,mv⟩:=
 OZ m ia f r [blk] hm hok h1 h2 (h3 _ fun s' h=>h)
theorem ahl.KL(m ia f r blk)(hm:P.follows .mixedOrders=true)(hok:(cO ops m&&Nat.ble m ops.length&&P0 ops m ia f)=true)
  (h1: ∀(τ:List aZ) (K:St->Prop),(∀σ' mv',K ⟨N,t1,σ',mv'⟩)->fU P ops ia m r (ops.take m) 0 ⟨N,t,σ++τ,mv⟩ K)
  (h2:VV P ops ia ⟨N,t1,σ,mv⟩ fun r' σ'=>r'=r/\σ'=σ++blk)
  (h3: ∀K:St->Prop,(∀s',Q .normal s'->K s')->bz P false ops (ops.drop m) ⟨N,t1,σ++blk,mv⟩ K):cV P (.region id ops.toArray true) Q ⟨N,t,σ,mv⟩:=
 OZ m ia f r blk hm hok h1 h2 (h3 _ fun s' h=>h)
end
def E5(d:Option Nat)(o:Option Oper):Bool:=match o with
 |some o=>(match o.op,d with
  | .store _ (.tmp p) _,some d=>Nat.beq p d
  |_,_=>false)
 |none=>false
def MF(ops:List Oper)(m ia cC:Nat):List (Nat×Option Nat):=if Nat.blt cC m then[(ia,x4 ops ia),(cC,none)] else[(ia,x4 ops ia)]
def RQ(ops:List Oper)(m ia cC:Nat):Bool:=dh ops m (MF ops m ia cC)&&(Nat.beq cC ops.length||(Nat.blt cC m&&E5 (x4 ops ia) ops[cC]?))
def Xf(P:Program)(ops:List Oper)(ia cC:Nat)(s:St)(K:List AV->Prop):Prop:=
 match mz ops ia with
 |some oa=>(match oa.dst with
  |some d=>Nat.blt d s.N=true
  |none=>False)/\(match oa.op with
  | .alloc t=>(match cI P t with
   |some z=>(match mz ops cC with
    |some os=>(match os.op with
     | .store t' _ v=>arg true s v fun av=>(match eH P t' with
      |some (_,m)=>fJ (cellsOf av)=true/\(cellsOf av).length=m/\z.length=m/\K (cellsOf av)
      |none=>False)
     |_=>False)
    |none=>K (z.map fun v=> .d (.v v)))
   |none=>False)
  |_=>False)
 |none=>False
theorem Y8{g s x K}(h:arg g s x K): ∃av,K av/\∀σ' K',K' av->arg g ⟨s.N,s.t,σ',s.mv⟩ x K':=by
 have hv: ∀σ',val ⟨s.N,s.t,σ',s.mv⟩ x=val s x:=fun σ'=>by cases x<;>rfl
 grind [arg]
theorem TB{P tt N t1 σ mv z av b k}(h1:eH P tt=some (b,k))(h2:fJ (cellsOf av)=true)(h3:(cellsOf av).length=k)(h4:z.length=k):
  kL P tt ⟨N,t1,σ++[.var z],mv⟩ (.ptr σ.length 0) av fun s'=>(AV.undef= .undef)/\s'.σ=σ++[.var (cellsOf av)]:=by
 simp_all [kL,pf,fO]
theorem ahc{i a b x y r}(h:get [(a,x),(b,y)] i=some r):(i=a/\r=x)\/(i≠a/\i=b/\r=y):=by
 simp only[aI.get] at h;split at h
 ·simp_all
 ·rename_i e;split at h
  ·rename_i e2;exact .inr ⟨fun h9=>e (by simp[h9]),(by simp_all:b=i).symm,(Option.some.inj h).symm⟩
  grind
theorem ace{i a b x y}(h:get [(a,x),(b,y)] i=none):i≠a/\i≠b:=by
 refine⟨fun e=> ?_,fun e=> ?_⟩
 ·simp_all [aI.get]
 ·subst e;simp only[aI.get] at h;split at h;all_goals simp_all
theorem S0{P Q N t σ mv id ops}(m ia cC)(hm:P.follows .mixedOrders=true)(hok:(cO ops m&&Nat.ble m ops.length&&RQ ops m ia cC)=true){t1}
  (h1: ∀(τ:List aZ) (K:St->Prop),(∀σ' mv',K ⟨N,t1,σ',mv'⟩)->fU P ops ia cC (.ptr σ.length 0) (ops.take m) 0 ⟨N,t,σ++τ,mv⟩ K)
  (h2:Xf P ops ia cC ⟨N,t1,σ,mv⟩ fun c=>bz P false ops (ops.drop m) ⟨N,t1,σ++[.var c],mv⟩ (Q .normal)):cV P (.region id ops.toArray true) Q ⟨N,t,σ,mv⟩:=by
 simp only[Bool.and_eq_true,Nat.ble_eq] at hok;obtain⟨⟨hok,hmn⟩,hown⟩:=hok;unfold RQ at hown;rw[Bool.and_eq_true] at hown;obtain⟨hch,hst⟩:=hown;unfold Xf at h2;rw[fo] at h2;cases hoa:ops[ia]? with
 |none=>rw[hoa] at h2;exact h2.elim
 |some oa=>
 rw[hoa] at h2;simp only at h2;obtain⟨hdN,h2⟩:=h2;cases hd:oa.dst with
 |none=>rw[hd] at hdN;exact hdN.elim
 |some d=>
 rw[hd] at hdN;have hdN:d<N:=aP;have hda:x4 ops ia=some d:=by grind [x4]
 split at h2;case h_2=>grind
 rename_i ty hop;split at h2;case h_2=>grind
 rename_i z hz;have afn: ∀(aal:Nat),aal≠ia->(∀o,ops[aal]? =some o->o.dst=none)->ia<m->(∀K:St->Prop,(∀σ' mv',K ⟨N,t1,σ',mv'⟩)->fU P ops ia aal (.ptr σ.length 0) (ops.take m) 0 ⟨N,t,σ++[],mv⟩ K)->get t1 d=some (.ptr σ.length 0):=fun aal hne hdn hlt h=>by
  obtain⟨xs,g1,g2,_⟩:=MB (σ:=σ) hmn hdn h;grind [iG]
 rw[Bool.or_eq_true] at hst;by_cases hlt:cC<m
 ·have hist:E5 (x4 ops ia) ops[cC]? =true:=by
   rcases hst with h|h
   ·have:cC=ops.length:=aP;omega
   grind
  have hIs:MF ops m ia cC=[(ia,some d),(cC,none)]:=by simp_all [MF]
  rw[hIs] at hch;obtain⟨oa',agW,_,_,Up,_⟩:=bD hch (k:=0) an;obtain⟨os,hos,_,hds,_,_,_,ag5⟩:=bD hch (k:=1) an;have hne:ia<cC:=(ag5 aH).2;have hos:ops[cC]? =some os:=hos;have Up:ia<m:=Up;rw[fo,hos] at h2;simp only at h2;split at h2;case h_2=>grind
  rename_i ty' p v hops;have hp:p= .tmp d:=by
   unfold E5 at hist;rw[hos,hda] at hist;simp only[hops] at hist;cases p with
   |tmp q=>simp_all
   |_=>grind
  subst hp;obtain⟨av,h2,hav⟩:=Y8 h2;split at h2;case h_2=>grind
  rename_i bb kk hty;obtain⟨c1,c2,c3,h2⟩:=h2;have hdn: ∀o,ops[cC]? =some o->o.dst=none:=fun o ho=>by rw[hos] at ho;cases ho;exact hds
  have hgd:=afn cC aa hdn Up (fun K hK=>h1 [] K hK);obtain⟨z',hz'⟩: ∃z',z'=z.map fun v=>AV.d (.v v):=⟨_,rfl⟩;have hzl:z'.length=kk:=ai;refine pT (is:=[(ia,some d),(cC,none)]) (V:=[(.ptr σ.length 0,σ++[.var z']),(.undef,σ++[.var (cellsOf av)])]) hm hok hmn hch (w9 hch) ⟨fun k hk=> ?_⟩ ⟨rfl,fun k hk=> ?_⟩ h2
  ·have: ∃τ,tS σ [(.ptr σ.length 0,σ++[.var z']),(.undef,σ++[.var (cellsOf av)])] k=σ++τ:=by
    have hk:k=0\/k=1\/k=2:=ai;rcases hk with rfl|rfl|rfl
    ·exact⟨[],(List.append_nil σ).symm⟩
    ·exact⟨_,rfl⟩
    ·exact⟨_,rfl⟩
   obtain⟨τ,XU⟩:=this;obtain⟨xs,g1,g2,g3⟩:=MB (σ:=σ) hmn hdn (h1 τ);refine⟨xs,g1,fun i r hr=> ?_,fun i o hi ho hn _=>by
    show Local P ops o ⟨N,_,tS σ _ k,mv⟩ (xs i)
    rw[XU];exact g3 i o hi ho (ace hn).1 (ace hn).2⟩
   rcases ahc hr with⟨rfl,rfl⟩|⟨e1,rfl,rfl⟩;all_goals grind
  ·have hk:k=0\/k=1:=ai;rcases hk with rfl|rfl
   ·refine⟨oa,hoa,?_⟩;unfold yG;simp only[hop];rw[hz];exact⟨rfl,by rw[hz'];rfl⟩
   ·refine⟨os,hos,?_⟩;unfold yG;simp only[hops];show arg true ⟨N,t1,σ++[.var z'],mv⟩ (.tmp d) _
    unfold arg;have hvl:val ⟨N,t1,σ++[.var z'],mv⟩ (.tmp d)=some (.ptr σ.length 0):=hgd;rw[hvl];exact hav _ _ (TB hty c1 c2 hzl)
 ·have hle:cC=ops.length:=by
   simp_all
  have hIs:MF ops m ia cC=[(ia,some d)]:=by simp_all [MF]
  rw[hIs] at hch;obtain⟨oa',agW,_,_,Up,_⟩:=bD hch (k:=0) an;have Up:ia<m:=Up;have hon:ops[cC]? =none:=ai;rw[fo,hon] at h2;simp only at h2;have hdn: ∀o,ops[cC]? =some o->o.dst=none:=fun o ho=>by grind
  refine pT (is:=[(ia,some d)]) (V:=[(.ptr σ.length 0,σ++[.var (z.map fun v=> .d (.v v))])]) hm hok hmn hch (w9 hch) ⟨fun k hk=> ?_⟩ ⟨rfl,fun k hk=> ?_⟩ h2
  ·have: ∃τ,tS σ [(.ptr σ.length 0,σ++[.var (z.map fun v=> .d (.v v))])] k=σ++τ:=by
    have hk:k=0\/k=1:=ai;rcases hk with rfl|rfl
    ·exact⟨[],(List.append_nil σ).symm⟩
    ·exact⟨_,rfl⟩
   obtain⟨τ,XU⟩:=this;obtain⟨xs,g1,g2,g3⟩:=MB (σ:=σ) hmn hdn (h1 τ);refine⟨xs,g1,fun i r hr=> ?_,fun i o hi ho hn _=>by
    show Local P ops o ⟨N,_,tS σ _ k,mv⟩ (xs i)
    rw[XU];exact g3 i o hi ho (X5 hn) aa⟩
   obtain⟨rfl,rfl⟩:=adC hr;grind
  ·obtain rfl:k=0:=by grind
   refine⟨oa,hoa,?_⟩;unfold yG;simp only[hop];rw[hz];exact⟨rfl,rfl⟩
theorem O0{P Q N t σ mv id ops y}(m ia cC)(hm:P.follows .mixedOrders=true)(hok:(cO ops m&&Nat.ble m ops.length&&RQ ops m ia cC)=true){t1}
  (h1: ∀(τ:List aZ) (K:St->Prop),(∀σ' mv',K ⟨N,t1,σ',mv'⟩)->fU P ops ia cC (.ptr σ.length 0) (ops.take m) 0 ⟨N,t,σ++τ,mv⟩ K)
  (h2: ∀K:St->Prop,(∀s',cV P y Q s'->K s')->Xf P ops ia cC ⟨N,t1,σ,mv⟩ fun c=>bz P false ops (ops.drop m) ⟨N,t1,σ++[.var c],mv⟩ K):cV P (.seq (.region id ops.toArray true) y) Q ⟨N,t,σ,mv⟩:=
 aq (S0 m ia cC hm hok h1 (h2 _ fun s' h=>h))
theorem cU{P Q N t σ mv id ops}(m ia cC)(hm:P.follows .mixedOrders=true)(hok:(cO ops m&&Nat.ble m ops.length&&RQ ops m ia cC)=true){t1}
  (h1: ∀(τ:List aZ) (K:St->Prop),(∀σ' mv',K ⟨N,t1,σ',mv'⟩)->fU P ops ia cC (.ptr σ.length 0) (ops.take m) 0 ⟨N,t,σ++τ,mv⟩ K)
  (h2: ∀K:St->Prop,(∀s',Q .normal s'->K s')->Xf P ops ia cC ⟨N,t1,σ,mv⟩ fun c=>bz P false ops (ops.drop m) ⟨N,t1,σ++[.var c],mv⟩ K):cV P (.region id ops.toArray true) Q ⟨N,t,σ,mv⟩:=
 S0 m ia cC hm hok h1 (h2 _ fun s' h=>h)
def Zf(P:Program)(all:List Oper)(ia cC:Nat)(r:AV)(os:List Oper)(i:Nat)(K:St->Prop)(s:St):Prop:=fU P all ia cC r os i s K
theorem UE(P all ia cC r i s K):fU P all ia cC r [] i s K=K s:=rfl
theorem Qp(P all os ia cC r i o s K):fU P all ia cC r (o::os) i s K=if Nat.beq i ia then Zf P all ia cC r os (i+1) K (s.put o.dst r)
  else if Nat.beq i cC then fU P all ia cC r os (i+1) s K
  else fE all s o fun gd g=>JK P true gd g o s (Zf P all ia cC r os (i+1) K):=rfl
theorem Pc(P all os ia cC r i K N t σ mv):Zf P all ia cC r os i K ⟨N,t,σ,mv⟩=fU P all ia cC r os i ⟨N,t,σ,mv⟩ K:=rfl
attribute [go_sem ↓] UE Qp Pc VV Xf
attribute [go_sem] Pc
end Go.aI
namespace Go.aI
abbrev I(n:Int):D:= .v (.int .i64 n)
abbrev B(b:Bool):D:= .v (.bool b)
theorem aS{n}(h1: -9223372036854775808<=n)(h2:n<=9223372036854775807):IntKind.i64.wrap n=n:=by
 grind [IntKind.wrap_i64]
theorem wo{a b:Int}(h:0<=a):a.tdiv b=a/b:=Int.tdiv_eq_ediv_of_nonneg h
theorem mu{a b:Int}(h:0<=a):a.tmod b=a%b:=Int.tmod_eq_emod_of_nonneg h
theorem wrap_succ{i:Nat}(h:i<1000000000):IntKind.i64.wrap ((i:Int)+1)=((i+1:Nat):Int):=by
 grind [IntKind.wrap_i64]
theorem aT{i:Nat}(h:i<1000000000):IntKind.i64.wrap ((i:Int)-1)=(i:Int)-1:=by
 grind [IntKind.wrap_i64]
def idxFrom{α:Type}(p:α->Bool):List α->Nat->Int
 |[],_=> -1
 |x::xs,i=>if p x then i else idxFrom p xs (i+1)
theorem bU{α n i}{f:Nat->α}(h:i<n):(lst n f).drop i=f i::(lst n f).drop (i+1):=by
 grind [List.drop_eq_getElem_cons,lst]
theorem bV{α n i}{f:Nat->α}(h:n<=i):(lst n f).drop i=[]:=by
 grind [List.drop_eq_nil_iff,cd]
theorem gE{α}(p): ∀(l:List α) (i),decide (0<=idxFrom p l i)=l.any p
 |[],i=>by simp[idxFrom]
 |x::xs,i=>by
  rw[idxFrom,List.any_cons];by_cases h:p x=true
  ·simp[h]
  ·simp only[h];simpa using gE p xs (i+1)
theorem fT{α}(p): ∀(l:List α) (i),(idxFrom p l i= -1/\∀x∈l,p x=false)\/∃q,q<l.length/\idxFrom p l i=((i+q:Nat):Int)/\∃x,l[q]? =some x/\p x=true/\∀r y,r<q->l[r]? =some y->p y=false
 |[],i=> .inl ⟨rfl,an⟩
 |x::xs,i=>by
  rw[idxFrom];by_cases h:p x=true
  ·grind
  ·rw[if_neg h];have h:p x=false:=ai;rcases fT p xs (i+1) with⟨h1,h2⟩|⟨q,h1,h2,y,h3,h4,h5⟩
   ·grind
   ·refine .inr ⟨q+1,ai,ai,y,ai,h4,fun r z hr hz=> ?_⟩;grind
theorem bg{P c Q N t t' σ σ' mv}(b){sz n' row}(hb:σ[b]? =some (.arr sz n' row))(ht:sJ b sz n' row t=t')(hσ:GS b sz n' row σ=σ')
  (h:cV P c Q ⟨N,t',σ',b::mv⟩):cV P c Q ⟨N,t,σ,mv⟩:=by
 refine fg (s':=⟨N,t',σ',b::mv⟩) ?_ h;intro j0 j a w hr;subst ht hσ;exact⟨_,hr.tY hb⟩
theorem Sx{b sz n' row} : ∀{t},(∀k av,(k,av)∈t->av.avoids [b]=true)->sJ b sz n' row t=t
 |[],_=>rfl
 |(q,u)::t,h=>by
  simp only[sJ];rw[Sx fun k av hk=>h k av (List.mem_cons_of_mem _ hk)];grind [lf]
theorem C3: ∀t k,(aI.del t k).length<=t.length
 |[],k=>by simp[aI.del]
 |(q,u)::t,k=>by
  simp only[aI.del];split
  ·have:=C3 t k;grind
  ·have:=C3 t k;grind
theorem Hr(X): ∀t,(cq X t).length<=t.length
 |[]=>by simp[cq]
 |(q,u)::t=>by
  have:=Hr X t;grind [cq,C3]
theorem tf{X} : ∀{t},cq X t=t->∀k av,(k,av)∈t->av.avoids X=true
 |[],_,_,_,h=>by grind
 |(q,u)::t,h,k,av,hm=>by
  simp only[cq] at h;split at h
  ·rename_i hu;rcases List.mem_cons.1 hm with e|e
   ·grind
   ·exact tf (List.cons.inj h).2 k av e
  grind [C3,Hr]
theorem gJ.tY{σ}(h:gJ σ)(k sz n' row):σ.map (Cx (σ.length+k) sz n' row)=σ:=by
 have hs:=h.one k;refine(List.map_congr_left fun x hx=> ?_).trans (List.map_id _);have hx':bP [σ.length+k] x=x:=by
  obtain⟨i,hi,he⟩:=List.mem_iff_getElem.1 hx;grind
 cases x with
 |var cs=>
  simp only[Cx,id,aZ.var.injEq];simp only[bP,aZ.var.injEq] at hx';refine(List.map_congr_left fun c hc=> ?_).trans (List.map_id _);have:c.avoids [σ.length+k]=true:=by
   obtain⟨i,hi,he⟩:=List.mem_iff_getElem.1 hc;have:=congrArg (fun l=>l[i]?) hx';simp[hi] at this;rw[←he];by_cases ha:(cs[i]).avoids [σ.length+k]=true
   ·exact ha
   ·have:=this ai;rw[←this];rfl
  grind [lf]
 |lp L st pd=>
  simp only[bP,aZ.lp.injEq] at hx';have h2:cq [σ.length+k] L.t=L.t:=congrArg gH.t hx'.1;simp only[Cx,id];rw[Sx (tf h2)]
 |arr a c d=>rfl
 |dead=>rfl
 |loc c=>rfl
 |tab c vs=>rfl
 |mp d ks f=>rfl
 |GK d ks f κ q=>rfl
 |it left cur f=>rfl
theorem gJ.aat{σ}(h:gJ σ)(sz n' row):σ.map (Cx σ.length sz n' row)=σ:=h.tY 0 sz n' row
theorem bq{P c Q N t t' σ mv}(k sz row)(hk:get t k=some (.d (.v (.slice none 0 0))))(ht:put t k (.ms σ.length sz 0 0)=t')
  (h:cV P c Q ⟨N,t',σ++[.arr sz 0 row],mv⟩):cV P c Q ⟨N,t,σ,mv⟩:=by
 refine fg (s':=⟨N,t',σ++[.arr sz 0 row],mv⟩) ?_ h;intro j0 j a w hr;subst ht;obtain⟨h1,h2,h3⟩:=hr.cm.yM (sz:=sz) (rows:=row) (p:=none);refine⟨j++[none],⟨hr.defers.mono h3,hr.fC,hr.size,fun q av hq=> ?_,h1,by have:=hr.len0;grind,fun c hc hn=> ?_⟩,h3⟩
 ·simp only at hq;rw[get_put] at hq;split at hq
  ·rename_i e;subst e;simp only[Option.some.injEq] at hq;subst hq;have:=hr.tmp k _ hk;grind [iu]
  ·exact⟨(hr.tmp q av hq).1,(hr.tmp q av hq).2.iy h3 hr.cm.lt (cg _ _)⟩
 ·have:=hr.len0;rw[List.getElem?_append_left aa];exact hr.ag c hc hn
theorem Iq{P c Q N t σ σ' mv}(v sz row)(hv:σ[v]? =some (.var [.d (.v (.slice none 0 0))]))(hσ:σ.set v (.var [.ms σ.length sz 0 0])++[.arr sz 0 row]=σ')
  (h:cV P c Q ⟨N,t,σ',mv⟩):cV P c Q ⟨N,t,σ,mv⟩:=by
 refine fg (s':=⟨N,t,σ',mv⟩) ?_ h;intro j0 j a w hr;subst hσ;obtain⟨h1,h2,h3⟩:=hr.cm.yM (sz:=sz) (rows:=row) (p:=none);have hvl:v<σ.length:=(List.getElem?_eq_some_iff.1 hv).1;refine⟨j++[none],⟨hr.defers.mono h3,hr.fC,hr.size,fun q av hq=>⟨(hr.tmp q av hq).1,(hr.tmp q av hq).2.iy h3 hr.cm.lt (cg _ _)⟩,⟨by simp[hr.cm.len],h1.lt,h1.inj,fun b x hx=> ?_⟩,by have:=hr.len0;grind,fun c hc hn=> ?_⟩,h3⟩
 ·rw[←List.set_append_left _ _ hvl,List.getElem?_set] at hx;split at hx
  ·rename_i e;subst e;split at hx
   ·simp only[Option.some.injEq] at hx;subst hx;obtain⟨o,ho,hB⟩:=h1.blk v (.var [.d (.v (.slice none 0 0))]) ai;refine⟨o,ho,?_⟩;cases o with
    |none=>exact hB
    |some cb=>
     obtain⟨C,e,g1,g2,g3⟩:=hB;refine⟨C,e,g1,g2,fun k hk=> ?_⟩;grind [iu]
   grind
  ·exact h1.blk b x hx
 ·have:=hr.len0;rw[List.getElem?_append_left aa];exact hr.ag c hc hn
theorem CS.MI{P f fn c args σ Q}(hen:cG P f=true)(hf:P.funcs[f]? =some fn)(hb:fn.body=some c)(hN:args.length<=fn.ntmps)
  (h:gJ σ->cV P c (tk P fn.results.toList Q) (St.init fn.ntmps args σ)):CS P f args σ Q:=
 ⟨hen,fun j w vs hs hr=>(CS.CQ hen hf hb hN (h hs.wf)).2 j w vs hs hr⟩
attribute [go_sem ↓] tk
def Pr(n:Nat):aZ->Prop
 | .var cs=>eo n cs
 | .arr _ _ _=>True
 | .dead=>True
 | .loc _=>True
 | .tab _ _=>True
 | .mp _ _ _=>True
 | .GK _ _ _ _ _=>True
 | .it _ _ _=>True
 | .lp L _ _=> ∀k av,(k,av)∈L.t->av.under n
def ig(n:Nat):List aZ->List aZ->Prop
 |[],[]=>True
 |x::xs,y::ys=>(x=y\/Pr n y)/\ig n xs ys
 |_,_=>False
theorem Pq{n y}(h:Pr n y):sY n y:=by
 cases y with
 |var cs=>exact fun k hk=>jf h hk
 |arr a b c=>trivial
 |dead=>trivial
 |loc c=>trivial
 |tab c vs=>trivial
 |mp d ks f=>trivial
 |GK d ks f κ q=>trivial
 |it left cur f=>trivial
 |lp L st pd=>exact h
theorem mH{n} : ∀{xs ys},ig n xs ys->ys.length=xs.length/\∀(k:Nat) y,ys[k]? =some y->xs[k]? =some y\/sY n y
 |[],[],_=>⟨rfl,an⟩
 |x::xs,y::ys,h=>by
  obtain⟨h1,h2⟩:=mH h.2;refine⟨ai,fun k z hz=> ?_⟩;cases k with
  |zero=>
   simp only[List.getElem?_cons_zero,Option.some.injEq] at hz⊢;subst hz;rcases h.1 with e|e;all_goals grind [Pq]
  |succ k=>grind
 |[],_::_,h=>h.elim
 |_::_,[],h=>h.elim
theorem ae{σ xs ys}(h:ig (σ.length+xs.length) xs ys):Leaves (σ++xs) (σ++ys):=by
 obtain⟨h1,h2⟩:=mH h;refine⟨ai,fun b x hx=> ?_⟩;grind
theorem fD(n): ∀xs,ig n xs xs=True
 |[]=>rfl
 |x::xs=>by simp[ig,fD n xs]
attribute [go_sem] ig Pr fD
theorem DF{N t σ σ' mv}(b n'){sz n row}(row')(hb:σ[b]? =some (.arr sz n row))(hn:n'<=n)(hr: ∀i,i<n'->row i=row' i)(hσ:σ.set b (.arr sz n' row')=σ'):Sub ⟨N,t,σ,mv⟩ ⟨N,t,σ',mv⟩:=by
 intro j0 j a w h;subst hσ;refine⟨j,⟨h.defers,h.fC,h.size,h.tmp,⟨by simp[h.cm.len],h.cm.lt,h.cm.inj,fun c x hx=> ?_⟩,h.len0,h.ag⟩,.refl _ _⟩;simp only at hx;rw[List.getElem?_set] at hx;split at hx
 ·rename_i e;subst e;split at hx
  ·simp only[Option.some.injEq] at hx;subst hx;obtain⟨o,ho,hB⟩:=h.cm.blk b _ hb;refine⟨o,ho,?_⟩;cases o with
   |none=>
    have:n=0:=hB;show n'=0
    omega
   |some cb=>
    obtain⟨C,e,g1,g2,g3⟩:=hB;have hm:n'*sz<=n*sz:=Nat.mul_le_mul_right _ hn;exact⟨C,e,g1,aa,fun i hi=>ai⟩
  grind
 ·exact h.cm.blk c x hx
theorem Lw{N t σ σ' mv}(b){sz n row}(row')(hb:σ[b]? =some (.arr sz n row))(hr: ∀i,i<n->row i=row' i)(hσ:σ.set b (.arr sz n row')=σ'):Sub ⟨N,t,σ,mv⟩ ⟨N,t,σ',mv⟩:=
 DF b n row' hb (Nat.le_refl _) hr hσ
theorem lq{P c Q N t σ σ' mv}(b n'){sz n row}(row')(hb:σ[b]? =some (.arr sz n row))(hn:n'<=n)(hr: ∀i,i<n'->row i=row' i)(hσ:σ.set b (.arr sz n' row')=σ')
  (h:cV P c Q ⟨N,t,σ',mv⟩):cV P c Q ⟨N,t,σ,mv⟩:=fg (DF b n' row' hb hn hr hσ) h
theorem ax{P c Q N t σ σ' mv}(b){sz n row}(row')(hb:σ[b]? =some (.arr sz n row))(hr: ∀i,i<n->row i=row' i)(hσ:σ.set b (.arr sz n row')=σ')
  (h:cV P c Q ⟨N,t,σ',mv⟩):cV P c Q ⟨N,t,σ,mv⟩:=fg (Lw b row' hb hr hσ) h
theorem KD(row rows):aO 0 row rows=rows:=by grind [aO]
attribute [go_sem] KD rep KP lG Xj
theorem fH{α:Type}[Inhabited α]{enc:α->List D}{l:List α}{x:α}{ds:List D}{sz:Nat}(h:ds.take sz=enc x){i:Nat}(hi:i<l.length+1):aO l.length (fun i=>enc (nth l i)) (rowsOf sz ds) i=enc (nth (l++[x]) i):=by
 unfold aO;split
 ·grind [nth]
 ·rename_i h1;have:i=l.length:=aa;simp_all [rowsOf,nth]
theorem LY(sz ds):rowsOf sz ds 0=ds.take sz:=by simp[rowsOf]
attribute [go_sem] cq bP LY
attribute [go_sem] sJ GS Cx lf lQ Cw AV.avoids cH
end Go.aI
