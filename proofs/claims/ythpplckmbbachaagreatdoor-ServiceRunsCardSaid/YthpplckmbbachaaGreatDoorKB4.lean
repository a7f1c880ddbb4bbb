/- Lemmas, no conditions. -/
import Derived.Test.YthpplckmbbachaaGreatDoorKB3
set_option linter.unusedVariables false
set_option linter.unusedSimpArgs false
namespace Go.aI
def G1(o:Oper)(p:Nat):Bool:=o.after.toList.any fun e=>Nat.beq e.on p&&Region.binds .any e
def SM(o:Oper)(k:Nat):Bool:=match o.dst with
 |some d=>Nat.beq d k
 |none=>false
theorem H8{o k} :SM o k=true↔o.dst=some k:=by
 unfold SM;split;all_goals simp_all
def okA(all:List Oper)(m i:Nat)(o:Oper):Bool:=
 (looks all o).all (fun k=>(List.range all.length).all fun p=>match all[p]? with
  |some op=> !SM op k||(if Nat.blt p i then G1 o p else if Nat.beq p i then true else G1 op i)
  |none=>true)&&
 (List.range m).all (fun p=>Nat.beq p i||(match all[p]?,o.dst with
  |some op,some d=> !SM op d
  |_,_=>true))
def x6(all:List Oper)(m:Nat):Nat->Oper->Nat->Bool
 |0,o,p=>G1 o p
 |n+1,o,p=>G1 o p||(Nat.blt p m&&(List.range all.length).any fun r=>G1 o r&&(Nat.ble m r||match all[r]? with
  |some x=>x6 all m n x p
  |none=>false))
def cO(all:List Oper)(m:Nat):Bool:=
 (List.range all.length).all fun i=>match all[i]? with
  |some o=>(o.after.toList.all fun e=> !Region.binds .any e||Nat.blt e.on i)&&(if Nat.blt i m then okA all m i o else(List.range i).all (x6 all m 12 o))
  |none=>true
theorem lh{o p}(h:G1 o p=true): ∃e∈o.after,e.on=p/\Region.binds .any e=true:=by
 grind [G1,Nat.eq_of_beq_eq_true]
theorem lt_of_getElem?{α:Type}{l:List α}{i x}(h:l[i]? =some x):i<l.length:=(List.getElem?_eq_some_iff.1 h).1
section
variable {P : Program} {ops : List Oper} {m : Nat}
theorem eZ(h:cO ops m=true){i o}(hi:ops[i]? =some o):(∀e∈o.after,Region.binds .any e=true->e.on<i)/\(i<m->okA ops m i o=true)/\(m<=i->∀p,p<i->x6 ops m 12 o p=true):=by
 simp only[cO,List.all_eq_true,List.mem_range] at h;have:=h i (lt_of_getElem? hi);simp only[hi,Bool.and_eq_true,List.all_eq_true] at this;obtain⟨h1,h2⟩:=this;refine⟨fun e he hb=> ?_,fun hm=> ?_,fun hm p hp=> ?_⟩
 ·have:=h1 e ai;simp_all
 all_goals simp_all [if_neg]
theorem YE{p}(hp:m<=p): ∀{n o},x6 ops m n o p=true->G1 o p=true
 |0,_,h=>h
 |n+1,o,h=>by
  simp only[x6,Bool.or_eq_true,Bool.and_eq_true] at h;rcases h with h|h
  ·exact h
  ·have h1:p<m:=aP;omega
theorem Ia{p}{L:Nat->Bool}(hB: ∀q,m<=q->q<ops.length->L q=false)(hm: ∀q oq,q<m->ops[q]? =some oq->L q=true->∀e∈oq.after,Region.binds .any e=true->L e.on=true): ∀{n o},x6 ops m n o p=true->(∀e∈o.after,Region.binds .any e=true->L e.on=true)->L p=true
 |0,_,h,ho=>by
  obtain⟨e,h1,h2,h3⟩:=lh h;grind
 |n+1,o,h,ho=>by
  simp only[x6,Bool.or_eq_true,Bool.and_eq_true,List.any_eq_true,List.mem_range] at h;rcases h with h|⟨h1,r,h2,h3,h4⟩
  ·grind [lh]
  ·obtain⟨e,g1,g2,g3⟩:=lh h3;have hr:=ho e g1 g3;rw[g2] at hr;rcases Nat.lt_or_ge r m with h5|h5
   ·rcases h4 with h4|h4
    ·simp_all
    ·split at h4
     ·rename_i x hx;exact Ia hB hm h4 (hm r x h5 hx hr)
     grind
   grind
theorem Xa(hok:cO ops m=true){Q j0 j1 w1} : ∀d p s j a w listed,ops.length-p=d->m<=p->p<=ops.length->listed.size=ops.length->
  (∀k,k<ops.length->∀b,listed.getD k b=decide (k<p))->Rel j0 s j a w->Ev j1 w1 j w->bz P false ops (ops.drop p) s (Q .normal)->wpAnyIn (FW j0.rd) 0 P .any ops.toArray (u6 j0 j1 w1 Q) d listed a w:=by
 intro d;induction d with
 |zero=>
  intro p s j a w listed hd hm hp hs hL hr he h;have hpe:p=ops.length:=aa;subst hpe;refine⟨?_,⟨s,j,hr,he,by grind [bz]⟩⟩;rw[List.eq_nil_iff_forall_not_mem];intro i hi;rw[mem_ready] at hi;obtain⟨h0,o,ho,_⟩:=hi;simp_all [lt_of_getElem?]
 |succ d ih=>
  intro p s j a w listed hd hm hp hs hL hr he h;have hpl:p<ops.length:=aa;have hop:ops[p]? =some ops[p]:=ai;have hdrop:ops.drop p=ops[p]::ops.drop (p+1):=List.drop_eq_getElem_cons hpl;rw[hdrop] at h;have hsp:=eZ hok hop;have adu:p∈Region.ready .any ops.toArray listed:=by
   rw[mem_ready];refine⟨by rw[hL p hpl];simp,ops[p],ai,fun e he hb=> ?_⟩;have:=hsp.1 e he hb;rw[hL e.on aa];grind
  refine⟨fun h0=>ai,fun i hi=> ?_⟩;rw[mem_ready] at hi;obtain⟨h0,o,ho,hall⟩:=hi;have ho':ops[i]? =some o:=ai;have hil:i<ops.length:=lt_of_getElem? ho';have hip:i=p:=by
   rw[hL i hil] at h0;have hge:p<=i:=ai;rcases Nat.eq_or_lt_of_le hge with h|h
   ·grind
   ·obtain⟨e,he1,he2,he3⟩:=lh (YE hm ((eZ hok ho').2.2 aa p h));have:=hall e he1 he3;rw[he2,hL p hpl] at this;grind
  subst hip;have hoe:o=ops[i]:=ai;subst hoe;have hset: ∀k,k<ops.length->∀b,(listed.setIfInBounds i true).getD k b=decide (k<i+1):=by
   intro k hk b;by_cases hki:i=k
   ·simp_all
   ·rw[getD_set_ne b hki,hL k hk];grind
  obtain⟨gd,g,h,hgd,hw⟩:=lP h;obtain⟨h1,h2⟩:=tn h hgd;have hw:=hw hr;simp only[wpOpIn,ho,hw];cases g with
  |true=>
   simp only[if_true];exact h1 rfl j0 j a w _ _ hr fun s' j' a' w' hr' he' hK=>ih (i+1) s' j' a' w' _ aa aa aa ai hset hr' (he.trans he') hK
  |false=>
   simp only[Bool.false_eq_true,if_false];obtain⟨s',hK,hs'⟩:=h2 rfl;exact⟨fun _ _=>trivial,ih (i+1) s' j _ w _ aa aa aa ai hset (hs' j0 j a w hr) he hK⟩
def left(listed:Array Bool)(n:Nat):Nat:=((List.range n).filter fun k=> !listed.getD k true).length
theorem Xz{listed n i}(hs:listed.size=n)(hi:i<n)(h0:listed.getD i true=false):left listed n=left (listed.setIfInBounds i true) n+1:=by
 unfold left;have gen: ∀l:List Nat,l.Nodup->i∈l->(l.filter fun k=> !listed.getD k true).length=(l.filter fun k=> !(listed.setIfInBounds i true).getD k true).length+1:=by
  intro l;induction l with
  |nil=>simp
  |cons x l ih=>
   intro hn hm;simp only[List.nodup_cons] at hn;by_cases hx:x=i
   ·subst hx;have hrest:(l.filter fun k=> !listed.getD k true)=l.filter fun k=> !(listed.setIfInBounds x true).getD k true:=by
     apply List.filter_congr;intro k hk;have hne:x≠k:=fun he=>hn.1 ai;simp_all
    simp_all
   ·have hm':i∈l:=ai;have ih:=ih hn.2 hm';have hxe:(listed.setIfInBounds i true).getD x true=listed.getD x true:=getD_set_ne true (Ne.symm hx);grind
 grind
theorem su{i o}(h:okA ops m i o=true):(∀k∈looks ops o,∀p op,ops[p]? =some op->op.dst=some k->(p<i->G1 o p=true)/\(i<p->G1 op i=true))/\(∀p op d,p<m->p≠i->ops[p]? =some op->o.dst=some d->op.dst≠some d):=by
 simp only[okA,Bool.and_eq_true,List.all_eq_true,List.mem_range] at h;obtain⟨h1,h2⟩:=h;refine⟨fun k hk p op hp hd=> ?_,fun p op d hp hne hpo hd hpd=> ?_⟩
 ·have:=h1 k hk p (lt_of_getElem? hp);simp only[hp,H8.2 hd,Bool.not_true,Bool.false_or] at this;refine⟨fun hlt=> ?_,fun hlt=> ?_⟩
  ·simp_all
  ·rw[if_neg K4,if_neg K4] at this;grind
 grind [Nat.eq_of_beq_eq_true,H8]
theorem Wp{i}(h:i<m):(ops.take m)[i]? =ops[i]? :=by grind
theorem qD{listed:Array Bool}{n q}(hs:listed.size=n)(hq:q<n):listed.getD q false=listed.getD q true:=by
 grind
theorem vD{s xs}{k:Nat}{i}(him:i<=m)(hw: ¬∃q oq,q<i/\ops[q]? =some oq/\oq.dst=some k):
  get (cD s (ops.take m) xs i).t k=get s.t k:=
 u0 (fun p o h1 h2=>by
  grind)
theorem iG(hok:cO ops m=true)(hmn:m<=ops.length){s xs q oq}{k:Nat}(hq:q<m)(hqo:ops[q]? =some oq)(Ph:oq.dst=some k){i}(hqi:q<i)(him:i<=m):
  get (cD s (ops.take m) xs i).t k=if k<s.N then some (xs q) else none:=
 uZ (oq:=oq) ai Ph hqi (fun p o h1 h2 h3=>by
  rw[Wp aa] at h3;exact(su ((eZ hok hqo).2.1 hq)).2 p o k aa aa h3 Ph)
structure Core(N:Nat)(t t1:List (Nat×AV))(U:AV->Prop)(ops:List Oper)(m:Nat)(j0:J0)(listed:Array Bool)(j:Js)(a:Act)(w:World):Prop where
 defers:Marks j0.n0 w j a.defers
 fC: ∀l,j0.rd=some l->∃r,w.heap[l]? =some (.loop r)
 size:a.tmps.size=N
 lsize:listed.size=ops.length
 lB: ∀k,m<=k->k<ops.length->∀b,listed.getD k b=false
 cl: ∀q oq,q<m->ops[q]? =some oq->listed.getD q true=true->∀e∈oq.after,Region.binds .any e=true->listed.getD e.on false=true
 c1: ∀q oq k av,q<m->ops[q]? =some oq->oq.dst=some k->listed.getD q true=true->get t1 k=some av->k<N/\R w j av (a.tmps.getD k Go.undef)
 c2: ∀k av,(∀q oq,q<m->ops[q]? =some oq->oq.dst=some k->listed.getD q true=false)->get t k=some av->k<N/\U av/\R w j av (a.tmps.getD k Go.undef)
section
variable {N : Nat} {t t1 : List (Nat × AV)} {U : AV -> Prop} {j0 : J0} {listed : Array Bool} {j : Js} {a : Act} {w : World}
theorem Core.start(hmn:m<=ops.length){σ mv}(hr:Rel j0 ⟨N,t,σ,mv⟩ j a w)(hU: ∀k av,get t k=some av->U av):Core N t t1 U ops m j0 (Array.replicate ops.toArray.size false) j a w:=by
 have hf: ∀k b,k<ops.length->(Array.replicate ops.toArray.size false).getD k b=false:=by
  simp_all
 refine⟨hr.defers,hr.fC,hr.size,an,fun k _ hk b=>hf k b hk,fun q oq hq hqo hl=> ?_,fun q oq k av hq hqo hd hl=> ?_,fun k av _ hk=>⟨(hr.tmp k av hk).1,hU k av hk,(hr.tmp k av hk).2⟩⟩
 ·rw[hf q true aa] at hl;cases hl
 ·rw[hf q true aa] at hl;cases hl
theorem qx:left (Array.replicate ops.toArray.size false) ops.length=ops.length:=by
 unfold left;have:(List.range ops.length).filter (fun k=> !(Array.replicate ops.toArray.size false).getD k true)=List.range ops.length:=by
  simp_all
 grind
theorem Core.far(hC:Core N t t1 U ops m j0 listed j a w){o}(hall: ∀e∈o.after,Region.binds .any e=true->listed.getD e.on false=true){p n}(h:x6 ops m n o p=true):listed.getD p false=true:=
 Ia (L:=fun q=>listed.getD q false) (fun q h1 h2=>hC.lB q h1 h2 false) (fun q oq h1 h2 h3 e he1 he2=>hC.cl q oq h1 h2 (by
  grind) e he1 he2) h hall
theorem Core.looks(hok:cO ops m=true)(hmn:m<=ops.length)(hC:Core N t t1 U ops m j0 listed j a w){σ mv xs}(hxs:(cD ⟨N,t,σ,mv⟩ (ops.take m) xs m).t=t1){i o}(him:i<m)(ho:ops[i]? =some o)(h0:listed.getD i true=false)
  (hall: ∀e∈o.after,Region.binds .any e=true->listed.getD e.on false=true) {k av} (hkl:k∈looks ops o) (hk:get (cD ⟨N,t,σ,mv⟩ (ops.take m) xs i).t k=some av):k<N/\R w j av (a.tmps.getD k Go.undef):=by
 have Uo:=su ((eZ hok ho).2.1 him);have hil:i<ops.length:=aa;by_cases hw: ∃q oq,q<i/\ops[q]? =some oq/\oq.dst=some k
 ·obtain⟨q,oq,hq,hqo,Ph⟩:=hw;obtain⟨e,he1,he2,he3⟩:=lh ((Uo.1 k hkl q oq hqo Ph).1 hq);have hlq:=hall e he1 he3;rw[he2,qD hC.lsize aa] at hlq;rw[iG hok hmn aa hqo Ph hq aa] at hk;exact hC.c1 q oq k av aa hqo Ph hlq (by grind [iG])
 ·rw[vD aa hw] at hk;have:=hC.c2 k av (fun q oq h1 h2 h3=>by
   rcases Nat.lt_trichotomy q i with h|h|h
   ·grind
   ·grind
   ·obtain⟨e,he1,he2,he3⟩:=lh ((Uo.1 k hkl q oq h2 h3).2 h);by_cases hb:listed.getD q true=true
    ·have:=hC.cl q oq h1 h2 hb e he1 he3;grind
    grind) hk
  grind
theorem Core.late(hok:cO ops m=true)(hmn:m<=ops.length)(hC:Core N t t1 U ops m j0 listed j a w){σ mv xs}(hxs:(cD ⟨N,t,σ,mv⟩ (ops.take m) xs m).t=t1){i o}(him:i<m)(ho:ops[i]? =some o)
  (hall: ∀e∈o.after,Region.binds .any e=true->listed.getD e.on false=true) (hself: ∀d,o.dst=some d->d∉aI.looks ops o) (pA: ∀q oq d,i<q->q<m->ops[q]? =some oq->oq.dst=some d->d∉aI.looks ops o)
  {k av} (hkl:k∈aI.looks ops o) (hk:get t1 k=some av):k<N/\R w j av (a.tmps.getD k Go.undef):=by
 by_cases hw: ∃q oq,q<m/\ops[q]? =some oq/\oq.dst=some k
 ·obtain⟨q,oq,hq,hqo,Ph⟩:=hw;have hqi:q<i:=by
   grind
  obtain⟨e,he1,he2,he3⟩:=lh (((su ((eZ hok ho).2.1 him)).1 k hkl q oq hqo Ph).1 hqi);have hlq:=hall e he1 he3;rw[he2,qD hC.lsize aa] at hlq;exact hC.c1 q oq k av hq hqo Ph hlq hk
 ·rw[←hxs,vD (Nat.le_refl _) hw] at hk;have:=hC.c2 k av (fun q oq h1 h2 h3=>absurd ⟨q,oq,h1,h2,h3⟩ hw) hk;grind
theorem Core.done(hC:Core N t t1 U ops m j0 listed j a w){σ mv xs}(hxs:(cD ⟨N,t,σ,mv⟩ (ops.take m) xs m).t=t1)(hd: ∀q,q<m->listed.getD q true=true){k av}(hk:get t1 k=some av):k<N/\R w j av (a.tmps.getD k Go.undef):=by
 by_cases hw: ∃q oq,q<m/\ops[q]? =some oq/\oq.dst=some k
 ·obtain⟨q,oq,hq,hqo,Ph⟩:=hw;exact hC.c1 q oq k av hq hqo Ph (hd q hq) hk
 ·rw[←hxs,vD (Nat.le_refl _) hw] at hk;have:=hC.c2 k av (fun q oq h1 h2 h3=>absurd ⟨q,oq,h1,h2,h3⟩ hw) hk;grind
theorem zl{o:Oper}{v}{k:Nat}(hne:o.dst≠some k):(a.put o.dst v).tmps.getD k Go.undef=a.tmps.getD k Go.undef:=by
 cases hd:o.dst with
 |none=>rfl
 |some d=>
  simp_all [Act.put]
theorem Core.step(hok:cO ops m=true)(hmn:m<=ops.length)(hC:Core N t t1 U ops m j0 listed j a w){i o}(him:i<m)(ho:ops[i]? =some o)
  (hall: ∀e∈o.after,Region.binds .any e=true->listed.getD e.on false=true) {t' t1' j' w' v} (hev:Ev j w j' w')
  (tr: ∀k K0,get t1' k=some K0->o.dst≠some k->∃av,get t1 k=some av/\∀x,R w j av x->R w' j' K0 x)
  (tr2: ∀k K0,get t' k=some K0->∃av,get t k=some av/\∀x,U av->R w j av x->U K0/\R w' j' K0 x)
  (hv: ∀k av,o.dst=some k->get t1' k=some av->k<N/\R w' j' av v):Core N t' t1' U ops m j0 (listed.setIfInBounds i true) j' (a.put o.dst v) w':=by
 have Uo:=su ((eZ hok ho).2.1 him);have hil:i<ops.length:=aa;have Un:i<listed.size:=by rw[hC.lsize];grind
 refine⟨?_,fun l hl=>(by obtain⟨r,hr⟩:=hC.fC l hl;exact hev.lps l r hr),?_,by simpa using hC.lsize,?_,?_,?_,?_⟩
 ·have:=hC.defers.mono hev;cases hd:o.dst<;>simpa[Act.put] using this
 ·cases hd:o.dst<;>simp[Act.put,hC.size]
 ·intro k hk1 hk2 b;rw[getD_set_ne b aa];exact hC.lB k hk1 hk2 b
 ·intro q oq hq hqo hl e he1 he2;by_cases hqi:i=q
  ·grind [getD_set_true]
  ·rw[getD_set_ne true hqi] at hl;exact getD_set_true (hC.cl q oq hq hqo hl e he1 he2)
 ·intro q oq k av hq hqo Ph hl hk;by_cases hqi:i=q
  ·subst hqi;obtain rfl:o=oq:=by grind
   have h1:=hv k av Ph hk;simp only[Act.put,Ph];rw[iT (w:=w) (j:=j) (by rw[hC.size];grind),if_pos rfl];exact h1
  ·rw[getD_set_ne true hqi] at hl;have hne:o.dst≠some k:=fun hd=>Uo.2 q oq k hq (fun h=>hqi h.symm) hqo hd Ph;obtain⟨av0,h2,h3⟩:=tr k av hk hne;have h1:=hC.c1 q oq k av0 hq hqo Ph hl h2;grind [zl]
 ·intro k av hk hg;have hne:o.dst≠some k:=fun hd=>by
   have:=hk i o him ho hd;simp_all
  obtain⟨av0,h2,h3⟩:=tr2 k av hg;have h1:=hC.c2 k av0 (fun q oq h1 h2 h3=>by
   have hqi:i≠q:=fun h=>by grind
   have:=hk q oq h1 h2 h3;simp_all) h2
  grind [zl]
end
theorem JG(hok:cO ops m=true)(hmn:m<=ops.length){Q j0 j1 w1}(Inv:Array Bool->Js->Act->World->Prop)
  (hB: ∀{listed j a w},Inv listed j a w->∃N t t1 U,Core N t t1 U ops m j0 listed j a w)
  (fin: ∀{listed j a w},Inv listed j a w->(∀q,q<m->listed.getD q true=true)->∃s',Rel j0 s' j a w/\bz P false ops (ops.drop m) s' (Q .normal))
  (step: ∀{listed j a w i o} {next:Act->World->Prop},Inv listed j a w->i<m->ops[i]? =some o->listed.getD i true=false->(∀e∈o.after,Region.binds .any e=true->listed.getD e.on false=true)->
   (∀j' v w',Inv (listed.setIfInBounds i true) j' (a.put o.dst v) w'->Ev j w j' w'->next (a.put o.dst v) w')->
   if Region.wanted o (yielded ops.toArray a.tmps) then o.wpIn (FW j0.rd) 0 P a w next (u6 j0 j1 w1 Q) else next (a.put o.dst Go.undef) w):
  ∀fuel j a w listed,left listed ops.length=fuel->Inv listed j a w->Ev j1 w1 j w->wpAnyIn (FW j0.rd) 0 P .any ops.toArray (u6 j0 j1 w1 Q) fuel listed a w:=by
 intro fuel;induction fuel with
 |zero=>
  intro j a w listed hf hI he;obtain⟨_,_,_,_,hC⟩:=hB hI;have hall: ∀k,k<ops.length->listed.getD k true=true:=by
   intro k hk;by_cases hb:listed.getD k true=true
   ·exact hb
   ·have:k∈(List.range ops.length).filter fun k=> !listed.getD k true:=by
     grind
    have h0:(List.range ops.length).filter (fun k=> !listed.getD k true)=[]:=List.length_eq_zero_iff.1 hf;grind
  have hme:m=ops.length:=by
   rcases Nat.lt_or_ge m ops.length with h|h
   ·have:=hall m h;rw[hC.lB m (Nat.le_refl _) h] at this;grind
   ·omega
  obtain⟨s',hr,hK⟩:=fin hI fun q hq=>hall q aa;exact Xa hok 0 m _ j a w listed aa (Nat.le_refl _) aa hC.lsize (fun k hk b=>by
   have h1:=hall k hk;have hsz:k<listed.size:=by rw[hC.lsize];exact hk
   simp_all) hr he hK
 |succ fuel ih=>
  intro j a w listed hf hI he;obtain⟨_,_,_,_,hC⟩:=hB hI;by_cases hdone: ∀q,q<m->listed.getD q true=true
  ·have hL: ∀k,k<ops.length->∀b,listed.getD k b=decide (k<m):=by
    intro k hk b;rcases Nat.lt_or_ge k m with h|h
    ·have h1:=hdone k h;have hsz:k<listed.size:=by rw[hC.lsize];exact hk
     simp_all
    ·rw[hC.lB k h hk];grind
   have hfuel:fuel+1=ops.length-m:=by
    rw[←hf];unfold left;have gen: ∀n,n<=ops.length->((List.range n).filter fun k=> !listed.getD k true).length=n-m:=by
     intro n;induction n with
     |zero=>simp
     |succ n ihn=>
      intro hn;rw[List.range_succ,List.filter_append,List.length_append,ihn aa];have h1:=hL n aa true;grind
    grind
   obtain⟨s',hr,hK⟩:=fin hI hdone;exact Xa hok (fuel+1) m _ j a w listed hfuel.symm (Nat.le_refl _) aa hC.lsize hL hr he hK
  ·have hex: ∃q,q<m/\listed.getD q true=false/\∀p,p<q->listed.getD p true=true:=by
    have ag4: ∃q,q<m/\listed.getD q true=false:=by
     grind
    obtain⟨q,hq1,hq2⟩:=ag4;induction q using Nat.strongRecOn<;>grind
   obtain⟨q0,hq0,agT,agU⟩:=hex;have hlt0:q0<ops.length:=aa;have adu:q0∈Region.ready .any ops.toArray listed:=by
    rw[mem_ready];refine⟨agT,ops[q0],ai,fun e he hb=> ?_⟩;have h1:=(eZ hok (i:=q0) (o:=ops[q0]) ai).1 e he hb;grind
   refine⟨fun h0=>ai,fun i hi=> ?_⟩;rw[mem_ready] at hi;obtain⟨h0,o,ho,hall⟩:=hi;have ho':ops[i]? =some o:=ai;have hil:i<ops.length:=lt_of_getElem? ho';have him:i<m:=by
    rcases Nat.lt_or_ge i m with h|h
    ·exact h
    ·have:=hC.far hall ((eZ hok ho').2.2 h q0 aa);grind
   have hs:=step hI him ho' h0 hall (next:=wpAnyIn (FW j0.rd) 0 P .any ops.toArray (u6 j0 j1 w1 Q) fuel (listed.setIfInBounds i true)) fun j' v w' h1 h2=>
    ih j' _ w' _ (by have:=Xz hC.lsize hil h0;omega) h1 (he.trans h2)
   simp only[wpOpIn,ho];by_cases hw:Region.wanted o (yielded ops.toArray a.tmps)=true
   ·rw[if_pos hw] at hs⊢;exact hs
   ·rw[if_neg hw] at hs⊢;exact⟨fun _ _=>trivial,hs⟩
end
section
variable {P : Program} {Q : Exit -> St -> Prop} {s : St}
theorem aj{id ops y}(h: ∀K:St->Prop,(∀s',cV P y Q s'->K s')->bz P false ops ops s K):cV P (.seq (.region id ops.toArray false) y) Q s:=
 aq (vP (h _ fun _ h=>h))
theorem aE{id ops}(h: ∀K:St->Prop,(∀s',Q .normal s'->K s')->bz P false ops ops s K):cV P (.region id ops.toArray false) Q s:=
 vP (h _ fun _ h=>h)
end
theorem Kp(b p):cond b p false=(b&&p):=by cases b<;>rfl
theorem Ox(b q):cond b true q=(b||q):=by cases b<;>rfl
attribute [go_sem ↓] N7 J9 S9 fE JK pI arg args pv bin un Qe PE DN qE RZ kL PF oW KE qW aaf iQ qA tz DM bnd EF BQ C6 oJ RY df KB CW Kc V8 YA Yv PU Xm tK SO abg rM
attribute [go_sem] S9 aI.get aI.put aI.del St.put St.newVar St.after cellsOf fJ AN Value.oneCell' lI val ofConst Sn oT loaded St.init HY WY BH pf fO gvA mz A8 C1 eq1 List.drop List.take List.map List.set List.length List.getElem?_cons_zero List.getElem?_cons_succ List.headD Nat.beq_eq Nat.ble_eq Nat.blt_eq Kp Ox
attribute [go_sem] Hu aa8 aab JB QZ vu MW abx Key.str AV.free pF
attribute [congr] VF VE VD Vw Vx
attribute [go_sem] Vm Vl abr Y4
attribute [go_sem] List.nil_append List.cons_append List.append_nil
mutual
def AV.under(n:Nat):AV->Prop
 | .undef=>True
 | .iff b x=>b=true->x.under n
 | .d _=>True
 | .agg cs=>eo n cs
 | .cj cs=>eo n cs
 | .ptr b _=>b<n
 | .pe b _ _ _=>b<n
 | .el _=>True
 | .op _ _=>True
 | .ms b _ _ _=>b<n
 | .mc b _ _ _ _=>b<n
 | .mp b=>b<n
 | .clo _ fs cs=>eo n fs/\eo n cs
 | .rl b=>b<n
 | .fm _ _ _=>True
def eo(n:Nat):List AV->Prop
 |[]=>True
 |x::xs=>x.under n/\eo n xs
end
theorem jf{n} : ∀{cs k},eo n cs->k<cs.length->(cs.getD k .undef).under n
 |[],_,_,hk=>by grind
 |x::xs,0,h,_=>by grind [eo]
 |x::xs,k+1,h,hk=>by
  simp[eo] at h;have:=jf (k:=k) h.2 rI;simpa using this
theorem RD.less{w j j'}(hs: ∀o,o∈j->o∈j'){d v}(h:RD w j' d v):RD w j d v:=by
 induction h with
 |v x=>exact .v x
 |sl a c val hcap hle ha hlt hb hlen hcell hrel ih=>exact .sl a c val hcap hle ha hlt (fun hm=>hb (hs _ hm)) hlen hcell ih
 |zero p c hcap hp=>exact .zero p c hcap hp
theorem R.less{w j j'}(hs: ∀o,o∈j->o∈j')(ha: ∀b:Nat,b<j.length->j'[b]? =j[b]?){av v}(h:R w j' av v)(hu:av.under j.length):R w j av v:=by
 induction h with
 |undef v=>exact .undef v
 |iff h h0 ih=>exact .iff (fun hb=>ih hb (by simpa[AV.under,hb] using hu)) h0
 |d h=>exact .d (h.less hs)
 |agg vs hsz h ih=>exact .agg vs hsz fun k hk=>ih k hk (jf Rg hk)
 |cj vs hsz h ih=>exact .cj vs hsz fun k hk=>ih k hk (jf Rg hk)
 |ptr h=>exact .ptr Dn
 |pe h=>exact .pe Dn
 |el a val h1 hlt hb hcell hrel=>exact .el a val h1 hlt (fun hm=>hb (hs _ hm)) hcell fun k hk=>(hrel k hk).less hs
 |op h h0 ih=>exact .op (fun hb=>ih hb trivial) h0
 |ms c e m h h1 h2 h3=>exact .ms c e m Dn h1 h2 h3
 |ms0 p h=>exact .ms0 p Dn
 |oY p e m h h1 h2 h3=>exact .oY p e m Dn h1 h2 h3
 |mc h q hv ih=>exact .mc (ih Rg) q hv
 |mp h=>exact .mp Dn
 |rl h=>exact .rl Dn
 |fm c cl es hlt hb rv hd=>exact .fm c cl es hlt (fun hm=>hb (hs _ hm)) rv ⟨hd.stamped,hd.keys,hd.kind,fun e he k hk=>(hd.rel e he k hk).less hs⟩
 | @clo fn fs cs ff cc h1 h2 h3 h4 ih3 ih4=>
  have hb:eo j.length fs/\eo j.length cs:=Rg;exact .clo ff cc h1 h2 (fun k hk=>ih3 k hk (jf hb.1 hk)) (fun k hk=>ih4 k hk (jf hb.2 hk))
theorem vA{j:Js}{b o}(h:j[b]? =some o):b<j.length:=(List.getElem?_eq_some_iff.1 h).1
theorem R.shrink{w w' j j' jt}(hs: ∀o,o∈jt->o∈j')(ha: ∀b:Nat,b<j.length->j'[b]? =jt[b]?){av u}(h2:R w j av u): ∀{v},R w' j' av v->R w' jt av v:=by
 have key: ∀{b:Nat} {o o'},j[b]? =some o->j'[b]? =some o'->jt[b]? =some o':=fun h h'=>by grind
 induction h2 with
 |undef v=>exact fun _=> .undef _
 |iff h h0 ih=>
  intro v h1;cases h1 with
  |iff h1 h10=>exact .iff (fun hb=>ih hb (h1 hb)) h10
 |d h=>
  intro v h1;cases h1 with|d h1=>exact .d (h1.less hs)
 |agg vs hsz h ih=>
  intro v h1;cases h1 with
  |agg vs' hsz' h'=>exact .agg vs' hsz' fun k hk=>ih k hk (h' k hk)
 |cj vs hsz h ih=>
  intro v h1;cases h1 with
  |cj vs' hsz' h'=>exact .cj vs' hsz' fun k hk=>ih k hk (h' k hk)
 |ptr h=>
  intro v h1;cases h1 with|ptr h1=>exact .ptr (key h h1)
 |pe h=>
  intro v h1;cases h1 with|pe h1=>exact .pe (key h h1)
 |el a val h1 hlt hb hcell hrel=>
  intro v h1;cases h1 with
  |el a' val' g1 g2 g3 g4 g5=>exact .el a' val' g1 g2 (fun hm=>g3 (hs _ hm)) g4 fun k hk=>(g5 k hk).less hs
 |op h h0 ih=>
  intro v h1;cases h1 with|op h1 h10=>exact .op (fun hb=>ih hb (h1 hb)) h10
 |ms c e m h _ _ _=>
  intro v h1;cases h1 with
  |ms c' e' m' g1 g2 g3 g4=>exact .ms c' e' m' (key h g1) g2 g3 g4
  |ms0 p g1=>exact .ms0 p (key h g1)
  |oY p e' m' g1 g2 g3 g4=>exact .oY p e' m' (key h g1) g2 g3 g4
 |ms0 p h=>
  intro v h1;cases h1 with
  |ms c' e' m' g1 g2 g3 g4=>exact .ms c' e' m' (key h g1) g2 g3 g4
  |ms0 p g1=>exact .ms0 p (key h g1)
  |oY p e' m' g1 g2 g3 g4=>grind
 |oY p e m h _ _ _=>
  intro v h1;cases h1 with
  |ms c' e' m' g1 g2 g3 g4=>exact .ms c' e' m' (key h g1) g2 g3 g4
  |ms0 p g1=>grind
  |oY p e' m' g1 g2 g3 g4=>exact .oY p e' m' (key h g1) g2 g3 g4
 |mc h q hv ih=>
  intro v h1;cases h1 with|mc h1 q' hv'=>exact .mc (ih h1) q' hv'
 |mp h=>
  intro v h1;cases h1 with|mp h1=>exact .mp (key h h1)
 |rl h=>
  intro v h1;cases h1 with|rl h1=>exact .rl (key h h1)
 |fm _ _ _ _ _ _ _=>
  intro v h1;cases h1 with|fm c cl es hlt hb rv hd=>exact .fm c cl es hlt (fun hm=>hb (hs _ hm)) rv ⟨hd.stamped,hd.keys,hd.kind,fun e he k hk=>(hd.rel e he k hk).less hs⟩
 |clo ff cc h1 h2 h3 h4 ih3 ih4=>
  intro v h1;cases h1 with
  |clo ff' cc' g1 g2 g3 g4=>exact .clo ff' cc' g1 g2 (fun k hk=>ih3 k hk (g3 k hk)) (fun k hk=>ih4 k hk (g4 k hk))
def sY(n:Nat):aZ->Prop
 | .var cs=> ∀k,k<cs.length->(cs.getD k .undef).under n
 | .lp L _ _=> ∀k av,(k,av)∈L.t->av.under n
 |_=>True
theorem R.under{w j av v}(h:R w j av v):av.under j.length:=by
 have all: ∀{cs:List AV},(∀k,k<cs.length->(cs.getD k .undef).under j.length)->eo j.length cs:=by
  intro cs;induction cs with
  |nil=>intro _;trivial
  |cons x xs ih=>
   intro hx;exact⟨by simpa using hx 0 an,ih fun k hk=>by simpa using hx (k+1) ai⟩
 induction h with
 |undef v=>trivial
 |iff h h0 ih=>exact ih
 |d h=>trivial
 |agg vs hsz h ih=>exact all ih
 |cj vs hsz h ih=>exact all ih
 |ptr h=>exact vA h
 |pe h=>exact vA h
 |el a val h1 hlt hb hcell hrel=>trivial
 |op h h0 ih=>trivial
 |ms c e m h h1 h2 h3=>exact vA h
 |ms0 p h=>exact vA h
 |oY p e m h=>exact vA h
 |mc h q hv ih=>exact ih
 |mp h=>exact vA h
 |clo ff cc h1 h2 h3 h4 ih3 ih4=>exact⟨all ih3,all ih4⟩
 |rl h=>exact vA h
 |fm _ _ _ _ _ _ _=>trivial
theorem pZ{n X}(hX: ∀b∈X,n<=b)(av:AV):av.under n->av.avoids X=true:=by
 have key: ∀b,b<n->X.contains b=false:=fun b hb=>by
  grind
 induction av using AV.rec (motive_2:=fun l=>eo n l->cH X l=true) with
 |undef=>intro _;rfl
 |iff b x ih=>intro h;cases b with
  |false=>rfl
  |true=>simpa[AV.avoids] using ih (h rfl)
 |d x=>intro _;rfl
 |agg cs ih=>intro h;exact ih h
 |cj cs ih=>intro h;exact ih h
 |ptr b off=>intro h;simp only[AV.avoids,key b h];rfl
 |pe b sz i k=>intro h;simp only[AV.avoids,key b h];rfl
 |el cs=>intro _;rfl
 |op b cs=>intro _;rfl
 |ms b sz lo m=>intro h;simp only[AV.avoids,key b h];rfl
 |mc b sz lo m c=>intro h;simp only[AV.avoids,key b h];rfl
 |mp b=>intro h;simp only[AV.avoids,key b h];rfl
 |clo fn fs cs ih1 ih2=>intro h;simp only[AV.avoids,ih1 h.1,ih2 h.2];rfl
 |rl b=>intro h;simp only[AV.avoids,key b h];rfl
 |fm d ks f=>intro _;rfl
 |nil=>rfl
 |cons x xs ih1 ih2=>rename_i h;simp only[cH,ih1 h.1,ih2 h.2];rfl
def gJ(σ:List aZ):Prop:= ∀X,(∀b∈X,σ.length<=b)->σ.map (bP X)=σ
theorem R.pF{w j j'}(hs: ∀o,o∈j->o∈j'){av v}(h:R w j' av v):av.free=true->R w j av v:=by
 have el: ∀{cs:List AV} {k:Nat},aI.pF cs=true->k<cs.length->(cs.getD k .undef).free=true:=by
  intro cs;induction cs<;>grind [aI.pF]
 induction h with
 |undef v=>exact fun _=> .undef v
 |iff h h0 ih=>exact fun hf=> .iff (fun hb=>ih hb (by grind [AV.free])) h0
 |d h=>exact fun _=> .d (h.less hs)
 |agg vs hsz h ih=>exact fun hf=> .agg vs hsz fun k hk=>ih k hk (el hf hk)
 |cj vs hsz h ih=>exact fun hf=> .cj vs hsz fun k hk=>ih k hk (el hf hk)
 |el a val h1 hlt hb hcell hrel=>exact fun _=> .el a val h1 hlt (fun hm=>hb (hs _ hm)) hcell fun k hk=>(hrel k hk).less hs
 |op h h0 ih=>exact fun _=> .op (fun hb=>ih hb rfl) h0
 |clo ff cc h1 h2 h3 h4 ih3 ih4=>
  intro hf;simp only[AV.free,Bool.and_eq_true] at hf;exact .clo ff cc h1 h2 (fun k hk=>ih3 k hk (el hf.1 hk)) (fun k hk=>ih4 k hk (el hf.2 hk))
 |ptr h=>intro hf;cases hf
 |pe h=>intro hf;cases hf
 |ms c e m h h1 h2 h3=>intro hf;cases hf
 |ms0 p h=>intro hf;cases hf
 |oY p e m h h1 h2 h3=>intro hf;cases hf
 |mc h q hv ih=>intro hf;cases hf
 |mp h=>intro hf;cases hf
 |rl h=>intro hf;cases hf
 |fm c cl es hlt hb rv hd=>exact fun _=> .fm c cl es hlt (fun hm=>hb (hs _ hm)) rv ⟨hd.stamped,hd.keys,hd.kind,fun e he k hk=>(hd.rel e he k hk).less hs⟩
theorem ft.less{w j j'}(hs: ∀o,o∈j->o∈j'){es cl d ks f}(h:ft w j' es cl d ks f):ft w j es cl d ks f:=
 ⟨h.stamped,h.keys,h.kind,h.free,fun e hm k hk=>(h.rel e hm k hk).pF hs (h.free k)⟩
theorem oe.less{w j j'}(hs: ∀o,o∈j->o∈j'){mb es cl seen left cur f}(h:oe w j' mb es cl seen left cur f):oe w j mb es cl seen left cur f:=
 ⟨h.lt,fun hm=>h.own (hs _ hm),h.heap,h.stamped,h.keys,h.cur,h.free,fun e hm k hk=>(h.rel e hm k hk).pF hs (h.free k)⟩
theorem RB.under{w j x o}(h:RB w j x o):sY j.length x:=by
 cases x with
 |dead=>trivial
 |loc c=>trivial
 |tab c vs=>trivial
 |arr sz n row=>trivial
 |mp d ks f=>trivial
 |GK d ks f κ q=>trivial
 |it left cur f=>trivial
 |var cs=>
  cases o with
  |none=>exact h.elim
  |some cb=>
   obtain⟨C,e,h1,h2,h3⟩:=h;exact fun k hk=>(h3 k hk).under
 |lp L st pd=>
  cases o with
  |none=>exact h.elim
  |some cb=>
   obtain⟨r,h1,h2,h3,h4⟩:=h;exact fun k av hk=>(h4 k av hk).2.under
theorem aQ.wf{w j σ}(h:aQ w j σ):gJ σ:=by
 intro X hX;apply List.ext_getElem?;intro b;rw[List.getElem?_map];cases hb:σ[b]? with
 |none=>rfl
 |some x=>
  obtain⟨o,ho,hB⟩:=h.blk b x hb;have hu:=hB.under;rw[h.len] at hu;simp only[Option.map_some,Option.some.injEq];cases x with
  |dead=>rfl
  |loc c=>rfl
  |tab c vs=>rfl
  |arr sz n row=>rfl
  |mp d ks f=>rfl
  |GK d ks f κ q=>rfl
  |it left cur f=>rfl
  |var cs=>
   simp only[bP,aZ.var.injEq];apply List.ext_getElem?;intro k;rw[List.getElem?_map];cases hk:cs[k]? with
   |none=>rfl
   |some c=>
    have hlt:k<cs.length:=lt_of_getElem? hk;have:=hu k hlt;grind [pZ]
  |lp L st pd=>
   simp only[bP,aZ.lp.injEq,and_true];rw[yS fun k av hk=>pZ hX av (hu k av hk)]
theorem gJ.one{σ}(h:gJ σ)(k):σ.map (bP [σ.length+k])=σ:=h _ an
theorem gJ.zero{σ}(h:gJ σ):σ.map (bP [σ.length])=σ:=h _ an
theorem RB.less{w j j'}(hs: ∀o,o∈j->o∈j')(ha: ∀b:Nat,b<j.length->j'[b]? =j[b]?){x o}(h:RB w j' x o)(hu:sY j.length x):RB w j x o:=by
 cases x with
 |dead=>trivial
 |loc c=>
  obtain⟨h1,h2,h3,m,h4⟩:=h;exact⟨h1,h2,fun hm=>h3 (hs _ hm),m,h4⟩
 |tab c vs=>
  obtain⟨h1,h2,h3,e,h4,h5⟩:=h;exact⟨h1,h2,fun hm=>h3 (hs _ hm),e,h4,h5⟩
 |var cs=>
  cases o with
  |none=>exact h
  |some cb=>
   obtain⟨C,e,h1,h2,h3⟩:=h;exact⟨C,e,h1,h2,fun k hk=>(h3 k hk).less hs ha (hu k hk)⟩
 |arr sz n row=>
  cases o with
  |none=>exact h
  |some cb=>
   obtain⟨C,e,h1,h2,h3⟩:=h;exact⟨C,e,h1,h2,fun i hi=>⟨(h3 i hi).1,fun k hk=>((h3 i hi).2 k hk).less hs⟩⟩
 |lp L st pd=>
  cases o with
  |none=>exact h
  |some cb=>
   obtain⟨r,h1,h2,h3,h4⟩:=h;exact⟨r,h1,h2,h3,fun k av hk=>⟨(h4 k av hk).1,(h4 k av hk).2.less hs ha (hu k av hk)⟩⟩
 |mp d ks f=>
  cases o with
  |none=>exact h
  |some cb=>
   obtain⟨es,cl,h1,h2⟩:=h;exact⟨es,cl,h1,h2.less hs⟩
 |GK d ks f κ q=>
  cases o with
  |none=>exact h
  |some cb=>
   obtain⟨es,cl,h1,h2,hx⟩:=h;exact⟨es,cl,h1,h2.less hs,hx⟩
 |it left cur f=>
  cases o with
  |none=>exact h
  |some cb=>
   obtain⟨mb,es,cl,seen,h1,h2⟩:=h;exact⟨mb,es,cl,seen,h1,h2.less hs⟩
theorem RB.shrink{w w' j j' jt}(hs: ∀o,o∈jt->o∈j')(ha: ∀b:Nat,b<j.length->j'[b]? =jt[b]?){x o o'}(h2:RB w j x o)(h:RB w' j' x o'):RB w' jt x o':=by
 cases x with
 |dead=>trivial
 |loc c=>
  obtain⟨h1,h3,h4,m,h5⟩:=h;exact⟨h1,h3,fun hm=>h4 (hs _ hm),m,h5⟩
 |tab c vs=>
  obtain⟨h1,h3,h4,e,h5,h6⟩:=h;exact⟨h1,h3,fun hm=>h4 (hs _ hm),e,h5,h6⟩
 |var cs=>
  cases o with
  |none=>exact h2.elim
  |some cb=>
  cases o' with
  |none=>exact h
  |some cb'=>
   obtain⟨C,e,h1,h2',h3⟩:=h;obtain⟨C2,e2,g1,g2,g3⟩:=h2;exact⟨C,e,h1,h2',fun k hk=>(g3 k hk).shrink hs ha (h3 k hk)⟩
 |arr sz n row=>
  cases o' with
  |none=>exact h
  |some cb=>
   obtain⟨C,e,h1,h2,h3⟩:=h;exact⟨C,e,h1,h2,fun i hi=>⟨(h3 i hi).1,fun k hk=>((h3 i hi).2 k hk).less hs⟩⟩
 |lp L st pd=>
  cases o with
  |none=>exact h2.elim
  |some cb=>
  cases o' with
  |none=>exact h
  |some cb'=>
   obtain⟨r,h1,h3,h4,h5⟩:=h;obtain⟨r2,g1,g3,g4,g5⟩:=h2;exact⟨r,h1,h3,h4,fun k av hk=>⟨(h5 k av hk).1,(g5 k av hk).2.shrink hs ha (h5 k av hk).2⟩⟩
 |mp d ks f=>
  cases o' with
  |none=>exact h
  |some cb=>
   obtain⟨es,cl,h1,h9⟩:=h;exact⟨es,cl,h1,h9.less hs⟩
 |GK d ks f κ q=>
  cases o' with
  |none=>exact h
  |some cb=>
   obtain⟨es,cl,h1,h9,hx⟩:=h;exact⟨es,cl,h1,h9.less hs,hx⟩
 |it left cur f=>
  cases o' with
  |none=>exact h
  |some cb=>
   obtain⟨mb,es,cl,seen,h1,h9⟩:=h;exact⟨mb,es,cl,seen,h1,h9.less hs⟩
structure Leaves(kp σ':List aZ):Prop where
 len:σ'.length=kp.length
 blk: ∀(b:Nat) x,σ'[b]? =some x->kp[b]? =some x\/sY kp.length x\/∃Y y,kp[b]? =some y/\x=bP Y y
theorem Leaves.refl(σ):Leaves σ σ:=⟨rfl,fun _ _ h=> .inl h⟩
theorem aQ.drop{w w' j j' kp σ' g X}(h0:aQ w j kp)(h:aQ w' j' (σ'++g))(hl:Leaves kp σ')(hag:Ag j j' X)(hle:j.length<=j'.length):
  aQ w' (j'.take j.length) σ'/\(∀o,o∈j'.take j.length->o∈j')/\(∀b,b<(j'.take j.length).length->j'[b]? =(j'.take j.length)[b]?):=by
 have hlen:(j'.take j.length).length=j.length:=ai;have hs: ∀o,o∈j'.take j.length->o∈j':=fun o ho=>List.mem_of_mem_take ho;have ha: ∀b:Nat,b<(j'.take j.length).length->j'[b]? =(j'.take j.length)[b]? :=by
  grind
 have hget: ∀{b:Nat} {o},(j'.take j.length)[b]? =some o->j'[b]? =some o:=by
  grind
 refine⟨⟨by rw[hlen,h0.len,hl.len],fun b cb hb=>h.lt b cb (hget hb),fun b b' cb hb hb'=>h.inj b b' cb (hget hb) (hget hb'),fun b x hx=> ?_⟩,hs,ha⟩;have hbl:b<σ'.length:=(List.getElem?_eq_some_iff.1 hx).1;obtain⟨o,ho,hB⟩:=h.blk b x ai;have hbj:b<(j'.take j.length).length:=by rw[hlen,h0.len,←hl.len];grind
 refine⟨o,ai,?_⟩;rcases hl.blk b x hx with hx0|hu|⟨Y,y,hx0,rfl⟩
 ·obtain⟨o0,ho0,hB0⟩:=h0.blk b x hx0;exact hB0.shrink hs (fun q hq=>ha q aa) hB
 ·exact hB.less hs ha (by rw[hlen,h0.len];exact hu)
 ·obtain⟨o0,ho0,hB0⟩:=h0.blk b y hx0;exact(hB0.LQ Y).shrink hs (fun q hq=>ha q aa) hB
def nC(n:Nat)(X:List Nat):List Nat->Prop
 |[]=>True
 |x::xs=>(n<=x\/x∈X)/\nC n X xs
theorem MO{n X} : ∀{l x},nC n X l->x∈l->n<=x\/x∈X
 |[],x,_,h=>by grind
 |y::ys,x,h,hx=>by
  rcases List.mem_cons.1 hx with rfl|hx
  ·exact h.1
  ·exact MO h.2 hx
theorem Ag.nC{j j' mv X}(h:Ag j j' mv)(hm:aI.nC j.length X mv):Ag j j' X:=fun b hb hn=>h b hb fun hmem=>by
 rcases MO hm hmem with h1|h1;all_goals grind
def CN(P:Program)(rs:List ResultVar)(kp:List aZ)(X:List Nat)(Q:AV->List aZ->Prop)(s:St):Prop:=
 qW P s rs fun xs=> ∃σ' g,s.σ=σ'++g/\Leaves kp σ'/\(BH xs).under kp.length/\nC kp.length X s.mv/\Q (BH xs) σ'
def r6(P:Program)(rs:List ResultVar)(kp:List aZ)(X:List Nat)(Q:AV->List aZ->Prop):Exit->St->Prop
 | .normal,s=>CN P rs kp X Q s
 | .ret,s=>CN P rs kp X Q s
 |_,_=>False
theorem CS.MJ{P f fn c args σ Q}(X)(hen:cG P f=true)(hf:P.funcs[f]? =some fn)(hb:fn.body=some c)(hN:args.length<=fn.ntmps)
  (h:gJ σ->cV P c (r6 P fn.results.toList σ X Q) (St.init fn.ntmps args σ)):CS P f args σ fun r σ' X'=>X'=X/\Q r σ':=by
 refine⟨hen,fun j w vs hs hr=>FL hf hb hN (h hs.wf) hs hr fun e s' hq=> ?_⟩;have fin:CN P fn.results.toList σ X Q s'->∀j' a w',Rel ⟨j,w.heap.size,none⟩ s' j' a w'->Ev j w j' w'->∃v,(results fn a.tmps).run P w'= .ok v w'/\∃v' r σ' j' X',Ending.returned v= .returned v'/\aQ w' j' σ'/\R w' j' r v'/\Ev j w j' w'/\j.length<=j'.length/\Ag j j' X'/\X'=X/\Q r σ':=by
  intro hq j' a w' hrel hev;obtain⟨v,x,h1,h2,σ',g,h3,h4,h5,h6,h7⟩:=oO hrel (K:=fun x=> ∃σ' g,s'.σ=σ'++g/\Leaves σ σ'/\x.under σ.length/\nC σ.length X s'.mv/\Q x σ') hq;have ki:=hrel.cm;rw[h3] at ki;have hlen0:j.length<=j'.length:=hrel.len0;have hag:Ag j j' X:=Ag.nC hrel.ag (by show nC j.length X s'.mv;rw[hs.len];exact h6);obtain⟨g1,g2,g3⟩:=hs.drop ki h4 hag hlen0;have hlen:(j'.take j.length).length=j.length:=ai;refine⟨v,h1,v,x,σ',j'.take j.length,X,rfl,g1,h2.less g2 g3 (by rw[hlen,hs.len];exact h5),⟨hev.size,hev.keep,fun b hb hm=>hev.sub b hb (g2 _ hm),hev.LH,hev.tY,hev.os,hev.tape,hev.output,hev.lps⟩,aa,fun b hb hn=> ?_,rfl,h7⟩;rw[←g3 b aa];exact hag b hb hn
 cases e with
 |normal=>exact⟨.inl rfl,fin hq⟩
 |ret=>exact⟨.inr rfl,fin hq⟩
 |exit id=>exact hq.elim
 |goto l=>exact hq.elim
 |panic c=>exact hq.elim
 |outgrown=>exact hq.elim
def Same(x y:AV):Prop:= ∀w j v,R w j x v->R w j y v
theorem Same.refl(x):Same x x:=fun _ _ _ h=>h
theorem Same.trans{x y z}(h:Same x y)(k:Same y z):Same x z:=fun w j v hr=>k w j v (h w j v hr)
def aK:AV->AV->Prop
 | .d (.v a),.d (.v b)=>a=b
 | .d (.sl c sz n row),.d (.sl c' sz' n' row')=>(c'=none\/c'=c)/\sz=sz'/\n=n'/\∀i,i<n->row i=row' i
 | .d (.v (.slice none 0 0)),.d (.sl c' sz' n' row')=>(c'=none\/c'=some 0)/\n'=0
 |x,y=>x=y
theorem Same.d{x y}(h: ∀w j v,RD w j x v->RD w j y v):Same (.d x) (.d y):=fun w j v hr=>by
 cases hr with|d hr=>exact .d (h w j v hr)
theorem RD.rows{w j c c' sz n row row' v}(hc:c'=none\/c'=c)(hr: ∀i,i<n->row i=row' i)(h:RD w j (.sl c sz n row) v):RD w j (.sl c' sz n row') v:=by
 have hcap: ∀q:Nat,(c=none\/c=some q)->(c'=none\/c'=some q):=fun q hq=>by
  grind
 cases h with
 |sl a q val h1 h2 h3 h4 h5 h6 h7 h8=>exact .sl a q val (hcap q h1) h2 h3 h4 h5 (fun i hi=>ai) h7 (fun i hi k hk=>ai)
 |zero p q h1 h2=>exact .zero p q (hcap q h1) h2
theorem aK.same{x y}(h:aK x y):Same x y:=by
 unfold aK at h;split at h
 ·subst h;exact .refl _
 ·obtain⟨h1,rfl,rfl,h4⟩:=h;exact .d fun w j v hr=>hr.rows h1 h4
 ·obtain⟨h1,rfl⟩:=h;refine .d fun w j v hr=> ?_;cases hr
  exact .zero none 0 ai (fun _=>rfl)
 ·subst h;exact .refl _
def bw:List AV->List AV->Prop
 |[],[]=>True
 |x::xs,y::ys=>aK x y/\bw xs ys
 |_,_=>False
theorem AL: ∀{xs ys},bw xs ys->ys.length=xs.length/\∀k,k<xs.length->Same (xs.getD k .undef) (ys.getD k .undef)
 |[],[],_=>⟨rfl,an⟩
 |x::xs,y::ys,h=>by
  obtain⟨h1,h2⟩:=AL h.2;refine⟨VX,fun k hk=> ?_⟩;cases k with
  |zero=>simpa using h.1.same
  |succ k=>simpa using h2 k rI
def my:AV->AV->Prop
 | .agg xs,.agg ys=>bw xs ys
 |x,y=>aK x y
theorem my.same{x y}(h:my x y):Same x y:=by
 unfold my at h;split at h
 ·obtain⟨h1,h2⟩:=AL h;intro w j v hr;cases hr with
  |agg vs hs hv=>exact .agg vs ai fun k hk=>h2 k ai _ _ _ (hv k ai)
 ·exact h.same
def mY:List AV->List AV->Prop
 |[],[]=>True
 |x::xs,y::ys=>my x y/\mY xs ys
 |_,_=>False
theorem vb: ∀{xs ys},mY xs ys->ys.length=xs.length/\∀k,k<xs.length->Same (xs.getD k .undef) (ys.getD k .undef)
 |[],[],_=>⟨rfl,an⟩
 |x::xs,y::ys,h=>by
  obtain⟨h1,h2⟩:=vb h.2;refine⟨VX,fun k hk=> ?_⟩;cases k with
  |zero=>simpa using h.1.same
  |succ k=>simpa using h2 k rI
def AK:AV->AV->Prop
 | .cj xs,.cj ys=>mY xs ys
 |x,y=>my x y
theorem AK.same{x y}(h:AK x y):Same x y:=by
 unfold AK at h;split at h
 ·obtain⟨h1,h2⟩:=vb h;intro w j v hr;cases hr with
  |cj vs hs hv=>exact .cj vs ai fun k hk=>h2 k ai _ _ _ (hv k ai)
 ·exact h.same
def pk(P:Program)(rs:List ResultVar)(kp:List aZ)(r:AV):Exit->St->Prop
 | .normal,s=>qW P s rs fun xs=>(∃g,s.σ=kp++g)/\AK (BH xs) r/\nC kp.length [] s.mv
 | .ret,s=>qW P s rs fun xs=>(∃g,s.σ=kp++g)/\AK (BH xs) r/\nC kp.length [] s.mv
 |_,_=>False
theorem ak.CQ{P f fn c args σ r}(hen:cG P f=true)(hf:P.funcs[f]? =some fn)(hb:fn.body=some c)(hN:args.length<=fn.ntmps)(hr:r.under σ.length)
  (h:gJ σ->cV P c (pk P fn.results.toList σ r) (St.init fn.ntmps args σ)):ak P f args σ r:=by
 refine⟨hen,fun j w vs hs hrs=>FL hf hb hN (h hs.wf) hs hrs fun e s' hq=> ?_⟩;have fin:(qW P s' fn.results.toList fun xs=>(∃g,s'.σ=σ++g)/\AK (BH xs) r/\nC σ.length [] s'.mv)->∀j' a w',Rel ⟨j,w.heap.size,none⟩ s' j' a w'->Ev j w j' w'->∃v,(results fn a.tmps).run P w'= .ok v w'/\∃v' r' σ' j' X,Ending.returned v= .returned v'/\aQ w' j' σ'/\R w' j' r' v'/\Ev j w j' w'/\j.length<=j'.length/\Ag j j' X/\(r'=r/\σ'=σ/\X=[]):=by
  intro hq j' a w' hrel hev;obtain⟨v,x,h1,h2,⟨g,h3⟩,h4,h5⟩:=oO hrel (K:=fun x=>(∃g,s'.σ=σ++g)/\AK x r/\nC σ.length [] s'.mv) hq;have ki:=hrel.cm;rw[h3] at ki;have hlen0:j.length<=j'.length:=hrel.len0;have hag:Ag j j' []:=Ag.nC hrel.ag (by show nC j.length [] s'.mv;rw[hs.len];exact h5);obtain⟨g1,g2,g3⟩:=hs.drop ki (.refl _) hag hlen0;have hlen:(j'.take j.length).length=j.length:=ai;refine⟨v,h1,v,r,σ,j'.take j.length,[],rfl,g1,(h4.same _ _ _ h2).less g2 g3 (by rw[hlen,hs.len];exact hr),⟨hev.size,hev.keep,fun b hb hm=>hev.sub b hb (g2 _ hm),hev.LH,hev.tY,hev.os,hev.tape,hev.output,hev.lps⟩,aa,fun b hb hn=> ?_,rfl,rfl,rfl⟩;rw[←g3 b aa];exact hag b hb hn
 cases e with
 |normal=>exact⟨.inl rfl,fin hq⟩
 |ret=>exact⟨.inr rfl,fin hq⟩
 |exit id=>exact hq.elim
 |goto l=>exact hq.elim
 |panic c=>exact hq.elim
 |outgrown=>exact hq.elim
theorem S5{α:Type}(l r:List α)(k):(l++r)[l.length+k]? =r[k]? :=by
 grind
theorem Zb{α:Type}(l r:List α):(l++r)[l.length]? =r[0]? :=S5 l r 0
theorem S4{α:Type}(l r:List α)(k x):(l++r).set (l.length+k) x=l++r.set k x:=by
 grind
theorem Y9{α:Type}(l r:List α)(x):(l++r).set l.length x=l++r.set 0 x:=S4 l r 0 x
attribute [go_sem ↓] pk r6 CN AK mY bw my aK
attribute [go_sem] S5 Zb S4 Y9 AV.under eo nC
structure Back(sh s' s'':St):Prop where
 N:s''.N=s'.N
 mv: ∀x∈s'.mv,x∈s''.mv
 σ: ∃g,s'.σ=s''.σ++g
 blk:Leaves sh.σ s''.σ
 t: ∀k av,get s''.t k=some av->get s'.t k=some av/\(get sh.t k=some av\/av.under sh.σ.length)
theorem Back.rel{sh s' s''}(h:Back sh s' s''){j0 jh j ah a wh w}(hh:Rel j0 sh jh ah wh)(hr:Rel j0 s' j a w)(hle:jh.length<=j.length): ∃j',Rel j0 s'' j' a w/\Ev j w j' w/\jh.length<=j'.length:=by
 obtain⟨g,hg⟩:=h.σ;have ki:=hr.cm;rw[hg] at ki;obtain⟨g1,g2,g3⟩:=hh.cm.drop ki h.blk (X:=List.range jh.length) (fun b hb hn=>absurd ai hn) hle;have hlen:(j.take jh.length).length=jh.length:=ai;have he:Ev j w (j.take jh.length) w:=⟨Nat.le_refl _,fun _ _ _=>rfl,fun b _ hm=>g2 _ hm,fun _ _=>rfl,fun _ _=>rfl,rfl,rfl,rfl,fun _ r h=>⟨r,h⟩⟩;refine⟨j.take jh.length,⟨hr.defers.mono he,hr.fC,by rw[h.N];exact hr.size,fun k av hk=> ?_,g1,by rw[hlen];exact hh.len0,?_⟩,he,aa⟩
 ·obtain⟨h1,h2⟩:=h.t k av hk;have h3:=hr.tmp k av h1;rw[h.N];refine⟨h3.1,?_⟩;rcases h2 with h2|h2
  ·exact(hh.tmp k av h2).2.shrink g2 (fun b hb=>g3 b aa) h3.2
  ·exact h3.2.less g2 g3 (by rw[hlen,hh.cm.len];exact h2)
 ·intro b hb hn;rw[←g3 b (by have:=hh.len0;omega)];exact hr.ag b hb fun hm=>hn (h.mv b hm)
theorem Back.len{sh s' s''}(h:Back sh s' s''){j0 jh j ah a wh w}(hh:Rel j0 sh jh ah wh)(hr:Rel j0 s' j a w):jh.length<=j.length:=by
 obtain⟨g,hg⟩:=h.σ;have h1:=h.blk.len;have h2:=hh.cm.len;have h3:=hr.cm.len;grind
structure Less(s s':St):Prop where
 N:s'.N=s.N
 mv: ∀x∈s.mv,x∈s'.mv
 σ:s'.σ=s.σ
 t: ∀k av,get s'.t k=some av->get s.t k=some av
theorem Less.sub{s s'}(h:Less s s'):Sub s s':=fun j0 j a w hr=>
 ⟨j,⟨hr.defers,hr.fC,by rw[h.N];exact hr.size,fun k av hk=>by rw[h.N];exact hr.tmp k av (h.t k av hk),by rw[h.σ];exact hr.cm,hr.len0,fun b hb hn=>hr.ag b hb fun hm=>hn (h.mv b hm)⟩,.refl _ _⟩
def DG:List (Nat×AV)->List (Nat×AV)->Prop
 |[],_=>True
 |(k,v)::t,u=>get u k=some v/\DG t u
def Im(th:List (Nat×AV))(n:Nat):List (Nat×AV)->List (Nat×AV)->Prop
 |[],_=>True
 |(k,v)::t,u=>get u k=some v/\(get th k=some v\/v.under n)/\Im th n t u
theorem Il: ∀{th t u n k av},Im th n t u->get t k=some av->get u k=some av/\(get th k=some av\/av.under n)
 |_,[],u,n,k,av,_,h=>by grind [get]
 |th,(q,v)::t,u,n,k,av,hs,h=>by
  simp only[get] at h;by_cases hq:q=k
  ·subst hq;simp at h;subst h;exact⟨hs.1,hs.2.1⟩
  ·simp only[sZ hq,Bool.false_eq_true,if_false] at h;exact Il hs.2.2 h
theorem bp{N:Nat}{th t' t'':List (Nat×AV)}{σh σ' rG:List aZ}{mvh mv mv':List Nat}{Nh:Nat}(hσ: ∃g,σ'=rG++g)(hb:Leaves σh rG)(h:Im th σh.length t'' t')(hm: ∀x∈mv,x∈mv':=by simp):Back ⟨Nh,th,σh,mvh⟩ ⟨N,t',σ',mv⟩ ⟨N,t'',rG,mv'⟩:=
 ⟨rfl,hm,hσ,hb,fun k av hk=>Il h hk⟩
section
variable {P : Program} {Q : Exit -> St -> Prop} {s : St}
theorem Vi{c}{α:Type}(st:α->St)(ok:α->Prop)(μ:α->Nat)(x₀)(h0:Sub s (st x₀))(hx₀:ok x₀)
  (round: ∀x,ok x->cV P c (qT (fun s'=> ∃x',Back (st x) s' (st x')/\ok x'/\μ x'<μ x) Q) (st x)):cV P (.loop c) Q s:=by
 intro j0 j a w hr;obtain⟨j₁,afd,he₁⟩:=h0 j0 j a w hr;intro b k cs hro hb hfr;have key: ∀n x j₁ a w₁,μ x=n->ok x->Rel j0 (st x) j₁ a w₁->Ev j w j₁ w₁->
   ∃e a' w',u6 j0 j w Q e a' w'/\ArrivesIn (Machine.fenced P (FW j0.rd)) P (lone (b.atR a (.code c:: .inLoop c::k)) cs w₁) b k cs e a' w':=by
  intro n;induction n using Nat.strongRecOn with
  |_ n ih=>
   intro x j₁ a w₁ hn hx hr he;obtain⟨e,a₁,w₂,⟨s',j₂,hr₂,he₂,hq⟩,harr⟩:=round x hx j0 j₁ a w₁ hr b (.inLoop c::k) cs hro hb hfr;cases e with
   |normal=>
    obtain⟨x',hback,hx',hlt⟩:=hq;obtain⟨agO,afc,afo,_⟩:=hback.rel hr hr₂ (hback.len hr hr₂);obtain⟨e₂,a₂,w₃,hq₂,harr₂⟩:=ih (μ x') (hn▸hlt) x' agO a₁ w₂ rfl hx' afc ((he.trans he₂).trans afo);exact⟨e₂,a₂,w₃,hq₂,.of_steps (StepsIn.trans harr (.one (fenced_calm hb hfr rfl) stepR_inLoop)) harr₂⟩
   |exit id=>exact⟨_,a₁,w₂,⟨s',j₂,hr₂,he.trans he₂,hq⟩,.pass (x:= .inLoop c) rfl (fun _ _=> .inl an) harr⟩
   |goto l=>exact⟨_,a₁,w₂,⟨s',j₂,hr₂,he.trans he₂,hq⟩,.pass (x:= .inLoop c) rfl (fun _ _=> .inl an) harr⟩
   |ret=>exact⟨_,a₁,w₂,⟨s',j₂,hr₂,he.trans he₂,hq⟩,.pass (x:= .inLoop c) rfl (fun _ _=> .inl an) harr⟩
   |panic ch=>exact⟨_,a₁,w₂,⟨s',j₂,hr₂,he.trans he₂,hq⟩,.pass (x:= .inLoop c) rfl (fun _ _=> .inl an) harr⟩
   |outgrown=>exact⟨_,a₁,w₂,⟨s',j₂,hr₂,he.trans he₂,hq⟩,.pass (x:= .inLoop c) rfl (fun _ _=> .inl an) harr⟩
 obtain⟨e,a',w',hq,harr⟩:=key _ x₀ j₁ a w rfl hx₀ afd he₁;exact⟨e,a',w',hq,.of_steps (.one (fenced_calm hb hfr rfl) stepR_loop) harr⟩
end
def puts:List (Nat×AV)->List (Nat×AV)->List (Nat×AV)
 |t,[]=>t
 |t,(k,v)::us=>puts (aI.put t k v) us
theorem MA: ∀{us t u k av},DG us u->(∀k av,get t k=some av->get u k=some av)->get (puts t us) k=some av->get u k=some av
 |[],t,u,k,av,_,ht,h=>ht k av h
 |(q,v)::us,t,u,k,av,hs,ht,h=>by
  refine MA (t:=aI.put t q v) hs.2 (fun k' K0 h'=> ?_) h;rw[get_put] at h';split at h'
  ·rename_i hq;subst hq;cases h';exact hs.1
  grind
theorem ba{P c Q N t t' σ mv}(L)(h:bQ L t=t')(h':cV P c Q ⟨N,t',σ,mv⟩):cV P c Q ⟨N,t,σ,mv⟩:=by
 refine fg (s':=⟨N,t',σ,mv⟩) (Less.sub ⟨rfl,fun _ h=>h,rfl,fun k av hk=> ?_⟩) h';grind [eM]
theorem bB{P c Q}{α:Type}{N t σ mv}(upd:α->List (Nat×AV))(o6:α->List aZ)(ok:α->Prop)(μ:α->Nat)(x₀)(h0:DG (upd x₀) t)(hσ:σ=o6 x₀)(hx₀:ok x₀)
  (round: ∀x,ok x->cV P c (qT (fun s'=> ∃x',Back ⟨N,puts t (upd x),o6 x,mv⟩ s' ⟨N,puts t (upd x'),o6 x',mv⟩/\ok x'/\μ x'<μ x) Q) ⟨N,puts t (upd x),o6 x,mv⟩):cV P (.loop c) Q ⟨N,t,σ,mv⟩:=
 Vi (fun x=>⟨N,puts t (upd x),o6 x,mv⟩) ok μ x₀ (by subst hσ;exact Less.sub ⟨rfl,fun _ h=>h,rfl,fun k av hk=>MA h0 (fun _ _ h=>h) hk⟩) hx₀ round
theorem mo{P c Q N t σ mv}(M)(hm: ∀x∈mv,x∈M)(h:cV P c Q ⟨N,t,σ,M⟩):cV P c Q ⟨N,t,σ,mv⟩:=
 fg (s':=⟨N,t,σ,M⟩) (Less.sub ⟨rfl,hm,rfl,fun k av hk=>hk⟩) h
def nth{α:Type}[Inhabited α](l:List α)(i:Nat):α:=l[i]?.getD default
theorem EE{α:Type}[Inhabited α]{l:List α}{i:Nat}(h:i<l.length):nth l i=l[i]:=by simp[nth,h]
abbrev SL{α:Type}(cap:Option Nat)(sz:Nat)(enc:α->List D)(n:Nat)(f:Nat->α):D:= .sl cap sz n fun i=>enc (f i)
def lst{α:Type}(n:Nat)(f:Nat->α):List α:=(List.range n).map f
theorem cd{α}(n)(f:Nat->α):(lst n f).length=n:=by simp[lst]
theorem qv{α n}{f:Nat->α}{i}(h:i<n):(lst n f)[i]? =some (f i):=by simp[lst,h]
theorem CV{α:Type}[Inhabited α](l:List α):lst l.length (nth l)=l:=by
 apply List.ext_getElem?;grind [qv,EE,cd]
theorem Tn(K Q s):qT K Q .ret s=Q .ret s:=rfl
theorem Pt(K Q s i):qT K Q (.exit i) s=Q (.exit i) s:=rfl
theorem IG(K Q s):qT K Q .normal s=K s:=rfl
theorem NJ(id Q s):nI id Q .ret s=Q .ret s:=rfl
theorem Fe(id Q s):nI id Q .normal s=Q .normal s:=rfl
theorem xX(id i Q s):nI id Q (.exit i) s=if Nat.beq i id then Q .normal s else Q (.exit i) s:=rfl
attribute [go_sem] puts
attribute [go_sem ↓] Tn Pt IG NJ Fe xX Im DG
theorem UZ{w:World}{l r r'}(h:w.heap[l]? =some (.loop r))(a):(w.putObj l (.loop r')).cell? a=w.cell? a:=by
 grind [World.putObj_heap_same,World.cell?,World.putObj_heap_other]
theorem DO{w:World}{l r r'}(h:w.heap[l]? =some (.loop r))(b):(w.putObj l (.loop r')).shape? b=w.shape? b:=by
 grind [World.shape?,World.putObj_heap_same,World.putObj_heap_other]
theorem NR{w:World}{l r r'}(h:w.heap[l]? =some (.loop r))(a):(w.putObj l (.loop r')).frozen? a=w.frozen? a:=by
 grind [World.putObj_heap_same,World.frozen?,World.putObj_heap_other]
theorem aaY{j w l r r'}(h:w.heap[l]? =some (.loop r))(hj:some l∈j):Ev j w j (w.putObj l (.loop r')) where
 size:=by simp
 keep b _ hn:=World.putObj_heap_other fun he=>hn (he▸hj)
 sub _ _ h:=h
 LH b _:=DO h b
 tY a _:=NR h a
 os:=rfl
 tape:=rfl
 output:=rfl
 lps b r'' hb:=by
  grind [World.putObj_heap_same,World.putObj_heap_other]
theorem aQ.loop{w j σ}(hs:aQ w j σ){b cb}(hb:j[b]? =some (some cb)){L st pd}(hx:σ[b]? =some (.lp L st pd))(st' pd'):
  ∃r,w.heap[cb]? =some (.loop r)/\r.state=st/\r.pending=pd/\aQ (w.putObj cb (.loop { r with state:=st',pending:=pd' })) j (σ.set b (.lp L st' pd'))/\Ev j w j (w.putObj cb (.loop { r with state:=st',pending:=pd' })):=by
 obtain⟨o,ho,hB⟩:=hs.blk b _ hx;rw[hb] at ho;cases ho
 obtain⟨r,h1,h2,h3,h4⟩:=hB;have hc:=UZ (r':= { r with state:=st',pending:=pd' }) h1;have hsh:=DO (r':= { r with state:=st',pending:=pd' }) h1;have hmem:some cb∈j:=List.mem_of_getElem? hb;refine⟨r,h1,h2.1,h2.2.1,⟨by simp[hs.len],fun b cb hb=>by have:=hs.lt b cb hb;simp_all,hs.inj,fun b' y hy=> ?_⟩,aaY h1 hmem⟩;rw[List.getElem?_set] at hy;by_cases hbb:b=b'
 ·subst hbb;have hlt:b<σ.length:=(List.getElem?_eq_some_iff.1 hx).1;rw[if_pos rfl,if_pos hlt] at hy;cases hy
  exact⟨some cb,hb,_,World.putObj_heap_same (Array.getElem?_eq_some_iff.1 h1).1,⟨rfl,rfl,h2.2.2.1,h2.2.2.2.1,h2.2.2.2.2⟩,h3,fun k av hk=>⟨(h4 k av hk).1,(h4 k av hk).2.congr hc an hsh fun mb es cl hmb=>by grind [World.putObj_heap_other]⟩⟩
 ·rw[if_neg hbb] at hy;obtain⟨o,ho,hB⟩:=hs.blk b' y hy;refine⟨o,ho,hB.congr hc an hsh (fun cb' hcb=>World.putObj_heap_other fun he=>hbb ?_) fun mb es cl hmb=>by grind [World.putObj_heap_other]⟩;subst he;subst hcb;exact hs.inj _ _ _ hb ho
def St.Eo(s:St):List Tmp->List AV->St
 |p::ps,x::xs=>(s.put (some p) x).Eo ps xs
 |_,_=>s
theorem Rel.Eo{j0 j w d} : ∀{ps xs us s tmps},Rel j0 s j { tmps:=tmps,defers:=d } w->us.length=xs.length->(∀k,k<xs.length->R w j (xs.getD k .undef) (us.getD k Go.undef))->
  Rel j0 (s.Eo ps xs) j { tmps:=(ps.zip us).foldl (fun tm (p)=>tm.setIfInBounds p.1 p.2) tmps,defers:=d } w
 |[],xs,us,s,tmps,h,_,_=>by cases xs<;>exact h
 |p::ps,[],us,s,tmps,h,hl,_=>by
  simp_all [St.Eo]
 |p::ps,x::xs,[],s,tmps,h,hl,_=>by grind
 |p::ps,x::xs,u::us,s,tmps,h,hl,hx=>by
  have h1:=h.put (some p) (av:=x) (v:=u) (by simpa using hx 0 an);exact Rel.Eo (ps:=ps) h1 (by simpa using hl) fun k hk=>by simpa using hx (k+1) rI
def jQ(b:Nat):List Nat->Prop
 |[]=>True
 |x::xs=>x≠b/\jQ b xs
theorem ts{b} : ∀{l},jQ b l->b∉l
 |[],_=>by simp
 |x::xs,h=>by
  simp only[List.mem_cons,not_or];exact⟨fun he=>h.1 he.symm,ts h.2⟩
def vz:Exit->Option (Option Code)
 | .normal=>some none
 | .ret=>some (some .ret)
 | .exit id=>some (some (.exit id))
 | .goto t=>some (some (.goto t))
 |_=>none
def vc(b:Nat)(kp:List aZ)(X:List Nat)(Q:AV->List aZ->Prop)(e:Exit)(s:St):Prop:=
 match vz e with
 |some jump=>match s.σ[b]? with
  |some (.lp L st pd)=> ∃σ' g,s.σ.set b (.lp L (if jump.isNone then .ready else .done) jump)=σ'++g/\Leaves kp σ'/\nC kp.length X s.mv/\jQ b s.mv/\Q (.d (.v (.bool jump.isNone))) σ'
  |_=>False
 |none=>False
def zQ(P:Program)(b:Nat)(body:Code)(Q:Exit->St->Prop):Exit->St->Prop
 | .normal,s=>match s.σ[b]? with
  |some (.lp L .ready pd)=>jQ b s.mv/\cV P body Q { s with σ:=s.σ.set b (.lp L .busy pd) }
  |_=>False
 |_,_=>False
theorem YS.JL{P b args σ L pd X Q}(hb:σ[b]? =some (.lp L .ready pd))(hargs:args.length=L.ps.size)
  (h:gJ σ->cV P L.assign (zQ P b L.body (vc b σ X Q)) (St.Eo ⟨L.N,L.t,σ,[]⟩ L.ps.toList args)):YS P b args σ fun r σ' X'=>X'=X/\Q r σ':=by
 intro rd j w vs cb hs hr hcb;obtain⟨o,ho,hB⟩:=hs.blk b _ hb;rw[hcb] at ho;cases ho
 obtain⟨r,h1,⟨h2a,h2b,h2c,h2d,h2e⟩,h3,h4⟩:=hB;refine⟨r.fn,_,r.assign,r.body,run_yield h1 (by rw[hr.1,hargs,h2c]),?_⟩;refine roundIn_of_wpIn (F:=FW rd) trivial ?_;have afg:Rel ⟨j,w.heap.size,some cb⟩ ⟨L.N,L.t,σ,[]⟩ j { tmps:=r.tmps,defers:=[] } w:=
  ⟨.nil (Nat.le_refl _) _,fun l hl=>ai,h3,fun k av hk=>h4 k av (get_mem hk),hs,Nat.le_refl _,.refl _ _⟩
 have aff:=Rel.Eo (ps:=L.ps.toList) (xs:=args) (us:=vs.toList) afg (by simpa using hr.1) (fun k hk=>by simpa[Array.getD_eq_getD_getElem?,List.getD_eq_getElem?_getD] using hr.2 k hk);have etm:(r.params.zip vs).foldl (fun tmps (t,a)=>tmps.setIfInBounds t a) r.tmps=(L.ps.toList.zip vs.toList).foldl (fun tm (p:Tmp×Value)=>tm.setIfInBounds p.1 p.2) r.tmps:=by
  grind [Array.toList_zip]
 rw[etm,h2d,h2e];refine wpIn_mono (h hs.wf ⟨j,w.heap.size,some cb⟩ j _ w aff) ?_;rintro e a1 w1 ⟨s1,j1,hr1,he1,hq⟩;cases e with
 |normal=>
  simp only[zQ] at hq;split at hq
  ·rename_i L1 pd1 hx1;obtain⟨agY,hq⟩:=hq;have hbj:b<j.length:=(List.getElem?_eq_some_iff.1 hcb).1;have ag8:j1[b]? =some (some cb):=by rw[hr1.ag b hbj (ts agY)];grind
   obtain⟨r1,g1,g2,g3,g4,g5⟩:=hr1.cm.loop ag8 hx1 .busy pd1;have adT: { r1 with state:=LoopState.busy,pending:=pd1 } = { r1 with state:=LoopState.busy } :=ai;rw[adT] at g4 g5;refine⟨_,run_beginRound g1 g2,?_⟩;have hr2:Rel ⟨j,w.heap.size,some cb⟩ { s1 with σ:=s1.σ.set b (.lp L1 .busy pd1) } j1 a1 (w1.putObj cb (.loop { r1 with state:= .busy })):=by
    have:=hr1.after g5 g4 (Nat.le_refl _) (.refl _ []);exact this
   refine wpIn_mono (hq ⟨j,w.heap.size,some cb⟩ j1 a1 _ hr2) ?_;rintro e a3 w3 ⟨s3,j3,hr3,he3,hq3⟩;have hev:Ev j w j3 w3:=(he1.trans g5).trans he3;have fin: ∀jump,vz e=some jump->∃v w',(Instr.endRound cb jump).run P w3= .ok v w'/\∃v' r σ' j' X',Ending.returned v= .returned v'/\aQ w' j' σ'/\R w' j' r v'/\Ev j w j' w'/\j.length<=j'.length/\Ag j j' X'/\X'=X/\Q r σ':=by
    intro jump hj;simp only[vc,hj] at hq3;split at hq3
    ·rename_i L3 st3 pd3 hx3;obtain⟨σ',gg,q1,q2,q3,q4,q5⟩:=hq3;have hcb3:j3[b]? =some (some cb):=by rw[hr3.ag b hbj (ts q4)];grind
     obtain⟨r3,k1,k2,k3,k4,k5⟩:=hr3.cm.loop hcb3 hx3 (if jump.isNone then .ready else .done) jump;refine⟨_,_,run_endRound jump k1,?_⟩;rw[q1] at k4;have hlen0:j.length<=j3.length:=hr3.len0;have hag:Ag j j3 X:=Ag.nC hr3.ag (by show nC j.length X s3.mv;rw[hs.len];exact q3);obtain⟨m1,m2,m3⟩:=hs.drop k4 q2 hag hlen0;have hlen:(j3.take j.length).length=j.length:=ai;have JZ:=hev.trans k5;refine⟨_,_,σ',j3.take j.length,X,rfl,m1,.d (.v _),⟨JZ.size,JZ.keep,fun b hb hm=>JZ.sub b hb (m2 _ hm),JZ.LH,JZ.tY,JZ.os,JZ.tape,JZ.output,JZ.lps⟩,aa,fun b hb hn=> ?_,rfl,q5⟩;rw[←m3 b aa];exact hag b hb hn
    grind
   cases e with
   |normal=>exact fin none rfl
   |ret=>exact fin (some .ret) rfl
   |exit id=>exact fin (some (.exit id)) rfl
   |goto t=>exact fin (some (.goto t)) rfl
   |panic c=>exact hq3.elim
   |outgrown=>exact hq3.elim
  grind
 |exit id=>exact hq.elim
 |goto l=>exact hq.elim
 |ret=>exact hq.elim
 |panic c=>exact hq.elim
 |outgrown=>exact hq.elim
theorem zF(j j' w o)(ho: ∀C e f,o≠.cells C e f)(hj: ∀b,b<w.heap.size->some b∈j'->some b∈j):Ev j w j' (w.alloc o) where
 size:=by simp
 keep b hb _:=bR w _ hb
 sub:=hj
 LH b hb:=by grind [World.shape?,bR]
 tY a _:=by
  by_cases h:a.block=w.heap.size
  ·grind
  ·have h1:(w.alloc o).heap[a.block]? =w.heap[a.block]? :=by
    show(w.heap.push _)[a.block]? =_
    grind
   simp[World.frozen?,h1]
 os:=rfl
 tape:=rfl
 output:=rfl
 lps b r hb:=⟨r,by grind [bR]⟩
theorem aQ.grow{w j σ}(h:aQ w j σ){o}(ho: ∀C e f,o≠.cells C e f):aQ (w.alloc o) j σ/\Ev j w j (w.alloc o):=by
 have he:Ev j w j (w.alloc o):=zF _ _ _ _ ho fun _ _ h=>h;refine⟨⟨h.len,fun b cb hb=>by have:=h.lt b cb hb;simp;omega,h.inj,fun b x hx=> ?_⟩,he⟩;obtain⟨q,hq,hB⟩:=h.blk b x hx;refine⟨q,hq,hB.mono he h.lt (.refl _ _) fun cb hcb=>bR w _ (h.lt b cb ai)⟩
theorem aQ.aed{w j σ}(h:aQ w j σ){o}(ho: ∀C e f,o≠.cells C e f)(x)(hx:RB (w.alloc o) (j++[some w.heap.size]) x (some w.heap.size)):
  aQ (w.alloc o) (j++[some w.heap.size]) (σ++[x])/\Ev j w (j++[some w.heap.size]) (w.alloc o):=by
 have he:Ev j w (j++[some w.heap.size]) (w.alloc o):=zF _ _ _ _ ho fun b hb hm=>by
  grind
 have hold: ∀b,b<j.length->(j++[some w.heap.size])[b]? =j[b]? :=fun b hb=>List.getElem?_append_left hb;have hnew:(j++[some w.heap.size])[j.length]? =some (some w.heap.size):=an;have hcase: ∀{b cb:Nat},(j++[some w.heap.size])[b]? =some (some cb)->(b<j.length/\j[b]? =some (some cb))\/(b=j.length/\cb=w.heap.size):=by
  grind
 refine⟨⟨C8,fun b cb hb=> ?_,fun b b' cb hb hb'=> ?_,fun b y hy=> ?_⟩,he⟩
 ·rcases hcase hb with⟨h1,h2⟩|⟨h1,h2⟩
  ·have:=h.lt b cb h2;simp;omega
  simp_all
 ·rcases hcase hb with⟨h1,h2⟩|⟨h1,h2⟩<;>rcases hcase hb' with⟨g1,g2⟩|⟨g1,g2⟩
  ·exact h.inj b b' cb h2 g2
  ·have:=h.lt b cb h2;omega
  ·have:=h.lt b' cb g2;omega
  ·omega
 ·rcases Nat.lt_trichotomy b σ.length with hlt|heq|hgt
  ·rw[List.getElem?_append_left hlt] at hy;obtain⟨q,hq,hB⟩:=h.blk b y hy;refine⟨q,ai,hB.mono he h.lt (cg _ _) fun cb hcb=>bR w _ (h.lt b cb ai)⟩
  ·subst heq;simp at hy;subst hy;exact⟨some w.heap.size,by rw[←h.len];grind,hx⟩
  grind
theorem BS{P w l₀ r₀}(h:w.heap[l₀]? =some (.loop r₀))(fn tmps ps assign body):
  (Instr.enterLoop fn tmps ps assign body (some l₀)).run P w= .ok (w.heap.size,[]) (w.alloc (.loop { state:= .ready,pending:=none,fn,tmps,params:=ps,assign,body,defers:=r₀.defers })):=by
 simp_all [Instr.enterLoop,run_getLoop]
theorem Qw{P j0 s j a w}(hr:Rel j0 s j a w)(fn ps assign body t')(ht:DG t' s.t):
  ∃l mark w1,(Instr.enterLoop fn a.tmps ps assign body j0.rd).run P w= .ok (l,mark) w1/\aQ w1 (j++[some l]) (s.σ++[.lp ⟨s.N,t',ps,assign,body⟩ .ready none])/\Ev j w (j++[some l]) w1/\Marks j0.n0 w1 (j++[some l]) (mark++a.defers):=by
 have hmem: ∀{t':List (Nat×AV)} {k:Nat} {av:AV},DG t' s.t->(k,av)∈t'->get s.t k=some av:=by
  intro t';induction t' with
  |nil=>grind
  |cons x xs ih=>
   intro k av h hm;rcases List.mem_cons.1 hm with rfl|hm
   ·exact h.1
   ·exact ih h.2 hm
 have main: ∀(w0:World) (aa0:Nat),aQ w0 j s.σ->Ev j w j w0->aQ (w0.alloc (.loop { state:= .ready,pending:=none,fn,tmps:=a.tmps,params:=ps,assign,body,defers:=aa0 })) (j++[some w0.heap.size]) (s.σ++[.lp ⟨s.N,t',ps,assign,body⟩ .ready none])/\Ev j w0 (j++[some w0.heap.size]) (w0.alloc (.loop { state:= .ready,pending:=none,fn,tmps:=a.tmps,params:=ps,assign,body,defers:=aa0 })):=by
  intro w0 aa0 hs0 he0;have he1:Ev j w0 (j++[some w0.heap.size]) (w0.alloc (.loop { state:= .ready,pending:=none,fn,tmps:=a.tmps,params:=ps,assign,body,defers:=aa0 })):=zF _ _ _ _ ai fun b hb hm=>by
   grind
  refine hs0.aed ai _ ⟨_,heap_alloc_new w0 _,⟨rfl,rfl,rfl,rfl,rfl⟩,hr.size,fun k av hk=> ?_⟩;have h1:=hr.tmp k av (hmem ht hk);exact⟨h1.1,(h1.2.iy he0 hr.cm.lt (.refl _ _)).iy he1 hs0.lt (cg _ _)⟩
 cases hrd:j0.rd with
 |none=>
  obtain⟨hs0,he0⟩:=hr.cm.grow (o:= .deferred (some [])) ai;obtain⟨h1,h2⟩:=main _ w.heap.size hs0 he0;simp only[World.size_alloc] at h1 h2;refine⟨w.heap.size+1,[{ target:= .collected w.heap.size,args:= #[] }],_,run_enterLoop_outer _ _ _ _ _,h1,he0.trans h2,?_⟩;have hm:=hr.defers.mono (he0.trans h2);refine⟨⟨hm.1.1,?_⟩,fun d hd=> ?_⟩
  ·show List.Pairwise _ (_::a.defers)
   refine List.pairwise_cons.2 ⟨fun d hd he=> ?_,hm.1.2⟩;obtain⟨r,g1,g2,g3,g4⟩:=hr.defers.2 d hd;grind
  ·rcases List.mem_append.1 hd with hd|hd
   ·simp at hd;subst hd;refine⟨w.heap.size,rfl,hr.defers.1.1,fun hm=> ?_,?_⟩
    ·simp at hm;have⟨b,hb⟩:=List.getElem?_of_mem hm;have:=hr.cm.lt b _ hb;omega
    grind [bR,heap_alloc_new]
   ·exact hm.2 d hd
 |some l0=>
  obtain⟨r0,hr0⟩:=hr.fC l0 hrd;obtain⟨h1,h2⟩:=main w r0.defers hr.cm (.refl _ _);exact⟨w.heap.size,[],_,BS hr0 _ _ _ _ _,h1,h2,hr.defers.mono h2⟩
def HW(Q:Exit->St->Prop)(s:St):Option Code->Prop
 |none=>Q .normal s
 |some .ret=>Q .ret s
 |some (.exit id)=>Q (.exit id) s
 |_=>False
theorem Vh{P Q s g ps assign body fid first captured}(hg:val s g=some (.clo (.func fid) first captured))(t')(ht:DG t' s.t)
  (h:CS P fid (first++(.rl s.σ.length::captured)) (s.σ++[.lp ⟨s.N,t',ps,assign,body⟩ .ready none]) fun r σ' X=> ∃rG L' st pd,σ'=rG++[.lp L' st pd]/\Leaves s.σ rG/\st≠.busy/\jQ s.σ.length X/\HW Q (s.after rG X) pd):
  cV P (.rangeFunc g ps assign body) Q s:=by
 intro j0 j a w hr;refine wpIn_rangeFunc fun fn _=> ?_;obtain⟨l,mark,w1,h1,h2,h3,h4⟩:=Qw (P:=P) hr fn ps assign body t' ht;have hv:=v8 hr hg;generalize hgv:a.eval g=u at hv
 cases hv with
 |clo ff cc g1 g2 g3 g4=>
  refine⟨l,mark,w1,{ target:= .fn (.func fid) cc,args:=ff++ #[.func (.yield l) #[] #[]] },w1,fid,ff++ #[.func (.yield l) #[] #[]]++cc,w1,h1,?_,fun _ _=>trivial,?_,by simp[FW],?_⟩
  ·simp_all [resolve,Deferred.ofValue,Act.eval]
  ·simp[invoke,mn h.1]
  ·have hlen:j.length=s.σ.length:=hr.cm.len;have hjl:(j++[some l])[s.σ.length]? =some (some l):=ai;have hrs:Rs w1 (j++[some l]) (first++(.rl s.σ.length::captured)) (ff++ #[.func (.yield l) #[] #[]]++cc):=by
    have e1:Rs w1 (j++[some l]) first ff:=⟨g1,fun k hk=>(g3 k hk).iy h3 hr.cm.lt (cg _ _)⟩
    have e2:Rs w1 (j++[some l]) captured cc:=⟨g2,fun k hk=>(g4 k hk).iy h3 hr.cm.lt (cg _ _)⟩;have e3:Rs w1 (j++[some l]) [.rl s.σ.length] #[.func (.yield l) #[] #[]]:=⟨rfl,fun k hk=>by
     have:k=0:=ai;subst this;exact .rl hjl⟩
    have:=ji (ji e1 e3) e2;grind
   refine s9 ((h.2 (j++[some l]) w1 _ h2 hrs).mono ?_);rintro e w2 ⟨v,r,σ',j2,X,rfl,k1,k2,k3,k4,k5,rG,L',st,pd,rfl,k6,k7,k8,k9⟩;have hlen2:rG.length=s.σ.length:=k6.len;have hj2:j2[s.σ.length]? =some (some l):=by
    rw[k5 _ ai (ts k8)];grind
   obtain⟨r2,q1,q2,q3,q4,q5⟩:=k1.loop hj2 (L:=L') (st:=st) (pd:=pd) ai .exhausted pd;have adT: { r2 with state:=LoopState.exhausted,pending:=pd } = { r2 with state:=LoopState.exhausted } :=ai;rw[adT] at q4 q5;refine⟨r2.pending,_,run_endLoop q1 ai,?_⟩;rw[←hlen2] at q4;simp only[List.set_append_right _ _ (Nat.le_refl _),Nat.sub_self,List.set_cons_zero] at q4;have hr1:Rel j0 (s.after (s.σ++[.lp ⟨s.N,t',ps,assign,body⟩ .ready none]) []) (j++[some l]) { a with defers:=mark++a.defers } w1:=by
    have:=hr.after h3 h2 an (cg _ _);exact⟨h4,this.fC,this.size,this.tmp,this.cm,this.len0,this.ag⟩
   have hr2:=hr1.after (k3.trans q5) q4 k4 (k5:Ag _ _ X);have hback:Back s ((s.after (s.σ++[.lp ⟨s.N,t',ps,assign,body⟩ .ready none]) []).after (rG++[.lp L' .exhausted pd]) X) (s.after rG X):=by
    refine⟨?_,?_,?_,?_,fun k av hk=> ?_⟩
    ·cases X<;>rfl
    ·cases X<;>exact fun x hx=>hx
    ·cases X<;>exact⟨_,rfl⟩
    ·cases X<;>exact k6
    ·cases X with
     |nil=>exact⟨hk,.inl hk⟩
     |cons x xs=>exact⟨hk,.inl (rX hk).1⟩
   obtain⟨j3,hr3,he3,_⟩:=hback.rel hr hr2 ai;have hev:Ev j w j3 _:=(h3.trans (k3.trans q5)).trans he3;generalize w2.putObj l (.loop { r2 with state:= .exhausted })=w4 at hr3 hev⊢
   rw[q3];cases pd with
   |none=>exact⟨_,j3,hr3,hev,k9⟩
   |some c=>
    cases c with
    |ret=>exact wpIn_ret ⟨_,j3,hr3,hev,k9⟩
    |exit id=>exact wpIn_exit ⟨_,j3,hr3,hev,k9⟩
    |_=>exact k9.elim
end Go.aI
namespace Go.aI.Steps
open Go.aI
def qu:List (Nat×Option Nat)->Nat->Bool
 |[],_=>false
 |x::xs,i=>Nat.beq x.1 i||qu xs i
def lN(is:List (Nat×Option Nat))(k:Nat):Nat:=(is.getD k (0,none)).1
def Qy(is:List (Nat×Option Nat))(k:Nat):Option Nat:=(is.getD k (0,none)).2
theorem xN{is i} :qu is i=true↔∃k,k<is.length/\lN is k=i:=by
 induction is with
 |nil=>simp[qu]
 |cons x xs ih=>
  simp only[qu,Bool.or_eq_true,ih];constructor
  ·rintro(h|⟨k,h1,h2⟩)
   ·exact⟨0,an,by simp_all [lN]⟩
   ·exact⟨k+1,ai,by grind [lN]⟩
  ·rintro⟨k,h1,h2⟩;rcases k with _|k
   ·simp_all [lN]
   ·exact .inr ⟨k,ai,by grind [lN]⟩
theorem mV(s σ' os xs): ∀i,cD ⟨s.N,s.t,σ',s.mv⟩ os xs i=⟨s.N,(cD s os xs i).t,σ',s.mv⟩
 |0=>rfl
 |i+1=>by
  have ht:=ot s os xs i;simp only[cD,mV s σ' os xs i];cases os[i]? with
  |none=>rfl
  |some o=>
   simp only[St.put];grind
end Go.aI.Steps
namespace Go.aI.Mix
open Go.aI
open Go.aI.Steps (qu lN Qy xN)
def yG(P:Program)(o:Oper)(s:St)(K:AV->List aZ->Prop):Prop:=
 match o.op with
 | .store t p v=>arg true s p fun p=>arg true s v fun v=>kL P t s p v fun s'=>K .undef s'.σ
 | .alloc t=>(match cI P t with
  |some z=>K (.ptr s.σ.length 0) (s.σ++[.var (z.map fun v=> .d (.v v))])
  |none=>False)
 | .call c=>(match c.callee with
  | .value (.func f)=>args true s c.args.toList fun QQ=>CS P f QQ s.σ fun r σ' X=>X=[]/\K r σ'
  | .builtin .append=>(match c.args.toList,c.argTypes.toList with
   |[x,y],[t,t']=>arg true s x fun x=>arg true s y fun y=>tK P s.σ t t' x y fun r σ' X=>X=[]/\K r σ'
   |_,_=>False)
  |_=>False)
 |_=>False
theorem vT{P all o s K}(h:yG P o s K){j0 j a w next Q}
  (hr:Rel j0 (s.bQ (looks all o)) j a w) (hn: ∀v w' r σ' j',aQ w' j' σ'->R w' j' r v->Ev j w j' w'->Ag j j' []->j.length<=j'.length->K r σ'->next (a.put o.dst v) w'):o.wpIn (FW j0.rd) 0 P a w next Q:=by
 have ki:aQ w j s.σ:=hr.cm;have mem: ∀x∈o.op.operands,∀t,x= .tmp t->t∈looks all o:=fun x hx t ht=>List.mem_append.2 (.inl (kW hx ht));unfold yG at h;split at h
 ·rename_i t p v ho;rw[←a8 (mem p vY)] at h;obtain⟨pa,h,hp⟩:=ar h;rw[←a8 (mem v vY)] at h;obtain⟨va,h,hv⟩:=ar h;unfold kL at h;split at h
  ·rename_i agg m ht;obtain⟨hone,hlen,h⟩:=h;split at h
   ·rename_i side σ' hst;obtain⟨hside,hK⟩:=h;obtain⟨w',h1,h2,h3⟩:=rR (P:=P) ki ht (hp rfl j0 j a w hr) (hv rfl j0 j a w hr) hone hlen hst hside;have hrun:(execOp a.eval o).run P w= .ok .skip w':=by simp_all [execOp]
    refine oX ai hrun ?_;exact hn _ w' _ σ' j h2 (.undef _) h3 (.refl _ _) (Nat.le_refl _) hK
   grind
  grind
 ·rename_i t ho;split at h
  ·rename_i z hz;unfold cI at hz;split at hz
   ·rename_i inf ry;split at hz
    ·rename_i zz hzz;have hz:zz.cells.toList=z:=Option.some.inj hz;subst hz;have hnv:=hr.newVar (cs:=zz.cells.toList.map fun v=>AV.d (.v v)) zz.cells t an (fun k hk=>by
      simp only[List.length_map,Array.length_toList] at hk;have e1:(zz.cells.toList.map fun v=>AV.d (.v v)).getD k .undef= .d (.v (zz.cells.getD k Go.undef)):=by
       simp_all
      rw[e1];exact .d (.v _))
     obtain⟨g1,g2,g3⟩:=hnv;have hrun:(execOp a.eval o).run P w= .ok (.value (.pointer (some ⟨w.heap.size,0,none⟩))) (w.alloc (.cells zz.cells t)):=by
      simp_all [execOp,Instr.alloc,zeroValue,typeInfo,Go.newVar,newRow]
     refine oX ai hrun ?_;exact hn _ _ _ _ _ g1.cm g3 g2 (cg j _) an h
    grind
   grind
  grind
 ·rename_i c ho;split at h
  ·rename_i f adA;have hmem: ∀x∈c.args.toList,∀t,x= .tmp t->t∈looks all o:=fun x hx t ht=>List.mem_append.2 (.inl (kW (by
    grind [Op.operands,Call.operands]) ht))
   rw[←oc (L:=looks all o) hmem] at h;obtain⟨QQ,hcs,hl,ha⟩:=hJ h;have hfv:a.eval (.func f)= .func (.func f) #[] #[]:=rfl;have hen:=hcs.1;refine oX ai (yr (P:=P) (w:=w) ho adA hfv hen) ?_;refine⟨by simp[FW],s9 ?_⟩;have hrs:=tj (g:=true) rfl hl ha hr;have e:(c.args.toList.map a.eval).toArray=c.args.map a.eval:=ai;rw[e] at hrs;have e2:(#[]:Array Value)++c.args.map a.eval++ #[]=c.args.map a.eval:=an;rw[e2];refine(hcs.2 j w _ ki hrs).mono ?_;grind
  ·rename_i hb;split at h
   ·rename_i x y t t' hxy ht;have hx0:x∈o.op.operands:=by
     simp only[ho,Op.operands,Call.operands,Array.mem_append];right;have:x∈c.args.toList:=ai;grind
    have hy0:y∈o.op.operands:=by
     simp only[ho,Op.operands,Call.operands,Array.mem_append];right;have:y∈c.args.toList:=ai;grind
    rw[←a8 (mem x hx0)] at h;obtain⟨xa,h,hx⟩:=ar h;rw[←a8 (mem y hy0)] at h;obtain⟨ya,h,hy⟩:=ar h;obtain⟨v,w',j',r,σ',X,h1,h2,h3,h4,h5,h6,rfl,h7⟩:=o3 (P:=P) (ty:=o.type) ki h (hx rfl j0 j a w hr) (hy rfl j0 j a w hr);have hrun:(execOp a.eval o).run P w= .ok (.value v) w':=by
     have e1:c.args.map a.eval= #[a.eval x,a.eval y]:=by
      have:c.args= #[x,y]:=ai;grind
     have e2:c.argTypes= #[t,t']:=ai;simp_all [execOp,resolve,invoke,builtin]
    refine oX ai hrun ?_;exact hn v w' r σ' j' h2 h3 h4 h6 h5 h7
   grind
  grind
 grind
def qq:List Nat->Nat->Bool
 |[],_=>false
 |x::xs,i=>Nat.beq x i||qq xs i
theorem Xr{l i} :qq l i=true↔i∈l:=by
 induction l<;>grind [qq,Nat.beq_eq]
def Gr:List (Nat×Option Nat)->List (AV×List aZ)->List (Nat×AV)
 |x::xs,v::vs=>(x.1,v.1)::Gr xs vs
 |_,_=>[]
theorem LW{i r} : ∀{is V},get (Gr is V) i=some r->∃k,k<is.length/\lN is k=i/\r=(V.getD k (.undef,[])).1
 |[],V,h=>by grind [Gr,get]
 |x::xs,[],h=>by grind [Gr,get]
 |x::xs,v::vs,h=>by
  simp only[Gr,get] at h;split at h
  ·rename_i e;exact⟨0,an,by simpa[lN] using e,by simpa using(Option.some.inj h).symm⟩
  ·obtain⟨k,h1,h2,h3⟩:=LW h;exact⟨k+1,He,by simpa[lN] using h2,by simpa using h3⟩
theorem LX{i} : ∀{is V},V.length=is.length->get (Gr is V) i=none->∀k,k<is.length->lN is k≠i
 |[],V,_,h,k,hk=>by grind
 |x::xs,[],hl,h,k,hk=>by grind
 |x::xs,v::vs,hl,h,k,hk=>by
  simp only[Gr,get] at h;split at h
  ·cases h
  ·rename_i e;rcases k with _|k
   ·intro he;apply e;simpa[lN] using he
   ·have:=LX (by simpa using hl) h k rI;simpa[lN] using this
def adB(t1:List (Nat×AV))(o:Oper):AV:=match o.dst with
 |some d=>(get t1 d).getD .undef
 |none=> .undef
def fV(P:Program)(all:List Oper)(rs:List (Nat×AV))(sk:List Nat)(t1:List (Nat×AV)):List Oper->Nat->St->(St->Prop)->Prop
 |[],_,s,K=>K s
 |o::os,i,s,K=>match get rs i with
  |some r=>fV P all rs sk t1 os (i+1) (s.put o.dst r) K
  |none=>if qq sk i then fV P all rs sk t1 os (i+1) (s.put o.dst (adB t1 o)) K
   else fE all s o fun gd g=>JK P true gd g o s fun s'=>fV P all rs sk t1 os (i+1) s' K
theorem wm{P all rs sk t1} : ∀{os i0 s K},fV P all rs sk t1 os i0 s K->
  ∃xs,K (cD s os xs os.length)/\(∀i r,get rs (i0+i)=some r->xs i=r)/\∀i o,os[i]? =some o->get rs (i0+i)=none->qq sk (i0+i)=false->Local P all o (cD s os xs i) (xs i)
 |[],i0,s,K,h=>⟨fun i=>(get rs (i0+i)).getD .undef,h,fun i r hr=>ai,an⟩
 |o::os,i0,s,K,h=>by
  have key: ∀x:AV,fV P all rs sk t1 os (i0+1) (s.put o.dst x) K->(∀r,get rs i0=some r->x=r)->(get rs i0=none->qq sk i0=false->Local P all o s x)->
    ∃xs:Nat->AV,K (cD s (o::os) xs (o::os).length)/\(∀i r,get rs (i0+i)=some r->xs i=r)/\∀i o',(o::os)[i]? =some o'->get rs (i0+i)=none->qq sk (i0+i)=false->Local P all o' (cD s (o::os) xs i) (xs i):=by
   intro x h hx hl;obtain⟨xs,hK,hia,hloc⟩:=wm h;have hst: ∀i,cD s (o::os) (fun|0=>x|i+1=>xs i) (i+1)=cD (s.put o.dst x) os xs i:=by
    intro i;induction i with
    |zero=>rfl
    |succ i ih=>
     show(match(o::os)[i+1]? with|some o'=>(cD s (o::os) (fun|0=>x|i+1=>xs i) (i+1)).put o'.dst (xs i)|none=>cD s (o::os) (fun|0=>x|i+1=>xs i) (i+1))=_
     rw[ih];simp only[List.getElem?_cons_succ];rfl
   refine⟨fun|0=>x|i+1=>xs i,?_,fun i r hi=> ?_,fun i o' hi h1 h2=> ?_⟩
   ·rw[List.length_cons,hst];exact hK
   ·cases i with
    |zero=>exact hx r hi
    |succ i=>exact hia i r (by rw[show i0+1+i=i0+(i+1) by omega];exact hi)
   ·cases i with
    |zero=>simp at hi;subst hi;exact hl h1 h2
    |succ i=>rw[hst];exact hloc i o' uk (by rw[show i0+1+i=i0+(i+1) by omega];exact h1) (by rw[show i0+1+i=i0+(i+1) by omega];exact h2)
  simp only[fV] at h;cases hg:get rs i0 with
  |some r=>
   rw[hg] at h;exact key r h (fun r' h'=>by rw[hg] at h';exact Option.some.inj h') (fun h'=>by rw[hg] at h';cases h')
  |none=>
   rw[hg] at h;by_cases hs:qq sk i0=true
   ·simp only[hs,if_true] at h;exact key _ h (fun r' h'=>by rw[hg] at h';cases h') (fun _ h'=>by rw[hs] at h';cases h')
   ·simp only[hs,if_false,Bool.false_eq_true] at h;obtain⟨x,hl,h⟩:=xO h;exact key x h (fun r' h'=>by rw[hg] at h';cases h') (fun _ _=>hl)
def tS(σ:List aZ)(V:List (AV×List aZ)):Nat->List aZ
 |0=>σ
 |k+1=>(V.getD k (.undef,[])).2
def skS(SK:List (List Nat)):Nat->List Nat
 |0=>[]
 |k+1=>SK.getD k []
def dh(ops:List Oper)(m:Nat)(is:List (Nat×Option Nat)):Bool:=
 (List.range is.length).all fun k=>(match ops[lN is k]? with
  |some o=>(match o.guard with
   |none=>decide (o.dst=Qy is k)&&Nat.blt (lN is k) m&&(match o.dst with
     |some d=> !(looks ops o).contains d
     |none=>true)&&((List.range m).all fun q=>Nat.ble q (lN is k)||(match ops[q]? with
    |some oq=>(match oq.dst with
     |some d=> !(looks ops o).contains d
     |none=>true)
    |none=>true))&&(Nat.beq k 0||(x6 ops m 3 o (lN is (k-1))&&Nat.blt (lN is (k-1)) (lN is k)))
   |_=>false)
  |none=>false)
theorem bD{ops m is}(h:dh ops m is=true){k}(hk:k<is.length): ∃o,ops[lN is k]? =some o/\o.guard=none/\o.dst=Qy is k/\lN is k<m/\(∀d,o.dst=some d->d∉looks ops o)/\
  (∀q oq d,lN is k<q->q<m->ops[q]? =some oq->oq.dst=some d->d∉looks ops o)/\(0<k->x6 ops m 3 o (lN is (k-1))=true/\lN is (k-1)<lN is k):=by
 simp only[dh,List.all_eq_true,List.mem_range] at h;grind [Nat.blt_eq,Nat.beq_eq,Nat.ble_eq]
theorem ll{ops m is}(h:dh ops m is=true): ∀{b a},a<b->b<is.length->lN is a<lN is b
 |0,a,h1,_=>by omega
 |b+1,a,h1,h2=>by
  obtain⟨_,_,_,_,_,_,_,h3⟩:=bD h h2;have h4:=(h3 aa).2;simp only[Nat.add_sub_cancel] at h4;rcases Nat.lt_or_ge a b with h5|h5
  ·exact Nat.lt_trans (ll h h5 aa) h4
  grind
theorem sV{ops m is}(h:dh ops m is=true){a b}(ha:a<is.length)(hb:b<is.length)(he:lN is a=lN is b):a=b:=by
 rcases Nat.lt_trichotomy a b with h1|h1|h1
 ·have:=ll h h1 hb;omega
 ·exact h1
 ·have:=ll h h1 ha;omega
structure afZ(s:St)(ops:List Oper)(m:Nat)(is:List (Nat×Option Nat))(V:List (AV×List aZ))(t1:List (Nat×AV))(j0:J0)(k0:Nat)(listed:Array Bool)(j:Js)(a:Act)(w:World):Prop extends Core s.N s.t t1 (fun _=>True) ops m j0 listed j a w where
 cm:aQ w j (tS s.σ V k0)
 len0:j0.js.length<=j.length
 ag:Ag j0.js j s.mv
 E1:k0<=is.length
 done: ∀k,k<is.length->listed.getD (lN is k) true=decide (k<k0)
section
variable {P : Program} {ops : List Oper} {m : Nat} {is : List (Nat × Option Nat)} {V : List (AV × List aZ)} {SK : List (List Nat)}
structure Zj(P:Program)(s:St)(ops:List Oper)(m:Nat)(is:List (Nat×Option Nat))(V:List (AV×List aZ))(SK:List (List Nat))(t1:List (Nat×AV)):Prop where
 at_: ∀k,k<=is.length->∃xs:Nat->AV,(cD s (ops.take m) xs m).t=t1/\(∀i r,get (Gr is V) i=some r->xs i=r)/\
  ∀i o,i<m->ops[i]? =some o->get (Gr is V) i=none->qq (skS SK k) i=false->Local P ops o ⟨s.N,(cD s (ops.take m) xs i).t,tS s.σ V k,s.mv⟩ (xs i)
def kN(ops:List Oper)(m:Nat)(is:List (Nat×Option Nat))(SK:List (List Nat)):Bool:=
 Nat.beq SK.length is.length&&(List.range is.length).all fun k=>(match ops[lN is k]? with
  |some o=>(SK.getD k []).all fun i=>Nat.blt i m&&x6 ops m 3 o i
  |none=>false)
theorem rW{ops m is SK}(h:kN ops m is SK=true){k i}(hk:k<is.length)(hi:qq (SK.getD k []) i=true): ∃o,ops[lN is k]? =some o/\i<m/\x6 ops m 3 o i=true:=by
 unfold kN at h;simp only[Bool.and_eq_true,List.all_eq_true,List.mem_range] at h;grind [Xr,Nat.blt_eq]
structure afU(P:Program)(ops:List Oper)(is:List (Nat×Option Nat))(V:List (AV×List aZ))(s:St)(t1:List (Nat×AV)):Prop where
 len:V.length=is.length
 act: ∀k,k<is.length->∃o,ops[lN is k]? =some o/\yG P o ⟨s.N,t1,tS s.σ V k,s.mv⟩ fun r' σ'=>r'=(V.getD k (.undef,[])).1/\σ'=(V.getD k (.undef,[])).2
theorem ac8(hok:cO ops m=true)(hmn:m<=ops.length)(hch:dh ops m is=true)(hsk:kN ops m is SK=true){Q j0 j1 w1 s t1}
  (hW:afU P ops is V s t1) (hP:Zj P s ops m is V SK t1)
  (hK:bz P false ops (ops.drop m) ⟨s.N,t1,tS s.σ V is.length,s.mv⟩ (Q .normal)):
  ∀fuel j a w listed,left listed ops.length=fuel->(∃k0,afZ s ops m is V t1 j0 k0 listed j a w)->Ev j1 w1 j w->wpAnyIn (FW j0.rd) 0 P .any ops.toArray (u6 j0 j1 w1 Q) fuel listed a w:=by
 refine JG hok hmn (fun listed j a w=> ∃k0,afZ s ops m is V t1 j0 k0 listed j a w) ?_ ?_ ?_
 ·rintro listed j a w ⟨k0,hI⟩;exact⟨_,_,_,_,hI.toCore⟩
 ·rintro listed j a w ⟨k0,hI⟩ hdone;obtain rfl:k0=is.length:=by
   rcases Nat.lt_or_ge k0 is.length with h|h
   ·obtain⟨_,_,_,_,h1,_⟩:=bD hch h;have h2:=hI.done k0 h;grind
   ·have:=hI.E1;omega
  obtain⟨xs,hxs,_,_⟩:=hP.at_ 0 (Nat.zero_le _);exact⟨⟨s.N,t1,tS s.σ V is.length,s.mv⟩,⟨hI.defers,hI.fC,hI.size,fun k av hk=>hI.toCore.done hxs hdone hk,hI.cm,hI.len0,hI.ag⟩,hK⟩
 ·rintro listed j a w i o next ⟨k0,hI⟩ him ho h0 hall hn
  have hil:i<ops.length:=aa;have Un:i<listed.size:=ai;have step: ∀(j':Js) (w':World) (v:Value) (k1:Nat),aQ w' j' (tS s.σ V k1)->Ev j w j' w'->Ag j j' []->j.length<=j'.length->
    k1<=is.length->(∀k,k<is.length->(listed.setIfInBounds i true).getD (lN is k) true=decide (k<k1))->
    (∀k av,o.dst=some k->get t1 k=some av->k<s.N/\R w' j' av v)->next (a.put o.dst v) w':=by
   intro j' w' v k1 ki hev aan hlj hk1 hdn hv;have mono: ∀{av:AV} {v:Value},R w j av v->R w' j' av v:=fun hR=>hR.iy hev hI.cm.lt aan;refine hn j' v w' ⟨k1,hI.toCore.step hok hmn him ho hall hev (fun k av h _=>⟨av,h,fun _=>mono⟩) (fun k av h=>⟨av,h,fun _ h1 h2=>⟨h1,mono h2⟩⟩) hv,ki,Nat.le_trans hI.len0 hlj,fun b hb hn=> ?_,hk1,hdn⟩ hev;rw[aan b (by have:=hI.len0;omega) an];exact hI.ag b hb hn
  cases hia:get (Gr is V) i with
  |some r=>
   obtain⟨k,hkl,rfl,rfl⟩:=LW hia;obtain⟨oa,hoa,hgd,hdst,_,hself,pA,XW⟩:=bD hch hkl;obtain rfl:o=oa:=by grind
   obtain⟨ob,hob,hact⟩:=hW.act k hkl;obtain rfl:o=ob:=by grind
   have hkk:k=k0:=by
    have h1:=hI.done k hkl;rw[h0] at h1;have h2:k0<=k:=ai;rcases Nat.lt_or_ge k0 k with h3|h3
    ·have h4:=hI.toCore.far hall (XW aa).1;have h5:=ll hch (a:=k-1) (b:=k) aa hkl;rw[qD hI.lsize (show lN is (k-1)<ops.length by omega),hI.done (k-1) aa] at h4;grind
    ·omega
   subst hkk;obtain⟨xs,hxs,hxa,hloc⟩:=hP.at_ 0 (Nat.zero_le _);have hr:Rel j0 ((⟨s.N,t1,tS s.σ V k,s.mv⟩:St).bQ (looks ops o)) j a w:=by
    refine⟨hI.defers,hI.fC,hI.size,fun q' av hk=> ?_,hI.cm,hI.len0,hI.ag⟩;simp only[St.bQ,eM] at hk;split at hk
    ·rename_i hkl;exact hI.toCore.late hok hmn hxs him ho hall hself pA ai hk
    grind
   have hw:Region.wanted o (yielded ops.toArray a.tmps)=true:=C9;rw[if_pos hw];refine vT hact hr fun v w' r' σ' j' h6 h7 h8 h9 h10 h11=> ?_;obtain⟨rfl,rfl⟩:=h11;refine step j' w' v (k+1) h6 h8 h9 h10 hkl (fun q hq=> ?_) (fun q av hq hgt=> ?_)
   ·by_cases hqk:q=k
    ·simp_all
    ·rw[getD_set_ne true (fun h=>hqk (sV hch hq hkl h.symm)),hI.done q hq];grind
   grind [iG]
  |none=>
   obtain⟨xs,hxs,hxa,hloc⟩:=hP.at_ k0 hI.E1;have hns:qq (skS SK k0) i=false:=by
    rw[←Bool.not_eq_true];intro hs;cases hk:k0 with
    |zero=>grind [skS,qq]
    |succ k=>
     rw[hk] at hs;have hkl:k<is.length:=by have:=hI.E1;omega
     obtain⟨ob,hob,ahA,hd⟩:=rW hsk hkl hs;obtain⟨oa,hoa,_,_,hlt,_⟩:=bD hch hkl;have hl:listed.getD (lN is k) true=true:=by rw[hI.done k hkl];grind
     have:=hI.toCore.far (fun e he1 he2=>hI.cl _ ob hlt hob hl e he1 he2) hd;grind
   have hL:=hloc i o him ho hia hns;have hrel:Rel j0 ((⟨s.N,(cD s (ops.take m) xs i).t,tS s.σ V k0,s.mv⟩:St).bQ (looks ops o)) j a w:=by
    refine⟨hI.defers,hI.fC,hI.size,fun k av hk=> ?_,hI.cm,hI.len0,hI.ag⟩;simp only[St.bQ,eM] at hk;split at hk
    ·rename_i hkl;exact hI.toCore.looks hok hmn hxs him ho h0 hall ai hk
    grind
   have hdn: ∀k,k<is.length->(listed.setIfInBounds i true).getD (lN is k) true=decide (k<k0):=by
    intro k hk;rw[getD_set_ne true (fun h=>LX hW.len hia k hk h.symm),hI.done k hk]
   have hval: ∀(w':World) (v:Value),R w' j (xs i) v->∀k av,o.dst=some k->get t1 k=some av->k<s.N/\R w' j av v:=by
    grind [iG]
   by_cases hw:Region.wanted o (yielded ops.toArray a.tmps)=true
   ·rw[if_pos hw];exact hL.run j0 j a w _ _ hrel hw fun w' v h1 h2 h3=>step j w' v k0 h1 h2 (.refl _ _) (Nat.le_refl _) hI.E1 hdn (hval w' v h3)
   ·rw[if_neg hw];exact step j w Go.undef k0 hI.cm (.refl _ _) (.refl _ _) (Nat.le_refl _) hI.E1 hdn (hval w _ (hL.skip j0 j a w hrel ai))
end
def yF(P:Program)(ops:List Oper)(N:Nat)(t1:List (Nat×AV))(mv:List Nat):List aZ->List (Nat×Option Nat)->List (AV×List aZ)->Prop
 |σ,x::xs,v::vs=>(match mz ops x.1 with
  |some o=>yG P o ⟨N,t1,σ,mv⟩ fun r' σ'=>r'=v.1/\σ'=v.2
  |none=>False)/\yF P ops N t1 mv v.2 xs vs
 |_,[],[]=>True
 |_,_,_=>False
theorem Iw{P ops N t1 mv} : ∀{is V σ},yF P ops N t1 mv σ is V->V.length=is.length/\
  ∀k,k<is.length->∃o,ops[lN is k]? =some o/\yG P o ⟨N,t1,tS σ V k,mv⟩ fun r' σ'=>r'=(V.getD k (.undef,[])).1/\σ'=(V.getD k (.undef,[])).2
 |[],[],σ,h=>⟨rfl,fun k hk=>ai⟩
 |[],v::vs,σ,h=>h.elim
 |x::xs,[],σ,h=>h.elim
 |x::xs,v::vs,σ,h=>by
  obtain⟨h1,h2⟩:=h;obtain⟨h3,h4⟩:=Iw h2;refine⟨by simp[h3],fun k hk=> ?_⟩;rcases k with _|k
  ·rw[fo] at h1;split at h1
   ·rename_i o ho;exact⟨o,by simpa[lN] using ho,by simpa[tS] using h1⟩
   ·exact h1.elim
  ·obtain⟨o,ho,ha⟩:=h4 k rI;refine⟨o,by simpa[lN] using ho,?_⟩;have e:tS σ (v::vs) (k+1)=tS v.2 vs k:=by cases k<;>rfl
   rw[e];simpa using ha
def qa(P:Program)(ops:List Oper)(rs t1:List (Nat×AV))(N:Nat)(t:List (Nat×AV))(mv:List Nat)(m:Nat):List (AV×List aZ)->List (List Nat)->Prop
 |v::vs,sk::sks=>(∀K:St->Prop,(∀σ' mv',K ⟨N,t1,σ',mv'⟩)->fV P ops rs sk t1 (ops.take m) 0 ⟨N,t,v.2,mv⟩ K)/\qa P ops rs t1 N t mv m vs sks
 |[],[]=>True
 |_,_=>False
theorem Dr{P ops rs t1 N t mv m σ} : ∀{V SK},qa P ops rs t1 N t mv m V SK->∀k,k<V.length->
  ∀K,(∀σ' mv',K ⟨N,t1,σ',mv'⟩)->fV P ops rs (skS SK (k+1)) t1 (ops.take m) 0 ⟨N,t,tS σ V (k+1),mv⟩ K
 |[],_,_,k,hk=>by grind
 |v::vs,[],h,k,hk=>h.elim
 |v::vs,sk::sks,h,k,hk=>by
  rcases k with _|k
  ·exact h.1
  ·have:=Dr (σ:=σ) h.2 k rI;simpa[skS,tS] using this
theorem pT{P Q N t σ mv id ops m is SK V}(hm:P.follows .mixedOrders=true)(hok:cO ops m=true)(hmn:m<=ops.length)(hch:dh ops m is=true)(hsk:kN ops m is SK=true){t1}
  (hP:Zj P ⟨N,t,σ,mv⟩ ops m is V SK t1) (hW:afU P ops is V ⟨N,t,σ,mv⟩ t1)
  (h3:bz P false ops (ops.drop m) ⟨N,t1,tS σ V is.length,mv⟩ (Q .normal)):cV P (.region id ops.toArray true) Q ⟨N,t,σ,mv⟩:=by
 intro j0 j a w hr;have hr':Rel j0 ⟨N,t,σ,mv⟩ j a w.drew:=hr.after (eA j w) hr.cm.drew (Nat.le_refl _) (.refl _ []);refine wpIn_region_any hm (ac8 hok hmn hch hsk hW hP h3 _ j a w.drew _ ?_ ⟨0,.start hmn hr' fun _ _ _=>trivial,hr'.cm,hr'.len0,hr'.ag,Nat.zero_le _,fun k hk=> ?_⟩ (eA j w))
 ·rw[qx];simp
 ·obtain⟨_,_,_,_,h4,_⟩:=bD hch hk;simp[show lN is k<ops.length by omega]
theorem S1{P Q N t σ mv id ops}(m is SK V)(hm:P.follows .mixedOrders=true)(hok:(cO ops m&&Nat.ble m ops.length&&dh ops m is&&kN ops m is SK)=true){t1}
  (h1: ∀K:St->Prop,(∀σ' mv',K ⟨N,t1,σ',mv'⟩)->fV P ops (Gr is V) [] [] (ops.take m) 0 ⟨N,t,σ,mv⟩ K)
  (h4:qa P ops (Gr is V) t1 N t mv m V SK)
  (h2:yF P ops N t1 mv σ is V)
  (h3:bz P false ops (ops.drop m) ⟨N,t1,tS σ V is.length,mv⟩ (Q .normal)):cV P (.region id ops.toArray true) Q ⟨N,t,σ,mv⟩:=by
 simp only[Bool.and_eq_true,Nat.ble_eq] at hok;obtain⟨⟨⟨hok,hmn⟩,hch⟩,hsk⟩:=hok;obtain⟨hlen,hact⟩:=Iw h2;have mk: ∀(k:Nat) (t2:List (Nat×AV)),(∀K:St->Prop,(∀σ' mv',K ⟨N,t1,σ',mv'⟩)->fV P ops (Gr is V) (skS SK k) t2 (ops.take m) 0 ⟨N,t,tS σ V k,mv⟩ K)->∃xs:Nat->AV,(cD ⟨N,t,σ,mv⟩ (ops.take m) xs m).t=t1/\(∀i r,get (Gr is V) i=some r->xs i=r)/\
   ∀i o,i<m->ops[i]? =some o->get (Gr is V) i=none->qq (skS SK k) i=false->Local P ops o ⟨N,(cD ⟨N,t,σ,mv⟩ (ops.take m) xs i).t,tS σ V k,mv⟩ (xs i):=by
  intro k t2 h;have h:=h (fun s'=>s'.t=t1) (fun _ _=>rfl);have hlen:(ops.take m).length=m:=ai;obtain⟨xs,hK,hia,hloc⟩:=wm h;have hext:=Steps.mV ⟨N,t,σ,mv⟩ (tS σ V k) (ops.take m) xs;grind
 have hP:Zj P ⟨N,t,σ,mv⟩ ops m is V SK t1:=⟨fun k hk=>by
  rcases k with _|k
  ·exact mk 0 [] h1
  ·exact mk (k+1) t1 (Dr h4 k aa)⟩
 exact pT hm hok hmn hch hsk hP ⟨hlen,hact⟩ h3
theorem bA{P Q N t σ mv id ops}(m is SK V)(hm:P.follows .mixedOrders=true)(hok:(cO ops m&&Nat.ble m ops.length&&dh ops m is&&kN ops m is SK)=true){t1}
  (h1: ∀K:St->Prop,(∀σ' mv',K ⟨N,t1,σ',mv'⟩)->fV P ops (Gr is V) [] [] (ops.take m) 0 ⟨N,t,σ,mv⟩ K)
  (h4:qa P ops (Gr is V) t1 N t mv m V SK)
  (h2:yF P ops N t1 mv σ is V)
  (h3: ∀K:St->Prop,(∀s',Q .normal s'->K s')->bz P false ops (ops.drop m) ⟨N,t1,tS σ V is.length,mv⟩ K):cV P (.region id ops.toArray true) Q ⟨N,t,σ,mv⟩:=
 S1 m is SK V hm hok h1 h4 h2 (h3 _ fun s' h=>h)
theorem cw{P Q N t σ mv id ops y}(m is SK V)(hm:P.follows .mixedOrders=true)(hok:(cO ops m&&Nat.ble m ops.length&&dh ops m is&&kN ops m is SK)=true){t1}
  (h1: ∀K:St->Prop,(∀σ' mv',K ⟨N,t1,σ',mv'⟩)->fV P ops (Gr is V) [] [] (ops.take m) 0 ⟨N,t,σ,mv⟩ K)
  (h4:qa P ops (Gr is V) t1 N t mv m V SK)
  (h2:yF P ops N t1 mv σ is V)
  (h3: ∀K:St->Prop,(∀s',cV P y Q s'->K s')->bz P false ops (ops.drop m) ⟨N,t1,tS σ V is.length,mv⟩ K):cV P (.seq (.region id ops.toArray true) y) Q ⟨N,t,σ,mv⟩:=
 aq (S1 m is SK V hm hok h1 h4 h2 (h3 _ fun s' h=>h))
theorem aW{P ops rs t1 N t mv m} :qa P ops rs t1 N t mv m [] []:=trivial
theorem aw{P ops rs t1 N t mv m v vs sk sks}
  (h: ∀K:St->Prop,(∀σ' mv',K ⟨N,t1,σ',mv'⟩)->fV P ops rs sk t1 (ops.take m) 0 ⟨N,t,v.2,mv⟩ K) (h2:qa P ops rs t1 N t mv m vs sks):qa P ops rs t1 N t mv m (v::vs) (sk::sks):=⟨h,h2⟩
theorem bn{P ops N t1 mv σ} :yF P ops N t1 mv σ [] []:=trivial
theorem aG{P:Program}{ops:List Oper}{N:Nat}{t1:List (Nat×AV)}{mv:List Nat}{σ:List aZ}{x:Nat×Option Nat}{xs:List (Nat×Option Nat)}{v:AV×List aZ}{vs:List (AV×List aZ)}
  (h:match mz ops x.1 with
   |some o=>yG P o ⟨N,t1,σ,mv⟩ fun r' σ'=>r'=v.1/\σ'=v.2
   |none=>False) (h2:yF P ops N t1 mv v.2 xs vs):yF P ops N t1 mv σ (x::xs) (v::vs):=⟨h,h2⟩
def Ta(P:Program)(all:List Oper)(rs:List (Nat×AV))(sk:List Nat)(t1:List (Nat×AV))(os:List Oper)(i:Nat)(K:St->Prop)(s:St):Prop:=fV P all rs sk t1 os i s K
theorem UF(P all rs sk t1 i s K):fV P all rs sk t1 [] i s K=K s:=rfl
theorem Qq(P:Program)(all os:List Oper)(rs:List (Nat×AV))(sk:List Nat)(t1:List (Nat×AV))(i:Nat)(o:Oper)(s:St)(K:St->Prop):fV P all rs sk t1 (o::os) i s K=match get rs i with
  |some r=>Ta P all rs sk t1 os (i+1) K (s.put o.dst r)
  |none=>if qq sk i then Ta P all rs sk t1 os (i+1) K (s.put o.dst (adB t1 o))
   else fE all s o fun gd g=>JK P true gd g o s (Ta P all rs sk t1 os (i+1) K):=rfl
theorem Pd(P all os rs sk t1 i K N t σ mv):Ta P all rs sk t1 os i K ⟨N,t,σ,mv⟩=fV P all rs sk t1 os i ⟨N,t,σ,mv⟩ K:=rfl
attribute [go_sem ↓] UF Qq Pd yG
attribute [go_sem] Pd qq Gr adB tS yF qa
end Go.aI.Mix
