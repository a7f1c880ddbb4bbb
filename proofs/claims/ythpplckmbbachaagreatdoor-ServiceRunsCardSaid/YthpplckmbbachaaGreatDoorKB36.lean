/- Lemmas, no conditions. -/
import Derived.Test.YthpplckmbbachaaGreatDoorKB35
set_option linter.unusedSimpArgs false
set_option linter.unusedVariables false
set_option maxHeartbeats 1000000
set_option maxRecDepth 100000
namespace Go.Proofs.YthpplckmbbachaaGreatDoor
open Go.aI Go.bI
theorem oo{u v s} : ∀{n},(∀i,i<n->aM v (v.gb i).ID=aM u (u.gb i).ID/\(v.gb i).Width=(u.gb i).Width)->cu v s n=cu u s n
 |0,_=>rfl
 |n+1,h=>by
  rw[cu,cu,oo (n:=n) fun i hi=>h i aa,(h n aa).1,(h n aa).2]
theorem r5{u}(h:aY u){k}(hk:(aM u k).Kind=1):0<=ky u.nf u.gf (aM u k).Of:=mN (gS.2 h.Gb) hk
theorem e8{u v}(hr:aY u)(hn:v.nb=u.nb)(hi: ∀i,i<u.nb->(v.gb i).ID=(u.gb i).ID/\(v.gb i).Width=(u.gb i).Width/\(v.gb i).bH=(u.gb i).bH)(hp: ∀x,aM v x=aM u x)(hs: ∀s,0<=ky u.nf u.gf s->rq v s=rq u s):Td v:=by
 have hsum: ∀s,cu v s v.nb=cu u s u.nb:=fun s=>by
  grind [oo]
 refine⟨fun i h hk=> ?_,fun i h hk=> ?_⟩
 ·rw[hn] at h;rw[(hi i h).1,hp] at hk⊢;rw[hs _ (r5 hr hk),(hi i h).2.2];exact hr.hld.cli i h hk
 ·rw[hn] at h;rw[(hi i h).1,hp] at hk⊢;rw[hs _ (r5 hr hk),hsum];exact hr.hld.sum i h hk
theorem TU{u d}(hr:aY u)(h1:u.Changed<=d)(h2:d<=1048575):aY { u with Changed:=d } :=by
 have hd:=bO.1 hr.day;refine⟨hr.pol,hr.box,hr.KX,hr.JO,hr.req,hr.OQ,hr.uh,hr.HN,fun i hi=> ?_,bO.2 ⟨ai,h2⟩,hr.nt,hr.nl,hr.nw,fun q hq=> ?_,e8 hr rfl (fun _ _=>⟨rfl,rfl,rfl⟩) (fun _=>rfl) (fun _ _=>rfl),⟨fun i hi=>Int.le_trans (hr.mQ.day i hi) h1,hr.mQ.out,hr.mQ.box⟩⟩
 ·obtain⟨a,b,c,dd⟩:=hr.shw i hi;have h7:0<=(u.gw i).Day/\(u.gw i).Day<=u.Changed:=bO.1 c;exact⟨a,b,bO.2 ⟨h7.1,ai⟩,dd⟩
 ·have:=hr.Gb q hq;unfold oi at this⊢;simp only[Bool.or_eq_false_iff,decide_eq_false_iff_not] at this⊢;exact⟨⟨⟨ai,this.1.1.2⟩,this.1.2⟩,this.2⟩
theorem jj{u p}(hr:aY u)(hp:bL p=0):aY { u with P:=p } :=
 ⟨hp,hr.box,hr.KX,hr.JO,hr.req,hr.OQ,hr.uh,hr.HN,hr.shw,hr.day,hr.nt,hr.nl,hr.nw,hr.Gb,e8 hr rfl (fun _ _=>⟨rfl,rfl,rfl⟩) (fun _=>rfl) (fun _ _=>rfl),⟨hr.mQ.day,hr.mQ.out,hr.mQ.box⟩⟩
theorem kT{p} :bL p=0↔(check p.nc p.gc=0/\cL p.np p.gp=0/\dA p.na p.ga=0/\dq p.nm p.gm=0)/\(0<=p.dE/\p.dE<=200)/\db p=0:=by
 grind [bL,aA,oV]
theorem x0{n g k} :qC n g k=true↔∃i,i<n/\(g i).ID=k:=by
 grind [qC,dw]
theorem IW{p} :db p=0↔p.ns<=256/\∀i,i<p.ns->kK p i=0:=by
 grind [db,eX]
theorem w7{p q}(h:db p=0)(hn:q.ns=p.ns)(hg:q.gs=p.gs)(hp: ∀k,qC p.np p.gp k=true->qC q.np q.gp k=true):db q=0:=by
 grind [IW,kK,DH,eX]
theorem W7{p n g}(h:bL p=0)(hc:check n g=0):bL { p with nc:=n,gc:=g } =0:=by
 grind [kT,w7]
theorem ac4{p n g}(h:bL p=0)(hc:dA n g=0):bL { p with na:=n,ga:=g } =0:=by
 grind [kT,w7]
theorem W6{p n g}(h:bL p=0)(hc:dq n g=0):bL { p with nm:=n,gm:=g } =0:=by
 grind [kT,w7]
theorem W5{p n g}(h:bL p=0)(hc:cL n g=0)(hp: ∀k,qC p.np p.gp k=true->qC n g k=true):bL { p with np:=n,gp:=g } =0:=by
 grind [kT,w7]
theorem FH{g} : ∀{k i},vN g i k=0↔∀q,i<=q->q<i+k->formed (g q)=true/\(0<q->(g (q-1)).ID<(g q).ID)/\∀j,j<q->clash (g q) (g j)=false
 |0,i=>by grind [vN]
 |k+1,i=>by
  rw[vN];constructor
  ·intro h;split at h
   ·cases h
   ·rename_i h1;split at h
    ·cases h
    ·rename_i h2;split at h
     ·cases h
     ·rename_i h3;intro q h4 h5;by_cases hq:q=i
      ·grind [vS]
      ·exact FH.1 h q aa aa
  ·intro h;obtain⟨h1,h2,h3⟩:=h i (Nat.le_refl _) aa;rw[if_neg ai,if_neg ai,if_neg (by grind [vS])];exact FH.2 fun q h4 h5=>h q aa aa
theorem zL{n g} :check n g=0↔n<=64/\∀q,q<n->formed (g q)=true/\(0<q->(g (q-1)).ID<(g q).ID)/\∀j,j<q->clash (g q) (g j)=false:=by
 grind [check,FH]
theorem aaZ{n g k d}(h:(kj n g k d).2=0):check (kj n g k d).1.1 (kj n g k d).1.2=0:=by
 unfold kj at h⊢;split at h
 ·cases h
 ·rename_i h1;split at h
  ·cases h
  ·rename_i h2;split at h
   ·cases h
   ·rename_i h3;rw[if_neg h1,if_neg h2,if_neg h3];have h1:=zL.1 (Classical.byContradiction h1);generalize(idxFrom (fun r:Rule=>r.ID==k) (lst n g) 0).toNat=m at h3
    show check n (fun q=>if q=m then { g q with In:=⟨(g q).In.From,d⟩ } else g q)=0
    obtain⟨f,hf⟩: ∃f:Nat->Rule,f=fun q=>if q=m then { g q with In:=⟨(g q).In.From,d⟩ } else g q:=⟨_,rfl⟩
    have f1:f m= { g m with In:=⟨(g m).In.From,d⟩ } :=ai;have f2: ∀q,q≠m->f q=g q:=fun q hq=>by grind
    have hid: ∀j,(f j).ID=(g j).ID:=fun j=>by
     grind
    rw[←hf];refine zL.2 ⟨h1.1,fun q hq=> ?_⟩;obtain⟨h4,h5,h6⟩:=h1.2 q hq;refine⟨?_,fun h0=> ?_,fun j hj=> ?_⟩
    ·by_cases hm:q=m
     all_goals grind [formed,jA]
    ·grind
    ·have h7:=h6 j hj;unfold clash at h7⊢;rw[Bool.eq_false_iff] at h7⊢;simp only[Ne,Bool.and_eq_true,beq_iff_eq,decide_eq_true_eq] at h7⊢;by_cases hm:q=m
     all_goals grind
theorem CP{n g} :cL n g=0↔n<=64/\∀i,i<n->oh g i=0:=by
 grind [cL,eX]
theorem Es{g i} :oh g i=0↔fk (g i)=0/\(0<i->(g (i-1)).ID<(g i).ID):=by
 grind [oh]
theorem HT{n g k b d}(h:(cQ n g k b d).2=0):cL (cQ n g k b d).1.1 (cQ n g k b d).1.2=0/\∀x,qC n g x=true->qC (cQ n g k b d).1.1 (cQ n g k b d).1.2 x=true:=by
 unfold cQ at h⊢;split at h
 ·cases h
 ·rename_i h1;split at h
  ·cases h
  ·rename_i h2;split at h
   ·cases h
   ·rename_i h3;rw[if_neg h1,if_neg h2,if_neg h3];have h1:cL n g=0:=Classical.byContradiction fun h9=>h1 (.inl h9);have h1:=CP.1 h1;generalize(ee n g k).toNat=m at h3
    grind [nE,CP,Es,x0]
theorem xx{n g} :dq n g=0↔n<=64/\∀i,i<n->sj (g i)=true/\(0<i->(g (i-1)).ID<(g i).ID):=by
 grind [ql,dq,eX]
theorem Ur{n g p}(h:cY n g p=0):dq (n+1) (aL g n p)=0:=by
 unfold cY at h;split at h
 ·cases h
 ·rename_i h1;split at h
  ·cases h
  ·rename_i h2;split at h
   ·cases h
   ·rename_i h3;split at h;all_goals grind [xx,fy,jC]
theorem lr{α:Type}{f:α->Int}{g:Nat->α}{n}(h: ∀i,i<n->0<i->f (g (i-1))<f (g i)){a b}(hab:a<b)(hb:b<n):f (g a)<f (g b):=by
 induction b<;>grind
theorem PO{n g k d}(h:rD n g k d=0):dq (Gq n g k d) (VL g (Ga n g k).toNat d)=0:=by
 have h9:=h;unfold rD at h;split at h
 ·cases h
 ·rename_i h1;split at h
  ·cases h
  ·rename_i h2;split at h
   ·cases h
   ·rename_i h3;split at h
    ·cases h
    ·rename_i h4;have h1:=xx.1 (Classical.byContradiction h1);have hm:(Ga n g k).toNat<n:=by simp_all [Xe]
     unfold Gq VL;rw[if_neg ai];generalize(Ga n g k).toNat=m at hm h4
     split
     ·refine xx.2 ⟨aa,fun i hi=> ?_⟩;have hs:skip m i<n:=by grind [skip]
      refine⟨(h1.2 _ hs).1,fun h0=> ?_⟩;exact lr (f:=fu.ID) (fun i hi=>(h1.2 i hi).2) (by grind [skip]) hs
     ·rename_i h5;refine xx.2 ⟨h1.1,fun i hi=> ?_⟩;have h6:=h1.2 i hi;have hid: ∀j,(cJ g m { g m with In:=⟨(g m).In.From,d⟩ } j).ID=(g j).ID:=fun j=>by grind [cJ]
      grind [cJ,sj,jA]
theorem agD{u e}(hr:aY u)(h:SR u e=0):aY (VR u e):=by
 unfold SR at h;split at h
 ·cases h
 ·exact jj hr (W7 hr.pol h)
theorem agC{u e}(hr:aY u)(h:SJ u e=0):aY (VQ u e):=by
 unfold SJ at h;split at h
 ·cases h
 ·exact jj hr (W7 hr.pol (aaZ h))
theorem agG{u e}(hr:aY u)(h:Zv u e=0):aY (VT u e):=by
 refine jj hr (W5 hr.pol h fun k hk=> ?_);obtain⟨i,hi,h1⟩:=x0.1 hk;exact x0.2 ⟨i,aa,by grind [fy]⟩
theorem agx{u e}(hr:aY u)(h:(Sh u e).2=0):aY (VM u e):=
 jj hr (W5 hr.pol (HT h).1 (HT h).2)
theorem agK{u e}(hr:aY u)(h:S8 u e=0):aY (VW u e):=by
 unfold S8 at h;split at h
 ·cases h
 ·exact jj hr (ac4 hr.pol h)
theorem agA{u e}(hr:aY u)(h:RO u e=0):aY (Zt u e):=by
 unfold RO at h;split at h
 ·cases h
 ·exact jj hr (W6 hr.pol (Ur h))
theorem agu{u e}(hr:aY u)(h:rD u.P.nm u.P.gm (e.gn 0) e.Day=0):aY (VJ u e):=
 jj hr (W6 hr.pol (PO h))
theorem ags{u e}(hr:aY u)(h:Wz u e=0):aY (VI u e):=jj hr h
theorem vI{g} : ∀{k i ks ks'},fW g i ks k=some ks'->(∀p,i<=p->p<i+k->Key.i (g p).Unit∉ks)/\(∀p q,i<=p->p<q->q<i+k->(g p).Unit≠(g q).Unit)/\∀x,Key.i x∈ks'↔Key.i x∈ks\/∃p,i<=p/\p<i+k/\(g p).Unit=x
 |0,i,ks,ks',h=>by
  grind [fW]
 |k+1,i,ks,ks',h=>by
  rw[fW] at h;split at h
  ·cases h
  ·rename_i h0;obtain⟨h1,h2,h3⟩:=vI h;grind [eV]
theorem Oz{g} : ∀{k i ks},(∀p,i<=p->p<i+k->Key.i (g p).Unit∉ks)->(∀p q,i<=p->p<q->q<i+k->(g p).Unit≠(g q).Unit)->∃ks',fW g i ks k=some ks'
 |0,i,ks,_,_=>⟨ks,rfl⟩
 |k+1,i,ks,h1,h2=>by
  rw[fW,if_neg (h1 i (Nat.le_refl _) aa)];refine Oz (fun p a b h9=> ?_) fun p q a b c=>h2 p q aa b aa;grind [eV]
structure af1(g:Nat->Bx)(i n:Nat)(ks:List Key):Prop where
 f: ∀q,i<=q->q<n->sX (g q)=0
 Y2: ∀q,i<=q->q<n->0<q->(g (q-1)).ID<(g q).ID
 ks: ∀q p,i<=q->q<n->p<(g q).nc->Key.i ((g q).gc p).Unit∉ks
 uni: ∀q q' p p',i<=q->q<n->i<=q'->q'<n->p<(g q).nc->p'<(g q').nc->((g q).gc p).Unit=((g q').gc p').Unit->q=q'/\p=p'
theorem yu{g} : ∀{k i ks},uf g i ks k=0↔af1 g i (i+k) ks
 |0,i,ks=>by
  simp only[uf,true_iff];exact⟨fun q _ _=>aa,fun q _ _=>aa,fun q p _ _=>aa,fun q q' p p' _ _=>aa⟩
 |k+1,i,ks=>by
  rw[uf];constructor
  ·intro h;split at h
   ·grind
   ·rename_i h1;split at h
    ·cases h
    ·rename_i h2;split at h
     ·cases h
     ·rename_i ks' h3;obtain⟨a,b,c⟩:=vI h3;have hr:=yu.1 h;rw[show i+1+k=i+(k+1) by omega] at hr;refine⟨fun q x y=> ?_,fun q x y z=> ?_,fun q p x y z=> ?_,fun q q' p p' x y x' y' z z' hu=> ?_⟩
      ·by_cases hq:q=i
       ·grind
       ·exact hr.f q aa y
      ·by_cases hq:q=i
       ·grind
       ·exact hr.Y2 q aa y z
      ·by_cases hq:q=i
       ·grind
       ·exact fun h9=>hr.ks q p aa y z ((c _).2 (.inl h9))
      ·by_cases hq:q=i
       ·subst hq;by_cases hq':q'=q
        ·grind
        ·exact absurd ((c _).2 (.inr ⟨p,Nat.zero_le _,aa,hu⟩)) (hr.ks q' p' aa y' z')
       ·by_cases hq':q'=i
        ·subst hq';exact absurd ((c _).2 (.inr ⟨p',Nat.zero_le _,aa,hu.symm⟩)) (hr.ks q p aa y z)
        ·exact hr.uni q q' p p' aa y aa y' z z' hu
  ·intro h;rw[if_neg (by simp[h.f i (Nat.le_refl _) aa]),if_neg (by rintro⟨a,b⟩;have:=h.Y2 i (Nat.le_refl _) aa a;omega)];obtain⟨ks',hk⟩:=Oz (g:=(g i).gc) (k:=(g i).nc) (i:=0) (ks:=ks) (fun p _ hp=>h.ks i p (Nat.le_refl _) aa aa) fun p q _ hpq hq hu=>by
    have:=(h.uni i i p q (Nat.le_refl _) aa (Nat.le_refl _) aa aa aa hu).2;omega
   rw[hk];obtain⟨a,b,c⟩:=vI hk;refine yu.2 ⟨fun q x y=>h.f q aa aa,fun q x y z=>h.Y2 q aa aa z,fun q p x y z h9=> ?_,fun q q' p p' x y x' y'=>h.uni q q' p p' aa aa aa aa⟩;rcases(c _).1 h9 with h9|⟨p',h10,h11,h12⟩
   ·exact h.ks q p aa aa z h9
   ·have:=(h.uni i q p' p (Nat.le_refl _) aa aa aa aa z h12).1;omega
theorem zO{n g} :bW n g=0↔n<=128/\af1 g 0 n []:=by
 grind [bW,yu]
theorem C5{b} :sX b=0↔rz b=true/\b.nc<=32/\tb b.gc b.nc<=b.Room:=by
 grind [sX]
theorem yt{b} :rz b=true↔(gD b.ID 1 1073741824=true/\gD b.Width 1 10000=true/\gD b.Room 1 b.Width=true/\gD b.bH 0 7=true)/\∀i,i<b.nc->ei (b.gc i)=true:=by
 grind [rz,nV,vS]
theorem Rh{g u} : ∀{k i},(tL g u i k).1<0->∀q p,i<=q->q<i+k->p<(g q).nc->((g q).gc p).Unit≠u
 |0,i,_=>fun q p h1 h2=>by omega
 |k+1,i,h=>by
  rw[tL] at h;split at h
  ·grind
  ·rename_i h1;intro q p h2 h3 h4;by_cases hq:q=i
   ·grind [JU,VS]
   ·exact Rh h q p aa aa h4
theorem Rp{g i x} : ∀{n},(n<=i->tb (fe g i x) n=tb g n)/\(i<=n->tb (fe g i x) (n+1)=tb g n+x.kb)
 |0=>⟨fun _=>rfl,fun h=>by
  grind [tb,fe]⟩
 |n+1=>by
  have ih:=Rp (g:=g) (i:=i) (x:=x) (n:=n);grind [tb,fe]
theorem Wf{g i} : ∀{n},(n<=i->tb (without g i) n=tb g n)/\(i<=n->tb (without g i) n+(g i).kb=tb g (n+1))
 |0=>⟨fun _=>rfl,fun h=>by
  grind [tb]⟩
 |n+1=>by
  have ih:=Wf (g:=g) (i:=i) (n:=n);grind [without,skip,tb.eq_2]
theorem Hw{u g}(hr:aY u)(hb:bW u.nb g=0)(hg: ∀q,(g q).ID=(u.gb q).ID/\(g q).Width=(u.gb q).Width/\(g q).bH=(u.gb q).bH):aY { u with gb:=g } :=by
 have hi: ∀k,hZ u.nb g k=hZ u.nb u.gb k:=fun k=>XP fun i _=>by grind
 refine⟨hr.pol,hb,hr.KX,hr.JO,hr.req,hr.OQ,hr.uh,hr.HN,hr.shw,hr.day,hr.nt,hr.nl,hr.nw,fun q hq=> ?_,e8 hr rfl (fun i _=>hg i) (fun _=>rfl) (fun _ _=>rfl),⟨hr.mQ.day,hr.mQ.out,fun i h hk=> ?_⟩⟩
 ·have:=hr.Gb q hq;grind [oi,pz]
 ·show ∃j,j<u.nr/\(u.gr j).State=2/\(u.gr j).Box=(g i).ID
  rw[(hg i).1];refine hr.mQ.box i h ?_;grind [aM]
theorem ZZ{n g k a c}(h:kg n g k a c=0):bW n (Cl g (hZ n g k).toNat a.toNat c)=0:=by
 unfold kg at h;split at h
 ·cases h
 ·rename_i h1;split at h
  ·cases h
  ·rename_i h2;split at h
   ·cases h
   ·rename_i h3;split at h
    ·cases h
    ·rename_i h4;split at h
     ·cases h
     ·rename_i h5;split at h
      ·cases h
      ·rename_i h6;obtain⟨hn,hb⟩:=zO.1 (Classical.byContradiction h1);have hm:=F2 (n:=n) (g:=g) (s:=k) aa;obtain⟨ha,hc⟩:gD a 0 ((g (hZ n g k).toNat).nc:Int)=true/\ei c=true:=by
        grind
       have ha:=bO.1 ha;generalize(hZ n g k).toNat=m at hm ha h5 h6
       obtain⟨t,ht⟩: ∃t,t=a.toNat:=⟨_,rfl⟩;rw[←ht];have ht:t<=(g m).nc:=aa;have hw: ∀q p,q<n->p<(g q).nc->((g q).gc p).Unit≠c.Unit:=fun q p hq hp=>Rh (i:=0) (k:=n) (by grind [qS]) q p (Nat.zero_le _) aa hp;obtain⟨f,hf⟩: ∃f,f=Cl g m t c:=⟨_,rfl⟩;have f1:f m= { g m with nc:=(g m).nc+1,gc:=fe (g m).gc t c } :=by rw[hf];exact if_pos rfl
       have f2: ∀q,q≠m->f q=g q:=fun q hq=>by rw[hf];exact if_neg hq
       have hid: ∀q,(f q).ID=(g q).ID:=fun q=>by
        grind
       have hcm:=C5.1 (hb.f m (Nat.zero_le _) hm.1);have hcm1:=yt.1 hcm.1;have hold: ∀q p,q<n->p<(f q).nc->(q=m/\p=t/\(f q).gc p=c)\/∃p',p'<(g q).nc/\(f q).gc p=(g q).gc p'/\(q=m->(p<t/\p'=p)\/(t<p/\p=p'+1))/\(q≠m->p'=p):=by
        intro q p hq hp;by_cases hqm:q=m
        ·subst hqm;rw[f1] at hp⊢;grind [fe]
        grind
       rw[←hf];refine zO.2 ⟨hn,⟨fun q _ hq=> ?_,fun q _ hq h0=> ?_,fun q p _ _ _ h9=>(nomatch h9),fun q q' p p' _ hq _ hq' hp hp' hu=> ?_⟩⟩
       ·by_cases hqm:q=m
        ·subst hqm;rw[f1];refine C5.2 ⟨yt.2 ⟨hcm1.1,fun i hi=> ?_⟩,ai,?_⟩
         ·grind [fe]
         simp_all [Rp]
        ·rw[f2 q hqm];exact hb.f q (Nat.zero_le _) hq
       ·rw[hid,hid];exact hb.Y2 q (Nat.zero_le _) hq h0
       ·rcases hold q p hq hp with⟨a1,a2,a3⟩|⟨r,a1,a2,a3,a4⟩
        ·grind
        ·rcases hold q' p' hq' hp' with⟨b1,b2,b3⟩|⟨r',b1,b2,b3,b4⟩
         ·grind
         ·rw[a2,b2] at hu;obtain⟨c1,c2⟩:=hb.uni q q' r r' (Nat.zero_le _) hq (Nat.zero_le _) hq' a1 b1 hu;grind
theorem Wq{n g k}(h:fv n g k=0):bW n (qU g (qS n g k).1.toNat (qS n g k).2.toNat)=0:=by
 unfold fv at h;split at h
 ·cases h
 ·rename_i h1;split at h
  ·cases h
  ·rename_i h2;obtain⟨hn,hb⟩:=zO.1 (Classical.byContradiction h1);obtain⟨m,t,hm,ht,e1,e2⟩:=IB h2;rw[e1,e2,Int.toNat_natCast,Int.toNat_natCast];obtain⟨f,hf⟩: ∃f,f=qU g m t:=⟨_,rfl⟩;have f1:f m= { g m with nc:=(g m).nc-1,gc:=without (g m).gc t } :=by rw[hf];exact if_pos rfl
   have f2: ∀q,q≠m->f q=g q:=fun q hq=>by rw[hf];exact if_neg hq
   have hid: ∀q,(f q).ID=(g q).ID:=fun q=>by
    grind
   have hcm:=C5.1 (hb.f m (Nat.zero_le _) hm);have hcm1:=yt.1 hcm.1;have hs: ∀p,skip t p=if p<t then p else p+1:=fun _=>rfl
   have hold: ∀q p,q<n->p<(f q).nc->∃p',p'<(g q).nc/\(f q).gc p=(g q).gc p'/\(q=m->p'=skip t p)/\(q≠m->p'=p):=by
    intro q p hq hp;by_cases hqm:q=m
    ·subst hqm;rw[f1] at hp⊢;dsimp only at hp⊢;exact⟨skip t p,ai,rfl,fun _=>rfl,fun h9=>absurd rfl h9⟩
    simp_all
   rw[←hf];refine zO.2 ⟨hn,⟨fun q _ hq=> ?_,fun q _ hq h0=> ?_,fun q p _ _ _ h9=>(nomatch h9),fun q q' p p' _ hq _ hq' hp hp' hu=> ?_⟩⟩
   ·by_cases hqm:q=m
    ·subst hqm;rw[f1];refine C5.2 ⟨yt.2 ⟨hcm1.1,fun i hi=> ?_⟩,ai,?_⟩
     ·dsimp only at hi⊢;exact hcm1.2 _ ai
     ·dsimp only;have h5:=(Wf (g:=(g q).gc) (i:=t) (n:=(g q).nc-1)).2 aa;grind [ei,bO]
    ·rw[f2 q hqm];exact hb.f q (Nat.zero_le _) hq
   ·rw[hid,hid];exact hb.Y2 q (Nat.zero_le _) hq h0
   ·obtain⟨r,a1,a2,a3,a4⟩:=hold q p hq hp;obtain⟨r',b1,b2,b3,b4⟩:=hold q' p' hq' hp';rw[a2,b2] at hu;obtain⟨c1,c2⟩:=hb.uni q q' r r' (Nat.zero_le _) hq (Nat.zero_le _) hq' a1 b1 hu;grind
theorem NY{g:Nat->Bx}{m:Nat}{c:Nat}{f:Nat->Cnt}(q:Nat):(cJ g m { g m with nc:=c,gc:=f } q).ID=(g q).ID/\(cJ g m { g m with nc:=c,gc:=f } q).Width=(g q).Width/\(cJ g m { g m with nc:=c,gc:=f } q).bH=(g q).bH:=by
 grind [cJ]
theorem agv{u e}(hr:aY u)(h:PV u e=0):aY (W1 u e):=by
 unfold PV at h;split at h
 ·cases h
 ·exact Hw hr (ZZ h) fun q=>NY q
theorem agr{u e}(hr:aY u)(h:Hm u e=0):aY (Zo u e):=by
 unfold Hm at h;split at h
 ·cases h
 ·split at h
  ·cases h
  ·exact Hw hr (Wq h) fun q=>NY q
theorem agJ{u e}(hr:aY u)(h:Vv u e=0):aY (Pk u e):=by
 unfold Vv at h;have hb:=(zO.1 h).2;have hold: ∀q,q<u.nb->aL u.gb u.nb (dS e) q=u.gb q:=fun q hq=>fy hq;have hlt: ∀q,q<u.nb->(u.gb q).ID<(dS e).ID:=fun q hq=>by
  have:=lr (f:=Bx.ID) (g:=aL u.gb u.nb (dS e)) (n:=u.nb+1) (fun i hi h0=>hb.Y2 i (Nat.zero_le _) hi h0) hq aa;grind [jC]
 have hmv: ∀q,q<u.nv->0<=hZ u.nb u.gb (u.gv q).Box:=fun q hq=>by
  have:=hr.Gb q hq;grind [oi]
 have hno:aM u (dS e).ID=⟨0,0⟩:=MD fun q hq he=>by
  have h1:=F2 (hmv q hq);grind
 have hsum: ∀s,cu (Pk u e) s u.nb=cu u s u.nb:=fun s=>oo fun i hi=>by
  show aM u (aL u.gb u.nb (dS e) i).ID=_/\(aL u.gb u.nb (dS e) i).Width=_
  grind
 refine⟨hr.pol,h,hr.KX,hr.JO,hr.req,hr.OQ,hr.uh,hr.HN,hr.shw,hr.day,hr.nt,hr.nl,hr.nw,fun q hq=> ?_,⟨fun i hi hk=> ?_,fun i hi hk=> ?_⟩,⟨hr.mQ.day,hr.mQ.out,fun i hi hk=> ?_⟩⟩
 ·have:=hr.Gb q hq;unfold oi at this⊢;show(decide (u.Changed<(u.gv q).Day)||decide (hZ (u.nb+1) (aL u.gb u.nb (dS e)) (u.gv q).Box<0)|| !pz u (u.gv q).From|| !pz u (u.gv q).To)=false
  grind [hZ,Sk]
 ·by_cases hin:i<u.nb
  ·have h1:(aM u (aL u.gb u.nb (dS e) i).ID).Kind=1:=hk;show(rq u (aM u (aL u.gb u.nb (dS e) i).ID).Of).bH=(aL u.gb u.nb (dS e) i).bH
   rw[hold i hin] at h1⊢;exact hr.hld.cli i hin h1
  ·have h1:(aM u (aL u.gb u.nb (dS e) i).ID).Kind=1:=hk;have hi:i<u.nb+1:=hi;grind [jC]
 ·by_cases hin:i<u.nb
  ·have h1:(aM u (aL u.gb u.nb (dS e) i).ID).Kind=1:=hk;show cu (Pk u e) (aM u (aL u.gb u.nb (dS e) i).ID).Of (u.nb+1)<=(rq u (aM u (aL u.gb u.nb (dS e) i).ID).Of).Length
   rw[hold i hin] at h1⊢;rw[cu,hsum,if_neg (by
    show ¬aM u (aL u.gb u.nb (dS e) u.nb).ID=_
    grind [jC])]
   have:=hr.hld.sum i hin h1;omega
  ·have h1:(aM u (aL u.gb u.nb (dS e) i).ID).Kind=1:=hk;have hi:i<u.nb+1:=hi;grind [jC]
 ·have h1:(aM u (aL u.gb u.nb (dS e) i).ID).Kind=3:=hk;show ∃j,j<u.nr/\(u.gr j).State=2/\(u.gr j).Box=(aL u.gb u.nb (dS e) i).ID
  by_cases hin:i<u.nb
  ·rw[hold i hin] at h1⊢;exact hr.mQ.box i hin h1
  ·have hi:i<u.nb+1:=hi;grind [jC]
theorem xK{u m} :oi u m=false↔m.Day<=u.Changed/\0<=hZ u.nb u.gb m.Box/\pz u m.From=true/\pz u m.To=true:=by
 grind [oi]
theorem Si{u p} :pz u p=true↔(p.Kind=1->0<=ky u.nf u.gf p.Of):=by
 grind [pz]
theorem agF{u e}(hr:aY u)(h:Y3 u e=0):aY (S2 u e):=by
 have hs: ∀s,0<=ky u.nf u.gf s->ky (u.nf+1) (aL u.gf u.nf (ov e)) s=ky u.nf u.gf s:=fun s h=>Sk h;refine⟨hr.pol,hr.box,h,hr.JO,hr.req,hr.OQ,hr.uh,hr.HN,hr.shw,hr.day,hr.nt,hr.nl,hr.nw,fun q hq=> ?_,e8 hr rfl (fun _ _=>⟨rfl,rfl,rfl⟩) (fun _=>rfl) (fun s hs1=> ?_),⟨hr.mQ.day,hr.mQ.out,hr.mQ.box⟩⟩
 ·obtain⟨a,b,c,d⟩:=xK.1 (hr.Gb q hq);grind [S2,Si,xK]
 ·show aL u.gf u.nf (ov e) (ky (u.nf+1) (aL u.gf u.nf (ov e)) s).toNat=_
  rw[hs s hs1,fy (DT hs1).1];rfl
theorem yV{u:Use}{e:Ev}{k:Int}{tp:yK}{g:Nat->cT}(hr:aY u)(hd:u.Changed=e.Day)(hc:dn u e k tp=0)(hk:0<=hZ u.nb u.gb k)(ht:tp.Kind=1->0<=ky u.nf u.gf tp.Of)(hq:cr u.nr g=0)(hl:Tb { dz u e k tp with gr:=g })
  (hh:tp.Kind=1->(∀i,i<u.nb->(u.gb i).ID=k->(rq u tp.Of).bH=(u.gb i).bH)/\cu (dz u e k tp) tp.Of u.nb<=(rq u tp.Of).Length):aY { dz u e k tp with gr:=g } :=by
 have hp: ∀x,aM { dz u e k tp with gr:=g } x=if x=k then tp else aM u x:=fun x=>lF hc x
 have hp1: ∀x,aM (dz u e k tp) x=if x=k then tp else aM u x:=fun x=>lF hc x
 have hsum: ∀s,tp≠⟨1,s⟩->∀n,n<=u.nb->cu { dz u e k tp with gr:=g } s n<=cu u s n:=fun s hs n=>by
  induction n with
  |zero=>intro _;exact Int.le_refl _
  |succ n ih=>
   intro hn;have hw:=FM hr.box (i:=n) aa;have:=ih aa;rw[cu,cu,hp];show cu _ s n+(if(if(u.gb n).ID=k then tp else aM u (u.gb n).ID)=⟨1,s⟩ then(u.gb n).Width else 0)<=_
   grind
 have hsame: ∀s n,cu { dz u e k tp with gr:=g } s n=cu (dz u e k tp) s n:=fun s n=>oo fun _ _=>⟨rfl,rfl⟩;have hn1: ∀q,q<u.nv->aL u.gv u.nv ⟨e.Day,k,aM u k,tp⟩ q=u.gv q:=fun q h=>fy h;refine⟨hr.pol,hr.box,hr.KX,SU hc,hq,hr.OQ,hr.uh,hr.HN,hr.shw,hr.day,hr.nt,hr.nl,hr.nw,fun q h=> ?_,⟨fun i hi h1=> ?_,fun i hi h1=> ?_⟩,hl⟩
 ·have h:q<u.nv+1:=h;show oi u (aL u.gv u.nv ⟨e.Day,k,aM u k,tp⟩ q)=false
  by_cases vB:q<u.nv
  ·rw[hn1 q vB];exact hr.Gb q vB
  grind [jC,xK,Si,r5]
 ·rw[hp] at h1⊢;show(rq u (if(u.gb i).ID=k then tp else aM u (u.gb i).ID).Of).bH=(u.gb i).bH
  have h1:(if(u.gb i).ID=k then tp else aM u (u.gb i).ID).Kind=1:=h1;by_cases hx:(u.gb i).ID=k
  ·rw[if_pos hx] at h1⊢;exact(hh h1).1 i hi hx
  ·rw[if_neg hx] at h1⊢;exact hr.hld.cli i hi h1
 ·rw[hp] at h1⊢;show cu { dz u e k tp with gr:=g } (if(u.gb i).ID=k then tp else aM u (u.gb i).ID).Of u.nb<=(rq u (if(u.gb i).ID=k then tp else aM u (u.gb i).ID).Of).Length
  have h1:(if(u.gb i).ID=k then tp else aM u (u.gb i).ID).Kind=1:=h1;by_cases hx:(u.gb i).ID=k
  ·grind
  ·rw[if_neg hx] at h1⊢;by_cases ht1:tp=⟨1,(aM u (u.gb i).ID).Of⟩
   ·grind
   ·exact Int.le_trans (hsum _ ht1 _ (Nat.le_refl _)) (hr.hld.sum i hi h1)
def qV(u:Use)(s k:Int):Nat->Int
 |0=>0
 |i+1=>qV u s k i+if(u.gb i).ID≠k/\aM u (u.gb i).ID=⟨1,s⟩ then(u.gb i).Width else 0
theorem zN{n g}(h:bW n g=0){i}(hi:i<n):1<=(g i).Width/\(g i).Width<=10000:=by
 have:=(jX ((e9 h).2 i hi)).1;grind [rz,bO]
theorem Lv{u s k}(h:bW u.nb u.gb=0): ∀{n},n<=u.nb->0<=qV u s k n/\qV u s k n<=10000*(n:Int)
 |0,_=>by simp[qV]
 |n+1,hn=>by
  have:=Lv (s:=s) (k:=k) h (n:=n) aa;grind [zN,qV]
theorem Hn{u s k t}(h:bW u.nb u.gb=0)(h1:0<=t)(h2:t<=10000): ∀{n i},i+n=u.nb->gx u s k i (t+qV u s k i) n=t+qV u s k u.nb
 |0,i,hi=>by grind [gx]
 |n+1,i,hi=>by
  have hb:=(e9 h).1;have h3:=Lv (s:=s) (k:=k) h (n:=i) aa;have h4:=zN h (i:=i) aa;rw[gx];have h5:=Hn (s:=s) (k:=k) h h1 h2 (n:=n) (i:=i+1) aa;grind [qV,aS]
theorem YN{n g}(h:bW n g=0){i j}(hi:i<n)(hj:j<n)(he:(g i).ID=(g j).ID):i=j:=by
 have hb:=(zO.1 h).2;have ha: ∀i,i<n->0<i->(g (i-1)).ID<(g i).ID:=fun i hi h0=>hb.Y2 i (Nat.zero_le _) hi h0;rcases Nat.lt_trichotomy i j with h1|h1|h1
 ·have:=lr (f:=Bx.ID) ha h1 hj;omega
 ·exact h1
 ·have:=lr (f:=Bx.ID) ha h1 hi;omega
theorem SS{u e k s}(hr:aY u)(hc:dn u e k ⟨1,s⟩=0){b}(hb:b<u.nb)(hk:(u.gb b).ID=k): ∀{n},n<=u.nb->cu (dz u e k ⟨1,s⟩) s n=qV u s k n+if b<n then(u.gb b).Width else 0
 |0,_=>by simp[cu,qV]
 |n+1,hn=>by
  rw[cu,qV,SS hr hc hb hk (n:=n) aa,lF hc];show _+(if(if(u.gb n).ID=k then(⟨1,s⟩:yK) else aM u (u.gb n).ID)=⟨1,s⟩ then(u.gb n).Width else 0)=_
  by_cases h1:(u.gb n).ID=k
  ·obtain rfl:n=b:=YN hr.box aa hb ai;grind
  grind
theorem agw{u e}(hr:aY u)(hd:u.Changed=e.Day)(h:AQ u e=0):aY (dz u e (e.gn 0) ⟨e.gn 1,e.gn 2⟩):=by
 unfold AQ at h;split at h
 ·cases h
 ·rename_i h1;split at h
  ·cases h
  ·rename_i h2;split at h
   ·grind
   ·rename_i h3;have hk:0<=hZ u.nb u.gb (e.gn 0):=aa;have hka:=F2 hk;refine yV (g:=u.gr) hr hd h hk (fun h4=> ?_) hr.req ⟨hr.mQ.day,fun i hi hs=> ?_,fun i hi hk3=> ?_⟩ fun h4=> ?_
    ·grind
    ·show aM (dz u e (e.gn 0) ⟨e.gn 1,e.gn 2⟩) (u.gr i).Box=_
     have h5:=hr.mQ.out i hi hs;grind [lF]
    ·have h5:(aM (dz u e (e.gn 0) ⟨e.gn 1,e.gn 2⟩) (u.gb i).ID).Kind=3:=hk3;rw[lF h] at h5;split at h5
     ·grind
     ·exact hr.mQ.box i hi h5
    ·have h4:e.gn 1=1:=h4;have h5:qB u (u.gf (ky u.nf u.gf (e.gn 2)).toNat) (u.gb (hZ u.nb u.gb (e.gn 0)).toNat)=0:=Classical.byContradiction fun h6=>h3 ⟨h4,h6⟩;have hs0:0<=ky u.nf u.gf (e.gn 2):=aa;have hsa:=DT hs0;unfold qB at h5;split at h5
     ·cases h5
     ·rename_i h6;split at h5
      ·cases h5
      ·rename_i h7;have hw:=zN hr.box hka.1;rw[hsa.2,hka.2] at h7;have h8:=Hn (s:=e.gn 2) (k:=e.gn 0) hr.box (t:=(u.gb (hZ u.nb u.gb (e.gn 0)).toNat).Width) aa aa (n:=u.nb) (i:=0) aa;rw[qV,Int.add_zero] at h8;rw[h8] at h7;refine⟨fun i hi hi1=> ?_,?_⟩
       ·obtain rfl:=YN hr.box hi hka.1 ai;exact Classical.byContradiction h6
       ·show cu (dz u e (e.gn 0) ⟨e.gn 1,e.gn 2⟩) (e.gn 2) u.nb<=_
        rw[h4] at h⊢;rw[SS hr h hka.1 hka.2 (Nat.le_refl _),if_pos hka.1];show _<=(u.gf (ky u.nf u.gf (e.gn 2)).toNat).Length
        omega
theorem ox{r} :lx r=true↔(fc r.ID=true/\fc r.Reader=true/\fc r.Unit=true/\fc r.Box=true/\gW r.Day=true)/\1<=r.State/\r.State<=5/\r.Day<=r.Changed/\gW r.Changed=true/\(r.State=1->r.Changed=r.Day):=by
 grind [lx]
theorem qi{n g} :cr n g=0↔n<=256/\∀i,i<n->iD g i=0:=by
 grind [cr,eX]
theorem Xi{r} :gB r=true↔r.State=1\/r.State=2:=by grind [gB]
theorem I7{n g i st d}(h:cr n g=0)(hi:i<n)(hs:2<=st/\st<=5)(h1:(g i).Changed<=d)(h2:d<=1048575)(h3:st=2->(g i).State=1/\∀j,j<n->(g j).State=2->(g j).Box≠(g i).Box):cr n (dj g i st d)=0:=by
 obtain⟨hn,ha⟩:=qi.1 h;obtain⟨f,hf⟩: ∃f,f=dj g i st d:=⟨_,rfl⟩;have f1:f i= { g i with State:=st,Changed:=d } :=by rw[hf];exact if_pos rfl
 have f2: ∀q,q≠i->f q=g q:=fun q hq=>by rw[hf];exact if_neg hq
 have hid: ∀q,(f q).ID=(g q).ID/\(f q).Day=(g q).Day/\(f q).Box=(g q).Box/\(f q).Reader=(g q).Reader/\(f q).Unit=(g q).Unit:=fun q=>by
  grind
 have hop: ∀q,gB (f q)=true->gB (g q)=true:=fun q h9=>by
  grind [Xi]
 rw[←hf];refine qi.2 ⟨hn,fun q hq=> ?_⟩;obtain⟨a1,a2,a3,a4⟩:=kR.1 (ha q hq);refine kR.2 ⟨?_,fun h0=> ?_,fun hst j hj hsj=> ?_,fun ho j hj hoj=> ?_⟩
 ·by_cases hqi:q=i
  ·subst hqi;rw[f1];obtain⟨b1,b2,b3,b4,b5,b6⟩:=ox.1 a1;have:=bO.1 b1.2.2.2.2;have:=bO.1 b5;exact ox.2 ⟨b1,ai,ai,ai,bO.2 ⟨ai,h2⟩,fun h9=>ai⟩
  grind
 all_goals grind
theorem FJ{can n g k d}(h:cz can n g k d=0):cr n g=0/\∃i,i<n/\cP n g k=(i:Int)/\(g i).ID=k/\(g i).Changed<=d/\d<=1048575/\can i=true:=by
 unfold cz at h;split at h
 ·cases h
 ·rename_i h1;split at h;all_goals grind [fS,cP]
theorem ZY{n g}(h:cr n g=0){i j}(hi:i<n)(hj:j<n)(he:(g i).ID=(g j).ID):i=j:=by
 have ha: ∀i,i<n->0<i->(g (i-1)).ID<(g i).ID:=fun i hi h0=>((kR.1 ((qi.1 h).2 i hi)).2.1 h0).1;rcases Nat.lt_trichotomy i j with h1|h1|h1
 ·have:=lr (f:=cT.ID) ha h1 hj;omega
 ·exact h1
 ·have:=lr (f:=cT.ID) ha h1 hi;omega
theorem agH{u m rg e}(hr:aY u)(hd:u.Changed=e.Day)(h:Ge u m rg e=0):aY (Zd u e):=by
 unfold Ge at h;split at h
 ·cases h
 ·split at h
  ·cases h
  ·unfold dB at h;split at h
   ·cases h
   ·split at h
    ·cases h
    ·rename_i h1;split at h
     ·cases h
     ·rename_i h2;split at h
      ·cases h
      ·rename_i h3;split at h
       ·cases h
       ·rename_i h4;obtain⟨hn,ha⟩:=qi.1 hr.req;simp only[Bool.not_eq_false,Bool.and_eq_true] at h1;have hlt: ∀q,q<u.nr->aL u.gr u.nr (gL (gG u e)) q=u.gr q:=fun q hq=>fy hq;have hat:aL u.gr u.nr (gL (gG u e)) u.nr=gL (gG u e):=jC;have hd1:=bO.1 h1.2;have hq:cr (u.nr+1) (aL u.gr u.nr (gL (gG u e)))=0:=by
         refine qi.2 ⟨aa,fun q hq=>kR.2 ?_⟩;by_cases vB:q<u.nr
         ·grind [kR]
         ·obtain rfl:q=u.nr:=by omega
          rw[hat];refine⟨ox.2 ⟨⟨h1.1.1.1.1,h1.1.1.1.2,h1.1.1.2,h1.1.2,h1.2⟩,Int.le_refl _,by show(1:Int)<=5;decide,Int.le_refl _,h1.2,fun _=>rfl⟩,fun h0=> ?_,fun hs=> ?_,fun _ j hj ho h5 h6=> ?_⟩
          ·rw[hlt _ aa];show(u.gr (u.nr-1)).ID<(gG u e).ID/\(u.gr (u.nr-1)).Day<=(gG u e).Day
           omega
          ·have hs:(1:Int)=2:=hs;omega
          ·rw[hlt j hj] at ho h5 h6;refine h3 (dw.2 ⟨j,hj,?_⟩);unfold x7;simp only[Bool.and_eq_true,beq_iff_eq];exact⟨⟨ho,h5⟩,h6⟩
        refine⟨hr.pol,hr.box,hr.KX,hr.JO,hq,hr.OQ,hr.uh,hr.HN,hr.shw,hr.day,hr.nt,hr.nl,hr.nw,hr.Gb,e8 hr rfl (fun _ _=>⟨rfl,rfl,rfl⟩) (fun _=>rfl) (fun _ _=>rfl),⟨fun i hi=> ?_,fun i hi hs=> ?_,fun i hi hk=> ?_⟩⟩
        ·show(aL u.gr u.nr (gL (gG u e)) i).Changed<=u.Changed
         have hi:i<u.nr+1:=hi;by_cases hin:i<u.nr
         ·rw[hlt i hin];exact hr.mQ.day i hin
         ·obtain rfl:i=u.nr:=by omega
          rw[hat,hd];exact Int.le_refl _
        ·have hi:i<u.nr+1:=hi;have hs:(aL u.gr u.nr (gL (gG u e)) i).State=2:=hs;show aM u (aL u.gr u.nr (gL (gG u e)) i).Box=⟨3,(aL u.gr u.nr (gL (gG u e)) i).Reader⟩
         by_cases hin:i<u.nr
         ·rw[hlt i hin] at hs⊢;exact hr.mQ.out i hin hs
         ·obtain rfl:i=u.nr:=by omega
          rw[hat] at hs;have hs:(1:Int)=2:=hs;omega
        ·obtain⟨j,a,b,c⟩:=hr.mQ.box i hi hk;refine⟨j,Nat.lt_succ_of_lt a,?_,?_⟩
         ·show(aL u.gr u.nr (gL (gG u e)) j).State=2
          grind
         ·show(aL u.gr u.nr (gL (gG u e)) j).Box=_
          rw[hlt j a];exact c
theorem Ya{u k}{i:Nat}(h:cP u.nr u.gr k=(i:Int)):bJ u k=(u.gr i,true):=by
 unfold bJ;have:xf u k=(i:Int):=h;grind
theorem RM{u}(hr:aY u){x}(h:(aM u x).Kind≠0):0<=hZ u.nb u.gb x:=by
 obtain⟨q,h1,h2⟩:=T6 h;have:=(xK.1 (hr.Gb q h1)).2.1;grind
theorem agB{u e}(hr:aY u)(hd:u.Changed=e.Day)(h:x3 u e=0):aY (VO u e):=by
 unfold x3 at h;unfold VO;split at h
 ·rename_i h0;rw[if_pos h0];split at h
  ·grind
  ·rename_i h1;obtain⟨hq,i,hi,e1,e2,e3,e4,e5⟩:=FJ (Classical.byContradiction h1);have hf:=Ya e1;rw[hf] at h⊢;unfold qI at h⊢;rw[e1,Int.toNat_natCast] at h⊢;have hst:(u.gr i).State=2:=by grind [dU]
   have ho:=hr.mQ.out i hi hst;have h:dn u e (u.gr i).Box ⟨2,0⟩=0:=h;have ads:(dj u.gr i 3 e.Day i).State=3:=by simp_all [dj,cJ]
   have hne: ∀j,j≠i->dj u.gr i 3 e.Day j=u.gr j:=fun j hj=>if_neg hj;refine yV (g:=dj u.gr i 3 e.Day) hr hd h (RM hr ai) (fun h9=> ?_) (I7 hq hi aH e3 e4 (fun h9=>absurd h9 aH)) ⟨fun j hj=> ?_,fun j hj hs=> ?_,fun b hb hk=> ?_⟩ (fun h9=> ?_)
   ·cases h9
   ·show(dj u.gr i 3 e.Day j).Changed<=u.Changed
    by_cases hji:j=i
    ·simp_all [dj,cJ]
    ·rw[hne j hji];exact hr.mQ.day j hj
   ·have hs:(dj u.gr i 3 e.Day j).State=2:=hs;show aM (dz u e (u.gr i).Box ⟨2,0⟩) (dj u.gr i 3 e.Day j).Box=⟨3,(dj u.gr i 3 e.Day j).Reader⟩
    by_cases hji:j=i
    ·grind
    ·rw[hne j hji] at hs⊢;rw[lF h,if_neg (fun h9=>hji (Ng hq hj hi hs hst h9))];exact hr.mQ.out j hj hs
   ·have hk:(aM (dz u e (u.gr i).Box ⟨2,0⟩) (u.gb b).ID).Kind=3:=hk;rw[lF h] at hk;split at hk
    ·cases hk
    ·rename_i h7;obtain⟨j,a,b1,c⟩:=hr.mQ.box b hb hk;have hji:j≠i:=fun h9=>h7 ai;exact⟨j,a,ai,by show(dj u.gr i 3 e.Day j).Box=_;rw[hne j hji];exact c⟩
   grind
 ·rename_i h0;rw[if_neg h0];split at h
  ·obtain⟨hq,i,hi,e1,e2,e3,e4,e5⟩:=FJ h;rw[e1,Int.toNat_natCast];have hst:(u.gr i).State=1:=by grind [dv]
   obtain⟨st,hs⟩: ∃st:Int,st=if(e.gn 1==1)=true then 4 else 5:=⟨_,rfl⟩
   have hs1:st=4\/st=5:=ai;rw[←hs];have ads:(dj u.gr i st e.Day i).State=st:=by simp_all [dj,cJ]
   have hne: ∀j,j≠i->dj u.gr i st e.Day j=u.gr j:=fun j hj=>if_neg hj;refine⟨hr.pol,hr.box,hr.KX,hr.JO,I7 hq hi aa e3 e4 (fun h9=>aa),hr.OQ,hr.uh,hr.HN,hr.shw,hr.day,hr.nt,hr.nl,hr.nw,hr.Gb,e8 hr rfl (fun _ _=>⟨rfl,rfl,rfl⟩) (fun _=>rfl) (fun _ _=>rfl),⟨fun j hj=> ?_,fun j hj hs=> ?_,fun b hb hk=> ?_⟩⟩
   ·show(dj u.gr i st e.Day j).Changed<=u.Changed
    by_cases hji:j=i
    ·simp_all [dj,cJ]
    ·rw[hne j hji];exact hr.mQ.day j hj
   ·have hs:(dj u.gr i st e.Day j).State=2:=hs;show aM u (dj u.gr i st e.Day j).Box=⟨3,(dj u.gr i st e.Day j).Reader⟩
    by_cases hji:j=i
    ·grind
    ·rw[hne j hji] at hs⊢;exact hr.mQ.out j hj hs
   ·obtain⟨j,a,b1,c⟩:=hr.mQ.box b hb hk;grind
  grind
theorem agy{u m rg e}(hr:aY u)(hd:u.Changed=e.Day)(h:ml u m rg e=0):aY (KY u e):=by
 unfold ml at h;split at h
 ·cases h
 ·rename_i h0;unfold gT at h;split at h
  ·cases h
  ·split at h
   ·cases h
   ·split at h
    ·cases h
    ·rename_i h1;split at h
     ·grind
     ·rename_i h2;split at h
      ·grind
      ·rename_i h3;split at h
       ·cases h
       ·rename_i h4;obtain⟨hq,i,hi,e1,e2,e3,e4,e5⟩:=FJ (Classical.byContradiction h2);have h3:=Classical.byContradiction h3;unfold KY nF;obtain⟨r,hrr⟩: ∃r,r=(bJ u (e.gn 0)).1:=⟨_,rfl⟩;have hix:0<=xf u (e.gn 0):=by
         grind [bJ]
        obtain⟨i',a1,a2,a3,_⟩:=fS (p:=fun r:cT=>r.ID==e.gn 0) (n:=u.nr) (g:=u.gr) hix;have hf:=Ya (u:=u) (k:=e.gn 0) (i:=i') a2;rw[hf] at hrr e1 e2 h1 h3 h4⊢;have hrr:r=u.gr i':=hrr;dsimp only at e1 e2 h1 h3 h4⊢;obtain rfl:i=i':=ZY hq hi a1 e2;rw[e1,Int.toNat_natCast];unfold cf HF at e5;have hlb:uX u.nr u.gr (u.gr i).Box=false:=by
         grind
        rw[if_neg ai] at e5;have hno: ∀j,j<u.nr->(u.gr j).State=2->(u.gr j).Box≠(u.gr i).Box:=fun j hj hs hb=>by
         have:=vS.1 hlb j hj;grind [py]
        have hst:(u.gr i).State=1:=by
         have e5:idxFrom (pc (u.gr i).Box) (lst u.nr u.gr) 0=(i:Int):=ai;obtain⟨q,b1,b2,b3,_⟩:=fS (p:=pc (u.gr i).Box) (n:=u.nr) (g:=u.gr) aa;grind [pc]
        have ads:(dj u.gr i 2 e.Day i).State=2/\(dj u.gr i 2 e.Day i).Box=(u.gr i).Box/\(dj u.gr i 2 e.Day i).Reader=(u.gr i).Reader:=by simp_all [dj,cJ]
        have hne: ∀j,j≠i->dj u.gr i 2 e.Day j=u.gr j:=fun j hj=>if_neg hj;have hv:=yV (g:=dj u.gr i 2 e.Day) hr hd h3 (RM hr h1) (fun h9=>nomatch h9) (I7 hq hi aH e3 e4 (fun _=>⟨hst,hno⟩)) ⟨fun j hj=>by
          show(dj u.gr i 2 e.Day j).Changed<=u.Changed
          by_cases hji:j=i
          ·simp_all [dj,cJ]
          ·rw[hne j hji];exact hr.mQ.day j hj,
         fun j hj hs=>by
          have hs:(dj u.gr i 2 e.Day j).State=2:=hs;show aM (dz u e (u.gr i).Box ⟨3,(u.gr i).Reader⟩) (dj u.gr i 2 e.Day j).Box=⟨3,(dj u.gr i 2 e.Day j).Reader⟩
          by_cases hji:j=i
          ·grind [lF]
          ·rw[hne j hji] at hs⊢;rw[lF h3,if_neg (hno j hj hs)];exact hr.mQ.out j hj hs,
         fun b hb hk=>by
          have hk:(aM (dz u e (u.gr i).Box ⟨3,(u.gr i).Reader⟩) (u.gb b).ID).Kind=3:=hk;rw[lF h3] at hk;split at hk
          ·rename_i h7;exact⟨i,hi,ads.1,by show(dj u.gr i 2 e.Day i).Box=(u.gb b).ID;grind⟩
          ·obtain⟨j,a,b1,c⟩:=hr.mQ.box b hb hk;have hji:j≠i:=fun h9=>by grind
           exact⟨j,a,ai,by show(dj u.gr i 2 e.Day j).Box=_;rw[hne j hji];exact c⟩⟩ (fun h9=>nomatch h9)
        have hform:=(ox.1 (kR.1 ((qi.1 hq).2 i hi)).1).1;have hcn: ∀q,q<(sE u (u.gr i).Box).1->fc ((sE u (u.gr i).Box).2 q).Unit=true:=fun q hq=>by
         unfold sE at hq⊢;split at hq
         ·grind
         ·rename_i h9;rw[if_neg h9];have hb:=F2 (n:=u.nb) (g:=u.gb) (s:=(u.gr i).Box) aa;have:=(jX ((e9 hr.box).2 _ hb.1)).2.2.2 q hq;unfold ei at this;rw[Bool.and_eq_true] at this;exact this.1
        have hlo: ∀q,q<u.nw->jD u e (u.gr i) (sE u (u.gr i).Box).2 q=u.gw q:=fun q hq=>if_pos hq;have hhi: ∀q,¬q<u.nw->jD u e (u.gr i) (sE u (u.gr i).Box).2 q=⟨(u.gr i).Reader,((sE u (u.gr i).Box).2 (q-u.nw)).Unit,e.Day⟩:=fun q hq=>if_neg hq;have ahC:=bO.1 hr.day;refine⟨hv.pol,hv.box,hv.KX,hv.JO,hv.req,hv.OQ,hv.uh,hv.HN,fun q hq=> ?_,hv.day,hv.nt,hv.nl,ai,hv.Gb,e8 hv rfl (fun _ _=>⟨rfl,rfl,rfl⟩) (fun _=>rfl) (fun _ _=>rfl),⟨hv.mQ.day,hv.mQ.out,hv.mQ.box⟩⟩;have hq:q<u.nw+(sE u (u.gr i).Box).1:=hq;show fc (jD u e (u.gr i) (sE u (u.gr i).Box).2 q).Reader=true/\fc (jD u e (u.gr i) (sE u (u.gr i).Box).2 q).Unit=true/\gD (jD u e (u.gr i) (sE u (u.gr i).Box).2 q).Day 0 u.Changed=true/\(0<q->(jD u e (u.gr i) (sE u (u.gr i).Box).2 (q-1)).Day<=(jD u e (u.gr i) (sE u (u.gr i).Box).2 q).Day)
        by_cases vB:q<u.nw
        ·rw[hlo q vB];obtain⟨b1,b2,b3,b4⟩:=hr.shw q vB;grind
        ·rw[hhi q vB];refine⟨hform.2.1,hcn _ aa,bO.2 ⟨ai,ai⟩,fun h9=> ?_⟩;by_cases hq1:q-1<u.nw
         ·rw[hlo _ hq1];have:=bO.1 (hr.shw _ hq1).2.2.1;grind
         grind
theorem agE{u e}(hr:aY u)(h:QM u e=0):aY (YR u e):=by
 unfold QM at h;split at h
 ·cases h
 ·unfold lZ at h;split at h
  ·cases h
  ·rename_i h1;split at h
   ·cases h
   ·rename_i h2;have hb:dM u.gq u.nk u.gk=0:=Classical.byContradiction h1;have hc:dM u.gq (u.nk+1) (aL u.gk u.nk (mC e))=0:=by
     unfold dM at hb⊢;split at hb
     ·cases hb
     ·rename_i h3;split at hb
      ·cases hb
      ·rw[if_neg h3,if_neg aa];rw[eX] at hb⊢;have hl: ∀q,q<=u.nk->∀b,pS u.gq q (aL u.gk u.nk (mC e)) b=pS u.gq q u.gk b:=fun q hq b=>by
        have h5:lst q (aL u.gk u.nk (mC e))=lst q u.gk:=List.map_congr_left fun i hi=>fy ai;have h6: ∀s k,k<=q->rp (aL u.gk u.nk (mC e)) s k=rp u.gk s k:=fun s k=>by
         induction k<;>grind [rp,fy]
        have h7: ∀d k,k<=q->dC (aL u.gk u.nk (mC e)) d k=dC u.gk d k:=fun d k=>by
         induction k<;>grind [dC,fy]
        unfold pS FO H2;grind [fy]
       grind [fy,jC]
    exact⟨hr.pol,hr.box,hr.KX,hr.JO,hr.req,hc,hr.uh,hr.HN,hr.shw,hr.day,hr.nt,hr.nl,hr.nw,hr.Gb,e8 hr rfl (fun _ _=>⟨rfl,rfl,rfl⟩) (fun _=>rfl) (fun _ _=>rfl),⟨hr.mQ.day,hr.mQ.out,hr.mQ.box⟩⟩
theorem Hx{u n g}(hr:aY u)(hn:n<=64)(hb: ∀i,i<n->eK (g i)=0/\(0<i->(g (i-1)).ID<(g i).ID)):aY { u with nt:=n,gt:=g } :=
 ⟨hr.pol,hr.box,hr.KX,hr.JO,hr.req,hr.OQ,hb,hr.HN,hr.shw,hr.day,hn,hr.nl,hr.nw,hr.Gb,e8 hr rfl (fun _ _=>⟨rfl,rfl,rfl⟩) (fun _=>rfl) (fun _ _=>rfl),⟨hr.mQ.day,hr.mQ.out,hr.mQ.box⟩⟩
theorem sU{x} :eK x=0↔r4 x=true/\(fZ x.u x.nu=true/\fZ x.b x.nb=true)/\zR x=false/\eG x=true:=by
 grind [eK]
theorem Rx{g i}{x:ek}(h:x.ID=(g i).ID)(q):(cJ g i x q).ID=(g q).ID:=by
 grind [cJ]
theorem Hv{u i x}(hr:aY u)(hi:i<u.nt)(hx:eK x=0)(hid:x.ID=(u.gt i).ID):aY { u with gt:=cJ u.gt i x } :=by
 refine Hx hr hr.nt fun q hq=>⟨?_,fun h0=> ?_⟩
 ·unfold cJ;split
  ·exact hx
  ·exact(hr.uh q hq).1
 ·rw[Rx hid,Rx hid];exact(hr.uh q hq).2 h0
theorem agI{u e}(hr:aY u)(h:Pb u e=0):aY (VU u e):=by
 unfold Pb at h;split at h
 ·cases h
 ·rename_i h1;split at h
  ·cases h
  ·rename_i h2;have hx:eK (Iv u e).1=0/\(Iv u e).1.ID=e.gn 0:=by
    unfold Iv lM at h⊢;split at h
    ·grind
    ·rename_i h3;rw[if_neg h3];exact⟨Classical.byContradiction h3,rfl⟩
   refine Hx hr aa fun q hq=> ?_;by_cases vB:q<u.nt
   ·rw[fy vB,fy aa];exact hr.uh q vB
   grind [jC,fy]
theorem acF{u e}(h: ¬iK u e<0):(iK u e).toNat<u.nt:=by simp_all [yv]
theorem LR{x}(h:(dJ x).2=0):eK (dJ x).1=0/\(dJ x).1.ID=x.ID:=by
 unfold dJ at h⊢;split at h
 ·cases h
 ·rename_i h1;split at h
  ·cases h
  ·rename_i h2;split at h
   ·cases h
   ·rename_i h3;rw[if_neg h1,if_neg h2,if_neg h3];refine⟨?_,rfl⟩;have h1:=Classical.byContradiction h1;have hr:=lD h1;obtain⟨a1,a2,a3,a4⟩:=sU.1 h1;refine sU.2 ⟨(pj _).2 ⟨hr.id1,hr.id2,hr.d1,hr.d2,?_,?_,hr.n1,hr.n2,hr.u1,hr.s1,hr.s2,hr.a1,hr.a2⟩,⟨a2.1,rfl⟩,?_,?_⟩
    ·have:=hr.r1;show 0<=x.Round+1;omega
    ·have:=hr.r2;show x.Round+1<=1024;omega
    all_goals grind [zR,DS,eG]
theorem E8{x m h}(h0:(dD x m h).2=0):eK (dD x m h).1=0/\(dD x m h).1.ID=x.ID:=by
 unfold dD at h0⊢;split at h0
 ·cases h0
 ·rename_i h1;split at h0
  ·cases h0
  ·rename_i h2;split at h0
   ·cases h0
   ·rename_i h3;split at h0
    ·cases h0
    ·rename_i h4;rw[if_neg h1,if_neg h2,if_neg h3,if_neg h4];refine⟨?_,rfl⟩;have h1:=Classical.byContradiction h1;have h2:=Classical.byContradiction h2;have hr:=lD h1;obtain⟨a1,a2,a3,a4⟩:=sU.1 h1;have hrd:1<=x.Round:=by
      grind [eG]
     refine sU.2 ⟨(pj _).2 ⟨hr.id1,hr.id2,hr.d1,hr.d2,hr.r1,hr.r2,hr.n1,hr.n2,hr.u1,hr.s1,hr.s2,hr.a1,hr.a2⟩,⟨a2.1,(by grind:fZ h m=true)⟩,?_,?_⟩
     ·show(decide (0<m)&& !IX (de (oz x m h) x.Round).length (nth (de (oz x m h) x.Round)) m h)=false
      rw[show de (oz x m h) x.Round=de x x.Round from rfl];grind
     grind [eG,oz]
theorem agt{u e}(hr:aY u)(h:LS u e=0):aY (Rz u e):=by
 unfold LS at h;split at h
 ·cases h
 ·rename_i h1;exact Hv hr (acF h1) (LR h).1 (LR h).2
theorem Uf{g n x f}(h:fp g n x f=0): ¬(f<1\/1073741824-(x.nu:Int)+1<f)/\¬(0<n/\f<=(g (n-1)).fx)/\¬1024<n+x.nu:=by
 grind [fp]
theorem agz{u e}(hr:aY u)(h:Cs u e=0):aY (Nz u e):=by
 unfold Cs at h;split at h
 ·cases h
 ·rename_i h1;split at h
  ·grind
  ·rename_i h2;have h2:(gy u e).2=0:=Classical.byContradiction h2;have hs:=Hv hr (acF h1) (E8 h2).1 (E8 h2).2;unfold Nz;split at h
   ·rename_i h3;rw[if_pos h3];exact hs
   ·rename_i h3;rw[if_neg h3];have hn:=ES h;obtain⟨h6,h7,h9⟩:=Uf h;have hx:=lD (E8 h2).1;have hx:Rng (gy u e).1:=hx;refine⟨hs.pol,hs.box,hs.KX,hs.JO,hs.req,hs.OQ,hs.uh,fun i hi=> ?_,hs.shw,hs.day,hs.nt,ai,hs.nw,hs.Gb,e8 hs rfl (fun _ _=>⟨rfl,rfl,rfl⟩) (fun _=>rfl) (fun _ _=>rfl),⟨hs.mQ.day,hs.mQ.out,hs.mQ.box⟩⟩;have hi:i<nD u.gl u.nl (gy u e).1 (E7 u):=hi;rw[hn] at hi;show fc (mB u.gl u.nl (gy u e).1.u (E7 u) i).fx=true/\fc (mB u.gl u.nl (gy u e).1.u (E7 u) i).Unit=true/\(0<i->(mB u.gl u.nl (gy u e).1.u (E7 u) (i-1)).fx<(mB u.gl u.nl (gy u e).1.u (E7 u) i).fx)
    by_cases hin:i<u.nl
    ·rw[sC hin];obtain⟨b1,b2,b3⟩:=hr.HN i hin;grind [sC]
    ·obtain⟨j,rfl⟩: ∃j,i=u.nl+j:=⟨i-u.nl,aa⟩;rw[ET];refine⟨bO.2 ⟨ai,ai⟩,bO.2 (hx.u1 j aa),fun h0=> ?_⟩;cases j with
     |zero=>grind [sC]
     |succ j=>rw[show u.nl+(j+1)-1=u.nl+j by omega,ET];grind
theorem WX{u m rg e}(hr:aY u)(hd:u.Changed=e.Day)(h:rE u m rg e=0):aY (Fo u e):=by
 unfold rE at h;unfold Fo;by_cases XO:e.Kind=40
 ·grind [agD]
 rw[if_neg XO] at h⊢;by_cases XN:e.Kind=41
 ·grind [agC]
 rw[if_neg XN] at h⊢;by_cases XM:e.Kind=42
 ·grind [agG]
 rw[if_neg XM] at h⊢;by_cases XL:e.Kind=43
 ·grind [agx]
 rw[if_neg XL] at h⊢;by_cases XK:e.Kind=44
 ·grind [agK]
 rw[if_neg XK] at h⊢;by_cases XJ:e.Kind=45
 ·grind [agA]
 rw[if_neg XJ] at h⊢;by_cases k46:e.Kind=46
 ·grind [agu]
 rw[if_neg k46] at h⊢;by_cases XI:e.Kind=47
 ·grind [ags]
 rw[if_neg XI] at h⊢;by_cases XH:e.Kind=48
 ·grind [agJ]
 rw[if_neg XH] at h⊢;by_cases XG:e.Kind=49
 ·grind [agv]
 rw[if_neg XG] at h⊢;by_cases Zs:e.Kind=50
 all_goals grind [agr,agF,agw,agH,agy,agB,agE,agI,agt,agz]
theorem DC(u d s k): ∀n i t,gx { u with Changed:=d } s k i t n=gx u s k i t n
 |0,_,_=>rfl
 |n+1,i,t=>by
  rw[gx,gx];exact DC u d s k n (i+1) _
theorem aaa(u e d):AQ { u with Changed:=d } e=AQ u e:=by
 have h: ∀s b,qB { u with Changed:=d } s b=qB u s b:=fun s b=>by
  grind [qB,DC]
 unfold AQ;simp only[h];rfl
theorem SF(u:Use)(e:Ev)(d:Int):({ Fo u e with Changed:=d } :Use)=Fo { u with Changed:=d } e:=by
 unfold Fo;by_cases XO:e.Kind=40
 ·rw[if_pos XO,if_pos XO];rfl
 rw[if_neg XO,if_neg XO];by_cases XN:e.Kind=41
 ·rw[if_pos XN,if_pos XN];rfl
 rw[if_neg XN,if_neg XN];by_cases XM:e.Kind=42
 ·rw[if_pos XM,if_pos XM];rfl
 rw[if_neg XM,if_neg XM];by_cases XL:e.Kind=43
 ·rw[if_pos XL,if_pos XL];rfl
 rw[if_neg XL,if_neg XL];by_cases XK:e.Kind=44
 ·rw[if_pos XK,if_pos XK];rfl
 rw[if_neg XK,if_neg XK];by_cases XJ:e.Kind=45
 ·rw[if_pos XJ,if_pos XJ];rfl
 rw[if_neg XJ,if_neg XJ];by_cases k46:e.Kind=46
 ·rw[if_pos k46,if_pos k46];rfl
 rw[if_neg k46,if_neg k46];by_cases XI:e.Kind=47
 ·rw[if_pos XI,if_pos XI];rfl
 rw[if_neg XI,if_neg XI];by_cases XH:e.Kind=48
 ·rw[if_pos XH,if_pos XH];rfl
 rw[if_neg XH,if_neg XH];by_cases XG:e.Kind=49
 ·rw[if_pos XG,if_pos XG];rfl
 rw[if_neg XG,if_neg XG];by_cases Zs:e.Kind=50
 ·rw[if_pos Zs,if_pos Zs];rfl
 rw[if_neg Zs,if_neg Zs];by_cases k51:e.Kind=51
 ·rw[if_pos k51,if_pos k51];rfl
 rw[if_neg k51,if_neg k51];by_cases k52:e.Kind=52
 ·rw[if_pos k52,if_pos k52];rfl
 rw[if_neg k52,if_neg k52];by_cases k53:e.Kind=53
 ·rw[if_pos k53,if_pos k53];rfl
 rw[if_neg k53,if_neg k53];by_cases k54:e.Kind=54
 ·rw[if_pos k54,if_pos k54];rfl
 rw[if_neg k54,if_neg k54];by_cases k55:e.Kind=55
 ·rw[if_pos k55,if_pos k55];(unfold VO;split<;>rfl)
 rw[if_neg k55,if_neg k55];by_cases k56:e.Kind=56
 ·rw[if_pos k56,if_pos k56];rfl
 rw[if_neg k56,if_neg k56];by_cases k57:e.Kind=57
 ·rw[if_pos k57,if_pos k57];rfl
 rw[if_neg k57,if_neg k57];by_cases k58:e.Kind=58
 ·rw[if_pos k58,if_pos k58];rfl
 rw[if_neg k58,if_neg k58];by_cases k59:e.Kind=59
 ·rw[if_pos k59,if_pos k59];(unfold Nz;by_cases h:(gy u e).1.State≠3;(rw[if_pos h,if_pos (show(gy { u with Changed:=d } e).1.State≠3 from h)];rfl);(rw[if_neg h,if_neg (show ¬(gy { u with Changed:=d } e).1.State≠3 from h)];rfl))
 grind
theorem SG(u m rg e d):rE { u with Changed:=d } m rg e=rE u m rg e:=by
 unfold rE;by_cases XO:e.Kind=40
 ·rw[if_pos XO,if_pos XO];try rfl
 rw[if_neg XO,if_neg XO];by_cases XN:e.Kind=41
 ·rw[if_pos XN,if_pos XN];try rfl
 rw[if_neg XN,if_neg XN];by_cases XM:e.Kind=42
 ·rw[if_pos XM,if_pos XM];try rfl
 rw[if_neg XM,if_neg XM];by_cases XL:e.Kind=43
 ·rw[if_pos XL,if_pos XL];try rfl
 rw[if_neg XL,if_neg XL];by_cases XK:e.Kind=44
 ·rw[if_pos XK,if_pos XK];try rfl
 rw[if_neg XK,if_neg XK];by_cases XJ:e.Kind=45
 ·rw[if_pos XJ,if_pos XJ];try rfl
 rw[if_neg XJ,if_neg XJ];by_cases k46:e.Kind=46
 ·grind
 rw[if_neg k46,if_neg k46];by_cases XI:e.Kind=47
 ·rw[if_pos XI,if_pos XI];try rfl
 rw[if_neg XI,if_neg XI];by_cases XH:e.Kind=48
 ·rw[if_pos XH,if_pos XH];try rfl
 rw[if_neg XH,if_neg XH];by_cases XG:e.Kind=49
 ·rw[if_pos XG,if_pos XG];try rfl
 rw[if_neg XG,if_neg XG];by_cases Zs:e.Kind=50
 ·rw[if_pos Zs,if_pos Zs];try rfl
 rw[if_neg Zs,if_neg Zs];by_cases k51:e.Kind=51
 ·rw[if_pos k51,if_pos k51];try rfl
 rw[if_neg k51,if_neg k51];by_cases k52:e.Kind=52
 ·grind [aaa]
 rw[if_neg k52,if_neg k52];by_cases k53:e.Kind=53
 ·rw[if_pos k53,if_pos k53];try rfl
 rw[if_neg k53,if_neg k53];by_cases k54:e.Kind=54
 ·rw[if_pos k54,if_pos k54];try rfl
 rw[if_neg k54,if_neg k54];by_cases k55:e.Kind=55
 ·rw[if_pos k55,if_pos k55];try rfl
 rw[if_neg k55,if_neg k55];by_cases k56:e.Kind=56
 ·rw[if_pos k56,if_pos k56];try rfl
 rw[if_neg k56,if_neg k56];by_cases k57:e.Kind=57
 ·rw[if_pos k57,if_pos k57];try rfl
 rw[if_neg k57,if_neg k57];by_cases k58:e.Kind=58
 ·rw[if_pos k58,if_pos k58];try rfl
 rw[if_neg k58,if_neg k58];by_cases k59:e.Kind=59
 ·rw[if_pos k59,if_pos k59];try rfl
 grind
theorem TA{u m rg e}(h:gK u m rg e=0):okB e=true/\u.Changed<=e.Day/\e.Day<=1048575/\rE u m rg e=0:=by
 grind [gK]
theorem TT{u m rg e}(hr:aY u)(h:gK u m rg e=0):aY (IY u e):=by
 obtain⟨_,h1,h2,h3⟩:=TA h;unfold IY;rw[SF];exact WX (m:=m) (rg:=rg) (TU hr h1 h2) rfl (by grind [SG])
theorem Xn{s}(h:jP s=true):s.size<=64:=by
 grind [jP]
theorem ZH{p}(h:bL p=0){i}(hi:i<p.ns):(p.gs i).np<=p.np:=by
 obtain⟨⟨_,hp,_⟩,_,hs⟩:=kT.1 h;have h1:=(IW.1 hs).2 i hi;unfold kK at h1;split at h1
 ·cases h1
 ·split at h1
  ·cases h1
  ·split at h1
   ·cases h1
   ·rename_i h2;have ha:fZ (p.gs i).ps (p.gs i).np=true:=ai;have ha:=(pW _ _).1 ha;unfold DH at h1;rw[eX] at h1;have hf: ∀q,q<(p.gs i).np->∃j,j<p.np/\(p.gp j).ID=(p.gs i).ps q:=fun q hq=>by
     grind [x0]
    have hasc: ∀j,j<p.np->0<j->(p.gp (j-1)).ID<(p.gp j).ID:=fun j hj=>(Es.1 ((CP.1 hp).2 j hj)).2;have key: ∀q,q<(p.gs i).np->∀j,j<p.np->(p.gp j).ID=(p.gs i).ps q->q<=j:=by
     intro q;induction q with
     |zero=>grind
     |succ q ih=>
      intro hq j hj he;obtain⟨k,hk,hke⟩:=hf q aa;have h5:=ih aa k hk hke;have h6:=ha (q+1) aa hq;rw[Nat.add_sub_cancel] at h6;have: ¬j<=k:=fun h7=>by
       rcases Nat.lt_or_eq_of_le h7 with h8|h8
       ·have:=lr (f:=dF.ID) hasc h8 hk;omega
       grind
      omega
    by_cases h0:(p.gs i).np=0
    ·omega
    ·obtain⟨j,hj,he⟩:=hf ((p.gs i).np-1) aa;have:=key _ aa j hj he;omega
theorem SY{x}(h:eK x=0):x.nu<=60/\x.nb<=60:=by
 have hr:=lD h;obtain⟨_,a2,a3,_⟩:=sU.1 h;have hn:=hr.n2;have hn:x.nu<=60:=aa;refine⟨hn,?_⟩;by_cases h0:x.nb=0
 ·omega
 ·unfold zR at a3;simp only[Bool.and_eq_false_iff,decide_eq_false_iff_not,Bool.not_eq_false'] at a3;have hs:=(rQ _ _ _ _).1 (a3.resolve_left aa);have ha:=(pW _ _).1 a2.2;have hl:=sO x x.Round;have key: ∀(L:List Int) (n:Nat) (g:Nat->Int),(∀i,i<n->g i∈L)->(∀i j,i<j->j<n->g i≠g j)->n<=L.length:=by
   intro L;induction L with
   |nil=>
    grind
   |cons y L ih=>
    intro n g hm hd;by_cases hy: ∃i,i<n/\g i=y
    ·obtain⟨i,hi,hiy⟩:=hy;have hsk: ∀q,skip i q=if q<i then q else q+1:=fun _=>rfl
     have:=ih (n-1) (fun q=>g (skip i q)) (fun q hq=>by
      grind) (fun a b hab hb=>hd _ _ ai ai)
     grind
    ·have:=ih n g (fun q hq=>(List.mem_cons.1 (hm q hq)).resolve_left fun h1=>hy ⟨q,hq,h1⟩) hd;grind
  have hb:=key (de x x.Round) x.nb x.b (fun i hi=>by
   grind [sv,EE]) (fun i j hij hj=>by
   have:=lr (f:=id) (g:=x.b) (n:=x.nb) (fun q hq h0=>ha q h0 hq) hij hj;grind)
  omega
theorem L5{u}(hr:aY u):br u/\u.P.ns<=256:=by
 have hp:=kT.1 hr.pol;have hs:=(IW.1 hp.2.2).1;have hpr:=CP.1 hp.1.2.1;have hc:=(zL.1 hp.1.1).1;have hm:=(xx.1 hp.1.2.2.2).1;have hag:u.P.na<=64:=by
  grind [dA]
 have hbx:=e9 hr.box;have hsh:u.nf<=32:=by
  have:=hr.KX;grind [dp]
 have hmv:=CU hr.JO;have hrq:=(qi.1 hr.req).1;have hbk:u.nk<=1024:=by
  have:=hr.OQ;grind [dM]
 have hnt:=hr.nt;have hnl:=hr.nl;have hnw:=hr.nw;refine⟨⟨⟨aa,aa,aa,aa,aa,fun i hi=>by have:=ZH hr.pol hi;omega,fun i hi=> ?_⟩,aa,fun i hi=>by have:=(jX (hbx.2 i hi)).2.1;omega,aa,aa,aa,aa,aa,fun i hi=>by have:=SY (hr.uh i hi).1;omega,fun i hi=>by have:=SY (hr.uh i hi).1;omega,aa,aa⟩,hs⟩;grind [Es,fk,Xn]
theorem L4{u m e}(hr:aY u)(hm:m<=30)(he:jT e=true):s8 u m e:=by
 obtain⟨h1,h2⟩:=L5 hr;unfold jT qe at he;simp only[Bool.and_eq_true,List.all_eq_true,decide_eq_true_eq] at he;exact⟨h1,aa,aa,aa,fun i hi=>by have:=he.2 _ (List.mem_map.2 ⟨i,ai,rfl⟩);omega,aa⟩
end Go.Proofs.YthpplckmbbachaaGreatDoor
