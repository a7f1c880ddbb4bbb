/- Lemmas, no conditions. -/
import Derived.Test.YthpplckmbbachaaGreatDoorKB36
import Derived.Test.YthpplckmbbachaaGreatDoorKB38
set_option linter.unusedVariables false
set_option linter.unusedSimpArgs false
set_option maxHeartbeats 1000000
set_option maxRecDepth 100000
namespace Go.Proofs.YthpplckmbbachaaGreatDoor
open Go.aI Go.bI
theorem ZQ{n g}(h:dp n g=0): ∀i,i<n->0<i->(g (i-1)).ID<(g i).ID:=fun i hi h0=>by
 unfold dp at h;split at h
 ·cases h
 ·have:=eX.1 h i hi;unfold oN at this;split at this
  ·cases this
  ·split at this
   ·cases this
   ·omega
theorem WO{n g}(h:dp n g=0){f}(hf:f<n):ky n g (g f).ID=(f:Int):=
 Nw hf an fun j hj=>by
  have:=lr (f:=l4.ID) (ZQ h) hj hf;grind
theorem ZP{n g}(h:dp n g=0){i}(hi:i<n):1<=(g i).Length:=by
 grind [oN,dp,eX,xb,bO]
def aee(u:Use)(f:Nat):Prop:=(∀i,i<u.nb->aM u (u.gb i).ID=⟨1,(u.gf f).ID⟩->(u.gb i).bH=(u.gf f).bH)/\cu u (u.gf f).ID u.nb<=(u.gf f).Length
def Vy(u:Use):Prop:= ∀f,f<u.nf->aee u f
theorem DB{u s} : ∀{n},(∀i,i<n->aM u (u.gb i).ID≠⟨1,s⟩)->cu u s n=0
 |0,_=>rfl
 |n+1,h=>by rw[cu,if_neg (h n aa),DB fun i hi=>h i aa];rfl
theorem Rv{u}(hs:dp u.nf u.gf=0)(hk: ∀i,i<u.nb->(aM u (u.gb i).ID).Kind=1->0<=ky u.nf u.gf (aM u (u.gb i).ID).Of):Vy u↔Td u:=by
 have key: ∀i,i<u.nb->(aM u (u.gb i).ID).Kind=1->∃f,f<u.nf/\aM u (u.gb i).ID=⟨1,(u.gf f).ID⟩/\rq u (aM u (u.gb i).ID).Of=u.gf f:=by
  intro i hi h1;obtain⟨h2,h3⟩:=DT (hk i hi h1);refine⟨_,h2,?_,rfl⟩;rcases h4:aM u (u.gb i).ID with⟨a,b⟩;grind
 have self: ∀f,f<u.nf->rq u (u.gf f).ID=u.gf f:=by
  grind [rq,WO]
 constructor
 ·intro H;refine⟨fun i hi h1=> ?_,fun i hi h1=> ?_⟩
  ·obtain⟨f,hf,h2,h3⟩:=key i hi h1;rw[h3];exact((H f hf).1 i hi h2).symm
  ·obtain⟨f,hf,h2,h3⟩:=key i hi h1;rw[h3,h2];exact(H f hf).2
 ·intro H f hf;refine⟨fun i hi h1=> ?_,?_⟩
  ·have:=H.cli i hi (by rw[h1]);grind
  ·by_cases h1: ∃i,i<u.nb/\aM u (u.gb i).ID=⟨1,(u.gf f).ID⟩
   ·obtain⟨i,hi,h2⟩:=h1;have:=H.sum i hi (by rw[h2]);grind
   grind [DB,ZP]
structure VA(u:Use):Prop where
 req: ∀i,i<u.nr->(u.gr i).Changed<=u.Changed/\((u.gr i).State=2->aM u (u.gr i).Box=⟨3,(u.gr i).Reader⟩)
 box: ∀i,i<u.nb->(aM u (u.gb i).ID).Kind=3->∃j,j<u.nr/\(u.gr j).State=2/\(u.gr j).Box=(u.gb i).ID/\(u.gr j).Reader=(aM u (u.gb i).ID).Of
theorem R3{u} :VA u↔Tb u:=by
 constructor
 ·rintro⟨h1,h2⟩;refine⟨fun i hi=>(h1 i hi).1,fun i hi=>(h1 i hi).2,fun i hi h=> ?_⟩;grind
 ·rintro⟨h1,h2,h3⟩;refine⟨fun i hi=>⟨h1 i hi,h2 i hi⟩,fun i hi h=> ?_⟩;grind
structure VG(u:Use):Prop where
 uh: ∀i,i<u.nt->KW u i
 shw: ∀i,i<u.nw->G7 u i
 nt:u.nt<=64
 HN: ∀i,i<u.nl->Q6 u i
 nl:u.nl<=1024
 nw:u.nw<=1024
structure ahj(u:Use):Prop where
 day:gD u.Changed 0 1048575=true
 pol:bL u.P=0
 box:bW u.nb u.gb=0
 KX:dp u.nf u.gf=0
 JO:bX u.nv u.gv=0
 req:cr u.nr u.gr=0
 OQ:dM u.gq u.nk u.gk=0
 uh:VG u
 Gb: ∀q,q<u.nv->oi u (u.gv q)=false
 std:Vy u
 mQ:VA u
theorem RK{u} :ahj u↔aY u:=by
 constructor
 ·intro h;have hk: ∀i,i<u.nb->(aM u (u.gb i).ID).Kind=1->0<=ky u.nf u.gf (aM u (u.gb i).ID).Of:=fun i hi h1=>mN (gS.2 h.Gb) h1;exact⟨h.pol,h.box,h.KX,h.JO,h.req,h.OQ,h.uh.uh,h.uh.HN,h.uh.shw,h.day,h.uh.nt,h.uh.nl,h.uh.nw,h.Gb,(Rv h.KX hk).1 h.std,R3.1 h.mQ⟩
 ·intro h;have hk: ∀i,i<u.nb->(aM u (u.gb i).ID).Kind=1->0<=ky u.nf u.gf (aM u (u.gb i).ID).Of:=fun i hi h1=>mN (gS.2 h.Gb) h1;exact⟨h.day,h.pol,h.box,h.KX,h.JO,h.req,h.OQ,⟨h.uh,h.shw,h.nt,h.HN,h.nl,h.nw⟩,h.Gb,(Rv h.KX hk).2 h.hld,R3.2 h.mQ⟩
theorem ad8{n g}(h:bW n g=0): ∀i,i<n->0<i->(g (i-1)).ID<(g i).ID:=fun i hi h0=>by
 unfold bW at h;split at h
 ·cases h
 ·exact(yu.1 h).Y2 i (Nat.zero_le _) aa h0
theorem Tz{u m rg e}(h:(dx u m rg e).2=0):gK u m rg e=0/\(dx u m rg e).1=IY u e:=by
 unfold dx at h⊢;split at h
 ·rename_i h1;exact absurd h h1
 ·rename_i h1;rw[if_neg h1];exact⟨Classical.byContradiction h1,rfl⟩
theorem tg{u m rg g}(hr:aY u): ∀{i},(∀q,q<i->gI m rg g u q=0)->aY (eC m rg g u i)
 |0,_=>hr
 |i+1,h=>by
  have h1:=Tz (h i aa);show aY (dx (eC m rg g u i) m rg (g i)).1
  rw[h1.2];exact TT (tg hr fun q hq=>h q aa) h1.1
theorem RA{u m rg g n}(hm:m<=30)(he: ∀i,i<n->jT (g i)=true):ck u=true->∀i,i<n->(∀q,q<i->gI m rg g u q=0)->s8 (eC m rg g u i) m (g i):=
 fun hr i hi h=>L4 (tg (jk.1 hr) h) hm (he i hi)
theorem LV{u m rg g a} : ∀k,eC m rg (fun i=>g (a+i)) (eC m rg g u a) k=eC m rg g u (a+k)
 |0=>rfl
 |k+1=>by
  rw[eC,LV k];rfl
theorem WS{u m rg g a k} :gI m rg (fun i=>g (a+i)) (eC m rg g u a) k=gI m rg g u (a+k):=by
 unfold gI;rw[LV]
theorem TQ{u m rg g a} : ∀{k i},(eu m rg g u (a+i) k).2=(eu m rg (fun i=>g (a+i)) (eC m rg g u a) i k).2/\((eu m rg g u (a+i) k).2≠0->(eu m rg g u (a+i) k).1=(eu m rg (fun i=>g (a+i)) (eC m rg g u a) i k).1+(a:Int))
 |0,i=>⟨rfl,fun h=>absurd rfl h⟩
 |k+1,i=>by
  rw[eu,eu,WS];by_cases h:gI m rg g u (a+i)≠0
  ·rw[if_pos h,if_pos h];exact⟨rfl,fun _=>Dm⟩
  ·rw[if_neg h,if_neg h];exact TQ (k:=k) (i:=i+1)
theorem DX{u m rg g} : ∀{k i},(eu m rg g u i k).2=0↔∀q,i<=q->q<i+k->gI m rg g u q=0
 |0,i=>⟨fun _ q h1 h2=>aa,fun _=>rfl⟩
 |k+1,i=>by
  rw[eu];constructor
  ·intro h;split at h
   ·rename_i h1;exact absurd h h1
   ·rename_i h1;intro q h2 h3;by_cases hq:q=i
    ·rw[hq];exact Classical.byContradiction h1
    ·exact DX.1 h q aa aa
  ·intro h;rw[if_neg (by simp[h i (Nat.le_refl _) aa])];exact DX.2 fun q h1 h2=>h q aa aa
end Go.Proofs.YthpplckmbbachaaGreatDoor
