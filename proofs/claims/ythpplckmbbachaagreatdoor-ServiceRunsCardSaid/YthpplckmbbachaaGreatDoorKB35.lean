/- Lemmas, no conditions. -/
import Derived.Test.YthpplckmbbachaaGreatDoorKB34
set_option linter.unusedSimpArgs false
set_option linter.unusedVariables false
set_option maxHeartbeats 1000000
set_option maxRecDepth 100000
namespace Go.Proofs.YthpplckmbbachaaGreatDoor
open Go.aI Go.bI
theorem fS{α p n}{g:Nat->α}(h:0<=idxFrom p (lst n g) 0): ∃i,i<n/\idxFrom p (lst n g) 0=(i:Int)/\p (g i)=true/\∀j,j<i->p (g j)=false:=by
 grind [fT,cd,qv]
theorem JU{α p n}{g:Nat->α}(h:idxFrom p (lst n g) 0<0): ∀i,i<n->p (g i)=false:=by
 grind [fT,lst]
theorem Nw{α p n}{g:Nat->α}{i}(hi:i<n)(hp:p (g i)=true)(hf: ∀j,j<i->p (g j)=false):idxFrom p (lst n g) 0=(i:Int):=by
 have h0:0<=idxFrom p (lst n g) 0:=by
  grind [JU]
 grind [fS]
theorem XP{α p n}{g h:Nat->α}(he: ∀i,i<n->p (g i)=p (h i)):idxFrom p (lst n g) 0=idxFrom p (lst n h) 0:=by
 grind [lst,Nw,fT]
theorem Sk{α p n g}{x:α}(h:0<=idxFrom p (lst n g) 0):idxFrom p (lst (n+1) (aL g n x)) 0=idxFrom p (lst n g) 0:=by
 grind [fS,Nw,aL]
theorem fy{α g n}{x:α}{q}(h:q<n):aL g n x q=g q:=if_pos h
theorem jC{α g n}{x:α} :aL g n x n=x:=if_neg (Nat.lt_irrefl n)
theorem dw{α p n}{g:Nat->α} :(lst n g).any p=true↔∃i,i<n/\p (g i)=true:=by
 grind [lst]
theorem vS{α p n}{g:Nat->α} :(lst n g).any p=false↔∀i,i<n->p (g i)=false:=by
 grind [lst]
theorem eX{e n} :aA e 0 n=0↔∀i,i<n->e i=0:=
 ⟨fun h i hi=>dc h i (Nat.zero_le _) aa,fun h=>tD fun q _ h2=>h q aa⟩
theorem HK{g}(x): ∀{k i s},(cX g i s k).2.pl x=s.pl x\/∃q,i<=q/\q<i+k/\(g q).Box=x
 |0,i,s=> .inl rfl
 |k+1,i,s=>by
  rw[cX];split
  ·grind
  ·rename_i h0;rcases HK x (k:=k) (i:=i+1) (s:=kV s (g i)) (g:=g) with h|⟨q,h1,h2,h3⟩
   ·rw[h];unfold kV;rw[if_pos (Classical.byContradiction h0)];grind [xd]
   grind
theorem EK{g} : ∀{k i s},(cX g i s k).1=0->cX g i s (k+1)=if kh (cX g i s k).2 (g (i+k))≠0 then(kh (cX g i s k).2 (g (i+k)),(cX g i s k).2) else(0,kV (cX g i s k).2 (g (i+k)))
 |0,i,s,_=>by
  grind [cX]
 |k+1,i,s,h=>by
  rw[cX] at h⊢;split at h
  ·grind
  ·rename_i h0;rw[if_neg h0,EK h];grind [cX.eq_2]
theorem AR{g h} : ∀{k i s},(∀q,i<=q->q<i+k->g q=h q)->cX g i s k=cX h i s k
 |0,_,_,_=>rfl
 |k+1,i,s,he=>by
  rw[cX,cX,he i (Nat.le_refl _) aa,AR (k:=k) fun q h1 h2=>he q aa aa]
theorem CU{n g}(h:bX n g=0):n<=1024:=by
 grind [bX,bo]
theorem Za{n g m}(h:gh n g m=0):bX n g=0/\kh (bo n g).2 m=0/\bo (n+1) (aL g n m)=(0,kV (bo n g).2 m):=by
 grind [gh,bX,bo,AR,fy,EK,jC]
theorem JC{u}(h:bX u.nv u.gv=0)(x):aM u x=if fc x=true then(bo u.nv u.gv).2.pl x else⟨0,0⟩:=by
 grind [aM,kG]
theorem MD{u x}(h: ∀q,q<u.nv->(u.gv q).Box≠x):aM u x=⟨0,0⟩:=by
 unfold aM kG;split
 ·rfl
 ·split
  ·rfl
  ·rename_i h1 _;have hn:=CU (Classical.byContradiction h1);show(bo u.nv u.gv).2.pl x=_
   unfold bo;grind [HK,vw]
theorem T6{u x}(h:(aM u x).Kind≠0): ∃q,q<u.nv/\(u.gv q).Box=x:=by
 grind [MD]
theorem SU{u e k tp}(h:dn u e k tp=0):bX (dz u e k tp).nv (dz u e k tp).gv=0:=by
 show(bo (u.nv+1) (aL u.gv u.nv ⟨e.Day,k,aM u k,tp⟩)).1=0
 rw[(Za h).2.2]
theorem lF{u e k tp}(h:dn u e k tp=0)(x):aM (dz u e k tp) x=if x=k then tp else aM u x:=by
 obtain⟨h1,h2,h3⟩:=Za h;rw[JC (SU h),JC h1];show(if fc x=true then(bo (u.nv+1) (aL u.gv u.nv ⟨e.Day,k,aM u k,tp⟩)).2.pl x else _)=_
 rw[h3];show(if fc x=true then(kV (bo u.nv u.gv).2 ⟨e.Day,k,aM u k,tp⟩).pl x else _)=_
 unfold kV;rw[if_pos h2];show(if fc x=true then xd (bo u.nv u.gv).2.pl k tp x else _)=_
 unfold xd;by_cases hx:x=k
 ·subst hx;rw[if_pos (tu h2).2.1,if_pos rfl,if_pos rfl]
 grind
theorem HH{g} : ∀{k i s},(cX g i s k).1=0->∀q,i<=q->q<i+k->ey (g q).To=true/\ey (g q).From=true
 |0,i,s,_=>fun q h1 h2=>by omega
 |k+1,i,s,h=>by
  rw[cX] at h;split at h
  ·grind
  ·rename_i h0;intro q h1 h2;by_cases hq:q=i
   ·subst hq;have:=tu (Classical.byContradiction h0);grind
   ·exact HH h q aa aa
theorem ac5{u}(h:bX u.nv u.gv=0)(x):ey (aM u x)=true:=by
 rcases W8 u x with h1|⟨q,h1,h2⟩
 ·rw[h1];rfl
 ·rw[h2];have hn:=CU h;unfold bX bo at h;rw[if_neg aa] at h;exact(HH h q aa aa).1
def cu(u:Use)(s:Int):Nat->Int
 |0=>0
 |k+1=>cu u s k+if aM u (u.gb k).ID=⟨1,s⟩ then(u.gb k).Width else 0
def rq(u:Use)(s:Int):l4:=u.gf (ky u.nf u.gf s).toNat
structure Td(u:Use):Prop where
 cli: ∀i,i<u.nb->(aM u (u.gb i).ID).Kind=1->(rq u (aM u (u.gb i).ID).Of).bH=(u.gb i).bH
 sum: ∀i,i<u.nb->(aM u (u.gb i).ID).Kind=1->cu u (aM u (u.gb i).ID).Of u.nb<=(rq u (aM u (u.gb i).ID).Of).Length
theorem DT{n g s}(h:0<=ky n g s):(ky n g s).toNat<n/\(g (ky n g s).toNat).ID=s:=by
 grind [fS,ky]
theorem F2{n g s}(h:0<=hZ n g s):(hZ n g s).toNat<n/\(g (hZ n g s).toNat).ID=s:=by
 grind [fS,hZ]
theorem Z4{p:yK}{k o}(h1:p.Kind=k)(h2:p.Of=o):p=⟨k,o⟩:=by cases p;simp_all
theorem vC{u}(hk: ∀i,i<u.nb->(aM u (u.gb i).ID).Kind=1->0<=ky u.nf u.gf (aM u (u.gb i).ID).Of): ∀{k i f},i+k=u.nb->(∀s,f s=cu u s i)->
  (nJ u i f k=true↔∀j,i<=j->j<u.nb->(aM u (u.gb j).ID).Kind=1->cu u (aM u (u.gb j).ID).Of (j+1)<=(rq u (aM u (u.gb j).ID).Of).Length/\(rq u (aM u (u.gb j).ID).Of).bH=(u.gb j).bH)
 |0,i,f,hi,hf=>by
  grind [nJ]
 |k+1,i,f,hi,hf=>by
  rw[nJ];by_cases h1:(aM u (u.gb i).ID).Kind≠1
  ·rw[if_pos h1,vC hk aa (fun s=>by
    grind [cu])]
   grind
  ·rw[if_neg h1];have h1:(aM u (u.gb i).ID).Kind=1:=Classical.byContradiction h1;have hs:=DT (hk i aa h1);have hp:aM u (u.gb i).ID=⟨1,(aM u (u.gb i).ID).Of⟩:=Z4 h1 rfl;have hsum:cu u (aM u (u.gb i).ID).Of (i+1)=cu u (aM u (u.gb i).ID).Of i+(u.gb i).Width:=by grind [cu]
   rw[hs.2,hf];by_cases h5:(u.gf (ky u.nf u.gf (aM u (u.gb i).ID).Of).toNat).Length<cu u (aM u (u.gb i).ID).Of i+(u.gb i).Width\/(u.gf (ky u.nf u.gf (aM u (u.gb i).ID).Of).toNat).bH≠(u.gb i).bH
   ·grind [rq]
   ·rw[if_neg h5,vC hk aa (fun s=>by
     grind [xe,cu])]
    grind [rq]
theorem PC{u s n}(hw: ∀i,i<n->0<=(u.gb i).Width): ∀{a b},a<=b->b<=n->cu u s a<=cu u s b:=by
 intro a b hab;induction b<;>grind [cu]
theorem NL{u}(hk: ∀i,i<u.nb->(aM u (u.gb i).ID).Kind=1->0<=ky u.nf u.gf (aM u (u.gb i).ID).Of)(hw: ∀i,i<u.nb->0<=(u.gb i).Width):pC u=true↔Td u:=by
 unfold pC;rw[vC hk (f:=fun _=>0) (Nat.zero_add _) (fun s=>rfl)];constructor
 ·intro H;refine⟨fun i hi h1=>(H i (Nat.zero_le _) hi h1).2,?_⟩;have key: ∀k,k<=u.nb->∀i,i<k->(aM u (u.gb i).ID).Kind=1->cu u (aM u (u.gb i).ID).Of k<=(rq u (aM u (u.gb i).ID).Of).Length:=by
   intro k;induction k<;>grind [cu]
  grind
 ·intro H j _ h2 h3;refine⟨Int.le_trans (PC hw aa (Nat.le_refl _)) (H.sum j h2 h3),H.cli j h2 h3⟩
theorem ss(u x): ∀n,Key.i x∈(dO u n).1↔∃i,i<n/\(u.gr i).State=2/\(u.gr i).Box=x
 |0=>by simp[dO]
 |n+1=>by
  rw[dO];split
  ·rename_i h;rw[eV,ss u x n];grind
  ·rename_i h;rw[ss u x n];grind
theorem Ez(u){i} : ∀{n},i<n->(u.gr i).State=2->(∀j,j<n->(u.gr j).State=2->(u.gr j).Box=(u.gr i).Box->j=i)->(dO u n).2 (u.gr i).Box=(u.gr i).Reader
 |0,h,_,_=>by omega
 |n+1,h,hs,hu=>by
  rw[dO];split
  ·rename_i h1;show xe (dO u n).2 (u.gr n).Box (u.gr n).Reader (u.gr i).Box=_
   unfold xe;split
   ·grind
   ·rename_i h2;have hi:i≠n:=fun e=>h2 (by rw[e]);exact Ez u aa hs fun j hj=>hu j aa
  ·rename_i h1;have hi:i≠n:=fun e=>h1 ai;exact Ez u aa hs fun j hj=>hu j aa
structure Tb(u:Use):Prop where
 day: ∀i,i<u.nr->(u.gr i).Changed<=u.Changed
 out: ∀i,i<u.nr->(u.gr i).State=2->aM u (u.gr i).Box=⟨3,(u.gr i).Reader⟩
 box: ∀i,i<u.nb->(aM u (u.gb i).ID).Kind=3->∃j,j<u.nr/\(u.gr j).State=2/\(u.gr j).Box=(u.gb i).ID
theorem I8{n g}(h:cr n g=0):n<=256/\∀i,i<n->iD g i=0:=by
 grind [cr,eX]
theorem kR{g i} :iD g i=0↔lx (g i)=true/\(0<i->(g (i-1)).ID<(g i).ID/\(g (i-1)).Day<=(g i).Day)/\((g i).State=2->∀j,j<i->(g j).State=2->(g j).Box≠(g i).Box)/\(gB (g i)=true->∀j,j<i->gB (g j)=true->(g j).Reader=(g i).Reader->(g j).Unit≠(g i).Unit):=by
 grind [iD,uX,Oq,py,dw,x7]
theorem Ng{n g}(h:cr n g=0){i j}(hi:i<n)(hj:j<n)(h1:(g i).State=2)(h2:(g j).State=2)(h3:(g i).Box=(g j).Box):i=j:=by
 have ha:=(I8 h).2;grind [kR]
theorem No{u}(hr:cr u.nr u.gr=0)(hm:bX u.nv u.gv=0):Tc u↔Tb u:=by
 have hg: ∀i,i<u.nr->(u.gr i).State=2->(dO u u.nr).2 (u.gr i).Box=(u.gr i).Reader:=fun i hi h=>Ez u hi h fun j hj h1 h2=>Ng hr hj hi h1 h h2;constructor
 ·rintro⟨h1,h2,h3⟩;refine⟨h1,fun i hi h=> ?_,fun i hi h=> ?_⟩
  ·grind [ss]
  ·apply Classical.byContradiction;intro h4;have h5:(dO u u.nr).2 (u.gb i).ID=0:=xE u _ _ fun h6=>h4 ((ss u _ _).1 h6);have h6:=h3 i hi h;rw[h5] at h6;have h7:=ac5 hm (u.gb i).ID;unfold ey at h7;rw[if_neg aa,if_pos aa,←h6] at h7;cases h7
 ·rintro⟨h1,h2,h3⟩;refine⟨h1,fun x hx=> ?_,fun i hi h=> ?_⟩;all_goals grind [ss]
structure aY(u:Use):Prop where
 pol:bL u.P=0
 box:bW u.nb u.gb=0
 KX:dp u.nf u.gf=0
 JO:bX u.nv u.gv=0
 req:cr u.nr u.gr=0
 OQ:dM u.gq u.nk u.gk=0
 uh: ∀i,i<u.nt->KW u i
 HN: ∀i,i<u.nl->Q6 u i
 shw: ∀i,i<u.nw->G7 u i
 day:gD u.Changed 0 1048575=true
 nt:u.nt<=64
 nl:u.nl<=1024
 nw:u.nw<=1024
 Gb: ∀q,q<u.nv->oi u (u.gv q)=false
 hld:Td u
 mQ:Tb u
theorem gS{u} :eI u=true↔∀q,q<u.nv->oi u (u.gv q)=false:=by
 grind [eI,vS]
theorem FM{n g}(h:bW n g=0){i}(hi:i<n):0<=(g i).Width:=by
 have:=(jX ((e9 h).2 i hi)).1;grind [rz,bO]
theorem jk{u} :ck u=true↔aY u:=by
 unfold ck;simp only[Bool.and_eq_true];constructor
 ·rintro⟨⟨⟨h1,h2⟩,h3⟩,h4⟩;have hp:=iW.1 h1;have hb:bW u.nb u.gb=0:=hp.chk 1 aa;have hm:bX u.nv u.gv=0:=hp.chk 3 aa;have hr:cr u.nr u.gr=0:=hp.chk 4 aa;exact⟨hp.chk 0 aa,hb,hp.chk 2 aa,hm,hr,hp.chk 5 aa,hp.uh,hp.HN,hp.shw,hp.day,hp.nt,hp.nl,hp.nw,gS.1 h2,(NL (fun i hi h=>mN h2 h) fun i hi=>FM hb hi).1 h3,(No hr hm).1 (sA.1 h4)⟩
 ·intro h;have h2:=gS.2 h.Gb;refine⟨⟨⟨iW.2 ⟨fun i hi=> ?_,h.uh,h.HN,h.shw,h.day,h.nt,h.nl,h.nw⟩,h2⟩,(NL (fun i hi h=>mN h2 h) fun i hi=>FM h.box hi).2 h.hld⟩,sA.2 ((No h.req h.JO).2 h.mQ)⟩;have:i=0\/i=1\/i=2\/i=3\/i=4\/i=5:=aa;rcases this with rfl|rfl|rfl|rfl|rfl|rfl
  ·exact h.pol
  ·exact h.box
  ·exact h.KX
  ·exact h.JO
  ·exact h.req
  ·exact h.OQ
end Go.Proofs.YthpplckmbbachaaGreatDoor
