/- Lemmas, no conditions. -/
import Derived.Test.YthpplckmbbachaaGreatDoorKB46
set_option linter.unusedVariables false
set_option linter.unusedSimpArgs false
set_option maxHeartbeats 8000000
set_option maxRecDepth 100000
namespace Go.Proofs.YthpplckmbbachaaGreatDoor
open Go.aI Go.bI Go.Proofs.Tryz
theorem YF{u}(h:br u)(d):br { u with Changed:=d } :=by cases h;constructor<;>assumption
theorem XC{e}(h:okB e=true):40<=e.Kind/\e.Kind<=59:=by
 have h1:=ab4 h;unfold okS at h1;simp only[Bool.and_eq_true,decide_eq_true_eq] at h1;exact xS.1 (by first|exact h1.1.1|exact h1.1.1.1|exact h1.1)
theorem adV{u m rg e}(h:40<=e.Kind)(h2:e.Kind<48):nO u e=rE u m rg e/\(nO u e=0->oj u e=Fo u e):=by
 have hc:e.Kind=40\/e.Kind=41\/e.Kind=42\/e.Kind=43\/e.Kind=44\/e.Kind=45\/e.Kind=46\/e.Kind=47:=aa;unfold nO oj rE Fo;rcases hc with h|h|h|h|h|h|h|h<;>simp[h]<;>grind [SR,SJ,S8,RO,pgX,Zt]
theorem acV{u m rg e}(h:48<=e.Kind)(h2:e.Kind<53):rS u e=rE u m rg e/\(rS u e=0->tO u e=Fo u e):=by
 have hc:e.Kind=48\/e.Kind=49\/e.Kind=50\/e.Kind=51\/e.Kind=52:=aa;have:=Xp u e;unfold rS tO rE Fo;rcases hc with h|h|h|h|h
 ·simp[h]
 ·simp[h];grind [PV,puX,W1]
 ·simp[h];grind [Hm,taX,Zo]
 ·simp[h]
 ·simp[h];intro h0;unfold YG;by_cases h1:vH u e≠0
  ·rw[if_pos h1] at this;exact absurd (this.symm.trans h0) h1
  ·rw[if_neg h1] at this;rw[if_neg h1,if_pos (this.symm.trans h0)];rfl
theorem acR{u m rg e}(h:53<=e.Kind)(h2:e.Kind<57):Po u m rg e=rE u m rg e/\(Po u m rg e=0->Rj u m rg e=Fo u e):=by
 have hc:e.Kind=53\/e.Kind=54\/e.Kind=55\/e.Kind=56:=aa;unfold Po Rj rE Fo;rcases hc with h|h|h|h<;>simp only[h]<;>simp<;>grind [Ge,akX,Zd,ml,gT,vW,x3,VP,VO,edD,dz,qI,QM,boX,YR]
theorem ad1{u m rg e}(h:57<=e.Kind)(h2:e.Kind<=59):vG u e=rE u m rg e/\(vG u e=0->ud u e=Fo u e):=by
 have hc:e.Kind=57\/e.Kind=58\/e.Kind=59:=aa;unfold vG ud rE Fo;rcases hc with h|h|h<;>simp[h]<;>grind [Pb,LS,Cs]
theorem uz(σ u c m rg e)(hu:s8 u m e)(h0:σ[0]? =some (.tab 0 dG)):ak prog 12 [.agg (u.cells u.aX),.d (SL c 3 Row.enc m rg),.agg (e.enc.map .d)] σ (.cj [.agg ((ir u m rg e).1.cells (ir u m rg e).1.aX),.d (I (ir u m rg e).2)]):=by
 have g1:=hu.nn;have g2:=hu.nt;refine ak.be func12 fun hwf=> ?_;refine wE ?_;refine aq ?_;refine wV fun K hK=> ?_;refine az.mk (r8 _ u hu.use (ay h0)) ?_;simp[go_sem];refine cE.mk' (.d (I (bC m rg))) (fun _=>lA _ c m rg hu.m) ?_;simp[go_sem];refine cE.mk' (.d (B (okB e))) (fun _=>D4 _ e aa aa) ?_;refine wD hK ?_;refine gF [1,3,5,6,22] ?_;refine fL ?_ ?_<;>intro c0 d0
 ·have hr:ir u m rg e=(en,1):=by
   unfold ir;split
   ·rfl
   ·rename_i h;have hok:okB e=false:=by cases hk:okB e with
     |false=>rfl
     |true=>exfalso;cases h2:ck u<;>simp_all
    unfold dx gK;rw[if_pos hok,if_pos aH]
  refine aj fun K hK=> ?_;simp[go_sem,c0];refine hK _ ?_;refine af ?_;rw[hr];simp[go_sem,en,bw,Go.aI.aK]
 ·have hg:ck u=true/\bC m rg=0/\okB e=true:=by cases h:ck u<;>cases h2:okB e<;>simp_all
  have hR:=jk.1 hg.1;have hS:ir u m rg e=dx u m rg e:=if_neg (by rintro(h|h);rw[hg.1] at h;cases h;exact h hg.2.1);have hq0: ¬okB e=false:=by rw[hg.2.2];decide
  have hkd:=XC hg.2.2;refine aJ ?_;refine aq ?_;refine aj fun K hK=> ?_;simp[go_sem,d0];refine hK _ ?_;refine gF [1,3,5,6,28] ?_;refine fL ?_ ?_<;>intro c1 d1
  ·have hz:gK u m rg e=5:=by unfold gK;rw[if_neg hq0,if_pos aa]
   have hr:ir u m rg e=(en,5):=by rw[hS];unfold dx;rw[hz,if_pos aH]
   refine aj fun K hK=> ?_;simp[go_sem,d1];refine hK _ ?_;refine af ?_;rw[hr];simp[go_sem,en,bw,Go.aI.aK]
  ·refine aJ ?_;refine aq ?_;refine aj fun K hK=> ?_;simp[go_sem,c1];refine hK _ ?_;refine gF [1,3,5,6,32] ?_;refine fL ?_ ?_<;>intro c2 d2
   ·have hz:gK u m rg e=2:=by unfold gK;rw[if_neg hq0,if_neg aa,if_pos aa]
    have hr:ir u m rg e=(en,2):=by rw[hS];unfold dx;rw[hz,if_pos aH]
    refine aj fun K hK=> ?_;simp[go_sem,d2];refine hK _ ?_;refine af ?_;rw[hr];simp[go_sem,en,bw,Go.aI.aK]
   ·have hz:gK u m rg e=rE { u with Changed:=e.Day } m rg e:=by unfold gK;rw[if_neg hq0,if_neg aa,if_neg aa];exact(SG u m rg e e.Day).symm
    have hu1:=YF hu.use e.Day;have hbad:rE { u with Changed:=e.Day } m rg e≠0->ir u m rg e=(en,rE { u with Changed:=e.Day } m rg e):=fun h=>by rw[hS];unfold dx;rw[hz,if_pos h]
    have hgood:rE { u with Changed:=e.Day } m rg e=0->ir u m rg e=(Fo { u with Changed:=e.Day } e,0):=fun h=>by rw[hS];unfold dx;rw[hz,if_neg (fun h1=>h1 h)];unfold IY;rw[SF]
    refine aJ ?_;refine aj fun K hK=> ?_;simp[go_sem,c2];have h:=D9 (σ++[.var (u.cells u.aX),.var (e.enc.map .d),.var zU]) u hu.use;simp[go_sem,Use.own,Use.blks,Nat.add_assoc] at h;refine az.gen h ?_;rintro r σ' X ⟨rfl,rfl,rfl⟩;refine wD hK ?_;refine lY (σ.length+3) AD Hg ?_;refine lY (σ.length+4) AD Hg ?_;refine wE ?_;refine wE ?_;refine aq ?_;refine wE ?_;refine gF [1,5,6,8,41] ?_;refine fL ?_ ?_<;>intro c3 d3
    ·have hp:=adV (u:= { u with Changed:=e.Day }) (m:=m) (rg:=rg) hkd.1 aa;refine aF hwf (σ.length+9) ?_;refine aF hwf (σ.length+10) ?_;refine aF hwf (σ.length+11) ?_;refine aF hwf (σ.length+12) ?_;refine aE fun K hK=> ?_;simp[go_sem,d3];have h:=za (σ++[.var (u.cells u.aX),.var (e.enc.map .d),.var zU,.dead,.dead,.dead]) { u with Changed:=e.Day } e hu1 hu.ns hR.pol hg.2.2 hu.nn hu.tx (Dp hwf (by intro x hx X;simp only[List.mem_cons,List.not_mem_nil,or_false] at hx;rcases hx with rfl|rfl|rfl|rfl|rfl|rfl<;>simp[go_sem]));simp[go_sem,Nat.add_assoc] at h;refine az.gen (CS.hide (σ.length+13) AA AA h) ?_;rintro r σ' X ⟨rfl,rfl,rfl⟩;refine wD hK ?_;refine aq ?_;refine wE ?_;refine gF [6,8,9,74] ?_;refine fL ?_ ?_<;>intro c4 d4
     ·have hk:rE { u with Changed:=e.Day } m rg e≠0:=by rw[←hp.1];simpa using d4
      refine aj fun K hK=> ?_;simp[go_sem,c4];refine hK _ ?_;refine af ?_;rw[hbad hk,←hp.1];simp[go_sem,en,bw,Go.aI.aK]
     ·have hk:nO { u with Changed:=e.Day } e=0:=uo;have hk2:=hgood (by rw[←hp.1];exact hk);rw[←hp.2 hk] at hk2;refine aJ ?_;refine aj fun K hK=> ?_;simp[go_sem,d4];refine hK _ ?_;exact sy hk2
    ·have ag1:48<=e.Kind:=aa;refine aj fun K hK=> ?_;simp[go_sem,c3];refine hK _ ?_;refine gF [1,5,6,8,50] ?_;refine fL ?_ ?_<;>intro c5 d5
     ·have hp:=acV (u:= { u with Changed:=e.Day }) (m:=m) (rg:=rg) ag1 aa;refine aF hwf (σ.length+6) ?_;refine aF hwf (σ.length+7) ?_;refine aF hwf (σ.length+8) ?_;refine aF hwf (σ.length+11) ?_;refine aF hwf (σ.length+12) ?_;refine aE fun K hK=> ?_;simp[go_sem,d5];have h:=BU (σ++[.var (u.cells u.aX),.var (e.enc.map .d),.var zU,.dead,.dead,.dead,.dead,.dead,.dead]) { u with Changed:=e.Day } e hu1 hR.JO hg.2.2 hu.nn (Dp hwf (by intro x hx X;simp only[List.mem_cons,List.not_mem_nil,or_false] at hx;rcases hx with rfl|rfl|rfl|rfl|rfl|rfl|rfl|rfl|rfl<;>simp[go_sem]));simp[go_sem,Nat.add_assoc] at h;refine az.gen (CS.hide (σ.length+13) AA AA h) ?_;rintro r σ' X ⟨rfl,rfl,rfl⟩;refine wD hK ?_;refine aq ?_;refine wE ?_;refine gF [6,8,9,74] ?_;refine fL ?_ ?_<;>intro c6 d6
      ·have hk:rE { u with Changed:=e.Day } m rg e≠0:=by rw[←hp.1];simpa using d6
       refine aj fun K hK=> ?_;simp[go_sem,c6];refine hK _ ?_;refine af ?_;rw[hbad hk,←hp.1];simp[go_sem,en,bw,Go.aI.aK]
      ·have hk:rS { u with Changed:=e.Day } e=0:=vX;have hk2:=hgood (by rw[←hp.1];exact hk);rw[←hp.2 hk] at hk2;refine aJ ?_;refine aj fun K hK=> ?_;simp[go_sem,d6];refine hK _ ?_;exact sy hk2
     ·have ag0:53<=e.Kind:=aa;refine aj fun K hK=> ?_;simp[go_sem,c5];refine hK _ ?_;refine gF [1,5,6,8,59] ?_;refine fL ?_ ?_<;>intro c7 d7
      ·have hp:=acR (u:= { u with Changed:=e.Day }) (m:=m) (rg:=rg) ag0 aa;refine aF hwf (σ.length+6) ?_;refine aF hwf (σ.length+7) ?_;refine aF hwf (σ.length+8) ?_;refine aF hwf (σ.length+9) ?_;refine aF hwf (σ.length+10) ?_;refine aF hwf (σ.length+11) ?_;refine aE fun K hK=> ?_;simp[go_sem,d7];have h:=Gs (σ++[.var (u.cells u.aX),.var (e.enc.map .d),.var zU,.dead,.dead,.dead,.dead,.dead,.dead,.dead,.dead,.dead]) { u with Changed:=e.Day } c m rg e hu1 hR.JO hu.m rfl hg.2.2 (Dp hwf (by intro x hx X;simp only[List.mem_cons,List.not_mem_nil,or_false] at hx;rcases hx with rfl|rfl|rfl|rfl|rfl|rfl|rfl|rfl|rfl|rfl|rfl|rfl<;>simp[go_sem]));simp[go_sem] at h;refine az.gen (CS.hide (σ.length+13) AA AA h) ?_;rintro r σ' X ⟨rfl,rfl,rfl⟩;refine wD hK ?_;refine aq ?_;refine wE ?_;refine gF [6,8,9,74] ?_;refine fL ?_ ?_<;>intro c8 d8
       ·have hk:rE { u with Changed:=e.Day } m rg e≠0:=by rw[←hp.1];simpa using d8
        refine aj fun K hK=> ?_;simp[go_sem,c8];refine hK _ ?_;refine af ?_;rw[hbad hk,←hp.1];simp[go_sem,en,bw,Go.aI.aK]
       ·have hk:Po { u with Changed:=e.Day } m rg e=0:=by simpa using d8
        have hk2:=hgood (by rw[←hp.1];exact hk);rw[←hp.2 hk] at hk2;refine aJ ?_;refine aj fun K hK=> ?_;simp[go_sem,d8];refine hK _ ?_;exact sy hk2
      ·have hp:=ad1 (u:= { u with Changed:=e.Day }) (m:=m) (rg:=rg) (show 57<=e.Kind by omega) hkd.2;refine aF hwf (σ.length+6) ?_;refine aF hwf (σ.length+7) ?_;refine aF hwf (σ.length+8) ?_;refine aF hwf (σ.length+9) ?_;refine aF hwf (σ.length+10) ?_;refine aF hwf (σ.length+12) ?_;refine aE fun K hK=> ?_;simp[go_sem,c7];have h:=vf (σ++[.var (u.cells u.aX),.var (e.enc.map .d),.var zU,.dead,.dead,.dead,.dead,.dead,.dead,.dead,.dead]) { u with Changed:=e.Day } e hu1 hR.uh hR.nt hg.2.2 aa hu.nn (ay h0) (Dp hwf (by intro x hx X;simp only[List.mem_cons,List.not_mem_nil,or_false] at hx;rcases hx with rfl|rfl|rfl|rfl|rfl|rfl|rfl|rfl|rfl|rfl|rfl<;>simp[go_sem]));simp[go_sem] at h;refine az.gen (CS.hide (σ.length+13) AA AA h) ?_;rintro r σ' X ⟨rfl,rfl,rfl⟩;refine wD hK ?_;refine aq ?_;refine wE ?_;refine gF [6,8,9,74] ?_;refine fL ?_ ?_<;>intro c9 d9
       ·have hk:rE { u with Changed:=e.Day } m rg e≠0:=by rw[←hp.1];simpa using d9
        refine aj fun K hK=> ?_;simp[go_sem,c9];refine hK _ ?_;refine af ?_;rw[hbad hk,←hp.1];simp[go_sem,en,bw,Go.aI.aK]
       ·have hk:vG { u with Changed:=e.Day } e=0:=by simpa using d9
        have hk2:=hgood (by rw[←hp.1];exact hk);rw[←hp.2 hk] at hk2;refine aJ ?_;refine aj fun K hK=> ?_;simp[go_sem,d9];refine hK _ ?_;exact sy hk2
theorem ZJ{u m rg e}(h:(ir u m rg e).2≠0):(ir u m rg e).1=en:=by
 unfold ir dx at*;split
 ·rfl
 ·rename_i h1;rw[if_neg h1] at h;split
  ·rfl
  ·rename_i h2;rw[if_neg h2] at h;exact absurd rfl h
theorem Wv{u m rg e}(h:(ir u m rg e).2=0):(ir u m rg e).1=IY u e:=by
 unfold ir dx at*;split
 ·rename_i h1;rw[if_pos h1] at h;cases h
 ·rename_i h1;rw[if_neg h1] at h;split
  ·rename_i h2;rw[if_pos h2] at h;exact absurd h h2
  ·rfl
theorem J5{u m}(h:iU m u=true):br u/\u.P.ns<=30/\m<=30:=by
 unfold iU oU nY at h;simp only[Bool.and_eq_true,List.all_eq_true,decide_eq_true_eq,qj] at h;obtain⟨⟨⟨⟨⟨⟨⟨⟨⟨h1,h2⟩,h3⟩,h4⟩,h5⟩,h6⟩,h7⟩,h8⟩,h9⟩,h10⟩:=h;obtain⟨⟨⟨⟨⟨⟨p1,p2⟩,p3⟩,p4⟩,p5⟩,p6⟩,p7⟩:=h2;have hs: ∀i,i<u.P.ns->(u.P.gs i).np<=20:=fun i hi=>p1 _ (List.mem_map.2 ⟨i,uk,rfl⟩);have hb: ∀i,i<u.nb->(u.gb i).nc<=40:=fun i hi=>h3.1 _ (List.mem_map.2 ⟨i,uk,rfl⟩);have ht: ∀i,i<u.nt->(u.gt i).nu<1000000/\(u.gt i).nb<1000000:=fun i hi=>by
  have:=h1 _ (List.mem_map.2 ⟨i,uk,rfl⟩);unfold NX at this;simp at this;omega
 exact⟨⟨⟨aa,aa,aa,aa,aa,fun i hi=>by have:=hs i hi;omega,fun i hi=>by have:=p5.1 i hi;omega⟩,aa,fun i hi=>by have:=hb i hi;omega,aa,aa,aa,aa,aa,fun i hi=>by have:=ht i hi;omega,fun i hi=>by have:=ht i hi;omega,aa,aa⟩,aa,aa⟩
theorem aaF{u:Use}{m:Nat}{e:Ev}(h:iU m u=true)(he:iZ 1 (fun _=>e)=true):s8 u m e:=by
 obtain⟨h1,h2,h3⟩:=J5 h;have h4:=((nN _ _).1 he).1 0 aH;unfold jT qe at h4;simp only[Bool.and_eq_true,List.all_eq_true,decide_eq_true_eq] at h4;exact⟨h1,aa,aa,aa,fun i hi=>by have:=h4.2 _ (List.mem_map.2 ⟨i,uk,rfl⟩);omega,aa⟩
structure Sml(u:Use):Prop where
 ns:u.P.ns<=900
 nc:u.P.nc<=900
 np:u.P.np<=900
 na:u.P.na<=900
 nm:u.P.nm<=900
 ps: ∀i,i<u.P.ns->(u.P.gs i).np<=900
 nn: ∀i,i<u.P.np->(u.P.gp i).Name.size<=900
 nb:u.nb<=900
 bx: ∀i,i<u.nb->(u.gb i).nc<=900
 nf:u.nf<=900
 nv:u.nv<=900
 nr:u.nr<=900
 nk:u.nk<=900
 nt:u.nt<=900
 bu: ∀i,i<u.nt->(u.gt i).nu<=900
 bb: ∀i,i<u.nt->(u.gt i).nb<=900
 nl:u.nl<=900
 nw:u.nw<=900
theorem aaG{u m}(h:iU m u=true):Sml u:=by
 unfold iU oU nY at h;simp only[Bool.and_eq_true,List.all_eq_true,decide_eq_true_eq,qj] at h;obtain⟨⟨⟨⟨⟨⟨⟨⟨⟨h1,h2⟩,h3⟩,h4⟩,h5⟩,h6⟩,h7⟩,h8⟩,h9⟩,h10⟩:=h;obtain⟨⟨⟨⟨⟨⟨p1,p2⟩,p3⟩,p4⟩,p5⟩,p6⟩,p7⟩:=h2;have key: ∀{α:Type} {n:Nat} {g:Nat->α} {i:Nat},i<n->g i∈lst n g:=fun hi=>List.mem_map.2 ⟨_,uk,rfl⟩;have ht: ∀i,i<u.nt->(u.gt i).nu<=900/\(u.gt i).nb<=900:=fun i hi=>by
  have:=h1 _ (key hi);unfold NX at this;simp at this;omega
 constructor<;>first|omega|(intro i hi;have:=p1 _ (key hi);omega)|(intro i hi;have:=p5.1 i hi;omega)|(intro i hi;have:=h3.1 _ (key hi);omega)|exact fun i hi=>(ht i hi).1|exact fun i hi=>(ht i hi).2
theorem aak{c:Prop}[Decidable c]{a b:Use}(h1:c->br a)(h2: ¬c->br b):br (if c then a else b):=by
 split
 ·exact h1 ‹_›
 ·exact h2 ‹_›
theorem adS{u e}(h:Sml u)(hn:e.nn<=900)(htx:e.Kind=42->(e.gt 0).size<=900)(h0:e.Kind=59->0<=iK u e):br (Fo u e):=by
 obtain⟨a1,a2,a3,a4,a5,a6,a7,b1,b2,b3,b4,b5,b6,b7,b8,b9,b10,b11⟩:=h;have k1:=zS u.nb u.gb (bJ u (e.gn 0)).1.Box;have k2:=yv u e;have hP:dT u.P:=⟨aa,aa,aa,aa,aa,fun i hi=>by have:=a6 i hi;omega,fun i hi=>by have:=a7 i hi;omega⟩;have k3:=PH (u:=u) (e:=e) hP aa aa;unfold Fo;repeat' refine aak (fun hk=> ?_) (fun _=> ?_)
 all_goals(refine⟨?_,?_,?_,?_,?_,?_,?_,?_,?_,?_,?_,?_⟩;(first|exact k3|constructor))
 all_goals try simp only[VI,VR,VQ,VT,VM,Sh,VW,Zt,VJ,Pk,W1,Zo,S2,dz,Zd,KY,nF,qI,YR,VU,Rz,E6,Cl,qU]
 all_goals grind [aL,cJ,kj,cQ,nE,Gq,prNew,dS,Iv,lM,xI,dJ,DS,gy,dD,oz,fb,nD,sE,VO,Nz,dz,qI,E6]
theorem IC:br en:=by
 refine⟨⟨?_,?_,?_,?_,?_,?_,?_⟩,?_,?_,?_,?_,?_,?_,?_,?_,?_,?_,?_⟩<;>first|exact Nat.le_of_ble_eq_true rfl|exact fun i hi=>absurd hi (Nat.not_lt_zero i)
theorem ZI{u:Use}{m:Nat}{rg:Nat->Row}{e:Ev}(h:iU m u=true)(he:iZ 1 (fun _=>e)=true):br (ir u m rg e).1:=by
 by_cases h2:(ir u m rg e).2=0
 ·rw[Wv h2];have h4:=((nN _ _).1 he).1 0 aH;unfold jT qe at h4;simp only[Bool.and_eq_true,List.all_eq_true,decide_eq_true_eq] at h4;have hz:rE u m rg e=0:=by
   have h5:=h2;unfold ir dx gK at h5;grind
  have hok:okB e=true:=by
   have h5:=h2;unfold ir dx gK at h5;grind
  have hx:e.Kind=42->(e.gt 0).size<=900:=fun hk=>by
   obtain⟨q1,_⟩:=Fs hok;rw[hk] at q1;simp[cx] at q1;have:=h4.2 _ (List.mem_map.2 ⟨0,K4,rfl⟩);omega
  exact YF (adS (aaG h) aa hx fun hk=>by
   have:rE u m rg e=Cs u e:=by unfold rE;simp[hk]
   rw[this] at hz;unfold Cs at hz;grind) _
 ·rw[ZJ h2];exact IC
theorem EY(σ u m rg)(e:Ev)(hc:e.cn=none/\e.ct=none)(hu:KT u)(hm:m<=9223372036854775807)(hn:e.nn<=9223372036854775807/\e.nt<=9223372036854775807)(h0:σ[0]? =some (.tab 0 dG))(h1:σ[1]? =some (.loc 1)):ak prog 3 [.agg (u.cells u.aX),.d (SL none 3 Row.enc m rg),.agg (e.enc.map .d)] σ (.d (B true)):=by
 refine ak.be func3 fun hwf=> ?_;refine wP ?_;refine aq ?_;refine aj fun K hK=>sm ?_;refine az.mk (sF _ (ay h0) (ay h1)) (sm ?_);refine hK _ ?_;refine gF [1,3,5,12] ?_;refine acn rfl ?_ ?_<;>intro c0 d0<;>try simp at d0
 ·refine aJ ?_;refine aq ?_;refine wV fun K hK=> ?_;refine az.mk (xn _ u none m rg hu) ?_;simp[go_sem];refine cE.mk' (.d (B (iZ 1 fun _=>e))) (fun _=>ak.sub (nd _ (some 1) 1 (fun _=>e) aH (fun _ _=>hn)) ⟨⟨.inr rfl,rfl,rfl,LZ rfl⟩,trivial⟩) ?_;refine wD hK ?_;refine gF [1,3,5,22] ?_;refine fL ?_ ?_<;>intro c1 d1
  ·refine aj fun K hK=> ?_;simp[go_sem,c1];refine hK _ ?_;exact af so
  ·have hf1:iU m u=true/\iZ 1 (fun _=>e)=true:=ku;have hst:=aaF hf1.1 hf1.2;have hfu:=J5 hf1.1;have hev:e.nn<1000000000/\e.nt<1000000000:=⟨by have:=hst.nn;omega,by have:=hst.nt;omega⟩;refine aJ ?_;apply O0 15 13 14 T.mixed aD
   ·intro τ K hK;simp[go_sem,d1];refine bK.mk (uA _ u hst.use) ?_;simp[go_sem];refine bK.mk (Bs _ none m rg aa) ?_;simp[go_sem];refine bK.mk (ak.sub (AX _ (some 1) 1 (fun _=>e) aH (fun _ _=>⟨hc.1,hc.2,hev.1,hev.2⟩)) ⟨⟨.inr rfl,rfl,rfl,LZ rfl⟩,trivial⟩) ?_;simp[go_sem];refine bK.mk (om _ u none m rg e hst (ay h0) (ay h1)) ?_;simp[go_sem];exact hK _ _
   intro K hK;refine wD hK ?_;refine wV fun K hK=> ?_;refine az.mk (uz _ u none m rg e hst (ay h0)) ?_;refine wD hK ?_;refine wV fun K hK=> ?_;refine az.mk (Hq _ (ir u m rg e).1 (ZI hf1.1 hf1.2)) ?_;refine wD hK ?_;exact af so
variable (σ : List aZ)
theorem I9(u c m rg c' n g)(hu:br u)(hm:m<1000000000)(hn:n<1000000000)(hst:ck u=true->∀i,i<n->(∀q,q<i->gI m rg g u q=0)->s8 (eC m rg g u i) m (g i))(hrt:ck u=true->∀i,(∀q,q<i->gI m rg g u q=0)->ck (eC m rg g u i)=true)(h0:σ[0]? =some (.tab 0 dG)):ak prog 15 [.agg (u.cells u.aX),.d (SL c 3 Row.enc m rg),.d (SL c' 5 Ev.enc n g)] σ (.cj [.agg ((od u m rg n g).1.cells (od u m rg n g).1.aX),.d (I (od u m rg n g).2.1),.d (I (od u m rg n g).2.2)]):=by
 refine ak.be func15 fun hwf=> ?_;refine wP ?_;refine aq ?_;refine aj fun K hK=>sm ?_;refine az.mk (r8 _ u hu (ay h0)) (sm ?_);refine cE.mk' (.d (I (bC m rg))) (fun _=>lA _ c m rg hm) (sm ?_);refine hK _ ?_;refine gF [1,2,3,6,20] ?_;refine fL ?_ ?_<;>intro c0 d0
 ·have hr:od u m rg n g=(en,-1,1):=if_pos (by cases h:ck u<;>simp_all);refine aj fun K hK=> ?_;simp[go_sem,c0];refine hK _ ?_;refine af ?_;rw[hr];simp[go_sem,en,bw,Go.aI.aK]
 ·have hg:ck u=true/\bC m rg=0:=by cases h:ck u<;>simp_all
  have hq0: ¬(ck u=false\/bC m rg≠0):=by rw[hg.1];simp[hg.2]
  have hst:=hst hg.1;have hrt:=hrt hg.1;refine aJ ?_;refine aq ?_;refine aj fun K hK=> ?_;simp[go_sem,d0];refine hK _ ?_;refine aB ?_;refine ba [1,3,6,22,23,24] eE ?_;refine bB (α:=Nat) (fun i=>[(24,.d (I i))]) (fun i=>σ++[.var ((eC m rg g u i).cells (eC m rg g u i).aX),.var zU]) (fun i=>i<=n/\eu m rg g u 0 n=eu m rg g u i (n-i)/\∀q,q<i->gI m rg g u q=0) (fun i=>n-i) 0 au (rfl) an ?_;rintro i ⟨hi,hx,hq9⟩;refine wE ?_;refine aq ?_;refine gF [1,3,6,22,23,24,25] ?_;refine ko ?_ ?_<;>intro d1
  ·have hi1:i<n:=aa;have hS:ir (eC m rg g u i) m rg (g i)=dx (eC m rg g u i) m rg (g i):=if_neg (by rw[hrt i hq9];simp[hg.2]);have hrs:(dx (eC m rg g u i) m rg (g i)).1=eC m rg g u (i+1):=rfl;have hgs:=DW (m:=m) (rg:=rg) (g:=g) (u:=u) hi1;refine aJ ?_;refine aq ?_;refine aB ?_;refine aj fun K hK=> ?_;simp[go_sem,d1];refine wY hK fun K hK=> ?_;refine az.mk (uz _ (eC m rg g u i) c m rg (g i) (hst i hi1 hq9) (ay h0)) ?_;simp[go_sem,hS,hrs];refine hK _ ?_;refine aq ?_;refine wE ?_;refine gF [1,3,6,9,11,12,22,23,24,37] ?_;refine fL ?_ ?_<;>intro c2 d2
   ·have hk2:gI m rg g u i≠0:=by unfold gI;simpa using d2
    have hgo:eu m rg g u 0 n=((i:Int),gI m rg g u i):=by rw[hx,hgs,if_pos hk2]
    have hr:od u m rg n g=(en,(i:Int),gI m rg g u i):=by unfold od;rw[if_neg hq0,hgo,if_pos hk2]
    refine aj fun K hK=> ?_;simp[go_sem,c2];refine hK _ ?_;refine af ?_;rw[hr];simp[go_sem,en,bw,Go.aI.aK,gI]
   ·have hk2:gI m rg g u i=0:=by unfold gI;simpa using d2
    refine aJ ?_;refine aE fun K hK=> ?_;simp[go_sem,d2];refine hK _ ?_;refine aE fun K hK=> ?_;simp[go_sem];try simp(disch:=omega) only[aS]
    refine hK _ ?_;refine⟨i+1,bp au ((ae au)) iv,⟨aa,by rw[hx,hgs,if_neg (fun h=>h hk2)],gi hq9 hk2⟩,AF⟩
  ·obtain rfl:i=n:=by omega
   have hgo:(eu m rg g u 0 i).2=0:=by rw[hx,Nat.sub_self];rfl
   have hr:od u m rg i g=(eC m rg g u i,-1,0):=by unfold od;rw[if_neg hq0,if_neg (fun h=>h hgo)]
   refine bN ?_;refine wE ?_;exact sy hr
theorem UD{n g}(h:iZ n g=true):n<=40/\(∀i,i<n->jT (g i)=true)/\∀i,i<n->(g i).nn<1000000000/\(g i).nt<1000000000:=by
 obtain⟨h1,h2⟩:=(nN _ _).1 h;refine⟨h2,h1,fun i hi=> ?_⟩;have h3:=h1 i hi;unfold jT qe at h3;simp only[Bool.and_eq_true,decide_eq_true_eq] at h3;omega
theorem ZW{u m rg n g} :br (od u m rg n g).1:=by
 unfold od;split
 ·exact IC
 ·rename_i h;split
  ·exact IC
  ·rename_i h2;have hr:ck u=true:=by simpa using fun h3=>h (.inl h3)
   exact(L5 (tg (jk.1 hr) fun q hq=>DX.1 (Classical.byContradiction h2) q (Nat.zero_le _) aa)).1
theorem GN(u m rg n g)(hc: ∀i,i<n->(g i).cn=none/\(g i).ct=none)(hu:KT u)(hm:m<=9223372036854775807)(hnn:n<=9223372036854775807)(hn: ∀i,i<n->(g i).nn<=9223372036854775807/\(g i).nt<=9223372036854775807)(h0:σ[0]? =some (.tab 0 dG))(h1:σ[1]? =some (.loc 1)):ak prog 4 [.agg (u.cells u.aX),.d (SL none 3 Row.enc m rg),.d (SL none 5 Ev.enc n g)] σ (.d (B true)):=by
 refine ak.bt func4 ?_;refine az.mk (sF _ (ay h0) (ay h1)) (sm ?_);refine cn [1,2,3] rfl ?_ ?_<;>intro c0 d0<;>try simp at d0
 ·simp[go_sem];refine az.mk (xn _ u none m rg hu) (sm ?_);refine cE.mk' (.d (B (iZ n g))) (fun _=>nd _ none n g hnn hn) (gc [1,2,3] ?_ ?_)<;>intro d1
  ·simp[go_sem];exact af so
  ·have hf1:iU m u=true/\iZ n g=true:=by
    revert d1;cases iU m u<;>cases iZ n g<;>simp
   obtain⟨hq1,hq2⟩:=hf1;obtain⟨hus,hns,hmm⟩:=J5 hq1;obtain⟨ahy,hev,hbd⟩:=UD hq2;simp[go_sem];refine az.mk (uA _ u hus) (sm ?_);refine az.mk (Bs _ none m rg aa) (sm ?_);refine az.mk (AX _ none n g aa (fun i hi=>⟨(hc i hi).1,(hc i hi).2,(hbd i hi).1,(hbd i hi).2⟩)) (sm ?_);refine az.mk (DA _ u none m rg none n g hus aa aa (RA hmm hev) (ay h0) (ay h1)) (sm ?_);refine az.mk (I9 _ u none m rg none n g hus aa aa (RA hmm hev) (fun hr i h=>jk.2 (tg (jk.1 hr) h)) (ay h0)) (sm ?_);refine az.mk (Hq _ (od u m rg n g).1 ZW) (sm ?_);exact af so
end Go.Proofs.YthpplckmbbachaaGreatDoor
