/- Lemmas, no conditions. -/
import Derived.Test.YthpplckmbbachaaGreatDoorKB39
set_option linter.unusedVariables false
set_option linter.unusedSimpArgs false
set_option maxHeartbeats 1000000
set_option maxRecDepth 100000
namespace Go.Proofs.YthpplckmbbachaaGreatDoor
open Go.aI Go.bI
def Ql(n:Int):Bool:=decide (n=0)||decide (n=1)
def l8(e:Ev):Bool:=
 if e.Kind=42 then decide (e.nn=5)&&decide (e.nt=1)
 else if e.nt≠0 then false
 else if e.Kind=40 then decide (e.nn=6)&&Ql (e.gn 3)
 else if e.Kind=44 then decide (e.nn=6)&&Ql (e.gn 3)
 else if e.Kind=45 then decide (e.nn=6)
 else if e.Kind=43 then decide (e.nn=5)
 else if e.Kind=41\/e.Kind=55 then decide (e.nn=2)
 else if e.Kind=46\/e.Kind=50\/e.Kind=54\/e.Kind=58 then decide (e.nn=1)
 else if e.Kind=47 then decide (4<=e.nn)
 else if e.Kind=48\/e.Kind=49\/e.Kind=51\/e.Kind=56 then decide (e.nn=4)
 else if e.Kind=52\/e.Kind=53\/e.Kind=57 then decide (e.nn=3)||(decide (e.Kind=57)&&decide (3<e.nn))
 else if e.Kind=59 then decide (1<=e.nn)
 else false
theorem acW(e):l8 e=okB e:=by
 by_cases h:40<=e.Kind/\e.Kind<=59
 ·have hcs:e.Kind=40\/e.Kind=41\/e.Kind=42\/e.Kind=43\/e.Kind=44\/e.Kind=45\/e.Kind=46\/e.Kind=47\/e.Kind=48\/e.Kind=49\/e.Kind=50\/e.Kind=51\/e.Kind=52\/e.Kind=53\/e.Kind=54\/e.Kind=55\/e.Kind=56\/e.Kind=57\/e.Kind=58\/e.Kind=59:=aa;have hk:decide (Key.i e.Kind∈Sj)=true:=decide_eq_true (xS.2 h);unfold l8 okB okS;rw[hk];rcases hcs with hK|hK|hK|hK|hK|hK|hK|hK|hK|hK|hK|hK|hK|hK|hK|hK|hK|hK|hK|hK<;>
   (rw[Bool.eq_iff_iff];simp[hK,cx,Ql,gD]<;>omega)
 ·have hk:decide (Key.i e.Kind∈Sj)=false:=decide_eq_false fun h1=>h (xS.1 h1);have e1:okB e=false:=by grind [okB,okS]
  rw[e1];unfold l8;have hn: ∀k:Int,40<=k->k<=59->¬e.Kind=k:=fun k h1 h2 h3=>h aa;simp[hn]
def TO(w:List ej×Bool)(s x:ej):List ej×Bool:=if w.2=false/\s.Unit<=x.Unit then(w.1++[s],true) else w
def ZT(w:List ej×Bool)(s x:ej):List ej×Bool:=if x.Unit≠s.Unit then(w.1++[x],w.2) else w
def mw(g:Nat->ej)(s:ej):Nat->List ej×Bool
 |0=>([],false)
 |i+1=>ZT (TO (mw g s i) s (g i)) s (g i)
def sbL(n:Nat)(g:Nat->ej)(s:ej):List ej:=if(mw g s n).2=true then(mw g s n).1 else(mw g s n).1++[s]
theorem I1(g s): ∀i,(mw g s i).1.length<=2*i
 |0=>by simp[mw]
 |i+1=>by
  have h:=I1 g s i;grind [mw,ZT,TO]
theorem CK{w s x}(h: ¬(w.2=false/\s.Unit<=x.Unit)):TO w s x=w:=if_neg h
theorem LU{l s x}(h:s.Unit<=x.Unit):TO (l,false) s x=(l++[s],true):=if_pos ⟨rfl,h⟩
theorem I2{w s x}(h:x.Unit=s.Unit):ZT w s x=w:=if_neg fun h1=>h1 h
theorem ph{l b s x}(h: ¬x.Unit=s.Unit):ZT (l,b) s x=(l++[x],b):=if_pos h
theorem I0{g s} : ∀{i},(∀j,j<i->(g j).Unit<s.Unit)->mw g s i=(lst i g,false)
 |0,_=>by simp[mw,lst]
 |i+1,h=>by
  have h1:=h i aa;rw[mw,I0 fun j hj=>h j aa,CK ai,ph aa,iE]
theorem WL{g s k}(hk:(g k).Unit=s.Unit)(hl: ∀j,j<k->(g j).Unit<s.Unit): ∀{i},(∀j,k<j->j<k+1+i->s.Unit<(g j).Unit)->mw g s (k+1+i)=(lst (k+1+i) (cJ g k s),true)
 |0,_=>by
  grind [cJ,qw,mw,I0,LU,I2,iE]
 |i+1,h=>by
  have h1:=h (k+1+i) aa aa;have e1:cJ g k s (k+1+i)=g (k+1+i):=by grind [cJ]
  rw[show k+1+(i+1)=(k+1+i)+1 by omega,mw,WL hk hl fun j h1 h2=>h j h1 aa,CK an,ph aa,iE,e1]
theorem WM{g s k}(hk:s.Unit<(g k).Unit)(hl: ∀j,j<k->(g j).Unit<s.Unit): ∀{i},(∀j,k<j->j<k+1+i->s.Unit<(g j).Unit)->mw g s (k+1+i)=(lst (k+1+i+1) (fe g k s),true)
 |0,_=>by
  grind [fe,qw,mw,I0,LU,ph,iE]
 |i+1,h=>by
  have h1:=h (k+1+i) aa aa;have e1:fe g k s (k+1+i+1)=g (k+1+i):=by grind [fe]
  rw[show k+1+(i+1)=(k+1+i)+1 by omega,mw,WM hk hl fun j h1 h2=>h j h1 aa,CK an,ph aa,iE (k+1+i+1),e1]
theorem Z3{p}(h:bL p=0): ∀i,i<p.ns->0<i->(p.gs (i-1)).Unit<(p.gs i).Unit:=fun i hi h0=>by
 grind [bL,db,eX,kK]
theorem FF{a b} :oI a b<0↔a<b:=by grind [oI]
theorem SQ{a b} :oI a b=0↔a=b:=by grind [oI]
theorem ac0{u e}(h:bL u.P=0):sbL u.P.ns u.P.gs (eF e)=lst (Gp u e).ns (Gp u e).gs:=by
 have ha:=Z3 h;have hp: ∀i j,i<=j->j<u.P.ns->PI u e j<0->PI u e i<0:=fun i j h1 h2 h3=>by
  unfold PI at*;rw[FF] at*;rcases Nat.lt_or_eq_of_le h1 with h4|h4
  ·have:=lr (f:=ej.Unit) ha h4 h2;omega
  grind
 obtain⟨c1,c2⟩:=QI (p:=PI u e) (lo:=0) (hi:=u.P.ns) (n:=u.P.ns) (Nat.zero_le _) (Nat.le_refl _) hp (fun i hi=>absurd hi (Nat.not_lt_zero _)) (fun i h1 h2=>aa);have hle:rC u e<=u.P.ns:=KG _ _;have l1: ∀j,j<rC u e->(u.P.gs j).Unit<(eF e).Unit:=fun j hj=>FF.1 (c1 j hj);have l2: ∀j,rC u e<=j->j<u.P.ns->(eF e).Unit<=(u.P.gs j).Unit:=fun j h1 h2=>by
  have h3:=c2 j h1 h2;grind [PI,FF,eF]
 have l3: ∀j,rC u e<j->j<u.P.ns->(eF e).Unit<(u.P.gs j).Unit:=fun j h1 h2=>by
  have:=l2 (rC u e) (Nat.le_refl _) aa;have:=lr (f:=ej.Unit) ha h1 h2;omega
 have hI:FU u.P.ns (PI u e)=rC u e:=rfl;unfold Gp sbL;by_cases hb:FT u.P.ns (PI u e)=true
 ·have hb':=hb;unfold FT at hb';simp only[Bool.and_eq_true,decide_eq_true_eq,hI] at hb';have hk:(u.P.gs (rC u e)).Unit=(eF e).Unit:=SQ.1 (by have h9:=hb'.2;rw[beq_iff_eq] at h9;exact h9);obtain⟨i,hi⟩: ∃i,u.P.ns=rC u e+1+i:=⟨u.P.ns-rC u e-1,aa⟩;simp_all [WL]
 ·rw[if_neg hb];by_cases hlt:rC u e<u.P.ns
  ·have hk:(eF e).Unit<(u.P.gs (rC u e)).Unit:=by
    grind [eF,FT,PI,SQ]
   obtain⟨i,hi⟩: ∃i,u.P.ns=rC u e+1+i:=⟨u.P.ns-rC u e-1,aa⟩;simp_all [WM]
  ·have hs:rC u e=u.P.ns:=aa;rw[I0 fun j hj=>l1 j aa,if_neg an,iE];have e1:lst u.P.ns (fe u.P.gs (rC u e) (eF e))=lst u.P.ns u.P.gs:=qw.2 fun j hj=>by grind [fe]
   grind [fe]
def nG(p:Nat->Bool):Nat->Int
 |0=> -1
 |k+1=>if p k=true then(k:Int) else nG p k
theorem Ui{α p}{g:Nat->α}{n}(h: ∀i j,i<j->j<n->p (g i)=true->p (g j)=true->False):nG (fun k=>p (g k)) n=idxFrom p (lst n g) 0:=by
 induction n<;>grind [nG,lst,fT]
theorem F4{α:Type}{f:α->Int}{g:Nat->α}{n}(h: ∀i,i<n->0<i->f (g (i-1))<f (g i)){a b}(hab:a≠b)(ha:a<n)(hb:b<n):f (g a)≠f (g b):=by
 rcases Nat.lt_or_gt_of_ne hab with h1|h1
 ·have:=lr h h1 hb;omega
 ·have:=lr h h1 ha;omega
theorem RL{n g}(h:dq n g=0): ∀i,i<n->0<i->(g (i-1)).ID<(g i).ID:=fun i hi h0=>by
 grind [dq,eX,ql]
def F9(g:Nat->fu)(k d:Int)(i:Nat):List fu:=if(g i).ID=k then(if d<=(g i).In.From then[] else[{ g i with In:=⟨(g i).In.From,d⟩ }]) else[g i]
theorem ZV(g k d i):(F9 g k d i).length<=1:=by grind [F9]
theorem WQ{g k d} : ∀{i},(∀j,j<i->(g j).ID≠k)->gather (F9 g k d) i=lst i g
 |0,_=>by simp[gather,lst]
 |i+1,h=>by rw[gather,WQ fun j hj=>h j aa,F9,if_neg (h i aa),iE]
theorem WR{g:Nat->fu}{k d:Int}{q:Nat}(hq:(g q).ID=k)(hl: ∀j,j<q->(g j).ID≠k): ∀{m:Nat},(∀j,q<j->j<q+1+m->(g j).ID≠k)->gather (F9 g k d) (q+1+m)=if d<=(g q).In.From then lst (q+m) (without g q) else lst (q+1+m) (cJ g q { g q with In:=⟨(g q).In.From,d⟩ })
 |0,_=>by
  have e1:lst q (without g q)=lst q g:=qw.2 fun j hj=>by grind [without,Go.Proofs.YthpplckmbbachaaGreatDoor.skip]
  grind [cJ,qw,gather,WQ,F9,iE]
 |m+1,h=>by
  have h1:=h (q+1+m) aa aa;rw[show q+1+(m+1)=(q+1+m)+1 by omega,gather,WR hq hl fun j h2 h3=>h j h2 aa,F9,if_neg h1];grind [iE,without,Go.Proofs.YthpplckmbbachaaGreatDoor.skip,cJ]
theorem ZU{n g k d}(h:rD n g k d=0):gather (F9 g k d) n=lst (Gq n g k d) (VL g (Ga n g k).toNat d):=by
 have hE:=h;unfold rD at h;split at h
 ·cases h
 ·rename_i h0;split at h
  ·cases h
  ·rename_i h1;have h0:dq n g=0:=aa;have ha:=RL h0;obtain⟨q,h2,h3,h4,h5⟩:=fS (p:=fun r:fu=>r.ID==k) (n:=n) (g:=g) (show 0<=Ga n g k by omega);have e:(Ga n g k).toNat=q:=by grind [Ga]
   have h4:(g q).ID=k:=ai;obtain⟨m,rfl⟩: ∃m,n=q+1+m:=⟨n-q-1,aa⟩;have hh:=WR (d:=d) h4 (fun j hj=>ai) (m:=m) fun j h6 h7=>by rw[←h4];exact F4 (f:=fu.ID) ha aa h7 aa
   grind [Gq,VL]
theorem RJ{n g}(h:cr n g=0): ∀i,i<n->1<=(g i).ID/\(0<i->(g (i-1)).ID<(g i).ID):=fun i hi=>by
 have h1:=(I8 h).2 i hi;grind [iD,lx,fc,bO]
def JM(g:Nat->cT)(b:Int):Nat->Int
 |0=>0
 |i+1=>if(g i).Box=b/\(g i).State=1/\JM g b i=0 then(g i).ID else JM g b i
def Xk(n:Nat)(g:Nat->cT)(b:Int):Int×Bool:=if cr n g≠0\/uX n g b=true then(0,false) else(JM g b n,JM g b n !=0)
theorem ED{g b} : ∀{n},(∀i,i<n->pc b (g i)=false)->JM g b n=0
 |0,_=>rfl
 |n+1,h=>by
  have h1:=h n aa;rw[JM,if_neg,ED fun i hi=>h i aa];grind [pc]
theorem ML{g b q}(h0:(g q).ID≠0)(hq:pc b (g q)=true)(hl: ∀i,i<q->pc b (g i)=false): ∀{m},JM g b (q+1+m)=(g q).ID
 |0=>by
  grind [pc,JM,ED]
 |m+1=>by
  rw[show q+1+(m+1)=(q+1+m)+1 by omega,JM,ML h0 hq hl,if_neg ai]
theorem aae{n g}(h:cr n g=0){i}(hi:i<n):cf n g i=((Xk n g (g i).Box).2&&decide ((Xk n g (g i).Box).1=(g i).ID)):=by
 have ha:=fun j hj=>(RJ h j hj).2;unfold cf HF Xk;by_cases hb:uX n g (g i).Box=true
 ·grind
 ·rw[if_neg hb,if_neg ai];by_cases hw:0<=idxFrom (pc (g i).Box) (lst n g) 0
  ·obtain⟨q,h1,h2,h3,h4⟩:=fS hw;obtain⟨m,hm⟩: ∃m,n=q+1+m:=⟨n-q-1,aa⟩;have h0:(g q).ID≠0:=by grind [RJ]
   have h5:JM g (g i).Box n=(g q).ID:=by grind [ML]
   rw[h2,h5];have h6:((g q).ID !=0)=true:=ai;rw[h6,Bool.true_and];by_cases hqi:q=i
   ·grind
   ·have:=F4 (f:=cT.ID) ha hqi h1 hi;grind
  grind [JU,ED]
theorem ac3{n g}(h:cL n g=0): ∀i,i<n->fk (g i)=0:=fun i hi=>by
 grind [cL,eX,oh]
theorem Z1{p}(h:fk p=0):cy p.jv=0/\cy p.jr=0:=by
 grind [fk]
def U4(a b:dV):dV:=⟨max a.First b.First,min a.Last b.Last⟩
def QL(a b:dV):Bool:=decide (max a.First b.First<=min a.Last b.Last)
theorem ad9{a b}(ha:cy a=0)(hb:cy b=0):(jS a b).2=QL a b/\(QL a b=true->(jS a b).1=U4 a b):=by
 grind [jS,QL,U4]
def M1(p:dF)(b d:dV):dF:=⟨p.ID,p.Name,U4 p.jv b,U4 p.jr d⟩
def GL(p:dF)(b d:dV):Bool:=QL p.jv b&&QL p.jr d&&decide (fk (M1 p b d)=0)
theorem adr{p b d}(hp:fk p=0)(hb:cy b=0)(hd:cy d=0):(nE p b d).2=GL p b d/\(GL p b d=true->(nE p b d).1=M1 p b d):=by
 grind [Z1,ad9,nE,GL,M1]
theorem OX{n g}(h:bW n g=0){q}(hq:q<n):hZ n g (g q).ID=(q:Int):=
 Nw hq an fun j hj=>by
  have:=F4 (f:=Bx.ID) (ad8 h) (show j≠q by omega) aa hq;grind
end Go.Proofs.YthpplckmbbachaaGreatDoor
