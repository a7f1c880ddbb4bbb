/- Lemmas, no conditions. -/
import Derived.Test.YthpplckmbbachaaGreatDoorKB40
import Derived.Test.YthpplckmbbachaaGreatDoorKB41
import Derived.Test.YthpplckmbbachaaGreatDoorKB42
set_option linter.unusedSimpArgs false
set_option linter.unusedVariables false
set_option maxHeartbeats 2000000
set_option maxRecDepth 100000
namespace Go.Proofs.YthpplckmbbachaaGreatDoor
open Go.aI Go.bI Go.Proofs.Tryz
variable (σ : List aZ)
open Classical in
noncomputable def Gn(u:Use):Bool:=decide (Vy u)
open Classical in
noncomputable def GM(u:Use):Bool:=decide (VA u)
open Classical in
noncomputable def F1(u:Use):Bool:=decide (VG u)
open Classical in
theorem Rw{u}(h: ¬Vy u):Gn u=false:=decide_eq_false h
open Classical in
theorem LB{u}(h:Vy u):Gn u=true:=decide_eq_true h
open Classical in
theorem R5{u}(h: ¬VA u):GM u=false:=decide_eq_false h
open Classical in
theorem M4{u}(h:VA u):GM u=true:=decide_eq_true h
open Classical in
theorem SZ{u}(h: ¬VG u):F1 u=false:=decide_eq_false h
open Classical in
theorem OV{u}(h:VG u):F1 u=true:=decide_eq_true h
def fwP(m:hY)(q:Nat):yK:=if q=0 then m.From else m.To
theorem MT{u i}(hi:i<u.nv)(h:oi u (u.gv i)=true):eI u=false:=by
 unfold eI;rw[dw.2 ⟨i,hi,h⟩];rfl
open Classical in
theorem Wy{u} :Gn u=true↔Vy u:=by unfold Gn;exact decide_eq_true_iff
open Classical in
theorem Xu{u} :GM u=true↔VA u:=by unfold GM;exact decide_eq_true_iff
open Classical in
theorem OW{u} :F1 u=true↔VG u:=by unfold F1;exact decide_eq_true_iff
theorem dZ(u:Use)(b)(hn:u.nv<1000000000):ak prog 87 [.agg (u.cells u.aX),.d (I b)] σ (.agg ((bE u.gv b u.nv).enc.map .d)):=by
 refine ak.bt func87 ?_;refine mA (α:=Nat) true [1,4,5,10,11,12] (fun i=>[(12,.d (I i))]) (fun i=>σ++[.var (u.cells u.aX),.var [.d (I 0),.d (I 0)],.var ((bE u.gv b i).enc.map .d)]) (fun i=>i<=u.nv) (fun i=>u.nv-i) 0 au (rfl) an ?_;rintro i hi;refine gc [1,4,5,10,11,12] ?_ ?_<;>intro d0
 ·refine wB ?_;refine dH [1,4,5,7,10,11,12] ?_ ?_<;>intro d1
  ·have hs:bE u.gv b (i+1)=(u.gv i).To:=by rw[bE,if_pos d1]
   refine wC ?_;refine bF (i+1) aa (h:=aR) (hσ:=Hf) (hb:=ae au)
  ·have hs:bE u.gv b (i+1)=bE u.gv b i:=by rw[bE,if_neg d1]
   refine wC ?_;refine bF (i+1) aa (h:=aR) (hσ:=Hf) (hb:=ae au)
 ·obtain rfl:i=u.nv:=by omega
  refine wF ?_;exact af so
theorem D5(u)(hu:br u):ak prog 74 [.agg (u.cells u.aX)] σ (.d (B (eI u))):=by
 have z1:=hu.nb;have z2:=hu.nf;have z3:=hu.nv;refine ak.bt func74 ?_;refine dm (α:=Nat) true [1,8,9,10] (fun i=>[(10,.d (I i))]) (fun i=>σ++[.var (u.cells u.aX)]) (fun i=>i<=u.nv/\∀q,q<i->oi u (u.gv q)=false) (fun i=>u.nv-i) 0 ?_ (hx:=⟨aa,fun k hk=>absurd hk (Nat.not_lt_zero _)⟩);rintro i ⟨hi,hx⟩;refine gc [1,8,9,10] ?_ ?_<;>intro d0
 ·refine wB ?_;refine cE.mk' (.d (I (hZ u.nb u.gb (u.gv i).Box))) (fun _=>gN _ none u.nb u.gb (u.gv i).Box aa) (gc [1,4,8,9,10] ?_ ?_)<;>intro d1
  ·have hz:eI u=false:=MT d0 (by unfold oi;rcases d1 with h|h;(simp[h]);(simp[h]));exact sx hz
  ·simp[go_sem];refine dm (α:=Nat) true [1,8,9,10,31,32,33] (fun q=>[(33,.d (I q))]) (fun q=>σ++[.var (u.cells u.aX),.var ((u.gv i).enc.map .d)]) (fun q=>q<=2/\∀k,k<q->pz u (fwP (u.gv i) k)=true) (fun q=>2-q) 0 ?_ (hx:=⟨aa,fun k hk=>absurd hk (Nat.not_lt_zero _)⟩);rintro q ⟨hq,hy⟩;refine gc [1,8,9,10,31,32,33] ?_ ?_<;>intro d2
   ·have hq5:q<2:=aa;have hrow:rowsOf 2 [I (u.gv i).From.Kind,I (u.gv i).From.Of,I (u.gv i).To.Kind,I (u.gv i).To.Of] q=(fwP (u.gv i) q).enc:=by
     rcases(show q=0\/q=1 by omega) with rfl|rfl<;>rfl
    simp[go_sem,hrow];repeat refine⟨aa,?_⟩
    refine cE.mk' (.d (I (ky u.nf u.gf (fwP (u.gv i) q).Of))) (fun _=>se _ none u.nf u.gf (fwP (u.gv i) q).Of aa) ?_;refine gc [1,8,9,10,31,32,33] ?_ ?_<;>intro d3
    ·have hz:eI u=false:=MT d0 (by
      have h9:pz u (fwP (u.gv i) q)=false:=by unfold pz;(try simp at d3);simp;omega
      unfold oi;rcases(show q=0\/q=1 by omega) with rfl|rfl
      ·rw[show fwP (u.gv i) 0=(u.gv i).From from rfl] at h9;simp[h9]
      ·rw[show fwP (u.gv i) 1=(u.gv i).To from rfl] at h9;simp[h9])
     exact sx hz
    ·refine wC ?_;refine bF (q+1) ⟨aa,fun k hk=>by by_cases h:k=q;(subst h;unfold pz;(try simp at d3);simp;omega);exact hy k aa⟩ (h:=aR) (hσ:=au) (hb:=ae au)
   ·have hmi:oi u (u.gv i)=false:=by
     have h8:pz u (u.gv i).From=true:=hy 0 aa;have h9:pz u (u.gv i).To=true:=hy 1 aa;unfold oi;rw[h8,h9];(try simp at d1);simp;omega
    refine wT ?_;refine bF (i+1) ⟨aa,fun k hk=>by by_cases h:k=i;(subst h;exact hmi);exact hx k aa⟩ (h:=aR) (hσ:=au) (hb:=ae au)
 ·have hz:eI u=true:=gS.2 fun k hk=>hx k aa;refine wF ?_;exact sy hz
theorem Wr{u s n}(hw: ∀i,i<n->0<=(u.gb i).Width/\(u.gb i).Width<=10000): ∀k,k<=n->0<=cu u s k/\cu u s k<=10000*(k:Int):=by
 intro k;induction k with
 |zero=>intro _;simp[cu]
 |succ k ih=>
  intro hk;have h1:=ih aa;have h2:=hw k aa;rw[cu];split<;>omega
theorem afS{n g}(h:bW n g=0): ∀i,i<n->0<=(g i).Width/\(g i).Width<=10000:=fun i hi=>by
 have:=(jX ((e9 h).2 i hi)).1;unfold rz at this;simp only[Bool.and_eq_true,bO] at this;omega
def MG(u:Use)(q:Nat)(r:cT):Bool:=r.State==2&&r.Box==(u.gb q).ID&&r.Reader==(bE u.gv (u.gb q).ID u.nv).Of
theorem any_succ{α p}{g:Nat->α}{n} :(lst (n+1) g).any p=((lst n g).any p||p (g n)):=by
 unfold lst;rw[List.range_succ,List.map_append,List.any_append];simp
theorem D3(u)(hu:br u)(hb:bW u.nb u.gb=0)(hm:bX u.nv u.gv=0):ak prog 75 [.agg (u.cells u.aX)] σ (.d (B (Gn u))):=by
 have z1:=hu.nb;have z2:=hu.nf;have z3:=hu.nv;have hpl:=nx hm;have hwd:=afS hb;refine ak.bt func75 ?_;refine dm (α:=Nat) true [1,9,10,11] (fun f=>[(11,.d (I f))]) (fun f=>σ++[.var (u.cells u.aX)]) (fun f=>f<=u.nf/\∀k,k<f->aee u k) (fun f=>u.nf-f) 0 ?_ (hx:=⟨aa,fun k hk=>absurd hk (Nat.not_lt_zero _)⟩);rintro f ⟨hf,hx⟩;refine gc [1,9,10,11] ?_ ?_<;>intro d0
 ·refine wB ?_;refine mA (α:=Nat) true [1,4,5,9,10,11,16,17,18] (fun i=>[(18,.d (I i)),(5,.d (I (cu u (u.gf f).ID i)))]) (fun i=>σ++[.var (u.cells u.aX),.var ((u.gf f).enc.map .d)]) (fun i=>i<=u.nb/\∀k,k<i->aM u (u.gb k).ID=⟨1,(u.gf f).ID⟩->(u.gb k).bH=(u.gf f).bH) (fun i=>u.nb-i) 0 (by simp[go_sem,cu]) (rfl) (⟨aa,fun k hk=>absurd hk (Nat.not_lt_zero _)⟩) ?_;rintro i ⟨hi,hy⟩;refine gc [1,4,5,9,10,11,16,17,18] ?_ ?_<;>intro d1
  ·have hi5:i<u.nb:=aa;have hb2:=Wr (s:=(u.gf f).ID) hwd i aa;have hb3:=hwd i hi5;refine wB ?_;refine T.dr 8 fun K hK=>sm ?_;refine bK.mk (dZ _ u (u.gb i).ID aa) (sm ?_);refine hK _ ?_;refine go true (gc [1,4,5,7,9,10,11,16,17,18] ?_ ?_)<;>intro d2
   ·have hne:aM u (u.gb i).ID≠⟨1,(u.gf f).ID⟩:=fun h=>by rw[hpl] at h;rw[h] at d2;simp at d2
    have hs:cu u (u.gf f).ID (i+1)=cu u (u.gf f).ID i:=by rw[cu,if_neg hne];omega
    refine wC ?_;refine bF (i+1) ⟨aa,fun k hk h1=>by by_cases h:k=i;(subst h;exact absurd h1 hne);exact hy k aa h1⟩ (h:=mr) (hσ:=au) (hb:=ae au)
   ·have heq:aM u (u.gb i).ID=⟨1,(u.gf f).ID⟩:=by rw[hpl];rcases h:bE u.gv (u.gb i).ID u.nv with⟨a,b⟩;rw[h] at d2;simp at d2;rw[d2.1,d2.2]
    have hs:cu u (u.gf f).ID (i+1)=cu u (u.gf f).ID i+(u.gb i).Width:=by rw[cu,if_pos heq]
    refine gc [1,4,5,7,9,10,11,16,17,18] ?_ ?_<;>intro d3
    ·have hz:Gn u=false:=Rw fun H=>absurd ((H f aa).1 i hi5 heq) aa;exact sx hz
    ·refine wC ?_;refine bF (i+1) ⟨aa,fun k hk h1=>by by_cases h:k=i;(subst h;omega);exact hy k aa h1⟩ (h:=mr) (hσ:=au) (hb:=ae au)
  ·obtain rfl:i=u.nb:=by omega
   simp[go_sem];refine go true (gc [1,9,10,11] ?_ ?_)<;>intro d4
   ·have hz:Gn u=false:=Rw fun H=>absurd (H f aa).2 aa;exact sx hz
   ·have hsf:aee u f:=⟨fun k hk=>hy k hk,aa⟩;refine wC ?_;refine bF (f+1) ⟨aa,fun k hk=>by by_cases h:k=f;(subst h;exact hsf);exact hx k aa⟩ (h:=aR) (hσ:=au) (hb:=ae au)
 ·have hz:Gn u=true:=LB fun k hk=>hx k aa;refine wF ?_;exact sy hz
theorem Gt(u)(hu:br u)(hm:bX u.nv u.gv=0):ak prog 76 [.agg (u.cells u.aX)] σ (.d (B (GM u))):=by
 have z1:=hu.nb;have z2:=hu.nr;have z3:=hu.nv;have hpl:=nx hm;refine ak.bt func76 ?_;refine dm (α:=Nat) true [1,12,13,14] (fun i=>[(14,.d (I i))]) (fun i=>σ++[.var (u.cells u.aX)]) (fun i=>i<=u.nr/\∀k,k<i->(u.gr k).Changed<=u.Changed/\((u.gr k).State=2->aM u (u.gr k).Box=⟨3,(u.gr k).Reader⟩)) (fun i=>u.nr-i) 0 ?_ (hx:=⟨aa,fun k hk=>absurd hk (Nat.not_lt_zero _)⟩);rintro i ⟨hi,hx⟩;refine gc [1,12,13,14] ?_ ?_<;>intro d0
 ·refine wB ?_;refine T.dr 20 fun K hK=>sm ?_;refine bK.mk' (.agg ((bE u.gv (u.gr i).Box u.nv).enc.map .d)) (fun _=>dZ _ u (u.gr i).Box aa) (sm ?_);refine hK _ ?_;refine go true (gc [1,12,13,14] ?_ ?_)<;>intro d1
  ·have hz:GM u=false:=R5 fun H=>by
    have h1:=H.req i aa;rw[hpl] at h1;rcases d1 with h|⟨h,h2⟩
    ·omega
    ·rw[h1.2 h] at h2;simp at h2
   exact sx hz
  ·have hri:(u.gr i).Changed<=u.Changed/\((u.gr i).State=2->aM u (u.gr i).Box=⟨3,(u.gr i).Reader⟩):=by
    rw[hpl];refine⟨aa,fun h=> ?_⟩;rcases h2:bE u.gv (u.gr i).Box u.nv with⟨a,b⟩;rw[h2] at d1;(try simp at d1);have:=d1.2 h;rw[this.1,this.2]
   refine wC ?_;refine bF (i+1) ⟨aa,fun k hk=>by by_cases h:k=i;(subst h;exact hri);exact hx k aa⟩ (h:=aR) (hσ:=au) (hb:=ae au)
 ·refine wF ?_;refine dm (α:=Nat) true [1,40,41,42] (fun q=>[(42,.d (I q))]) (fun q=>σ++[.var (u.cells u.aX)]) (fun q=>q<=u.nb/\∀k,k<q->(aM u (u.gb k).ID).Kind=3->∃j,j<u.nr/\(u.gr j).State=2/\(u.gr j).Box=(u.gb k).ID/\(u.gr j).Reader=(aM u (u.gb k).ID).Of) (fun q=>u.nb-q) 0 ?_ (hx:=⟨aa,fun k hk=>absurd hk (Nat.not_lt_zero _)⟩);rintro q ⟨hq,hy⟩;refine gc [1,40,41,42] ?_ ?_<;>intro d2
  ·have hq5:q<u.nb:=aa;refine wB ?_;refine az.mk (dZ _ u (u.gb q).ID aa) (gc [1,6,7,40,41,42] ?_ ?_)<;>intro d3
   ·have hk3:(aM u (u.gb q).ID).Kind≠3:=by rw[hpl];omega
    refine wC ?_;refine bF (q+1) ⟨aa,fun k hk h1=>by by_cases h:k=q;(subst h;exact absurd h1 hk3);exact hy k aa h1⟩ (h:=aR) (hσ:=au) (hb:=ae au)
   ·have hk3:(aM u (u.gb q).ID).Kind=3:=by rw[hpl];omega
    simp[go_sem];refine mA (α:=Nat) true [1,6,7,8,40,41,42,54,55,56] (fun y=>[(56,.d (I y)),(8,.d (B ((lst y u.gr).any (MG u q))))]) (fun y=>σ++[.var (u.cells u.aX),.var ((u.gb q).enc.map .d),.var ((bE u.gv (u.gb q).ID u.nv).enc.map .d)]) (fun y=>y<=u.nr) (fun y=>u.nr-y) 0 (by simp[go_sem,lst]) (rfl) an ?_;rintro y hyn;refine gc [1,6,7,8,40,41,42,54,55,56] ?_ ?_<;>intro d4
    ·have XV:y<u.nr:=aa;have hs:=any_succ (p:=MG u q) (g:=u.gr) (n:=y);simp(disch:=first|omega|simp) [go_sem,MG,aS];repeat refine⟨aa,?_⟩
     refine bF (y+1) aa (h:=by simp[go_sem,hs,MG]<;>omega) (hσ:=au) (hb:=ae au)
    ·obtain rfl:y=u.nr:=by omega
     refine wF ?_;refine km [1,40,41,42] ?_ ?_<;>intro c5 d5
     ·have hz:GM u=false:=R5 fun H=>by
       obtain⟨j,h1,h2,h3,h4⟩:=H.box q hq5 hk3;rw[hpl] at h4;have:(lst u.nr u.gr).any (MG u q)=true:=dw.2 ⟨j,h1,by simp[MG,h2,h3,h4]⟩
       (simp[this] at c5;done)
      exact sx hz
     ·have hbq:(aM u (u.gb q).ID).Kind=3->∃j,j<u.nr/\(u.gr j).State=2/\(u.gr j).Box=(u.gb q).ID/\(u.gr j).Reader=(aM u (u.gb q).ID).Of:=fun _=>by
       have:(lst u.nr u.gr).any (MG u q)=true:=Dj;obtain⟨j,h1,h2⟩:=dw.1 this;simp[MG] at h2;exact⟨j,h1,h2.1.1,h2.1.2,by rw[hpl];exact h2.2⟩
      refine wC ?_;refine bF (q+1) ⟨aa,fun k hk h1=>by by_cases h:k=q;(subst h;exact hbq h1);exact hy k aa h1⟩ (h:=aR) (hσ:=au) (hb:=ae au)
  ·have hz:GM u=true:=M4 ⟨fun k hk=>hx k aa,fun k hk=>hy k aa⟩;refine wF ?_;exact sy hz
theorem R6{u} :jl u.gl u.nl=true↔(∀i,i<u.nl->Q6 u i)/\u.nl<=1024:=by
 rw[px];unfold CI Q6 fc;simp only[bO]
theorem zc(u)(hu:br u)(hd:u.Changed<=1048575)(hσ:σ[0]? =some (.tab 0 dG)):ak prog 73 [.agg (u.cells u.aX)] σ (.d (B (F1 u))):=by
 have z7:=hu.nt;have z8:=hu.nl;have z9:=hu.nw;refine ak.bt func73 ?_;refine dm (α:=Nat) true [1,8,9,10] (fun i=>[(10,.d (I i))]) (fun i=>σ++[.var (u.cells u.aX)]) (fun i=>i<=u.nt/\∀k,k<i->KW u k) (fun i=>u.nt-i) 0 ?_ (hx:=⟨aa,fun k hk=>absurd hk (Nat.not_lt_zero _)⟩);rintro i ⟨hi,hx⟩;refine gc [1,8,9,10] ?_ ?_<;>intro d0
 ·have hi5:i<u.nt:=aa;have hb1:=hu.bu i hi5;have hb2:=hu.bb i hi5;refine wB ?_;refine T.dr 19 fun K hK=> ?_;simp[go_sem];refine bK.mk (gM _ (u.gt i) aa aa (ay hσ)) ?_;simp[go_sem,aT (i:=i) aa];refine wK hK ?_;refine gc [1,8,9,10] ?_ ?_<;>intro d1
  ·have hz:F1 u=false:=SZ fun H=>by
    have h1:=H.uh i hi5;have h2:=h1.1;have h3:=h1.2;rcases d1 with h|⟨h,h4⟩
    ·exact h h2
    ·have:=h3 aa;omega
   exact sx hz
  ·have hbi:KW u i:=⟨aa,fun h0=>aa⟩;refine wC ?_;refine bF (i+1) ⟨aa,fun k hk=>by by_cases h:k=i;(subst h;exact hbi);exact hx k aa⟩ (h:=aR) (hσ:=au) (hb:=ae au)
 ·refine wL ?_;refine dm (α:=Nat) true [1,36,37,38] (fun q=>[(38,.d (I q))]) (fun q=>σ++[.var (u.cells u.aX)]) (fun q=>q<=u.nw/\∀k,k<q->G7 u k) (fun q=>u.nw-q) 0 ?_ (hx:=⟨aa,fun k hk=>absurd hk (Nat.not_lt_zero _)⟩);rintro q ⟨hq,hy⟩;refine gc [1,36,37,38] ?_ ?_<;>intro d2
  ·have hq5:q<u.nw:=aa;refine wB ?_;refine T.dr 51 fun K hK=> ?_;simp[go_sem,aT (i:=q) aa];refine wK hK ?_;refine gc [1,36,37,38] ?_ ?_<;>intro d3
   ·have hz:F1 u=false:=SZ fun H=>by
     have h1:=H.shw q hq5;unfold G7 fc at h1;simp only[bO] at h1;omega
    exact sx hz
   ·have hsq:G7 u q:=by
     unfold G7 fc;simp only[bO];omega
    refine wC ?_;refine bF (q+1) ⟨aa,fun k hk=>by by_cases h:k=q;(subst h;exact hsq);exact hy k aa⟩ (h:=aR) (hσ:=au) (hb:=ae au)
  ·have hz:F1 u=(decide (u.nt<=64)&&jl u.gl u.nl&&decide (u.nw<=1024)):=by
    cases h:F1 u with
    |true=>
     have H:VG u:=OW.1 h;rw[R6.2 ⟨H.HN,H.nl⟩];simp[H.nt,H.nw]
    |false=>
     apply Eq.symm;rw[←Bool.not_eq_true];intro h1;simp only[Bool.and_eq_true,decide_eq_true_eq] at h1;have h2:=R6.1 h1.1.2;have:F1 u=true:=OV ⟨fun k hk=>hx k aa,fun k hk=>hy k aa,h1.1.1,h2.1,h2.2,h1.2⟩;rw[h] at this;cases this
   refine wL ?_;refine cE.mk' (.d (B (jl u.gl u.nl))) (fun _=>r9 _ none u.nl u.gl aa) ?_;refine wA ?_;rw[hz];simp[go_sem,show((u.nt:Int)<=64)=(u.nt<=64) from propext aa,show((u.nw:Int)<=1024)=(u.nw<=1024) from propext aa]
theorem yW{u}(h: ¬aY u):(if ck u=true then(0:Int) else 1)=1:=if_neg fun h1=>h (jk.1 h1)
theorem PN{u}(h:aY u):(if ck u=true then(0:Int) else 1)=0:=if_pos (jk.2 h)
theorem r8(u)(hu:br u)(hσ:σ[0]? =some (.tab 0 dG)):ak prog 36 [.agg (u.cells u.aX)] σ (.d (I (if ck u=true then 0 else 1))):=by
 have z1:=hu.nb;have z2:=hu.nf;have z3:=hu.nv;have z4:=hu.nr;have z6:=hu.nk;refine ak.bt func36 ?_;refine dH [1] ?_ ?_<;>intro d0
 ·have hz:=yW (u:=u) fun H=>by
   have h1:=H.day;rw[bO] at h1;have h2:=H.OQ;unfold dM at h2;split at h2
   ·cases h2
   ·omega
  exact sx hz
 ·simp[go_sem];refine T.dr 23 fun K hK=>sm ?_;refine bK.mk (ni _ u.P hu.P) (sm ?_);refine bK.mk (gO _ none u.nb u.gb aa hu.bx) (sm ?_);refine bK.mk (po _ none u.nf u.gf aa) (sm ?_);refine bK.mk (sb _ none u.nv u.gv aa) (sm ?_);refine bK.mk (jG _ none u.nr u.gr aa) (sm ?_);refine bK.mk (sa _ u.gq none u.nk u.gk aa) (sm ?_);refine hK _ ?_;refine go true (sm ?_);refine dm (α:=Nat) true [1,43,44,45] (fun i=>[(45,.d (I i))]) (fun i=>σ++[.var (u.cells u.aX)]) (fun i=>i<=6/\∀k,k<i->Ep u k=0) (fun i=>6-i) 0 ?_ (hx:=⟨aa,fun k hk=>absurd hk (Nat.not_lt_zero _)⟩);rintro i ⟨hi,hx⟩;refine gc [1,43,44,45] ?_ ?_<;>intro d1
  ·have hi5:i<6:=aa;have hrow:rowsOf 1 [I (bL u.P),I (bW u.nb u.gb),I (dp u.nf u.gf),I (bX u.nv u.gv),I (cr u.nr u.gr),I (dM u.gq u.nk u.gk)] i=[I (Ep u i)]:=by
    rcases(show i=0\/i=1\/i=2\/i=3\/i=4\/i=5 by omega) with rfl|rfl|rfl|rfl|rfl|rfl<;>rfl
   simp[go_sem,hrow];repeat refine⟨aa,?_⟩
   refine dH [1,43,44,45] ?_ ?_<;>intro d2
   ·have hz:=yW (u:=u) fun H=>d2 (by
     have:=jk.2 H;unfold ck at this;simp only[Bool.and_eq_true] at this;exact(iW.1 this.1.1.1).chk i hi5)
    exact sx hz
   ·refine wC ?_;refine bF (i+1) ⟨aa,fun k hk=>by by_cases h:k=i;(subst h;omega);exact hx k aa⟩ (h:=aR) (hσ:=au) (hb:=ae au)
  ·have hb:bW u.nb u.gb=0:=hx 1 aa;have hm:bX u.nv u.gv=0:=hx 3 aa;refine wF ?_;refine az.mk (zc _ u hu aa (ay hσ)) (sm ?_);refine cE.mk' (.d (B (eI u))) (fun _=>D5 _ u hu) (sm ?_);refine cE.mk' (.d (B (Gn u))) (fun _=>D3 _ u hu hb hm) (sm ?_);refine cE.mk' (.d (B (GM u))) (fun _=>Gt _ u hu hm) (gc [] ?_ ?_)<;>intro d3
   ·have hz:=yW (u:=u) fun H=>by
     have H:=RK.2 H;have h1:=OV H.uh;have h2:=gS.2 H.Gb;have h3:=LB H.std;have h4:=M4 H.mQ;simp[h1,h2,h3,h4] at d3
    exact sx hz
   ·have hz:=PN (u:=u) (RK.1 (by
     cases h1:F1 u<;>cases h2:eI u<;>cases h3:Gn u<;>cases h4:GM u<;>simp[h1,h2,h3,h4] at d3
     exact⟨by rw[bO];omega,hx 0 aa,hb,hx 2 aa,hm,hx 4 aa,hx 5 aa,OW.1 h1,gS.1 h2,Wy.1 h3,Xu.1 h4⟩))
    exact sx hz
theorem uK(a b):ak prog 236 [.agg (a.enc.map .d),.agg (b.enc.map .d)] σ (.cj [.agg ((U4 a b).enc.map .d),.d (B (QL a b))]):=by
 refine ak.bt func236 ?_;apply mM 7 6 T.mixed aD
 ·intro K hK;simp[go_sem];exact hK _ _
 ·simp[go_sem];rfl
 ·intro K hK;simp[go_sem];grind
 intro K hK;refine wD hK ?_;refine go true (sm ?_);refine af ?_;simp[go_sem,U4,QL]<;>omega
theorem zg(p b d)(hn:p.Name.size<4294967281):ak prog 161 [.agg (p.enc.map .d),.agg (b.enc.map .d),.agg (d.enc.map .d)] σ (.cj [.agg ((if GL p b d=true then M1 p b d else dF.zero).enc.map .d),.d (I (if GL p b d=true then 0 else 10))]):=by
 refine ak.bt func161 ?_;refine az.mk (uK _ p.jv b) (sm ?_);refine az.mk (uK _ p.jr d) (sm ?_);apply mM 4 3 T.mixed aD
 ·intro K hK;simp[go_sem];exact hK _ _
 ·simp[go_sem];rfl
 ·intro K hK;simp[go_sem];grind
 intro K hK;refine wD hK ?_;refine go true (sm ?_);refine cE.mk' (.d (I (fk (M1 p b d)))) (fun _=>oS _ (M1 p b d) hn) (gc [3,6] ?_ ?_)<;>intro d0
 ·have hz:GL p b d=false:=by grind [GL]
  refine wA ?_;rw[hz];simp[go_sem,dF.zero]
 ·have hz:GL p b d=true:=by grind [GL]
  refine wA ?_;rw[hz];simp[go_sem,M1]
theorem Ei(c n g k b d)(hn:n<1000000000)(hN: ∀i,i<n->(g i).Name.size<4294967281):ak prog 82 [.d (SL c 6 dF.enc n g),.d (I k),.agg (b.enc.map .d),.agg (d.enc.map .d)] σ (.cj [.d (SL none 6 dF.enc (cQ n g k b d).1.1 (cQ n g k b d).1.2),.d (I (cQ n g k b d).2)]):=by
 refine ak.bs true func82 fun hwf=> ?_;refine az.mk (gP _ c n g hn hN) (sm ?_);refine cE.mk' (.d (I (cy b))) (fun _=>dK _ b) (sm ?_);refine cE.mk' (.d (I (cy d))) (fun _=>dK _ d) (gc [0,1,6,7] ?_ ?_)<;>intro d0
 ·have hz:cQ n g k b d=((0,g),1):=by grind [cQ]
  exact sx hz
 ·have hd0: ¬(cL n g≠0\/cy b≠0\/cy d≠0):=ai;have hc0:cL n g=0:=Classical.byContradiction fun h=>hd0 (.inl h);have hb0:cy b=0:=Classical.byContradiction fun h=>hd0 (.inr (.inl h));have ag6:cy d=0:=Classical.byContradiction fun h=>hd0 (.inr (.inr h));refine wB ?_;refine dm (α:=Nat) true [1,6,7,10,31,32,33] (fun i=>[(33,.d (I i))]) (fun i=>_) (fun i=>i<=n/\ee n g k=idxFrom (fun r=>r.ID==k) ((lst n g).drop i) i) (fun i=>n-i) 0 ?_ (hx:=⟨aa,rfl⟩);rintro i ⟨hi,hx⟩;refine gc [1,6,7,10,31,32,33] ?_ ?_<;>intro d1
  ·rw[bU d1,idxFrom] at hx;refine wB ?_;refine dH [1,6,7,10,11,12,31,32,33] ?_ ?_<;>intro d2
   ·refine wC ?_;refine bF (i+1) ⟨aa,ai⟩ (h:=aR)
   ·rw[if_pos ai] at hx;obtain⟨l1,l2⟩:=adr (ac3 hc0 i aa) hb0 ag6;simp[go_sem];refine az.mk (zg _ (g i) b d (hN i aa)) (gc [10,11,13,14] ?_ ?_)<;>intro d3
    ·have hz:cQ n g k b d=((0,g),10):=by grind [cQ]
     refine wA ?_;rw[hz];simp[go_sem,d3]
    ·have hlr:GL (g i) b d=true:=ai;have hz:cQ n g k b d=((n,fun q=>if q=i then M1 (g i) b d else g q),0):=by grind [cQ]
     refine wB ?_;refine aF hwf (σ.length+2) ?_;refine af ?_;rw[hz];simp[go_sem];grind
  ·rw[bV d1,idxFrom] at hx;have hz:cQ n g k b d=((0,g),7):=by grind [cQ]
   refine wF ?_;exact sy hz
theorem Ee(c n g p)(hn:n<1000000000):ak prog 84 [.d (SL c 6 fu.enc n g),.agg (p.enc.map .d)] σ (.cj [.d (SL none 6 fu.enc (if cY n g p=0 then n+1 else 0) (aL g n p)),.d (I (cY n g p))]):=by
 have hwp:=aT (i:=n) aa;refine ak.bd true func84 fun hwf=> ?_;simp[go_sem];refine az.mk (jI _ c n g hn) ?_;refine gc [0,3] ?_ ?_<;>intro d0
 ·have hz:cY n g p=1:=by grind [cY]
  refine wA ?_;rw[hz];simp[go_sem,Go.aI.aK]
 ·simp[go_sem];refine az.mk (oQ _ p) ?_;refine gc [0,3] ?_ ?_<;>intro d1
  ·have hz:cY n g p=2:=by grind [cY]
   refine wA ?_;rw[hz];simp[go_sem,Go.aI.aK]
  ·simp[go_sem];refine T.dr 15 fun K hK=> ?_;simp[go_sem,hwp];refine wK hK ?_;refine gc [0,3] ?_ ?_<;>intro d2
   ·have hz:cY n g p=5:=by grind [cY]
    refine wA ?_;rw[hz];simp[go_sem,Go.aI.aK]
   ·have ahz:n<=64:=by
     grind [dq]
    refine gc [0,3] ?_ ?_<;>intro d3
    ·have hz:cY n g p=12:=by grind [cY]
     refine wA ?_;rw[hz];simp[go_sem,Go.aI.aK]
    ·have hz:cY n g p=0:=by grind [cY]
     simp[go_sem];apply Mix.bA 5 [(2,some 32)] [[0,1]] [(.ms (σ.length+1) 6 0 n,(σ++[.var (p.enc.map .d),.arr 6 n (fun i=>fu.enc (g i))]))] T.mixed aD
     ·intro K hK;simp[go_sem];exact hK _ _
     ·refine Mix.aw ?_ (Mix.aW)
      ·intro K hK;simp[go_sem];grind
     ·refine Mix.aG ?_ (Mix.bn)
      ·simp[go_sem];omega
     intro K hK;simp[go_sem,hwf.one];refine wZ hK ?_;refine aF hwf (σ.length+1) ?_;refine af ?_;rw[hz];simp[go_sem];exact lW (enc:=fu.enc) (x:=p) rfl
def VK(g:Nat->fu)(k:Int):Nat->Int
 |0=>7
 |i+1=>if(g i).ID=k then 0 else VK g k i
theorem CL{g k} : ∀{n},(VK g k n=0/\∃i,i<n/\(g i).ID=k)\/(VK g k n=7/\∀i,i<n->(g i).ID≠k)
 |0=> .inr ⟨rfl,fun i h=>absurd h (Nat.not_lt_zero i)⟩
 |n+1=>by
  rw[VK];by_cases h:(g n).ID=k
  ·grind
  ·rw[if_neg h];rcases CL (g:=g) (k:=k) (n:=n) with⟨h1,i,h2,h3⟩|⟨h1,h2⟩;all_goals grind
theorem ME{n g}(h:dq n g=0){q k}(hq:q<n)(hk:(g q).ID=k):Ga n g k=(q:Int):=
 Nw hq ai fun j hj=>by
  have:=F4 (f:=fu.ID) (RL h) (show j≠q by omega) aa hq;grind
theorem Xd{n g k}(h: ∀i,i<n->(g i).ID≠k):Ga n g k<0:=by
 grind [fS,Ga]
theorem B0(c n g k d)(hn:n<1000000000):ak prog 85 [.d (SL c 6 fu.enc n g),.d (I k),.d (I d)] σ (.cj [.d (SL none 6 fu.enc (Gq n g k d) (VL g (Ga n g k).toNat d)),.d (I (rD n g k d))]):=by
 refine ak.bs true func85 fun hwf=> ?_;refine az.mk (jI _ c n g hn) (gc [0,1,2] ?_ ?_)<;>intro d0
 ·have hz:rD n g k d=1:=by grind [rD]
  refine wA ?_;unfold Gq;rw[hz];simp[go_sem,Go.aI.aK]
 ·have hc0:dq n g=0:=ai;simp[go_sem];refine bq 8 6 (fun i=>fu.enc (nth ([]:List fu) i)) au aN ?_;refine JQ (α:=Nat) false [1,2,8,9,15,16,17] [σ.length] (fun i=>[(8,.ms σ.length 6 0 (gather (F9 g k d) i).length),(9,.d (I (VK g k i))),(17,.d (I i))]) (fun i=>σ++[.arr 6 (gather (F9 g k d) i).length (fun q=>fu.enc (nth (gather (F9 g k d) i) q))]) (fun i=>i<=n/\∀j,j<i->(g j).ID=k->(0<=d/\d<=1048575)/\d<(g j).In.Until) (fun i=>n-i) 0 (by simp[go_sem,gather,VK]) (by grind [gather]) (⟨aa,fun j h=>absurd h (Nat.not_lt_zero j)⟩) an ?_;rintro i ⟨hi,hx⟩;simp[go_sem];refine go false (gc [1,2,8,9,15,16,17] ?_ ?_)<;>intro d1
  ·have hi0:i<n:=aa;have hl:=fF (ZV g k d) i;simp[go_sem,hi0];refine wM ?_;refine go false ?_;refine gc [1,2,8,9,11,15,16,17] ?_ ?_<;>intro d2
   ·have hk2:(g i).ID=k:=ai;have hp:=ME hc0 hi0 hk2;have hpn:(Ga n g k).toNat=i:=aa;have hs:VK g k (i+1)=0:=by grind [VK]
    refine wH ?_;refine gc [1,2,8,11,15,16,17] ?_ ?_<;>intro d3
    ·have hz:rD n g k d=2:=by grind [rD]
     refine wO ?_;unfold Gq;rw[hz];simp[go_sem,Go.aI.aK]
    ·refine wH ?_;refine gc [1,2,8,11,15,16,17] ?_ ?_<;>intro d4
     ·have hz:rD n g k d=11:=by grind [rD]
      refine wO ?_;unfold Gq;rw[hz];simp[go_sem,Go.aI.aK]
     ·have hgd:(0<=d/\d<=1048575)/\d<(g i).In.Until:=aa;refine wU ?_;refine gc [1,2,8,9,11,15,16,17] ?_ ?_<;>intro d5
      ·have hg:gather (F9 g k d) (i+1)=gather (F9 g k d) i:=by grind [gather,F9]
       refine wC ?_;refine bF (i+1) ⟨aa,fun j hj hjk=>ai⟩ (h:=by simp[go_sem,hs,hg]<;>omega) (hσ:=aP) (hb:=ae au)
      ·have hg:gather (F9 g k d) (i+1)=gather (F9 g k d) i++[{ g i with In:=⟨(g i).In.From,d⟩ }]:=by grind [gather,F9]
       refine wH ?_;simp[go_sem,hwf.zero];repeat refine⟨aa,?_⟩
       refine ax σ.length (fun q=>fu.enc (nth (gather (F9 g k d) i++[{ g i with In:=⟨(g i).In.From,d⟩ }]) q)) bj (by exact fun q hq=>fH (enc:=fu.enc) (x:= { g i with In:=⟨(g i).In.From,d⟩ }) rfl hq) aN ?_;refine wW ?_;refine bF (i+1) ⟨aa,fun j hj hjk=>ai⟩ (h:=by simp[go_sem,hs,hg]<;>omega) (hσ:=aP) (hb:=ae au)
   ·have hne:(g i).ID≠k:=ai;have hs:VK g k (i+1)=VK g k i:=by grind [VK]
    have hg:gather (F9 g k d) (i+1)=gather (F9 g k d) i++[g i]:=by grind [gather,F9]
    simp[go_sem,hwf.zero];repeat refine⟨aa,?_⟩
    refine ax σ.length (fun q=>fu.enc (nth (gather (F9 g k d) i++[g i]) q)) bj (by exact fun q hq=>fH (enc:=fu.enc) (x:=g i) rfl hq) aN ?_;refine wW ?_;refine bF (i+1) ⟨aa,fun j hj hjk=>ai⟩ (h:=by simp[go_sem,hs,hg]<;>omega) (hσ:=aP) (hb:=ae au)
  ·obtain rfl:i=n:=by omega
   simp[go_sem];refine go true (gc [8,9] ?_ ?_)<;>intro d6
   ·have hz:rD i g k d=7:=by
     grind [CL,rD,Xd]
    have XX:VK g k i=7:=by
     grind [CL]
    refine wA ?_;unfold Gq;rw[hz,XX];simp[go_sem,Go.aI.aK]
   ·have hz:rD i g k d=0:=by
     rcases CL (g:=g) (k:=k) (n:=i) with⟨_,q,h1,h2⟩|⟨h1,_⟩
     ·grind [ME,rD]
     grind
    have hrv:=ZU hz;simp[go_sem];refine bg (σ.length) bj aN eS ?_;refine af ?_;rw[hz,hrv];simp[go_sem,cd];grind [JN]
theorem jH(c n g u)(hn:n<1000000000)(hN: ∀i,i<n->(g i).nc<=1000000):ak prog 89 [.d (SL c 5 Bx.enc n g),.d (I u)] σ (.cj [.d (I (cp n g u).1),.d (I (cp n g u).2.1),.d (B (cp n g u).2.2)]):=by
 refine ak.bt func89 ?_;refine az.mk (gO _ c n g hn hN) (gc [0,1] ?_ ?_)<;>intro d0
 ·have hz:cp n g u=(0,0,false):=by grind [cp]
  exact sx hz
 ·have hck:bW n g=0:=ai;simp[go_sem];refine dm (α:=Nat) true [1,14,15,16] (fun i=>[(16,.d (I i))]) (fun i=>_) (fun i=>i<=n/\qS n g u=tL g u i (n-i)) (fun i=>n-i) 0 ?_ (hx:=⟨aa,rfl⟩);rintro i ⟨hi,hx⟩;refine gc [1,14,15,16] ?_ ?_<;>intro d1
  ·have hi5:i<n:=aa;have hst:=Hj (g:=g) (u:=u) hi5;have hc5:=hN i hi5;refine wB ?_;refine dm (α:=Nat) true [1,8,14,15,16,21,22,23] (fun q=>[(23,.d (I q))]) (fun q=>_) (fun q=>q<=(g i).nc/\VS (g i) u=idxFrom (fun c:Cnt=>c.Unit==u) ((lst (g i).nc (g i).gc).drop q) q) (fun q=>(g i).nc-q) 0 ?_ (hx:=⟨aa,rfl⟩);rintro q ⟨hq,hy⟩;refine gc [1,8,14,15,16,21,22,23] ?_ ?_<;>intro d2
   ·rw[bU d2,idxFrom] at hy;refine wB ?_;refine dH [1,8,9,14,15,16,21,22,23] ?_ ?_<;>intro d3
    ·rw[if_pos ai] at hy;have h1:qS n g u=((i:Int),(q:Int)):=ai;have hz:cp n g u=((g i).ID,(q:Int),true):=by grind [cp]
     exact sx hz
    ·refine wC ?_;refine bF (q+1) ⟨aa,ai⟩ (h:=aR)
   ·rw[bV d2,idxFrom] at hy;refine wT ?_;refine bF (i+1) ⟨aa,ai⟩ (h:=aR)
  ·have hz:cp n g u=(0,0,false):=by
    simp_all [cp,tL]
   refine wF ?_;exact sy hz
theorem Eb(c n g k)(hn:n<1000000000):ak prog 337 [.d (SL c 7 cT.enc n g),.d (I k)] σ (.d (I (cP n g k))):=by
 refine ak.bt func337 ?_;refine dm (α:=Nat) true [1,7,8,9] (fun i=>[(9,.d (I i))]) (fun i=>_) (fun i=>i<=n/\cP n g k=idxFrom (fun r=>r.ID==k) ((lst n g).drop i) i) (fun i=>n-i) 0 ?_ (hx:=⟨aa,rfl⟩);rintro i ⟨hi,hx⟩;refine gc [1,7,8,9] ?_ ?_<;>intro d0
 ·rw[bU d0,idxFrom] at hx;refine wB ?_;refine dH [1,5,7,8,9] ?_ ?_<;>intro d1
  ·rw[if_pos ai] at hx;exact sx hx
  ·refine wC ?_;refine bF (i+1) ⟨aa,ai⟩ (h:=aR)
 ·rw[bV d0,idxFrom] at hx;refine wF ?_;exact sy hx
def rn(n:Nat)(g:Nat->cT)(k d:Int):Int:=if cr n g≠0 then 1 else if cP n g k<0 then 7 else if d<(g (cP n g k).toNat).Changed\/1048575<d then 2 else 0
theorem KC{can n g k d} :cz can n g k d=if rn n g k d≠0 then rn n g k d else if can (cP n g k).toNat=false then 11 else 0:=by
 grind [cz,rn]
theorem Wu{n g k d}(h:rn n g k d=0):cr n g=0/\∃i,i<n/\cP n g k=(i:Int)/\(g i).ID=k:=by
 unfold rn at h;split at h
 ·cases h
 ·rename_i h0;split at h;all_goals grind [fS,cP]
theorem ng(c n g k d)(hn:n<1000000000):ak prog 242 [.d (SL c 7 cT.enc n g),.d (I k),.d (I d)] σ (.cj [.d (I (if rn n g k d=0 then cP n g k else 0)),.d (I (rn n g k d))]):=by
 have hlt:=L6 n g k;refine ak.bt func242 ?_;refine az.mk (jG _ c n g hn) (gc [0,1,2] ?_ ?_)<;>intro d0
 ·have hz:rn n g k d=1:=by grind [rn]
  exact sx hz
 ·simp[go_sem];refine az.mk (Eb _ c n g k hn) (gc [0,2,8] ?_ ?_)<;>intro d1
  ·have hz:rn n g k d=7:=by grind [rn]
   exact sx hz
  ·obtain⟨i,hii⟩: ∃i:Nat,cP n g k=(i:Int):=⟨(cP n g k).toNat,aa⟩;have hin:i<n:=aa;simp[go_sem,hii,hin];refine dH [8] ?_ ?_<;>intro d2
   ·have hz:rn n g k d=2:=by grind [rn]
    exact sx hz
   ·have hz:rn n g k d=0:=by grind [rn]
    exact sx hz
theorem lz(c n g i st d)(hi:i<n)(hn:n<1000000000):ak prog 244 [.d (SL c 7 cT.enc n g),.d (I i),.d (I st),.d (I d)] σ (.d (SL none 7 cT.enc n (dj g i st d))):=by
 refine ak.bd true func244 fun hwf=> ?_;refine wB ?_;refine bg (σ.length) bj aN eS ?_;refine af ?_;simp[go_sem,dj];grind [cJ]
theorem Gz(c n g b)(hn:n<1000000000):ak prog 243 [.d (SL c 7 cT.enc n g),.d (I b)] σ (.cj [.d (I (Xk n g b).1),.d (B (Xk n g b).2)]):=by
 refine ak.bt func243 ?_;refine az.mk (jG _ c n g hn) (gc [0,1] ?_ ?_)<;>intro d0
 ·have hz:Xk n g b=(0,false):=by grind [Xk]
  exact sx hz
 ·simp[go_sem];refine mA (α:=Nat) true [1,6,12,13,14] (fun i=>[(14,.d (I i)),(6,.d (I (JM g b i)))]) (fun i=>_) (fun i=>i<=n/\∀q,q<i->py b (g q)=false) (fun i=>n-i) 0 (by simp[go_sem,JM]) (rfl) (⟨aa,fun q h=>absurd h (Nat.not_lt_zero q)⟩) ?_;rintro i ⟨hi,hx⟩;refine gc [1,6,12,13,14] ?_ ?_<;>intro d1
  ·have hi5:i<n:=aa;refine wB ?_;refine dH [1,6,8,12,13,14] ?_ ?_<;>intro d2
   ·have hz:Xk n g b=(0,false):=by grind [Xk,uX,dw,py]
    exact sx hz
   ·have hli:py b (g i)=false:=by grind [py]
    refine gc [1,6,8,12,13,14] ?_ ?_<;>intro d3
    ·have hs:JM g b (i+1)=(g i).ID:=by grind [JM]
     refine wC ?_;refine bF (i+1) ⟨aa,fun q h=>ai⟩ (h:=mr)
    ·have hs:JM g b (i+1)=JM g b i:=by grind [JM]
     refine wC ?_;refine bF (i+1) ⟨aa,fun q h=>ai⟩ (h:=mr)
  ·obtain rfl:i=n:=by omega
   have hz:Xk i g b=(JM g b i,JM g b i !=0):=by
    have h0:cr i g=0:=ai;unfold Xk;rw[if_neg];rintro(h|h)
    ·grind
    ·obtain⟨q,h1,h2⟩:=dw.1 h;grind
   refine wF ?_;exact sy hz
theorem BX(c n g k d)(hn:n<1000000000):ak prog 173 [.d (SL c 7 cT.enc n g),.d (I k),.d (I d)] σ (.cj [.d (SL none 7 cT.enc (if cz (dU g) n g k d=0 then n else 0) (dj g (cP n g k).toNat 3 d)),.d (I (cz (dU g) n g k d))]):=by
 have hcs:=KC (can:=dU g) (n:=n) (g:=g) (k:=k) (d:=d);refine ak.bt func173 ?_;refine az.mk (ng _ c n g k d hn) (gc [0,2,8,9] ?_ ?_)<;>intro d0
 ·rw[if_pos ai] at hcs;have hz: ¬cz (dU g) n g k d=0:=ai;refine wA ?_;rw[if_neg hz,hcs];simp[go_sem,Go.aI.aK]
 ·have h0:rn n g k d=0:=ai;obtain⟨hck,i,hin,hii,hid⟩:=Wu h0;rw[if_neg ai,hii] at hcs;simp[go_sem,h0,hii,hin];refine dH [0,2,8] ?_ ?_<;>intro d1
  ·have hz:cz (dU g) n g k d=11:=by grind [dU]
   refine wA ?_;rw[hz];simp[go_sem,Go.aI.aK]
  ·have hz:cz (dU g) n g k d=0:=by grind [dU]
   simp[go_sem];refine az.mk (lz _ c n g i 3 d hin hn) ?_;refine wA ?_;rw[hz];simp[go_sem]
theorem GA(c n g k d)(rk:Int)(hn:n<1000000000):ak prog 172 [.d (SL c 7 cT.enc n g),.d (I k),.d (I d),.d (B (rk==1))] σ (.cj [.d (SL none 7 cT.enc (if cz (dv g) n g k d=0 then n else 0) (dj g (cP n g k).toNat (if(rk==1)=true then 4 else 5) d)),.d (I (cz (dv g) n g k d))]):=by
 have hcs:=KC (can:=dv g) (n:=n) (g:=g) (k:=k) (d:=d);refine ak.bt func172 ?_;refine az.mk (ng _ c n g k d hn) (gc [0,2,3,10,11] ?_ ?_)<;>intro d0
 ·rw[if_pos ai] at hcs;have hz: ¬cz (dv g) n g k d=0:=ai;refine wA ?_;rw[if_neg hz,hcs];simp[go_sem,Go.aI.aK]
 ·have h0:rn n g k d=0:=ai;obtain⟨hck,i,hin,hii,hid⟩:=Wu h0;rw[if_neg ai,hii] at hcs;simp[go_sem,h0,hii,hin];refine dH [0,2,3,10] ?_ ?_<;>intro d1
  ·have hz:cz (dv g) n g k d=11:=by grind [dv]
   refine wA ?_;rw[hz];simp[go_sem,Go.aI.aK]
  ·have hz:cz (dv g) n g k d=0:=by grind [dv]
   refine gc [0,2,10] ?_ ?_<;>intro d2
   ·simp[go_sem];refine az.mk (lz _ c n g i 4 d hin hn) ?_;refine wA ?_;rw[hz];simp[go_sem,d2]
   ·simp[go_sem];refine az.mk (lz _ c n g i 5 d hin hn) ?_;refine wA ?_;rw[hz];simp[go_sem,d2]
theorem uG(c n g k d)(hn:n<1000000000):ak prog 171 [.d (SL c 7 cT.enc n g),.d (I k),.d (I d)] σ (.cj [.d (SL none 7 cT.enc (if cz (cf n g) n g k d=0 then n else 0) (dj g (cP n g k).toNat 2 d)),.d (I (cz (cf n g) n g k d))]):=by
 have hcs:=KC (can:=cf n g) (n:=n) (g:=g) (k:=k) (d:=d);refine ak.bt func171 ?_;refine az.mk (ng _ c n g k d hn) (gc [0,1,2,8,9] ?_ ?_)<;>intro d0
 ·rw[if_pos ai] at hcs;have hz: ¬cz (cf n g) n g k d=0:=ai;refine wA ?_;rw[if_neg hz,hcs];simp[go_sem,Go.aI.aK]
 ·have h0:rn n g k d=0:=ai;obtain⟨hck,i,hin,hii,hid⟩:=Wu h0;rw[if_neg ai,hii,Int.toNat_natCast,aae hck hin,hid] at hcs;simp[go_sem,h0,hii,hin];refine az.mk (Gz _ c n g (g i).Box hn) ?_;refine gc [0,2,8] ?_ ?_<;>intro d1
  ·have hz:cz (cf n g) n g k d=11:=ai;refine wA ?_;rw[hz];simp[go_sem,Go.aI.aK]
  ·have hz:cz (cf n g) n g k d=0:=ai;simp[go_sem];refine az.mk (lz _ c n g i 2 d hin hn) ?_;refine wA ?_;rw[hz];simp[go_sem]
theorem Ec(c n g r)(hn:n<1000000000):ak prog 93 [.d (SL c 7 cT.enc n g),.agg (r.enc.map .d)] σ (.cj [.d (SL none 7 cT.enc (if dB n g r=0 then n+1 else 0) (aL g n (gL r))),.d (I (dB n g r))]):=by
 have hwp:=aT (i:=n) aa;refine ak.bd true func93 fun hwf=> ?_;simp[go_sem];refine az.mk (jG _ c n g hn) ?_;refine gc [0,3] ?_ ?_<;>intro d0
 ·have hz:dB n g r=1:=by grind [dB]
  refine wA ?_;rw[hz];simp[go_sem,Go.aI.aK]
 ·simp[go_sem];refine az.mk (fw _ r.ID) ?_;simp[go_sem];refine cE.mk' (.d (B (fc r.Reader))) (fun _=>fw _ r.Reader) ?_;simp[go_sem];refine cE.mk' (.d (B (fc r.Unit))) (fun _=>fw _ r.Unit) ?_;simp[go_sem];refine cE.mk' (.d (B (fc r.Box))) (fun _=>fw _ r.Box) ?_;simp[go_sem];refine cE.mk' (.d (B (gW r.Day))) (fun _=>xo _ r.Day) ?_;refine gc [0,3] ?_ ?_<;>intro d1
  ·have hz:dB n g r=2:=by
    grind [dB]
   refine wA ?_;rw[hz];simp[go_sem,Go.aI.aK]
  ·have hf:(fc r.ID&&fc r.Reader&&fc r.Unit&&fc r.Box&&gW r.Day)=true:=by
    cases h1:fc r.ID<;>cases h2:fc r.Reader<;>cases h3:fc r.Unit<;>cases h4:fc r.Box<;>cases h5:gW r.Day<;>simp_all
   simp[go_sem];refine T.dr 24 fun K hK=> ?_;simp[go_sem,hwp];refine wK hK ?_;refine gc [0,3] ?_ ?_<;>intro d2
   ·have hz:dB n g r=5:=by grind [dB]
    refine wA ?_;rw[hz];simp[go_sem,Go.aI.aK]
   ·simp[go_sem];refine mA (α:=Nat) true [0,3,66,67,68] (fun i=>[(68,.d (I i))]) (fun i=>σ++[.var (r.enc.map .d)]) (fun i=>i<=n/\∀q,q<i->x7 r.Reader r.Unit (g q)=false) (fun i=>n-i) 0 au (rfl) (⟨aa,fun q h=>absurd h (Nat.not_lt_zero q)⟩) ?_;rintro i ⟨hi,hx⟩;refine gc [0,3,66,67,68] ?_ ?_<;>intro d3
    ·have hi5:i<n:=aa;simp[go_sem,hi5];refine az.mk (oP _ (g i)) ?_;refine gc [0,3,66,67,68] ?_ ?_<;>intro d4
     ·have hdi:x7 r.Reader r.Unit (g i)=true:=by grind [x7]
      have hdb:Oq n g r.Reader r.Unit=true:=dw.2 ⟨i,hi5,hdi⟩;have hz:dB n g r=6:=by grind [dB]
      refine wA ?_;rw[hz];simp[go_sem,Go.aI.aK]
     ·have hdi:x7 r.Reader r.Unit (g i)=false:=by
       grind [x7]
      refine wC ?_;refine bF (i+1) ⟨aa,fun q h=>ai⟩ (h:=aR) (hσ:=aP) (hb:=ae au)
    ·obtain rfl:i=n:=by omega
     have hdb: ¬Oq i g r.Reader r.Unit=true:=fun h=>by obtain⟨q,h1,h2⟩:=dw.1 h;grind
     have aht:i<=256:=(I8 l5).1;refine wR ?_;refine gc [0,3] ?_ ?_<;>intro d5
     ·have hz:dB i g r=12:=by grind [dB]
      refine wA ?_;rw[hz];simp[go_sem,Go.aI.aK]
     ·have hz:dB i g r=0:=by grind [dB]
      simp[go_sem];apply Mix.bA 5 [(2,some 98)] [[0,1]] [(.ms (σ.length+1) 7 0 i,(σ++[.var ((⟨r.ID,r.Reader,r.Unit,r.Box,r.Day,1,r.Day⟩:cT).enc.map .d),.arr 7 i (fun q=>cT.enc (g q))]))] T.mixed aD
      ·intro K hK;simp[go_sem];exact hK _ _
      ·refine Mix.aw ?_ (Mix.aW)
       ·intro K hK;simp[go_sem];grind
      ·refine Mix.aG ?_ (Mix.bn)
       ·simp[go_sem];omega
      intro K hK;simp[go_sem,hwf.one];refine wZ hK ?_;refine aF hwf (σ.length+1) ?_;refine af ?_;rw[hz];simp[go_sem];exact lW (enc:=cT.enc) (x:=gL r) rfl
theorem aec{n g}(h:bX n g=0)(m)(hn:n≠1024):gh n g m=nj n g m:=by
 have h0:(bo n g).1=0:=h;grind [gh,CO,XA]
theorem fP(c n g m)(hn:n<1000000000):ak prog 166 [.d (SL c 6 hY.enc n g),.agg (m.enc.map .d)] σ (.cj [.d (SL none 6 hY.enc (if gh n g m=0 then n+1 else 0) (aL g n m)),.d (I (gh n g m))]):=by
 refine ak.bs true func166 fun hwf=> ?_;refine az.mk (sb _ c n g hn) (gc [0,3] ?_ ?_)<;>intro d0
 ·have hz:gh n g m=1:=by
   grind [bX,gh]
  refine wA ?_;rw[hz];simp[go_sem,Go.aI.aK]
 ·have hck:bX n g=0:=ai;refine gc [0,3] ?_ ?_<;>intro d1
  ·have hz:gh n g m=12:=by
    have h:(bo n g).1=0:=hck;grind [gh]
   refine wA ?_;rw[hz];simp[go_sem,Go.aI.aK]
  ·have hae:=aec hck m aa;simp[go_sem];refine az.mk (uH _ c n g m hn) (gc [0,3,6] ?_ ?_)<;>intro d2
   ·have hz: ¬gh n g m=0:=ai;refine wA ?_;rw[if_neg hz,hae];simp[go_sem,Go.aI.aK]
   ·have hz:gh n g m=0:=ai;simp[go_sem];apply Mix.bA 5 [(2,some 21)] [[0,1]] [(.ms (σ.length+1) 6 0 n,(σ++[.var (m.enc.map .d),.arr 6 n (fun i=>hY.enc (g i))]))] T.mixed aD
    ·intro K hK;simp[go_sem];exact hK _ _
    ·refine Mix.aw ?_ (Mix.aW)
     ·intro K hK;simp[go_sem];grind
    ·refine Mix.aG ?_ (Mix.bn)
     ·simp[go_sem];omega
    intro K hK;simp[go_sem,hwf.one];refine wG hK ?_;refine go true (sm ?_);refine aF hwf (σ.length+1) ?_;refine af ?_;rw[hz];simp[go_sem];exact lW (enc:=hY.enc) (x:=m) rfl
theorem Ea(k c n g b)(hn:n<100000000):ak prog 96 [.d (I k),.d (SL c 4 ju.enc n g),.agg (b.enc.map .d)] σ (.cj [.d (SL none 4 ju.enc (if lZ k n g b=0 then n+1 else 0) (aL g n b)),.d (I (lZ k n g b))]):=by
 refine ak.bs true func96 fun hwf=> ?_;refine az.mk (sa _ k c n g hn) (gc [0,1,5] ?_ ?_)<;>intro d0
 ·have hz:lZ k n g b=1:=by grind [lZ]
  refine wA ?_;rw[hz];simp[go_sem,Go.aI.aK]
 ·have hck:dM k n g=0:=ai;have hm:n<=1024:=by
   grind [dM]
  refine gc [0,1,5] ?_ ?_<;>intro d1
  ·have hz:lZ k n g b=8:=by grind [lZ]
   refine wA ?_;rw[hz];simp[go_sem,Go.aI.aK]
  ·have hz0:lZ k n g b=pS k n g b:=by grind [lZ]
   simp[go_sem];refine az.mk (uE _ k c n g b hn (aea hck)) (gc [1,5,8] ?_ ?_)<;>intro d2
   ·have hz: ¬lZ k n g b=0:=ai;refine wA ?_;rw[if_neg hz,hz0];simp[go_sem,Go.aI.aK]
   ·have hz:lZ k n g b=0:=ai;simp[go_sem];apply Mix.bA 5 [(2,some 25)] [[0,1]] [(.ms (σ.length+1) 4 0 n,(σ++[.var (b.enc.map .d),.arr 4 n (fun i=>ju.enc (g i))]))] T.mixed aD
    ·intro K hK;simp[go_sem];exact hK _ _
    ·refine Mix.aw ?_ (Mix.aW)
     ·intro K hK;simp[go_sem];grind
    ·refine Mix.aG ?_ (Mix.bn)
     ·simp[go_sem];omega
    intro K hK;simp[go_sem,hwf.one];refine wG hK ?_;refine go true (sm ?_);refine aF hwf (σ.length+1) ?_;refine af ?_;rw[hz];simp[go_sem];exact lW (enc:=ju.enc) (x:=b) rfl
end Go.Proofs.YthpplckmbbachaaGreatDoor
