/- Contracts and lemmas, joined out of smaller texts by a program; no conditions. -/
import Derived.Test.YthlhlnbcjlpigaaGreatDoorKB41
import Derived.Test.YthlhlnbcjlpigaaGreatDoorKB43
import Derived.Test.YthlhlnbcjlpigaaGreatDoorKB44
set_option linter.unusedVariables false
set_option linter.unusedSimpArgs false
set_option maxHeartbeats 2000000
set_option maxRecDepth 100000
namespace Go.Proofs.YthlhlnbcjlpigaaGreatDoor
open Go.aU Go.bY Go.Proofs.Tryz
variable (σ : List aC)
open Classical in
noncomputable def Qk(u:Use):Bool:=decide (StdR u)
open Classical in
noncomputable def QI(u:Use):Bool:=decide (LntR u)
open Classical in
noncomputable def PY(u:Use):Bool:=decide (BatS u)
open Classical in
theorem stdB_no{u:Use}(h: ¬StdR u):Qk u=false:=decide_eq_false h
open Classical in
theorem WX{u:Use}(h:StdR u):Qk u=true:=decide_eq_true h
open Classical in
theorem lnrB_no{u:Use}(h: ¬LntR u):QI u=false:=decide_eq_false h
open Classical in
theorem XO{u:Use}(h:LntR u):QI u=true:=decide_eq_true h
open Classical in
theorem batB_no{u:Use}(h: ¬BatS u):PY u=false:=decide_eq_false h
open Classical in
theorem Zi{u:Use}(h:BatS u):PY u=true:=decide_eq_true h
def fwP(m:fJ)(q:Nat):sH:=if q=0 then m.From else m.To
theorem XF{u:Use}{i:Nat}(hi:i<u.nv)(h:yG u (u.gv i)=true):iC u=false:=by
 unfold iC;rw[jC.2 ⟨i,hi,h⟩];rfl
open Classical in
theorem stdB_iff{u:Use} :Qk u=true↔StdR u:=by unfold Qk;exact decide_eq_true_iff
open Classical in
theorem lnrB_iff{u:Use} :QI u=true↔LntR u:=by unfold QI;exact decide_eq_true_iff
open Classical in
theorem Zj{u:Use} :PY u=true↔BatS u:=by unfold PY;exact decide_eq_true_iff
theorem oW(u:Use)(b:Int)(hn:u.nv<1000000000):ay prog 34 [.agg (u.cells u.dw),.d (I b)] σ (.agg ((iw u.gv b u.nv).enc.map .d)):=by
 refine ay.bs true func34 fun hwf=> ?_;refine zJ (α:=Nat) true [1,4,5,10,11,12] (fun i=>[(12,.d (I i))]) (fun i=>σ++[.var (u.cells u.dw),.var [.d (I 0),.d (I 0)],.var ((iw u.gv b i).enc.map .d)]) (fun i=>i<=u.nv) (fun i=>u.nv-i) 0 (by simp[go_sem]) (rfl) (by simp) ?_;rintro i hi;simp[go_sem];refine aH [1,4,5,10,11,12] ?_ ?_<;>intro c0 d0
 ·simp[go_sem];repeat refine⟨by omega,?_⟩
  refine aH [1,4,5,7,10,11,12] ?_ ?_<;>intro c1 d1
  ·have hs:iw u.gv b (i+1)=(u.gv i).To:=by rw[iw,if_pos d1]
   simp(disch:=first|omega|simp) [go_sem,aA];refine dB (i+1) (by omega) (h:=by simp[go_sem]<;>omega) (hσ:=by simp[go_sem,hs]) (hb:=au (by simp[go_sem]))
  ·have hs:iw u.gv b (i+1)=iw u.gv b i:=by rw[iw,if_neg d1]
   simp(disch:=first|omega|simp) [go_sem,aA];refine dB (i+1) (by omega) (h:=by simp[go_sem]<;>omega) (hσ:=by simp[go_sem,hs]) (hb:=au (by simp[go_sem]))
 ·obtain rfl:i=u.nv:=by omega
  simp[go_sem];refine go true (sm ?_);exact aj so
theorem Nw(u:Use)(hu:dR u):ay prog 44 [.agg (u.cells u.dw)] σ (.d (B (iC u))):=by
 have z1:=hu.nb;have z2:=hu.nf;have z3:=hu.nv;refine ay.bs true func44 fun hwf=> ?_;refine gy (α:=Nat) true [1,8,9,10] (fun i=>[(10,.d (I i))]) (fun i=>σ++[.var (u.cells u.dw)]) (fun i=>i<=u.nv/\∀q,q<i->yG u (u.gv q)=false) (fun i=>u.nv-i) 0 ?_ (hx:=⟨by omega,fun k hk=>absurd hk (Nat.not_lt_zero _)⟩);rintro i ⟨hi,hx⟩;simp[go_sem];refine aH [1,8,9,10] ?_ ?_<;>intro c0 d0
 ·simp[go_sem];repeat refine⟨by omega,?_⟩
  refine fA.mk' (.d (I (qc u.nb u.gb (u.gv i).Box))) (fun _=>zx _ none u.nb u.gb (u.gv i).Box (by omega)) (sm ?_);refine aH [1,4,8,9,10] ?_ ?_<;>intro c1 d1
  ·have hz:iC u=false:=XF d0 (by unfold yG;rcases d1 with h|h;(simp[h]);(simp[h]));simp[go_sem];rw[hz];exact aj sc
  ·simp[go_sem];refine gy (α:=Nat) true [1,8,9,10,31,32,33] (fun q=>[(33,.d (I q))]) (fun q=>σ++[.var (u.cells u.dw),.var ((u.gv i).enc.map .d)]) (fun q=>q<=2/\∀k,k<q->Ew u (fwP (u.gv i) k)=true) (fun q=>2-q) 0 ?_ (hx:=⟨by omega,fun k hk=>absurd hk (Nat.not_lt_zero _)⟩);rintro q ⟨hq,hy⟩;simp[go_sem];refine aH [1,8,9,10,31,32,33] ?_ ?_<;>intro c2 d2
   ·have hq5:q<2:=by omega
    have hrow:rowsOf 2 [I (u.gv i).From.Kind,I (u.gv i).From.Of,I (u.gv i).To.Kind,I (u.gv i).To.Of] q=(fwP (u.gv i) q).enc:=by
     rcases(show q=0\/q=1 by omega) with rfl|rfl<;>rfl
    simp[go_sem,hrow];repeat refine⟨by omega,?_⟩
    refine fA.mk' (.d (I (uU u.nf u.gf (fwP (u.gv i) q).Of))) (fun _=>NI _ none u.nf u.gf (fwP (u.gv i) q).Of (by omega)) ?_;simp[go_sem];refine aH [1,8,9,10,31,32,33] ?_ ?_<;>intro c3 d3
    ·have hz:iC u=false:=XF d0 (by
      have h9:Ew u (fwP (u.gv i) q)=false:=by unfold Ew;(try simp at d3);simp;omega
      unfold yG;rcases(show q=0\/q=1 by omega) with rfl|rfl
      ·rw[show fwP (u.gv i) 0=(u.gv i).From from rfl] at h9;simp[h9]
      ·rw[show fwP (u.gv i) 1=(u.gv i).To from rfl] at h9;simp[h9])
     simp[go_sem];rw[hz];exact aj sc
    ·simp(disch:=first|omega|simp) [go_sem,aA];refine dB (q+1) ⟨by omega,fun k hk=>by by_cases h:k=q;(subst h;unfold Ew;(try simp at d3);simp;omega);exact hy k (by omega)⟩ (h:=by simp[go_sem]<;>omega) (hσ:=by simp[go_sem]) (hb:=au (by simp[go_sem]))
   ·have hmi:yG u (u.gv i)=false:=by
     have h8:Ew u (u.gv i).From=true:=hy 0 (by omega);have h9:Ew u (u.gv i).To=true:=hy 1 (by omega);unfold yG;rw[h8,h9];(try simp at d1);simp;omega
    simp[go_sem];refine go true ?_;simp(disch:=first|omega|simp) [go_sem,aA];refine dB (i+1) ⟨by omega,fun k hk=>by by_cases h:k=i;(subst h;exact hmi);exact hx k (by omega)⟩ (h:=by simp[go_sem]<;>omega) (hσ:=by simp[go_sem]) (hb:=au (by simp[go_sem]))
 ·have hz:iC u=true:=lM.2 fun k hk=>hx k (by omega);simp[go_sem];refine go true (sm ?_);rw[hz];exact aj sc
theorem sumOn_bd{u:Use}{s:Int}{n:Nat}(hw: ∀i,i<n->0<=(u.gb i).Width/\(u.gb i).Width<=10000): ∀k,k<=n->0<=iq u s k/\iq u s k<=10000*(k:Int):=by
 intro k;induction k with
 |zero=>intro _;simp[iq]
 |succ k ih=>
  intro hk;have h1:=ih (by omega);have h2:=hw k (by omega);rw[iq];split<;>omega
theorem bx_wd{n:Nat}{g:Nat->Bx}(h:dQ n g=0): ∀i,i<n->0<=(g i).Width/\(g i).Width<=10000:=fun i hi=>by
 have:=(G6 ((xM h).2 i hi)).1;unfold yM at this;simp only[Bool.and_eq_true,eH] at this;omega
def Xr(u:Use)(q:Nat)(r:eU):Bool:=r.State==2&&r.Box==(u.gb q).ID&&r.Reader==(iw u.gv (u.gb q).ID u.nv).Of
theorem any_succ{α:Type}{p:α->Bool}{g:Nat->α}{n:Nat} :(lst (n+1) g).any p=((lst n g).any p||p (g n)):=by
 unfold lst;rw[List.range_succ,List.map_append,List.any_append];simp
theorem Nv(u:Use)(hu:dR u)(hb:dQ u.nb u.gb=0)(hm:dL u.nv u.gv=0):ay prog 45 [.agg (u.cells u.dw)] σ (.d (B (Qk u))):=by
 have z1:=hu.nb;have z2:=hu.nf;have z3:=hu.nv;have hpl:=FK hm;have hwd:=bx_wd hb;refine ay.bs true func45 fun hwf=> ?_;refine gy (α:=Nat) true [1,9,10,11] (fun f=>[(11,.d (I f))]) (fun f=>σ++[.var (u.cells u.dw)]) (fun f=>f<=u.nf/\∀k,k<f->StdF u k) (fun f=>u.nf-f) 0 ?_ (hx:=⟨by omega,fun k hk=>absurd hk (Nat.not_lt_zero _)⟩);rintro f ⟨hf,hx⟩;simp[go_sem];refine aH [1,9,10,11] ?_ ?_<;>intro c0 d0
 ·simp[go_sem];repeat refine⟨by omega,?_⟩
  refine zJ (α:=Nat) true [1,4,5,9,10,11,16,17,18] (fun i=>[(18,.d (I i)),(5,.d (I (iq u (u.gf f).ID i)))]) (fun i=>σ++[.var (u.cells u.dw),.var ((u.gf f).enc.map .d)]) (fun i=>i<=u.nb/\∀k,k<i->aY u (u.gb k).ID=⟨1,(u.gf f).ID⟩->(u.gb k).dU=(u.gf f).dU) (fun i=>u.nb-i) 0 (by simp[go_sem,iq]) (rfl) (⟨by omega,fun k hk=>absurd hk (Nat.not_lt_zero _)⟩) ?_;rintro i ⟨hi,hy⟩;simp[go_sem];refine aH [1,4,5,9,10,11,16,17,18] ?_ ?_<;>intro c1 d1
  ·have hi5:i<u.nb:=by omega
   have hb2:=sumOn_bd (s:=(u.gf f).ID) hwd i (by omega);have hb3:=hwd i hi5;simp[go_sem];repeat refine⟨by omega,?_⟩
   refine T.dr 8 fun K hK=>sm ?_;refine dS.mk (oW _ u (u.gb i).ID (by omega)) (sm ?_);refine hK _ ?_;refine go true (sm ?_);refine aH [1,4,5,7,9,10,11,16,17,18] ?_ ?_<;>intro c2 d2
   ·have hne:aY u (u.gb i).ID≠⟨1,(u.gf f).ID⟩:=fun h=>by rw[hpl] at h;rw[h] at d2;simp at d2
    have hs:iq u (u.gf f).ID (i+1)=iq u (u.gf f).ID i:=by rw[iq,if_neg hne];omega
    simp(disch:=first|omega|simp) [go_sem,aA];refine dB (i+1) ⟨by omega,fun k hk h1=>by by_cases h:k=i;(subst h;exact absurd h1 hne);exact hy k (by omega) h1⟩ (h:=by simp[go_sem,hs]<;>omega) (hσ:=by simp[go_sem]) (hb:=au (by simp[go_sem]))
   ·have heq:aY u (u.gb i).ID=⟨1,(u.gf f).ID⟩:=by rw[hpl];rcases h:iw u.gv (u.gb i).ID u.nv with⟨a,b⟩;rw[h] at d2;simp at d2;rw[d2.1,d2.2]
    have hs:iq u (u.gf f).ID (i+1)=iq u (u.gf f).ID i+(u.gb i).Width:=by rw[iq,if_pos heq]
    simp[go_sem];refine aH [1,4,5,7,9,10,11,16,17,18] ?_ ?_<;>intro c3 d3
    ·have hz:Qk u=false:=stdB_no fun H=>absurd ((H f (by omega)).1 i hi5 heq) (by omega);simp[go_sem];rw[hz];exact aj sc
    ·simp(disch:=first|omega|simp) [go_sem,aA];refine dB (i+1) ⟨by omega,fun k hk h1=>by by_cases h:k=i;(subst h;omega);exact hy k (by omega) h1⟩ (h:=by simp[go_sem,hs]<;>omega) (hσ:=by simp[go_sem]) (hb:=au (by simp[go_sem]))
  ·obtain rfl:i=u.nb:=by omega
   simp[go_sem];refine go true (sm ?_);refine aH [1,9,10,11] ?_ ?_<;>intro c4 d4
   ·have hz:Qk u=false:=stdB_no fun H=>absurd (H f (by omega)).2 (by omega);simp[go_sem];rw[hz];exact aj sc
   ·have hsf:StdF u f:=⟨fun k hk=>hy k hk,by omega⟩;simp(disch:=first|omega|simp) [go_sem,aA];refine dB (f+1) ⟨by omega,fun k hk=>by by_cases h:k=f;(subst h;exact hsf);exact hx k (by omega)⟩ (h:=by simp[go_sem]<;>omega) (hσ:=by simp[go_sem]) (hb:=au (by simp[go_sem]))
 ·have hz:Qk u=true:=WX fun k hk=>hx k (by omega);simp[go_sem];refine go true (sm ?_);rw[hz];exact aj sc
theorem Qn(u:Use)(hu:dR u)(hm:dL u.nv u.gv=0):ay prog 46 [.agg (u.cells u.dw)] σ (.d (B (QI u))):=by
 have z1:=hu.nb;have z2:=hu.nr;have z3:=hu.nv;have hpl:=FK hm;refine ay.bs true func46 fun hwf=> ?_;refine gy (α:=Nat) true [1,12,13,14] (fun i=>[(14,.d (I i))]) (fun i=>σ++[.var (u.cells u.dw)]) (fun i=>i<=u.nr/\∀k,k<i->(u.gr k).Changed<=u.Changed/\((u.gr k).State=2->aY u (u.gr k).Box=⟨3,(u.gr k).Reader⟩)) (fun i=>u.nr-i) 0 ?_ (hx:=⟨by omega,fun k hk=>absurd hk (Nat.not_lt_zero _)⟩);rintro i ⟨hi,hx⟩;simp[go_sem];refine aH [1,12,13,14] ?_ ?_<;>intro c0 d0
 ·simp[go_sem];repeat refine⟨by omega,?_⟩
  refine T.dr 20 fun K hK=>sm ?_;refine dS.mk' (.agg ((iw u.gv (u.gr i).Box u.nv).enc.map .d)) (fun _=>oW _ u (u.gr i).Box (by omega)) (sm ?_);refine hK _ ?_;refine go true (sm ?_);refine aH [1,12,13,14] ?_ ?_<;>intro c1 d1
  ·have hz:QI u=false:=lnrB_no fun H=>by
    have h1:=H.req i (by omega);rw[hpl] at h1;rcases d1 with h|⟨h,h2⟩
    ·omega
    ·rw[h1.2 h] at h2;simp at h2
   simp[go_sem];rw[hz];exact aj sc
  ·have hri:(u.gr i).Changed<=u.Changed/\((u.gr i).State=2->aY u (u.gr i).Box=⟨3,(u.gr i).Reader⟩):=by
    rw[hpl];refine⟨by omega,fun h=> ?_⟩;rcases h2:iw u.gv (u.gr i).Box u.nv with⟨a,b⟩;rw[h2] at d1;(try simp at d1);have:=d1.2 h;rw[this.1,this.2]
   simp(disch:=first|omega|simp) [go_sem,aA];refine dB (i+1) ⟨by omega,fun k hk=>by by_cases h:k=i;(subst h;exact hri);exact hx k (by omega)⟩ (h:=by simp[go_sem]<;>omega) (hσ:=by simp[go_sem]) (hb:=au (by simp[go_sem]))
 ·simp[go_sem];refine go true (sm ?_);refine gy (α:=Nat) true [1,40,41,42] (fun q=>[(42,.d (I q))]) (fun q=>σ++[.var (u.cells u.dw)]) (fun q=>q<=u.nb/\∀k,k<q->(aY u (u.gb k).ID).Kind=3->∃j,j<u.nr/\(u.gr j).State=2/\(u.gr j).Box=(u.gb k).ID/\(u.gr j).Reader=(aY u (u.gb k).ID).Of) (fun q=>u.nb-q) 0 ?_ (hx:=⟨by omega,fun k hk=>absurd hk (Nat.not_lt_zero _)⟩);rintro q ⟨hq,hy⟩;simp[go_sem];refine aH [1,40,41,42] ?_ ?_<;>intro c2 d2
  ·have hq5:q<u.nb:=by omega
   simp[go_sem];repeat refine⟨by omega,?_⟩
   refine aW.mk (oW _ u (u.gb q).ID (by omega)) (sm ?_);refine aH [1,6,7,40,41,42] ?_ ?_<;>intro c3 d3
   ·have hk3:(aY u (u.gb q).ID).Kind≠3:=by rw[hpl];omega
    simp(disch:=first|omega|simp) [go_sem,aA];refine dB (q+1) ⟨by omega,fun k hk h1=>by by_cases h:k=q;(subst h;exact absurd h1 hk3);exact hy k (by omega) h1⟩ (h:=by simp[go_sem]<;>omega) (hσ:=by simp[go_sem]) (hb:=au (by simp[go_sem]))
   ·have hk3:(aY u (u.gb q).ID).Kind=3:=by rw[hpl];omega
    simp[go_sem];refine zJ (α:=Nat) true [1,6,7,8,40,41,42,54,55,56] (fun y=>[(56,.d (I y)),(8,.d (B ((lst y u.gr).any (Xr u q))))]) (fun y=>σ++[.var (u.cells u.dw),.var ((u.gb q).enc.map .d),.var ((iw u.gv (u.gb q).ID u.nv).enc.map .d)]) (fun y=>y<=u.nr) (fun y=>u.nr-y) 0 (by simp[go_sem,lst]) (rfl) (by simp) ?_;rintro y hyn;simp[go_sem];refine aH [1,6,7,8,40,41,42,54,55,56] ?_ ?_<;>intro c4 d4
    ·have hy5:y<u.nr:=by omega
     have hs:=any_succ (p:=Xr u q) (g:=u.gr) (n:=y);simp(disch:=first|omega|simp) [go_sem,Xr,aA];repeat refine⟨by omega,?_⟩
     refine dB (y+1) (by omega) (h:=by simp[go_sem,hs,Xr]<;>omega) (hσ:=by simp[go_sem]) (hb:=au (by simp[go_sem]))
    ·obtain rfl:y=u.nr:=by omega
     simp[go_sem];refine go true (sm ?_);refine aH [1,40,41,42] ?_ ?_<;>intro c5 d5
     ·have hz:QI u=false:=lnrB_no fun H=>by
       obtain⟨j,h1,h2,h3,h4⟩:=H.box q hq5 hk3;rw[hpl] at h4;have:(lst u.nr u.gr).any (Xr u q)=true:=jC.2 ⟨j,h1,by simp[Xr,h2,h3,h4]⟩
       (simp[this] at c5;done)
      simp[go_sem];rw[hz];exact aj sc
     ·have hbq:(aY u (u.gb q).ID).Kind=3->∃j,j<u.nr/\(u.gr j).State=2/\(u.gr j).Box=(u.gb q).ID/\(u.gr j).Reader=(aY u (u.gb q).ID).Of:=fun _=>by
       have:(lst u.nr u.gr).any (Xr u q)=true:=by simpa using d5
       obtain⟨j,h1,h2⟩:=jC.1 this;simp[Xr] at h2;exact⟨j,h1,h2.1.1,h2.1.2,by rw[hpl];exact h2.2⟩
      simp(disch:=first|omega|simp) [go_sem,aA];refine dB (q+1) ⟨by omega,fun k hk h1=>by by_cases h:k=q;(subst h;exact hbq h1);exact hy k (by omega) h1⟩ (h:=by simp[go_sem]<;>omega) (hσ:=by simp[go_sem]) (hb:=au (by simp[go_sem]))
  ·have hz:QI u=true:=XO ⟨fun k hk=>hx k (by omega),fun k hk=>hy k (by omega)⟩;simp[go_sem];refine go true (sm ?_);rw[hz];exact aj sc
theorem lnk_iff{u:Use} :yC u.gl u.nl=true↔(∀i,i<u.nl->LnkS u i)/\u.nl<=1024:=by
 rw[IK];unfold Lh LnkS jS;simp only[eH]
theorem Ik(u:Use)(hu:dR u)(hd:u.Changed<=1048575)(hσ:σ[0]? =some (.tab 0 iR)):ay prog 43 [.agg (u.cells u.dw)] σ (.d (B (PY u))):=by
 have z7:=hu.nt;have z8:=hu.nl;have z9:=hu.nw;refine ay.bs true func43 fun hwf=> ?_;refine gy (α:=Nat) true [1,8,9,10] (fun i=>[(10,.d (I i))]) (fun i=>σ++[.var (u.cells u.dw)]) (fun i=>i<=u.nt/\∀k,k<i->BatR u k) (fun i=>u.nt-i) 0 ?_ (hx:=⟨by omega,fun k hk=>absurd hk (Nat.not_lt_zero _)⟩);rintro i ⟨hi,hx⟩;simp[go_sem];refine aH [1,8,9,10] ?_ ?_<;>intro c0 d0
 ·have hi5:i<u.nt:=by omega
  have hb1:=hu.bu i hi5;have hb2:=hu.bb i hi5;simp[go_sem];repeat refine⟨by omega,?_⟩
  refine T.dr 19 fun K hK=> ?_;simp[go_sem];refine dS.mk (NC _ (u.gt i) (by omega) (by omega) (aO hσ)) ?_;simp[go_sem,aZ (i:=i) (by omega)];repeat refine⟨by omega,?_⟩
  refine hK _ ?_;refine go true ?_;simp[go_sem];refine aH [1,8,9,10] ?_ ?_<;>intro c1 d1
  ·have hz:PY u=false:=batB_no fun H=>by
    have h1:=H.ZG i hi5;have h2:=h1.1;have h3:=h1.2;rcases d1 with h|⟨h,h4⟩
    ·exact h h2
    ·have:=h3 (by omega);omega
   simp[go_sem];rw[hz];exact aj sc
  ·have hbi:BatR u i:=⟨by omega,fun h0=>by omega⟩;simp(disch:=first|omega|simp) [go_sem,aA];refine dB (i+1) ⟨by omega,fun k hk=>by by_cases h:k=i;(subst h;exact hbi);exact hx k (by omega)⟩ (h:=by simp[go_sem]<;>omega) (hσ:=by simp[go_sem]) (hb:=au (by simp[go_sem]))
 ·simp[go_sem];refine go true ?_;simp[go_sem];refine gy (α:=Nat) true [1,36,37,38] (fun q=>[(38,.d (I q))]) (fun q=>σ++[.var (u.cells u.dw)]) (fun q=>q<=u.nw/\∀k,k<q->Q8 u k) (fun q=>u.nw-q) 0 ?_ (hx:=⟨by omega,fun k hk=>absurd hk (Nat.not_lt_zero _)⟩);rintro q ⟨hq,hy⟩;simp[go_sem];refine aH [1,36,37,38] ?_ ?_<;>intro c2 d2
  ·have hq5:q<u.nw:=by omega
   simp[go_sem];repeat refine⟨by omega,?_⟩
   refine T.dr 51 fun K hK=> ?_;simp[go_sem,aZ (i:=q) (by omega)];repeat refine⟨by omega,?_⟩
   refine hK _ ?_;refine go true ?_;simp[go_sem];refine aH [1,36,37,38] ?_ ?_<;>intro c3 d3
   ·have hz:PY u=false:=batB_no fun H=>by
     have h1:=H.shw q hq5;unfold Q8 jS at h1;simp only[eH] at h1;omega
    simp[go_sem];rw[hz];exact aj sc
   ·have hsq:Q8 u q:=by
     unfold Q8 jS;simp only[eH];omega
    simp(disch:=first|omega|simp) [go_sem,aA];refine dB (q+1) ⟨by omega,fun k hk=>by by_cases h:k=q;(subst h;exact hsq);exact hy k (by omega)⟩ (h:=by simp[go_sem]<;>omega) (hσ:=by simp[go_sem]) (hb:=au (by simp[go_sem]))
  ·have hz:PY u=(decide (u.nt<=64)&&yC u.gl u.nl&&decide (u.nw<=1024)):=by
    cases h:PY u with
    |true=>
     have H:BatS u:=Zj.1 h;rw[lnk_iff.2 ⟨H.lnk,H.nl⟩];simp[H.nt,H.nw]
    |false=>
     apply Eq.symm;rw[←Bool.not_eq_true];intro h1;simp only[Bool.and_eq_true,decide_eq_true_eq] at h1;have h2:=lnk_iff.1 h1.1.2;have:PY u=true:=Zi ⟨fun k hk=>hx k (by omega),fun k hk=>hy k (by omega),h1.1.1,h2.1,h2.2,h1.2⟩;rw[h] at this;cases this
   simp[go_sem];refine go true ?_;simp[go_sem];refine fA.mk' (.d (B (yC u.gl u.nl))) (fun _=>Nz _ none u.nl u.gl (by omega)) ?_;simp[go_sem];refine aj ?_;rw[hz];simp[go_sem,show((u.nt:Int)<=64)=(u.nt<=64) from propext (by omega),show((u.nw:Int)<=1024)=(u.nw<=1024) from propext (by omega)]
theorem Ih{u:Use}(h: ¬BA u):(if bT u=true then(0:Int) else 1)=1:=if_neg fun h1=>h (qK.1 h1)
theorem aad{u:Use}(h:BA u):(if bT u=true then(0:Int) else 1)=0:=if_pos (qK.2 h)
theorem ru(u:Use)(hu:dR u)(hσ:σ[0]? =some (.tab 0 iR)):ay prog 16 [.agg (u.cells u.dw)] σ (.d (I (if bT u=true then 0 else 1))):=by
 have z1:=hu.nb;have z2:=hu.nf;have z3:=hu.nv;have z4:=hu.nr;have z6:=hu.nk;refine ay.bs true func16 fun hwf=> ?_;refine aH [1] ?_ ?_<;>intro c0 d0
 ·have hz:=Ih (u:=u) fun H=>by
   have h1:=H.day;rw[eH] at h1;have h2:=H.bkg;unfold je at h2;split at h2
   ·cases h2
   ·omega
  simp[go_sem];rw[hz];exact aj sc
 ·simp[go_sem];refine T.dr 23 fun K hK=>sm ?_;refine dS.mk (NK _ u.P hu.P) (sm ?_);refine dS.mk (NJ _ none u.nb u.gb (by omega) hu.bx) (sm ?_);refine dS.mk (Il _ none u.nf u.gf (by omega)) (sm ?_);refine dS.mk (NH _ none u.nv u.gv (by omega)) (sm ?_);refine dS.mk (NG _ none u.nr u.gr (by omega)) (sm ?_);refine dS.mk (ND _ u.nI none u.nk u.gk (by omega)) (sm ?_);refine hK _ ?_;refine go true (sm ?_);refine gy (α:=Nat) true [1,43,44,45] (fun i=>[(45,.d (I i))]) (fun i=>σ++[.var (u.cells u.dw)]) (fun i=>i<=6/\∀k,k<i->NW u k=0) (fun i=>6-i) 0 ?_ (hx:=⟨by omega,fun k hk=>absurd hk (Nat.not_lt_zero _)⟩);rintro i ⟨hi,hx⟩;simp[go_sem];refine aH [1,43,44,45] ?_ ?_<;>intro c1 d1
  ·have hi5:i<6:=by omega
   have hrow:rowsOf 1 [I (fP u.P),I (dQ u.nb u.gb),I (eF u.nf u.gf),I (dL u.nv u.gv),I (fO u.nr u.gr),I (je u.nI u.nk u.gk)] i=[I (NW u i)]:=by
    rcases(show i=0\/i=1\/i=2\/i=3\/i=4\/i=5 by omega) with rfl|rfl|rfl|rfl|rfl|rfl<;>rfl
   simp[go_sem,hrow];repeat refine⟨by omega,?_⟩
   refine aH [1,43,44,45] ?_ ?_<;>intro c2 d2
   ·have hz:=Ih (u:=u) fun H=>d2 (by
     have:=qK.2 H;unfold bT at this;simp only[Bool.and_eq_true] at this;exact(lK.1 this.1.1.1).chk i hi5)
    simp[go_sem];rw[hz];exact aj sc
   ·simp(disch:=first|omega|simp) [go_sem,aA];refine dB (i+1) ⟨by omega,fun k hk=>by by_cases h:k=i;(subst h;omega);exact hx k (by omega)⟩ (h:=by simp[go_sem]<;>omega) (hσ:=by simp[go_sem]) (hb:=au (by simp[go_sem]))
  ·have hb:dQ u.nb u.gb=0:=hx 1 (by omega);have hm:dL u.nv u.gv=0:=hx 3 (by omega);simp[go_sem];refine go true (sm ?_);refine aW.mk (Ik _ u hu (by omega) (aO hσ)) (sm ?_);refine fA.mk' (.d (B (iC u))) (fun _=>Nw _ u hu) (sm ?_);refine fA.mk' (.d (B (Qk u))) (fun _=>Nv _ u hu hb hm) (sm ?_);refine fA.mk' (.d (B (QI u))) (fun _=>Qn _ u hu hm) (sm ?_);refine aH [] ?_ ?_<;>intro c3 d3
   ·have hz:=Ih (u:=u) fun H=>by
     have H:=ref_iff.2 H;have h1:=Zi H.ZG;have h2:=lM.2 H.mvs;have h3:=WX H.std;have h4:=XO H.lnt;simp[h1,h2,h3,h4] at d3
    simp[go_sem];rw[hz];exact aj sc
   ·have hz:=aad (u:=u) (ref_iff.1 (by
     cases h1:PY u<;>cases h2:iC u<;>cases h3:Qk u<;>cases h4:QI u<;>simp[h1,h2,h3,h4] at d3
     exact⟨by rw[eH];omega,hx 0 (by omega),hb,hx 2 (by omega),hm,hx 4 (by omega),hx 5 (by omega),Zj.1 h1,lM.1 h2,stdB_iff.1 h3,lnrB_iff.1 h4⟩))
    simp[go_sem];rw[hz];exact aj sc
theorem Uj(s y:Int):ay prog 14 [.d (I s),.d (I y)] σ (.eX [.agg ((if jy s 1 32=true/\jy y 0 200=true then { jk with P:= { jk.P with jg:=y },nI:=s } else jk).cells (jk.dw)),.d (I (if jy s 1 32=true/\jy y 0 200=true then 0 else 2))]):=by
 refine ay.bs true func14 fun hwf=> ?_;refine aH [0,1,4] ?_ ?_<;>intro c0 d0
 ·have hz: ¬(jy s 1 32=true/\jy y 0 200=true):=by rw[eH,eH];omega
  simp[go_sem];refine aj ?_;rw[if_neg hz,if_neg hz];simp[go_sem,jk,jr,Go.aU.dD]
 ·have hz:jy s 1 32=true/\jy y 0 200=true:=by rw[eH,eH];omega
  simp[go_sem];refine aj ?_;rw[if_pos hz,if_pos hz];simp[go_sem,jk,jr,Go.aU.dD]
theorem Ny(u:Use)(k:Int)(hu:dR u)(h0:σ[0]? =some (.tab 0 iR)):ay prog 9 [.agg (u.cells u.dw),.d (I k)] σ (.eX [.agg ((if bT u=false\/qc u.nb u.gb k<0 then⟨0,0⟩ else aY u k).enc.map .d),.d (I (if bT u=false then 1 else if qc u.nb u.gb k<0 then 7 else 0))]):=by
 have b1:=hu.nb;have b3:=hu.nv;refine ay.bs true func9 fun hwf=> ?_;refine aW.mk (ru _ u hu (aO h0)) (sm ?_);refine aH [1,2,4] ?_ ?_<;>intro c0 d0
 ·have hz:bT u=false:=by cases h:bT u<;>simp_all
  simp[go_sem];rw[if_pos (.inl hz),if_pos hz];exact aj sc
 ·have hr:bT u=true:=by cases h:bT u<;>simp_all
  have hz0: ¬bT u=false:=by rw[hr];simp
  simp[go_sem];refine aW.mk (zx _ none u.nb u.gb k (by omega)) (sm ?_);refine aH [1,2,4] ?_ ?_<;>intro c1 d1
  ·have hz:qc u.nb u.gb k<0:=by omega
   simp[go_sem];rw[if_pos (.inr hz),if_neg hz0,if_pos hz];exact aj sc
  ·have hz: ¬qc u.nb u.gb k<0:=by omega
   have hpl:=FK (qK.1 hr).mov k;simp[go_sem];refine aW.mk (oW _ u k (by omega)) (sm ?_);rw[if_neg (by rintro(h|h);exact hz0 h;exact hz h),if_neg hz0,if_neg hz,hpl];exact aj sc
theorem rOn_len(u:Use)(s:Int)(i:Nat):(Iq u s i).length<=1:=by unfold Iq;split<;>simp
theorem rStd_len(u:Use)(i:Nat):(zA u i).length<=1:=by unfold zA;split<;>simp
theorem Kv(σ:List aC)(u:Use)(hu:dR u)(h0:σ[0]? =some (.tab 0 iR)):ay prog 11 [.agg (u.cells u.dw)] σ (.eX [.d (SL none 2 Std.enc (if bT u=true then(gather (mM u) u.nf).length else 0) (nth (gather (mM u) u.nf))),.d (I (if bT u=true then 0 else 1))]):=by
 have b1:=hu.nb;have b2:=hu.nf;have b3:=hu.nv;refine ay.bs true func11 fun hwf=> ?_;refine aW.mk (ru _ u hu (aO h0)) (sm ?_);refine aH [1] ?_ ?_<;>intro c0 d0
 ·have hz:bT u=false:=by cases h:bT u<;>simp_all
  simp[go_sem];refine aj ?_;rw[hz];simp[go_sem,Go.aU.dD]
 ·have hz:bT u=true:=by cases h:bT u<;>simp_all
  have hr:=qK.1 hz;have hpl:=FK hr.mov;simp[go_sem];refine dn 4 2 (fun i=>Std.enc (nth ([]:List Std) i)) (by simp[go_sem]) (by simp[go_sem];rfl) ?_;refine lpU (α:=Nat) true [1,4,14,15,16] [σ.length+1,σ.length+4] (fun q=>[(4,.ms (σ.length+1) 2 0 (gather (zA u) q).length),(16,.d (I q))]) (fun q=>σ++[.var (u.cells u.dw),.arr 2 (gather (zA u) q).length (fun k=>Std.enc (nth (gather (zA u) q) k))]) (fun q=>q<=u.nf) (fun q=>u.nf-q) 0 (by simp[go_sem,gather]) (by simp[go_sem,gather]) (by simp) (by simp) ?_;rintro q hq;simp[go_sem];refine aH [1,4,14,15,16] ?_ ?_<;>intro c1 d1
  ·have hq0:q<u.nf:=by omega
   have hl:=iT (rStd_len u) q;simp[go_sem,hq0];refine TA (σ.length+3) 1 1 (fun i=>encI (nth ([]:List Int) i)) (by simp[go_sem];rfl) (by simp[go_sem]) (by simp[go_sem];rfl) (by simp[go_sem];rfl) ?_;refine lpU (α:=Nat) false [1,4,6,7,14,15,16,24,25,26] [σ.length+1,σ.length+4] (fun i=>[(26,.d (I i))]) (fun i=>σ++[.var (u.cells u.dw),.arr 2 (gather (zA u) q).length (fun k=>Std.enc (nth (gather (zA u) q) k)),.var ((u.gf q).enc.map .d),.var [.d (I (u.gf q).ID),.ms (σ.length+4) 1 0 (gather (Iq u (u.gf q).ID) i).length],.arr 1 (gather (Iq u (u.gf q).ID) i).length (fun k=>encI (nth (gather (Iq u (u.gf q).ID) i) k))]) (fun i=>i<=u.nb) (fun i=>u.nb-i) 0 (by simp[go_sem]) (by simp[go_sem,gather]) (by simp) (by simp) ?_;rintro i hi;simp[go_sem];refine go false ?_;simp[go_sem];refine aH [1,4,6,7,14,15,16,24,25,26] ?_ ?_<;>intro c2 d2
   ·have hi0:i<u.nb:=by omega
    have hl2:=iT (rOn_len u (u.gf q).ID) i;simp[go_sem,hi0];refine go true ?_;simp[go_sem];refine T.dr 8 fun K hK=> ?_;simp[go_sem];refine dS.mk (oW _ u (u.gb i).ID (by omega)) ?_;simp[go_sem];refine hK _ ?_;refine go false ?_;simp[go_sem];refine aH [1,4,6,7,9,14,15,16,24,25,26] ?_ ?_<;>intro c3 d3
    ·have heq:aY u (u.gb i).ID=⟨1,(u.gf q).ID⟩:=by rw[hpl];rcases h:iw u.gv (u.gb i).ID u.nv with⟨a,b⟩;rw[h] at d3;simp at d3;rw[d3.1,d3.2]
     have hg2:gather (Iq u (u.gf q).ID) (i+1)=gather (Iq u (u.gf q).ID) i++[(u.gb i).ID]:=by rw[gather,Iq,if_pos heq]
     simp[go_sem,hwf.one];repeat refine⟨by omega,?_⟩
     refine bC (σ.length+4) (fun k=>encI (nth (gather (Iq u (u.gf q).ID) i++[(u.gb i).ID]) k)) (by simp[go_sem];exact⟨rfl,rfl,rfl⟩) (by exact fun k hk=>qF (enc:=encI) (x:=(u.gb i).ID) rfl hk) (by simp[go_sem];rfl) ?_;refine go false ?_;simp(disch:=first|omega|simp) [go_sem,aA];refine dB (i+1) (by omega) (h:=by simp[go_sem]<;>omega) (hσ:=by simp[go_sem,hg2]) (hb:=au (by simp[go_sem]))
    ·have hne:aY u (u.gb i).ID≠⟨1,(u.gf q).ID⟩:=fun h=>by rw[hpl] at h;rw[h] at d3;simp at d3
     have hg2:gather (Iq u (u.gf q).ID) (i+1)=gather (Iq u (u.gf q).ID) i:=by rw[gather,Iq,if_neg hne];simp
     simp(disch:=first|omega|simp) [go_sem,aA];refine dB (i+1) (by omega) (h:=by simp[go_sem]<;>omega) (hσ:=by simp[go_sem,hg2]) (hb:=au (by simp[go_sem]))
   ·obtain rfl:i=u.nb:=by omega
    simp[go_sem];refine aF hwf (σ.length+4) ?_;refine go false ?_;simp[go_sem];refine go false ?_;simp[go_sem];refine aH [1,4,7,14,15,16] ?_ ?_<;>intro c4 d4
    ·have hg:gather (zA u) (q+1)=gather (zA u) q++[⟨(u.gf q).ID,(gather (Iq u (u.gf q).ID) u.nb).length,nth (gather (Iq u (u.gf q).ID) u.nb)⟩]:=by rw[gather,zA,if_pos (by omega)]
     simp[go_sem,hwf.one];repeat refine⟨by omega,?_⟩
     refine bC (σ.length+1) (fun k=>Std.enc (nth (gather (zA u) q++[⟨(u.gf q).ID,(gather (Iq u (u.gf q).ID) u.nb).length,nth (gather (Iq u (u.gf q).ID) u.nb)⟩]) k)) (by simp[go_sem];exact⟨rfl,rfl,rfl⟩) (by exact fun k hk=>qF (enc:=Std.enc) (x:=⟨(u.gf q).ID,(gather (Iq u (u.gf q).ID) u.nb).length,nth (gather (Iq u (u.gf q).ID) u.nb)⟩) rfl hk) (by simp[go_sem];rfl) ?_;refine go false ?_;simp(disch:=first|omega|simp) [go_sem,aA];refine dB (q+1) (by omega) (h:=by simp[go_sem,hg]<;>omega) (hσ:=by simp[go_sem,hg]) (hb:=au (by simp[go_sem]))
    ·have hg:gather (zA u) (q+1)=gather (zA u) q:=by rw[gather,zA,if_neg (by rw[d4];decide)];simp
     simp(disch:=first|omega|simp) [go_sem,aA];refine dB (q+1) (by omega) (h:=by simp[go_sem,hg]<;>omega) (hσ:=by simp[go_sem,hg]) (hb:=au (by simp[go_sem]))
  ·obtain rfl:q=u.nf:=by omega
   simp[go_sem];refine go true (sm ?_);refine aF hwf (σ.length+1) ?_;rw[if_pos hz,if_pos hz,←rStds_eq hr];exact aj sc
end Go.Proofs.YthlhlnbcjlpigaaGreatDoor
