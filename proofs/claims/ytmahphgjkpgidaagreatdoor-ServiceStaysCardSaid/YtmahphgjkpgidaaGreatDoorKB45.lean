/- Contracts and lemmas, joined out of smaller texts by a program; no conditions. -/
import Derived.Test.YtmahphgjkpgidaaGreatDoorKB44
set_option linter.unusedVariables false
set_option linter.unusedSimpArgs false
set_option maxHeartbeats 4000000
set_option maxRecDepth 100000
namespace Go.Proofs.YtmahphgjkpgidaaGreatDoor
open Go.aU Go.dh Go.Proofs.Tryz
variable (σ : List aG)
theorem check_right(u:Use)(hr:aP u)(h0:σ[0]? =some (.tab 0 gK))(h1:σ[1]? =some (.loc 1)):aA prog 18 [.agg (u.cells u.bG)] σ (.d (I 0)):=by
 have h:=yK σ u (oO hr).1 h0 h1;rwa [if_pos (iT.2 hr)] at h
theorem Wq(u:Use)(hr:aP u)(h0:σ[0]? =some (.tab 0 gK))(h1:σ[1]? =some (.loc 1)):aA prog 19 [.agg (u.cells u.bG)] σ (.eU [.d (SL none 2 Std.enc (Kw u) (fD u)),.d (I 0)]):=by
 have h:=EW σ u (oO hr).1 h0 h1;rw[if_pos (iT.2 hr),if_pos (iT.2 hr)] at h;exact h
theorem Zh(u:Use)(k:Int)(p:rU)(hr:aP u)(hb:0<=lQ u.nb u.gb k)(hp:aW u k=p)(h0:σ[0]? =some (.tab 0 gK))(h1:σ[1]? =some (.loc 1)):aA prog 22 [.agg (u.cells u.bG),.d (I k)] σ (.eU [.agg (p.enc.map .d),.d (I 0)]):=by
 have h:=Hf σ u k (oO hr).1 h0 h1;have h2:=iT.2 hr;rw[if_neg (by rintro(h3|h3);rw[h2] at h3;cases h3;omega),if_neg (by rw[h2];decide),if_neg (by omega),hp] at h;exact h
def onOk(v:Use)(j q:Nat)(f:Int->Int):Prop:= ∀y,f y≠0->(∃k p,k<j/\p<(fD v k).n/\(fD v k).g p=y)\/∃p,p<q/\(fD v j).g p=y
theorem onOk_zero{v:Use}{j q:Nat}{f:Int->Int}(h:onOk v j q f)(hr:aP v)(hj:j<Kw v)(hq:q<(fD v j).n):f ((fD v j).g q)=0:=by
 apply Classical.byContradiction;intro h1;rcases h _ h1 with⟨k,p,h2,h3,h4⟩|⟨p,h2,h3⟩
 ·exact stand_two hr h2 hj hq h3 h4
 ·exact(BF hr hj hq).2.2 p h2 h3
theorem onOk_put{v:Use}{j q:Nat}{f:Int->Int}{x:Int}(h:onOk v j q f):onOk v j (q+1) (AO f ((fD v j).g q) x):=fun y hy=>by
 unfold AO at hy;split at hy
 ·rename_i h1;exact .inr ⟨q,by omega,h1.symm⟩
 ·rcases h y hy with h1|⟨p,h2,h3⟩
  ·exact .inl h1
  ·exact .inr ⟨p,by omega,h3⟩
theorem onOk_next{v:Use}{j q:Nat}{f:Int->Int}(h:onOk v j q f)(hq:q<=(fD v j).n):onOk v (j+1) 0 f:=fun y hy=>by
 rcases h y hy with⟨k,p,h1,h2,h3⟩|⟨p,h2,h3⟩
 ·exact .inl ⟨k,p,by omega,h2,h3⟩
 ·exact .inl ⟨j,p,by omega,by omega,h3⟩
theorem wsum_ge{v:Use}{j:Nat}(hr:aP v)(hj:j<Kw v): ∀{q:Nat},q<=(fD v j).n->(q:Int)<=AB v (fD v j).g q
 |0,_=>by simp[AB]
 |q+1,h=>by
  have h1:=wsum_ge hr hj (q:=q) (by omega);have h2:=Ej hr.box (DC (BF hr hj (q:=q) h).2.1).1;rw[AB];omega
theorem stand_n{v:Use}{j:Nat}(hr:aP v)(hj:j<Kw v):(fD v j).n<=10000:=by
 have h1:=wsum_ge hr hj (Nat.le_refl _);have h2:=YP hr hj;have h3:=(h2.2.2 _ (Nat.le_refl _)).2;have h4:=h2.2.1;omega
theorem OW(τ:List aG)(b:Bx)(k:Int):aA prog 21 [.agg (b.enc.map .d),.ptr σ.length 0] (σ++ .var [.d (I k)]::τ) (.d (B (b.ID==k))):=by
 refine aA.bs true func21 fun hwf=> ?_;exact aj so
theorem OV(τ:List aG)(b:sO)(s:Std):aA prog 24 [.agg (b.enc.map .d),.ptr σ.length 0] (σ++ .var (s.enc.map .d)::τ) (.d (B (b.ID==s.Shelf))):=by
 refine aA.bs true func24 fun hwf=> ?_;exact aj so
theorem Rq(u:Use)(m:Nat)(rg:Nat->Row)(n:Nat)(g:Nat->Ev)(hc: ∀i,i<n->(g i).cn=none/\(g i).ct=none)(hu:LW u)(hm:m<=9223372036854775807)(hnn:n<=9223372036854775807)(hn: ∀i,i<n->(g i).nn<=9223372036854775807/\(g i).nt<=9223372036854775807)(h0:σ[0]? =some (.tab 0 gK))(h1:σ[1]? =some (.loc 1)):aA prog 5 [.agg (u.cells u.bG),.d (SL none 3 Row.enc m rg),.d (SL none 5 Ev.enc n g)] σ (.d (B true)):=by
 refine aA.bd true func5 fun hwf=> ?_;simp[go_sem];refine aO.mk (o7 _ (aC h0) (aC h1)) ?_;simp[go_sem];refine cn [1,2,3] rfl ?_ ?_<;>intro c0 d0<;>try simp at d0
 ·simp[go_sem];refine aO.mk (tH _ u none m rg hu) ?_;simp[go_sem];refine fM.mk' (.d (B (jC n g))) (fun _=>jO _ none n g hnn hn) ?_;simp[go_sem];refine fM.mk' (.agg (u.cells u.bG)) (fun hg=>dS _ u (tV (m:=m) (by revert hg;cases jw m u<;>simp)).1) ?_;simp[go_sem];refine fM.mk' (.d (I (if dD u=true then 0 else 1))) (fun hg=>yK _ u (tV (m:=m) (by revert hg;cases jw m u<;>simp)).1 (aC h0) (aC h1)) ?_;simp[go_sem];refine aJ [1,2,3] ?_ ?_<;>intro c1 d1
  ·simp[go_sem];refine aj ?_;simp[go_sem]<;>omega
  ·have hf1:jw m u=true/\jC n g=true/\dD u=true:=by
    revert d1;cases jw m u<;>cases jC n g<;>cases dD u<;>simp
   obtain⟨hq1,hq2,hq3⟩:=hf1;have hr0:=iT.1 hq3;have hmm:=(tV hq1).2.2;obtain⟨hn40,hev,hbd⟩:=Ll hq2;have hG: ∀i,aP (sF m rg g u i):=RN hr0;simp[go_sem];refine aO.mk (oh _ none n g (by omega) (fun i hi=>⟨(hc i hi).1,(hc i hi).2,(hbd i hi).1,(hbd i hi).2⟩)) ?_;simp[go_sem];refine Pz (α:=Nat) true [1,3,41,42,43] (fun i=>[(43,.d (I i))]) (fun i=>σ++[.var ((sF m rg g u i).cells (sF m rg g u i).bG)]) (fun i=>i<=n) (fun i=>n-i) 0 (by simp[go_sem]) (rfl) (by simp) ?_;rintro i hi;simp[go_sem];refine aJ [1,3,41,42,43] ?_ ?_<;>intro c2 d2
   ·have hi0:i<n:=by omega
    have hst:=BL (hG i) hmm (hev i hi0);simp[go_sem,hi0];apply bW 11 9 10 T.mixed (by kernel_rfl)
    ·intro τ K hK;simp[go_sem];refine dF.mk (dS _ (sF m rg g u i) hst.use) ?_;simp[go_sem];refine dF.mk (kX _ none m rg (by omega)) ?_;simp[go_sem];refine dF.mk (nR _ (sF m rg g u i) none m rg (g i) hst (aC h0) (aC h1)) ?_;simp[go_sem];exact hK _ _
    intro K hK;simp[go_sem];refine hK _ ?_;refine go false ?_;simp[go_sem];refine go false ?_;simp[go_sem];refine aJ [1,3,8,9,41,42,43] ?_ ?_<;>intro c3 d3
    ·have hbad:sF m rg g u (i+1)=sF m rg g u i:=goS_bad (by simpa using d3);simp(disch:=first|omega|simp) [go_sem,aH];refine gB (i+1) ((by omega)) (h:=by simp[go_sem]<;>omega) (hσ:=by simp[go_sem,hbad]) (hb:=au (by simp[go_sem]))
    ·have hz3:(ig (sF m rg g u i) m rg (g i)).2=0:=by simpa using d3
     have hgood:sF m rg g u (i+1)=(ig (sF m rg g u i) m rg (g i)).1:=aad hz3;have hch:(ig (sF m rg g u i) m rg (g i)).1.Changed=(g i).Day:=by rw[Ho hz3];rfl
     have Z5:=hgood▸hG (i+1);obtain⟨v,hv⟩: ∃v,v=(ig (sF m rg g u i) m rg (g i)).1:=⟨_,rfl⟩;rw[←hv] at hgood hch Z5⊢;have hok2:=oO Z5;have b1:=hok2.1.nb;have b2:=hok2.1.nf;have b3:Kw v<=v.nf:=nJ (YO v) v.nf;simp[go_sem];refine go false ?_;simp[go_sem];refine aO.mk (dS _ v hok2.1) ?_;simp[go_sem];refine aO.mk (Wq _ v Z5 (aC h0) (aC h1)) ?_;simp[go_sem];refine go false ?_;simp[go_sem];refine aO.mk (dS _ v hok2.1) ?_;simp[go_sem];refine aO.mk (check_right _ v Z5 (aC h0) (aC h1)) ?_;simp[go_sem];refine go false ?_;simp[go_sem];refine aJ [1,3,11,41,42,43] ?_ ?_<;>intro c4 d4
     ·first|exact absurd hch d4|(exfalso;simp[hch] at d4)
     ·simp[go_sem];refine En (σ.length+3) (ks':=[]) (f':=fun k=> .d (iF (fun _=>0) k)) (by simp[go_sem];exact⟨rfl,rfl⟩) (.refl _) (fun k hk=>nomatch hk) (fun k=>rfl) (by first|(simp[go_sem];rfl)|rfl) ?_;refine go false ?_;simp[go_sem];refine go true ?_;simp[go_sem];refine Pz (α:=Nat×List Key×(Int->Int)) true [1,3,13,41,42,43,81,82,83] (fun x=>[(83,.d (I x.1))]) (fun x=>σ++[.var (v.cells v.bG),.var ((g i).enc.map .d),.var (v.cells v.bG),.mp false x.2.1 (fun k=> .d (iF x.2.2 k))]) (fun x=>x.1<=Kw v/\onOk v x.1 0 x.2.2/\(∀y,Key.i y∉x.2.1->x.2.2 y=0)/\(∀k∈x.2.1,k.str=false)) (fun x=>Kw v-x.1) (0,[],fun _=>0) (by simp[go_sem]) (rfl) (⟨by simp,fun y hy=>absurd rfl hy,fun _ _=>rfl,fun k hk=>(nomatch hk)⟩) ?_;rintro⟨j,ks,f⟩ ⟨hj,hx,ho,hk⟩;dsimp only at hj hx ho hk;simp[go_sem];refine aJ [1,3,13,41,42,43,81,82,83] ?_ ?_<;>intro c5 d5
      ·have hj0:j<Kw v:=by omega
       have hso:=YP Z5 hj0;have hsn:=stand_n Z5 hj0;simp[go_sem,hj0];refine Pz (α:=Nat×List Key×(Int->Int)) true [1,3,13,15,16,41,42,43,81,82,83,88,89,90] (fun x=>[(90,.d (I x.1)),(16,.d (I (AB v (fD v j).g x.1)))]) (fun x=>σ++[.var (v.cells v.bG),.var ((g i).enc.map .d),.var (v.cells v.bG),.mp false x.2.1 (fun k=> .d (iF x.2.2 k)),.var ((fD v j).enc.map .d)]) (fun x=>x.1<=(fD v j).n/\onOk v j x.1 x.2.2/\(∀y,Key.i y∉x.2.1->x.2.2 y=0)/\(∀k∈x.2.1,k.str=false)) (fun x=>(fD v j).n-x.1) (0,ks,f) (by simp[go_sem,AB]) (rfl) (⟨by simp,hx,ho,hk⟩) ?_;rintro⟨q,ks2,f2⟩ ⟨hj2,hx2,ho2,hk2⟩;dsimp only at hj2 hx2 ho2 hk2;simp[go_sem];refine aJ [1,3,13,15,16,41,42,43,81,82,83,88,89,90] ?_ ?_<;>intro c6 d6
       ·have hq0:q<(fD v j).n:=by omega
        obtain⟨hp1,hp2,hp3⟩:=BF Z5 hj0 hq0;have hf0:=onOk_zero hx2 Z5 hj0 hq0;have hbl:=X6 v.nb v.gb ((fD v j).g q);obtain⟨b,hb,hbn⟩: ∃b:Nat,lQ v.nb v.gb ((fD v j).g q)=(b:Int)/\b<v.nb:=⟨(lQ v.nb v.gb ((fD v j).g q)).toNat,by omega,by omega⟩;have e1:cond (decide (Key.i ((fD v j).g q)∈ks2)) (f2 ((fD v j).g q)) 0=0:=by rw[hf0];cases decide (Key.i ((fD v j).g q)∈ks2)<;>rfl
        have hw1:IntKind.i64.wrap (0+1)=1:=by decide
        have hw3:IntKind.i64.wrap 1=1:=by decide
        have hws:AB v (fD v j).g (q+1)=AB v (fD v j).g q+(v.gb b).Width:=by rw[AB,hb,Int.toNat_natCast]
        have hwb:=hso.2.2 (q+1) hq0;have hw2:IntKind.i64.wrap (AB v (fD v j).g q+(v.gb b).Width)=AB v (fD v j).g (q+1):=by rw[←hws];have:=hso.2.1;exact aH (by omega) (by omega)
        have hin:Key.i ((fD v j).g q)∈kU (.i ((fD v j).g q)) ks2:=gW.2 (.inl rfl);have hb2:idxFrom (fun x:Bx=>x.ID==(fD v j).g q) (lst v.nb v.gb) 0=(b:Int):=hb;simp[go_sem,hq0];refine aO.mk (uO _ none v.nb v.gb _ _ (fun x=>x.ID==(fD v j).g q) (by omega) (fun r hr=>by have h:=nA (OW (σ++[.var (v.cells v.bG),.var ((g i).enc.map .d),.var (v.cells v.bG),.mp false ks2 (fun k=> .d (iF f2 k)),.var ((fD v j).enc.map .d)]) [] (v.gb r) ((fD v j).g q));simpa[go_sem] using h)) ?_;simp[go_sem,hb2];apply bW 9 7 8 T.mixed (by kernel_rfl)
        ·intro τ K hK;simp[go_sem];refine dF.mk (dS _ v hok2.1) ?_;simp[go_sem];refine dF.mk (Zh _ v ((fD v j).g q) ⟨1,(fD v j).Shelf⟩ Z5 hp2 hp1 (aC h0) (aC h1)) ?_;simp[go_sem];exact hK _ _
        intro K hK;simp[go_sem];refine hK _ ?_;refine go true ?_;simp(disch:=first|omega|simp) [go_sem,VW,setI_at,e1,hw3,hin];refine aJ [1,3,13,15,16,19,41,42,43,81,82,83,88,89,90] ?_ ?_<;>intro c7 d7
        ·first|(exfalso;omega)|simp at d7
        ·simp(disch:=first|omega|simp) [go_sem,hbn,hw2,aH];refine gB ((q+1,kU (.i ((fD v j).g q)) ks2,AO f2 ((fD v j).g q) 1)) ⟨by dsimp only;omega,onOk_put hx2,Qu ho2,Kz hk2⟩ (h:=by simp[go_sem]<;>omega) (hσ:=by simp[go_sem]) (hb:=au (by simp[go_sem]))
       ·have CU:q=(fD v j).n:=by omega
        have hsl:=sIx_lt v.nf v.gf (fD v j).Shelf;obtain⟨t,ht,htn⟩: ∃t:Nat,rV v.nf v.gf (fD v j).Shelf=(t:Int)/\t<v.nf:=⟨(rV v.nf v.gf (fD v j).Shelf).toNat,by omega,by omega⟩;have hle:=(hso.2.2 q (by omega)).2;unfold AL at hle;rw[ht,Int.toNat_natCast] at hle;have ht2:idxFrom (fun x:sO=>x.ID==(fD v j).Shelf) (lst v.nf v.gf) 0=(t:Int):=ht;simp[go_sem];refine go true ?_;simp[go_sem];refine aO.mk (MQ _ none v.nf v.gf _ _ (fun x=>x.ID==(fD v j).Shelf) (by omega) (fun r hr=>by have h:=nA (OV (σ++[.var (v.cells v.bG),.var ((g i).enc.map .d),.var (v.cells v.bG),.mp false ks2 (fun k=> .d (iF f2 k))]) [] (v.gf r) (fD v j));simpa[go_sem] using h)) ?_;simp[go_sem,ht2,htn];refine aJ [1,3,13,41,42,43,81,82,83] ?_ ?_<;>intro c8 d8
        ·first|(exfalso;omega)|simp at d8
        ·simp(disch:=first|omega|simp) [go_sem,aH];refine gB ((j+1,ks2,f2)) ⟨by dsimp only;omega,onOk_next hx2 hj2,ho2,hk2⟩ (h:=by simp[go_sem]<;>omega) (hσ:=by simp[go_sem]) (hb:=au (by simp[go_sem]))
      ·simp[go_sem];refine go true ?_;simp(disch:=first|omega|simp) [go_sem,aH];refine gB (i+1) ((by omega)) (h:=by simp[go_sem]<;>omega) (hσ:=by simp[go_sem,hgood]) (hb:=au (by simp[go_sem]))
   ·simp[go_sem];refine go true ?_;simp[go_sem];refine aj ?_;simp[go_sem]<;>omega
end Go.Proofs.YtmahphgjkpgidaaGreatDoor
