/- Contracts and lemmas, joined out of smaller texts by a program; no conditions. -/
import Derived.Test.YthlhlnbcjlpigaaGreatDoorKB27
set_option linter.unusedVariables false
set_option linter.unusedSimpArgs false
set_option maxHeartbeats 1000000
set_option maxRecDepth 100000
namespace Go.Proofs.YthlhlnbcjlpigaaGreatDoor
open Go.aU Go.bY Go.Proofs.Tryz
variable (σ : List aC)
def iF(f:Int->Int):Key->D
 | .i x=>I (f x)
 | .s _=>I 0
theorem iF_i(f:Int->Int)(x:Int):iF f (.i x)=I (f x):=rfl
attribute [go_sem] iF_i
def Ea(f:Int->Int)(x v:Int):Int->Int:=fun y=>if y=x then v else f y
theorem updK_iF(f:Int->Int)(x v:Int):kU (fun k=>AV.d (iF f k)) (.i x) (.d (I v))=fun k=> .d (iF (Ea f x v) k):=by
 funext k
 unfold kU;cases k with
 |i y=>
  by_cases h:y=x
  ·subst h;simp[iF,Ea]
  ·simp[iF,Ea,h]
 |s b=>simp[iF]
theorem setI_at(f:Int->Int)(x v:Int):Ea f x v x=v:=if_pos rfl
theorem Xb{f:Int->Int}{ks:List Key}{x v:Int}(h: ∀y,Key.i y∉ks->f y=0): ∀y,Key.i y∉kQ (.i x) ks->Ea f x v y=0:=fun y hy=>by
 rw[fC] at hy;unfold Ea;rw[if_neg (fun e=>hy (.inl (by rw[e])))];exact h y (fun e=>hy (.inr e))
theorem Rn{ks:List Key}{x:Int}(h: ∀k∈ks,k.str=false): ∀k∈kQ (.i x) ks,k.str=false:=fun k hk=>by
 rcases fC.1 hk with rfl|hk
 ·rfl
 ·exact h k hk
theorem movS_to(s:EP)(m:fJ)(x:Int):(oz s m).pl x=s.pl x\/(oz s m).pl x=m.To:=by
 unfold oz;split
 ·show D9 s.pl m.Box m.To x=_\/D9 s.pl m.Box m.To x=_
  unfold D9;split
  ·exact .inr rfl
  ·exact .inl rfl
 ·exact .inl rfl
theorem XA{g:Nat->fJ}(x:Int): ∀{k i:Nat} {s:EP},(dP g i s k).2.pl x=s.pl x\/∃q,i<=q/\q<i+k/\(dP g i s k).2.pl x=(g q).To
 |0,i,s=> .inl rfl
 |k+1,i,s=>by
  rw[dP];split
  ·exact .inl rfl
  ·rename_i h;rcases XA x (k:=k) (i:=i+1) (s:=oz s (g i)) with h1|⟨q,h1,h2,h3⟩
   ·rw[h1];rcases movS_to s (g i) x with h2|h2
    ·exact .inl h2
    ·exact .inr ⟨i,Nat.le_refl _,by omega,h2⟩
   ·exact .inr ⟨q,by omega,by omega,h3⟩
theorem plc_to(u:Use)(k:Int):aY u k=⟨0,0⟩\/∃q,q<u.nv/\aY u k=(u.gv q).To:=by
 unfold aY nX;by_cases h1:dL u.nv u.gv≠0
 ·rw[if_pos h1];exact .inl rfl
 ·rw[if_neg h1];by_cases h2:jS k=false
  ·rw[if_pos h2];exact .inl rfl
  ·rw[if_neg h2];unfold bD;split
   ·exact .inl rfl
   ·rcases XA (g:=u.gv) k (k:=u.nv) (i:=0) (s:=xq) with h|⟨q,_,h3,h4⟩
    ·left;exact h
    ·exact .inr ⟨q,by omega,h4⟩
theorem movesB_at{u:Use}(h:iC u=true){q:Nat}(hq:q<u.nv):yG u (u.gv q)=false:=by
 unfold iC at h;have h1:(lst u.nv u.gv).any (yG u)=false:=by simpa using h
 rw[List.any_eq_false] at h1;have:=h1 (u.gv q) (List.mem_map.2 ⟨q,by simpa using hq,rfl⟩);simpa using this
theorem vC{u:Use}(hm:iC u=true){k:Int}(h:(aY u k).Kind=1):0<=uU u.nf u.gf (aY u k).Of:=by
 rcases plc_to u k with h1|⟨q,hq,h1⟩
 ·rw[h1] at h;cases h
 ·have h2:=movesB_at hm hq;unfold yG at h2;simp only[Bool.or_eq_false_iff,Bool.not_eq_false'] at h2;have h3:=h2.2;unfold Ew at h3;rw[←h1,h] at h3;simpa using h3
def rM(u:Use)(i:Nat)(f:Int->Int):Nat->Bool
 |0=>true
 |k+1=>if(aY u (u.gb i).ID).Kind≠1 then rM u (i+1) f k
  else if(u.gf (uU u.nf u.gf (aY u (u.gb i).ID).Of).toNat).Length<f (u.gf (uU u.nf u.gf (aY u (u.gb i).ID).Of).toNat).ID+(u.gb i).Width\/(u.gf (uU u.nf u.gf (aY u (u.gb i).ID).Of).toNat).dU≠(u.gb i).dU then false
  else rM u (i+1) (Ea f (u.gf (uU u.nf u.gf (aY u (u.gb i).ID).Of).toNat).ID (f (u.gf (uU u.nf u.gf (aY u (u.gb i).ID).Of).toNat).ID+(u.gb i).Width)) k
theorem Yf{u:Use}{i:Nat}{f:Int->Int}{n:Nat}(h:i<n):rM u i f (n-i)=if(aY u (u.gb i).ID).Kind≠1 then rM u (i+1) f (n-(i+1))
  else if(u.gf (uU u.nf u.gf (aY u (u.gb i).ID).Of).toNat).Length<f (u.gf (uU u.nf u.gf (aY u (u.gb i).ID).Of).toNat).ID+(u.gb i).Width\/(u.gf (uU u.nf u.gf (aY u (u.gb i).ID).Of).toNat).dU≠(u.gb i).dU then false
  else rM u (i+1) (Ea f (u.gf (uU u.nf u.gf (aY u (u.gb i).ID).Of).toNat).ID (f (u.gf (uU u.nf u.gf (aY u (u.gb i).ID).Of).toNat).ID+(u.gb i).Width)) (n-(i+1)):=by
 obtain⟨k,hk⟩: ∃k,n-i=k+1:=⟨n-i-1,by omega⟩;rw[hk,rM,show n-(i+1)=k by omega]
def vJ(u:Use):Bool:=rM u 0 (fun _=>0) u.nb
def fQ(u:Use):Nat->List Key×(Int->Int)
 |0=>([],fun _=>0)
 |i+1=>if(u.gr i).State=2 then(kQ (.i (u.gr i).Box) (fQ u i).1,Ea (fQ u i).2 (u.gr i).Box (u.gr i).Reader) else fQ u i
theorem FT(u:Use): ∀i y,Key.i y∉(fQ u i).1->(fQ u i).2 y=0
 |0,_,_=>rfl
 |i+1,y,h=>by
  unfold fQ at h⊢;split at h
  ·rename_i h1;rw[if_pos h1];exact Xb (FT u i) y h
  ·rename_i h1;rw[if_neg h1];exact FT u i y h
theorem IC(u:Use): ∀i,∀k∈(fQ u i).1,k.str=false
 |0,k,h=>nomatch h
 |i+1,k,h=>by
  unfold fQ at h;split at h
  ·exact Rn (IC u i) k h
  ·exact IC u i k h
structure LentR(u:Use):Prop where
 day: ∀i,i<u.nr->(u.gr i).Changed<=u.Changed
 out: ∀x,Key.i x∈(fQ u u.nr).1->aY u x=⟨3,(fQ u u.nr).2 x⟩
 box: ∀i,i<u.nb->(aY u (u.gb i).ID).Kind=3->(fQ u u.nr).2 (u.gb i).ID=(aY u (u.gb i).ID).Of
open Classical in
noncomputable def F6(u:Use):Bool:=decide (LentR u)
theorem zL{u:Use} :F6 u=true↔LentR u:=by simp[F6]
theorem lntB_no{u:Use}(h: ¬LentR u):F6 u=false:=by rw[←Bool.not_eq_true,zL];exact h
def Sl(u:Use)(b:Bx):Bool:=((aY u b.ID).Kind==3)&&((fQ u u.nr).2 b.ID !=(aY u b.ID).Of)
noncomputable def bT(u:Use):Bool:=pU u&&iC u&&vJ u&&F6 u
theorem WL(u:Use)(hu:dR u)(hm:iC u=true)(hc:dQ u.nb u.gb=0):ay prog 63 [.agg (u.cells u.dw)] σ (.d (B (vJ u))):=by
 have b1:=hu.nb;have b2:=hu.nf;have b3:=hu.nv;have hbx:=xM hc;refine ay.bd false func63 fun hwf=> ?_;simp[go_sem];refine go false ?_;simp[go_sem];refine He (σ.length+1) (ks':=[]) (f':=fun k=> .d (iF (fun _=>0) k)) (by simp[go_sem];exact⟨rfl,rfl⟩) (.refl _) (fun k hk=>nomatch hk) (fun k=>rfl) (by first|(simp[go_sem];rfl)|rfl) ?_;refine go false ?_;simp[go_sem];refine go true ?_;simp[go_sem];refine zJ (α:=Nat×List Key×(Int->Int)) true [1,3,10,11,12] (fun x=>[(12,.d (I x.1))]) (fun x=>σ++[.var (u.cells u.dw),.mp false x.2.1 (fun k=> .d (iF x.2.2 k))]) (fun x=>x.1<=u.nb/\vJ u=rM u x.1 x.2.2 (u.nb-x.1)/\(∀y,Key.i y∉x.2.1->x.2.2 y=0)/\(∀k∈x.2.1,k.str=false)/\∀y,0<=x.2.2 y/\x.2.2 y<=10000*(x.1:Int)) (fun x=>u.nb-x.1) (0,[],fun _=>0) (by simp[go_sem]) (rfl) (⟨by simp,by simp[vJ],fun _ _=>rfl,fun k hk=>(nomatch hk),fun y=>⟨by simp,by simp⟩⟩) ?_;rintro⟨i,ks,f⟩ ⟨hi,hx,ho,hk,hf⟩;dsimp only at hi hx ho hk hf;simp[go_sem];refine aH [1,3,10,11,12] ?_ ?_<;>intro c0 d0
 ·have hst:=Yf (u:=u) (f:=f) d0;have hwd:=(G6 (hbx.2 i d0)).1;simp only[yM,Bool.and_eq_true] at hwd;have hwd:=eH.1 hwd.1.1.1.2;simp[go_sem];repeat refine⟨by omega,?_⟩
  refine aW.mk (lI _ u (u.gb i).ID (by omega)) ?_;simp[go_sem];refine aH [1,3,5,6,10,11,12] ?_ ?_<;>intro c1 d1
  ·simp(disch:=first|omega|simp) [go_sem,aA];refine dB ((i+1,ks,f)) ⟨by dsimp only;omega,by dsimp only;rw[hx,hst,if_pos d1],ho,hk,fun y=>⟨(hf y).1,by have:=(hf y).2;dsimp only;omega⟩⟩ (h:=by simp[go_sem]<;>omega) (hσ:=by simp[go_sem]) (hb:=au (by simp[go_sem]))
  ·have hkd:(aY u (u.gb i).ID).Kind=1:=by simpa using d1
   have hsi:=vC hm hkd;have hsl:=sIx_lt u.nf u.gf (aY u (u.gb i).ID).Of;obtain⟨s,hs,hsn⟩: ∃s:Nat,uU u.nf u.gf (aY u (u.gb i).ID).Of=(s:Int)/\s<u.nf:=⟨(uU u.nf u.gf (aY u (u.gb i).ID).Of).toNat,by omega,by omega⟩;have hst2:=hst;rw[if_neg (by simpa using hkd),hs,Int.toNat_natCast] at hst2;have e1:cond (decide (Key.i (u.gf s).ID∈ks)) (f (u.gf s).ID) 0=f (u.gf s).ID:=by
    by_cases h:Key.i (u.gf s).ID∈ks
    ·simp[h]
    ·simp[h,ho _ h]
   have hw2:IntKind.i64.wrap (f (u.gf s).ID+(u.gb i).Width)=f (u.gf s).ID+(u.gb i).Width:=by
    have:=hf (u.gf s).ID;simp(disch:=omega) only[aA]
   have hin:Key.i (u.gf s).ID∈kQ (.i (u.gf s).ID) ks:=fC.2 (.inl rfl);simp[go_sem];apply jm 9 8 10 T.mixed (by kernel_rfl)
   ·intro τ K hK;simp[go_sem];refine dS.mk (H9 _ u (aY u (u.gb i).ID).Of (by omega)) ?_;simp[go_sem,hs,hsn];exact hK _ _
   intro K hK;simp[go_sem];refine hK _ ?_;refine go true ?_;simp(disch:=first|omega|simp) [go_sem,updK_iF,setI_at,e1,hw2,hin];refine aH [1,3,10,11,12] ?_ ?_<;>intro c2 d2
   ·have hz:vJ u=false:=by rw[hx,hst2,if_pos (by simpa using d2)]
    simp[go_sem];rw[hz];exact aj sc
   ·have hd2: ¬((u.gf s).Length<f (u.gf s).ID+(u.gb i).Width\/(u.gf s).dU≠(u.gb i).dU):=by simpa using d2
    simp(disch:=first|omega|simp) [go_sem,aA];refine dB ((i+1,kQ (.i (u.gf s).ID) ks,Ea f (u.gf s).ID (f (u.gf s).ID+(u.gb i).Width))) ⟨by dsimp only;omega,by dsimp only;rw[hx,hst2,if_neg hd2],Xb ho,Rn hk,fun y=>by dsimp only;unfold Ea;have:=hf y;have:=hf (u.gf s).ID;split<;>omega⟩ (h:=by simp[go_sem]<;>omega) (hσ:=by simp[go_sem]) (hb:=au (by simp[go_sem]))
 ·have hz:vJ u=true:=by rw[hx,show u.nb-i=0 by omega];rfl
  simp[go_sem];refine go true ?_;simp[go_sem];rw[hz];exact aj sc
theorem Ua(u:Use)(b:Bx)(τ:List aC)(b1:aC)(hn:u.nv<1000000000):ay prog 123 [.agg (b.enc.map .d),.ptr σ.length 0,.ptr (σ.length+2) 0] (σ++ .var (u.cells u.dw)::b1:: .var [.fm false (fQ u u.nr).1 (iF (fQ u u.nr).2)]::τ) (.d (B (Sl u b))):=by
 have e1:cond (decide (Key.i b.ID∈(fQ u u.nr).1)) ((fQ u u.nr).2 b.ID) 0=(fQ u u.nr).2 b.ID:=by
  by_cases h:Key.i b.ID∈(fQ u u.nr).1
  ·simp[h]
  ·simp[h,FT u _ _ h]
 refine ay.bd true func123 fun hwf=> ?_;simp[go_sem];refine aW.mk (lI _ u b.ID hn) ?_;simp[go_sem,e1];refine aj ?_;simp[go_sem,Sl]
theorem WI(u:Use)(hu:dR u):ay prog 64 [.agg (u.cells u.dw)] σ (.d (B (F6 u))):=by
 have b1:=hu.nb;have b3:=hu.nv;have b4:=hu.nr;refine ay.be func64 fun hwf=> ?_;refine ak fun K hK=> ?_;simp[go_sem];refine hK _ ?_;refine ak fun K hK=> ?_;simp[go_sem];refine hK _ ?_;refine aK ?_;refine He (σ.length+1) (ks':=[]) (f':=fun k=> .d (iF (fun _=>0) k)) (by simp[go_sem];exact⟨rfl,rfl⟩) (.refl _) (fun k hk=>nomatch hk) (fun k=>rfl) (by first|(simp[go_sem];rfl)|rfl) ?_;refine ak fun K hK=> ?_;simp[go_sem];refine hK _ ?_;refine aN ?_;refine bF [1,3,10,11,12] (by simp[go_sem,bf];rfl) ?_;refine bU (α:=Nat) (fun i=>[(12,.d (I i))]) (fun i=>σ++[.var (u.cells u.dw),.mp false (fQ u i).1 (fun k=> .d (iF (fQ u i).2 k)),.var [.mp (σ.length+1)]]) (fun i=>i<=u.nr/\∀q,q<i->(u.gr q).Changed<=u.Changed) (fun i=>u.nr-i) 0 (by simp[go_sem]) (rfl) (by simp) ?_;rintro i ⟨hi,hx⟩;refine ak fun K hK=> ?_;simp[go_sem];refine hK _ ?_;refine aK ?_;refine pW [1,3,10,11,12,13] ?_;refine ig ?_ ?_<;>intro c0 d0
 ·have hi0:i<u.nr:=by omega
  refine aV ?_;refine aK ?_;refine aN ?_;refine ak fun K hK=> ?_;simp[go_sem,d0];refine hK _ ?_;refine aK ?_;refine ak fun K hK=> ?_;simp[go_sem];refine hK _ ?_;refine pW [1,3,5,10,11,12,20] ?_;refine ig ?_ ?_<;>intro c1 d1
  ·have hz:F6 u=false:=lntB_no fun h=>by have:=h.day i hi0;omega
   refine ak fun K hK=> ?_;simp[go_sem,d1];refine hK _ ?_;rw[hz];exact aj sc
  ·refine aV ?_;refine ak fun K hK=> ?_;simp[go_sem,c1];refine hK _ ?_;refine pW [1,3,5,10,11,12,23] ?_;refine ig ?_ ?_<;>intro c2 d2
   ·have ho2:fQ u (i+1)=(kQ (.i (u.gr i).Box) (fQ u i).1,Ea (fQ u i).2 (u.gr i).Box (u.gr i).Reader):=by rw[fQ,if_pos (by simpa using d2)]
    refine aQ fun K hK=> ?_;simp[go_sem,updK_iF,d2];refine hK _ ?_;refine aQ fun K hK=> ?_;simp[go_sem];try simp(disch:=omega) only[aA]
    refine hK _ ?_;refine⟨i+1,bK (by simp[go_sem,ho2]) ((au (by simp[go_sem]))) (by(simp[go_sem]<;>omega)),⟨by omega,nH hx (by omega)⟩,by first|omega|(dsimp only;omega)⟩
   ·have ho2:fQ u (i+1)=fQ u i:=by rw[fQ,if_neg (by simpa using d2)]
    refine aV ?_;refine aQ fun K hK=> ?_;simp[go_sem,c2];try simp(disch:=omega) only[aA]
    refine hK _ ?_;refine⟨i+1,bK (by simp[go_sem,ho2]) ((au (by simp[go_sem]))) (by(simp[go_sem]<;>omega)),⟨by omega,nH hx (by omega)⟩,by first|omega|(dsimp only;omega)⟩
 ·obtain rfl:i=u.nr:=by omega
  have hkn:=IC u u.nr;refine dh ?_;refine aK ?_;refine awp_fm (σ.length+1) (d:=false) (ks:=(fQ u u.nr).1) (f:=iF (fQ u u.nr).2) (by simp[go_sem]<;>first|exact⟨rfl,rfl,rfl⟩|exact⟨rfl,rfl⟩|rfl) (by simp[go_sem];rfl) (by simp[go_sem,hwf.fm,hwf.fm0];rfl) ?_;refine ak fun K hK=> ?_;simp[go_sem];refine hK _ ?_;refine aN ?_;refine bF [1,3,31] (by simp[go_sem,bf];rfl) ?_;refine qg [σ.length+1,σ.length+3] (by simp) ?_;refine bU (α:=List Key×List Key×Option Key) (fun x=>[]) (fun x=>σ++[.var (u.cells u.dw),.dead,.var [.fm false (fQ u u.nr).1 (iF (fQ u u.nr).2)],.it x.1 x.2.2 (fun k=> .d (iF (fQ u u.nr).2 k))]) (fun x=>(x.1++x.2.1).Perm (fQ u u.nr).1/\∀k∈x.2.1,aY u (kI k)=⟨3,(fQ u u.nr).2 (kI k)⟩) (fun x=>x.1.length) ((fQ u u.nr).1,[],none) (by simp[go_sem]) (rfl) (⟨by simp,fun k hk=>nomatch hk⟩) ?_;rintro⟨L,sn,cur⟩ ⟨hp,hr⟩;dsimp only at hp hr;refine ak fun K hK=> ?_;simp[go_sem,OQ,JG,Key.v];intro o ho1 ho2;refine hK _ ?_;refine aK ?_;refine pW [1,3,31,33] ?_;refine ig ?_ ?_<;>intro c3 d3
  ·obtain⟨k,rfl⟩:=Option.isSome_iff_exists.1 d3;have hk:=ho2 k rfl;have hks:=hp.mem_iff.1 (List.mem_append_left _ hk);obtain⟨v,rfl⟩: ∃v,k= .i v:=by
    have:=hkn k hks;cases k with
    |i v=>exact⟨v,rfl⟩
    |s b=>cases this
   refine aV ?_;refine aN ?_;refine ak fun K hK=> ?_;simp[go_sem,Key.v,c3];refine hK _ ?_;refine ak fun K hK=> ?_;simp[go_sem];refine aW.mk (lI _ u v (by omega)) ?_;simp[go_sem];refine hK _ ?_;refine pW [1,3,31,42] ?_;refine ig ?_ ?_<;>intro c4 d4
   ·have hz:F6 u=false:=lntB_no fun h=>by
     have:=h.out v hks;rw[this] at d4;simp at d4
    refine ak fun K hK=> ?_;simp[go_sem,c4];refine hK _ ?_;rw[hz];exact aj sc
   ·have hpv:aY u v=⟨3,(fQ u u.nr).2 v⟩:=by rw[NZ];simpa using d4
    refine aV ?_;refine⟨(L.erase (.i v),sn++[.i v],some (Key.i v)),bK (by simp[go_sem]) ((au (by simp[go_sem]))) (by(simp[go_sem,d4]<;>omega)),⟨EF hp hk,fun k hk=>by dsimp only at hk⊢;rcases List.mem_append.1 hk with h|h;exact hr k h;rw[List.mem_singleton.1 h];exact hpv⟩,by have h1:=List.length_erase_of_mem hk;have h2:=List.length_pos_of_mem hk;dsimp only;omega⟩
  ·obtain rfl:o=none:=by simpa using d3
   obtain rfl:=ho1 rfl;rw[List.nil_append] at hp;have hall: ∀x,Key.i x∈(fQ u u.nr).1->aY u x=⟨3,(fQ u u.nr).2 x⟩:=fun x h=>hr (.i x) (hp.mem_iff.2 h);refine dh ?_;refine ak fun K hK=> ?_;simp[go_sem,c3];refine aW.mk (QY _ none u.nb u.gb _ _ (Sl u) (by omega) (fun i hi=>by have h:=Ua σ u (u.gb i) [.it [] cur (fun k=> .d (iF (fQ u u.nr).2 k))] .dead (by omega);simpa[go_sem] using h)) ?_;simp[go_sem];refine hK _ ?_;refine aj ?_;have hz:F6 u= !(lst u.nb u.gb).any (Sl u):=by
    rw[Bool.eq_iff_iff,zL,Bool.not_eq_true',List.any_eq_false];constructor
    ·intro h b hb;obtain⟨i,hi,rfl⟩:=List.mem_map.1 hb;have:=h.box i (by simpa using hi);unfold Sl;simp only[Bool.and_eq_true,beq_iff_eq,bne_iff_ne,ne_eq,not_and,Decidable.not_not];exact this
    ·intro h;refine⟨hx,hall,fun i hi hk=> ?_⟩;have:=h (u.gb i) (List.mem_map.2 ⟨i,by simpa using hi,rfl⟩);unfold Sl at this;simp only[Bool.and_eq_true,beq_iff_eq,bne_iff_ne,ne_eq,not_and,Decidable.not_not] at this;exact this hk
   rw[hz];simp[go_sem]
theorem mJ(u:Use)(hu:dR u)(h0:σ[0]? =some (.tab 0 iR))(h1:σ[1]? =some (.loc 1)):ay prog 28 [.agg (u.cells u.dw)] σ (.d (B (bT u))):=by
 refine ay.bs true func28 fun hwf=> ?_;refine aW.mk (TW _ u hu (aO h0) (aO h1)) (sm ?_);refine fA.mk' (.d (B (iC u))) (fun _=>TY _ u hu) (sm ?_);refine fA.mk' (.d (B (vJ u))) (fun hg=>WL _ u hu (by simp_all) (by have h:=(lK.1 (show pU u=true by simp_all)).chk 1 (by omega);exact h)) ?_;simp[go_sem];refine fA.mk' (.d (B (F6 u))) (fun _=>WI _ u hu) (sm ?_);refine aj ?_;simp[go_sem,bT]
theorem Ue(u:Use)(hu:dR u)(h0:σ[0]? =some (.tab 0 iR))(h1:σ[1]? =some (.loc 1)):ay prog 15 [.agg (u.cells u.dw)] σ (.d (I (if bT u=true then 0 else 1))):=by
 refine ay.bs true func15 fun hwf=> ?_;refine aW.mk (mJ _ u hu (aO h0) (aO h1)) (sm ?_);refine jT ?_ ?_<;>intro c0 d0
 ·simp[go_sem];exact aj so
 ·simp[go_sem];exact aj so
theorem kd_sameD(a b d:Int)(c:Bool)(f:FuncId):Same (.agg [.d (I a),.d (I b),.d (B c),.d (I d),.clo (.func f) [] []]) (.d (.v (.agg #[.int .i64 a,.int .i64 b,.bool c,.int .i64 d,.func (.func f) #[] #[]]))):=fun w j v h=>by
 cases h with
 |agg vs hs h=>
  have e:vs= #[.int .i64 a,.int .i64 b,.bool c,.int .i64 d,.func (.func f) #[] #[]]:=by
   have h0:=kD (h 0 (by simp));have h1:=kD (h 1 (by simp));have h2:=kD (h 2 (by simp));have h3:=kD (h 3 (by simp));have h4:=R_clo0 (h 4 (by simp));apply Array.ext
   ·simpa using hs
   ·intro i hi1 hi2;have hi:i<5:=by simpa using hi2
    rcases i with _|_|_|_|_|i
    ·simpa[Array.getD_eq_getD_getElem?,hi1] using h0
    ·simpa[Array.getD_eq_getD_getElem?,hi1] using h1
    ·simpa[Array.getD_eq_getD_getElem?,hi1] using h2
    ·simpa[Array.getD_eq_getD_getElem?,hi1] using h3
    ·simpa[Array.getD_eq_getD_getElem?,hi1] using h4
    ·omega
  rw[e];exact .d (.v _)
def eG(x:Int):Int×Int×Bool×Int×Nat:=
 if x=40 then(6,0,false,3,194)
 else if x=41 then(2,0,false,-1,195)
 else if x=42 then(5,1,false,-1,196)
 else if x=43 then(5,0,false,-1,197)
 else if x=44 then(6,0,false,3,198)
 else if x=45 then(6,0,false,-1,199)
 else if x=46 then(1,0,false,-1,200)
 else if x=47 then(4,0,true,-1,201)
 else if x=48 then(4,0,false,-1,202)
 else if x=49 then(4,0,false,-1,203)
 else if x=50 then(1,0,false,-1,204)
 else if x=51 then(4,0,false,-1,205)
 else if x=52 then(3,0,false,-1,206)
 else if x=53 then(3,0,false,-1,207)
 else if x=54 then(1,0,false,-1,208)
 else if x=55 then(2,0,false,-1,209)
 else if x=56 then(4,0,false,-1,210)
 else if x=57 then(3,0,true,-1,211)
 else if x=58 then(1,0,false,-1,212)
 else if x=59 then(1,0,true,-1,213)
 else(0,0,false,0,0)
def kKs:List Key:=[.i 40,.i 41,.i 42,.i 43,.i 44,.i 45,.i 46,.i 47,.i 48,.i 49,.i 50,.i 51,.i 52,.i 53,.i 54,.i 55,.i 56,.i 57,.i 58,.i 59]
def kdF:Key->AV
 | .i x=> .agg [.d (I (eG x).1),.d (I (eG x).2.1),.d (B (eG x).2.2.1),.d (I (eG x).2.2.2.1),.d (Fn0 (eG x).2.2.2.2)]
 | .s _=> .undef
theorem kdF_i(x:Int):kdF (.i x)= .agg [.d (I (eG x).1),.d (I (eG x).2.1),.d (B (eG x).2.2.1),.d (I (eG x).2.2.2.1),.d (Fn0 (eG x).2.2.2.2)]:=rfl
def kdD:Key->D
 | .i x=> .v (.agg #[.int .i64 (eG x).1,.int .i64 (eG x).2.1,.bool (eG x).2.2.1,.int .i64 (eG x).2.2.2.1,.func (.func (eG x).2.2.2.2) #[] #[]])
 | .s _=>I 0
theorem kdD_i(x:Int):kdD (.i x)= .v (.agg #[.int .i64 (eG x).1,.int .i64 (eG x).2.1,.bool (eG x).2.2.1,.int .i64 (eG x).2.2.2.1,.func (.func (eG x).2.2.2.2) #[] #[]]):=rfl
def kd0:AV:= .agg [.d (I 0),.d (I 0),.d (B false),.d (I 0),.d (.v .nilFunc)]
attribute [go_sem] kd0
theorem kKs_iff{x:Int} :Key.i x∈kKs↔40<=x/\x<=59:=by
 unfold kKs;simp only[List.mem_cons,Key.i.injEq,List.not_mem_nil,or_false];omega
theorem kGet_flag{x:Int}(h:Key.i x∈kKs):(eG x).2.2.2.1= -1\/((eG x).2.2.2.1=3/\(eG x).1=6):=by
 rw[kKs_iff] at h;have:x=40\/x=41\/x=42\/x=43\/x=44\/x=45\/x=46\/x=47\/x=48\/x=49\/x=50\/x=51\/x=52\/x=53\/x=54\/x=55\/x=56\/x=57\/x=58\/x=59:=by omega
 rcases this with rfl|rfl|rfl|rfl|rfl|rfl|rfl|rfl|rfl|rfl|rfl|rfl|rfl|rfl|rfl|rfl|rfl|rfl|rfl|rfl<;>simp[eG]
def okS(e:Ev):Bool:=decide (Key.i e.Kind∈kKs)&&decide ((e.nt:Int)=(eG e.Kind).2.1)&&decide ((eG e.Kind).1<=(e.nn:Int))&&(decide ((e.nn:Int)<=(eG e.Kind).1)||(eG e.Kind).2.2.1)
def okB(e:Ev):Bool:=okS e&&(decide ((eG e.Kind).2.2.2.1<0)||jy (e.gn (eG e.Kind).2.2.2.1.toNat) 0 1)
def kdR(e:Ev):AV:=if okS e=true then kdF (.i e.Kind) else kd0
@[go_sem] theorem kdR_under(e:Ev)(n:Nat):(kdR e).under n:=by
 unfold kdR;split
 ·exact⟨trivial,trivial,trivial,trivial,trivial,trivial⟩
 ·exact⟨trivial,trivial,trivial,trivial,trivial,trivial⟩
def Use.own(u:Use)(b:Nat):List AV:=[.d (SL none 5 nV.enc u.P.ns u.P.gs),.ms b 6 0 u.P.nc,.ms (b+1) 6 0 u.P.np,.d (I u.P.jg),.ms (b+2) 6 0 u.P.na,.d (SL none 6 qJ.enc u.P.nm u.P.gm),
 .ms (b+3) 5 0 u.nb,.ms (b+4) 4 0 u.nf,.d (SL none 6 fJ.enc u.nv u.gv),.d (SL none 7 eU.enc u.nr u.gr),.d (I u.nI),.d (SL none 4 iy.enc u.nk u.gk),.ms (b+5) 8 0 u.nt,.d (SL none 2 H6.enc u.nl u.gl),.ms (b+6) 3 0 u.nw,.d (I u.Changed)]
def Use.blks(u:Use):List aC:=[.arr 6 u.P.nc (fun i=>Rule.enc (u.P.gc i)),.arr 6 u.P.np (fun i=>iU.enc (u.P.gp i)),.arr 6 u.P.na (fun i=>kP.enc (u.P.ga i)),.arr 5 u.nb (fun i=>Bx.enc (u.gb i)),.arr 4 u.nf (fun i=>nU.enc (u.gf i)),.arr 8 u.nt (fun i=>nJ.enc (u.gt i)),.arr 3 u.nw (fun i=>sG.enc (u.gw i))]
attribute [go_sem] Use.own Use.blks
theorem EX:ay prog 154 [] σ (.fm false kKs kdD):=by
 refine ay.bs true func154 fun hwf=> ?_;refine He σ.length (ks':=kKs) (f':=fun k=> .d (kdD k)) (by simp[go_sem,kQ];exact⟨rfl,rfl,rfl⟩) (.refl _) (fun k hk=>by
  unfold kKs at hk;simp only[List.mem_cons,List.not_mem_nil,or_false] at hk;rcases hk with rfl|rfl|rfl|rfl|rfl|rfl|rfl|rfl|rfl|rfl|rfl|rfl|rfl|rfl|rfl|rfl|rfl|rfl|rfl|rfl<;>exact kd_sameD _ _ _ _ _) (fun k=>rfl) (by simp[go_sem,kQ];first|rfl|skip) ?_
 refine awp_fm σ.length (d:=false) (ks:=kKs) (f:=kdD) (by simp[go_sem]<;>first|exact⟨rfl,rfl,rfl⟩|exact⟨rfl,rfl⟩|rfl) (by simp[go_sem];rfl) (by simp[go_sem,hwf.fm,hwf.fm0];rfl) ?_;exact aj sc
theorem MB(e:Ev)(hn:e.nn<1000000000)(hk:Key.i e.Kind∈kKs):ay prog 110 [.agg (e.enc.map .d)] σ (.eX [kdR e,.d (B (okB e))]):=by
 have hf:=kGet_flag hk;have hw: ∀x:Int,okS e=true->0<=(eG e.Kind).2.2.2.1->(eG e.Kind).2.2.2.1.toNat<e.nn/\(eG e.Kind).2.2.2.1<(e.nn:Int):=fun _ hz h0=>by
  unfold okS at hz;simp only[Bool.and_eq_true,decide_eq_true_eq] at hz;have:=hz.1.2;omega
 refine ay.bd true func110 fun hwf=> ?_;simp[go_sem];apply jm 9 7 8 T.mixed (by kernel_rfl)
 ·intro τ K hK;simp[go_sem];refine dS.mk (EX _) ?_;simp[go_sem,kdD_i,hk];exact hK _ _
 intro K hK;simp[go_sem];refine hK _ ?_;refine go true ?_;simp[go_sem];refine aH [1,2,4] ?_ ?_<;>intro c0 d0
 ·have hz:okS e=false:=by
   rw[←Bool.not_eq_true];intro h;unfold okS at h;simp only[Bool.and_eq_true,Bool.or_eq_true,decide_eq_true_eq] at h;obtain⟨⟨⟨h1,h2⟩,h3⟩,h4⟩:=h;rcases h4 with h4|h4<;>simp[h2,h4] at d0<;>omega
  have hr:kdR e=kd0:=if_neg (by rw[hz];decide);simp[go_sem];refine aj ?_;rw[hr];simp[go_sem,okB,hz]
 ·have hz:okS e=true:=by
   unfold okS;cases hm:(eG e.Kind).2.2.1<;>simp[hm,hk] at d0⊢<;>omega
  have hnn:=hw 0 hz;have hr:kdR e=kdF (.i e.Kind):=if_pos hz;simp[go_sem];apply V4 14 13 T.mixed (by kernel_rfl)
  ·intro K hK;simp[go_sem];repeat refine⟨by omega,?_⟩
   refine dS.mk' (.d (B (jy (e.gn (eG e.Kind).2.2.2.1.toNat) 0 1))) (fun _=>nY _ _ 0 1) ?_;simp[go_sem];exact hK _ _
  ·simp[go_sem];rfl
  ·intro K hK;simp[go_sem];repeat refine⟨by omega,?_⟩
   refine dS.mk' (.d (B (jy (e.gn (eG e.Kind).2.2.2.1.toNat) 0 1))) (fun _=>nY _ _ 0 1) ?_;simp[go_sem];exact hK _ _
  intro K hK;simp[go_sem];refine hK _ ?_;refine go true ?_;simp[go_sem];refine aj ?_;rw[hr];simp[go_sem,okB,hz,kdF_i]
theorem MC(e:Ev)(hn:e.nn<1000000000)(hk:Key.i e.Kind∉kKs):ay prog 110 [.agg (e.enc.map .d)] σ (.eX [kd0,.d (B false)]):=by
 refine ay.bd true func110 fun hwf=> ?_;simp[go_sem];apply jm 9 7 8 T.mixed (by kernel_rfl)
 ·intro τ K hK;simp[go_sem];refine dS.mk (EX _) ?_;simp[go_sem,kdD_i,hk];exact hK _ _
 intro K hK;simp[go_sem];refine hK _ ?_;refine go true ?_;simp[go_sem];refine cn [1,2,4] rfl ?_ ?_<;>intro c0 d0<;>try simp at d0
 ·simp[go_sem];refine aj ?_;simp[go_sem]<;>omega
theorem Du(e:Ev)(hn:e.nn<1000000000):ay prog 110 [.agg (e.enc.map .d)] σ (.eX [kdR e,.d (B (okB e))]):=by
 by_cases hk:Key.i e.Kind∈kKs
 ·exact MB σ e hn hk
 ·have hz:okS e=false:=by unfold okS;simp[hk]
  have h:=MC σ e hn hk;have hr:kdR e=kd0:=if_neg (by rw[hz];decide);rw[hr,show okB e=false by simp[okB,hz]];exact h
end Go.Proofs.YthlhlnbcjlpigaaGreatDoor
