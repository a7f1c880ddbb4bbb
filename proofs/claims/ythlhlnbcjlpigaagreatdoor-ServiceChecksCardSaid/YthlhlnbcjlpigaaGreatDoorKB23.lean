/- Contracts and lemmas, joined out of smaller texts by a program; no conditions. -/
import Derived.Test.YthlhlnbcjlpigaaGreatDoorKB16
import Derived.Test.YthlhlnbcjlpigaaGreatDoorKB22
set_option linter.unusedVariables false
set_option linter.unusedSimpArgs false
set_option maxHeartbeats 1000000
set_option maxRecDepth 100000
namespace Go.Proofs.YthlhlnbcjlpigaaGreatDoor
open Go.aU Go.bY Go.Proofs.Tryz
variable (σ : List aC)
theorem xu{σ τ:List aC}{x:aC}(Y:List Nat):aU.Leaves (σ++x::τ) (σ.map (bW Y)++ .dead::τ.map (bW Y)):=by
 refine⟨by simp,fun b z hz=> ?_⟩;rw[List.getElem?_append] at hz⊢;simp only[List.length_map] at hz;split at hz
 ·rename_i hb;rw[if_pos hb];simp only[List.getElem?_map,Option.map_eq_some_iff] at hz;obtain⟨y',h1,rfl⟩:=hz;exact .inr (.inr ⟨Y,y',h1,rfl⟩)
 ·rename_i hb;rw[if_neg hb];generalize b-σ.length=k at hz
  rcases k with _|k
  ·simp at hz;subst hz;exact .inr (.inl trivial)
  ·simp only[List.getElem?_cons_succ,List.getElem?_map,Option.map_eq_some_iff] at hz⊢;obtain⟨y',h1,rfl⟩:=hz;exact .inr (.inr ⟨Y,y',h1,rfl⟩)
theorem awp_uncap{P:Program}{c:Code}{Q:Exit->St->Prop}{N:Nat}{t:List (Nat×AV)}{σ:List aC}{mv:List Nat}(k:Nat){b sz lo n q:Nat}(hk:aU.get t k=some (.mc b sz lo n q))(h:dY P c Q ⟨N,aU.put t k (.ms b sz lo n),σ,mv⟩):dY P c Q ⟨N,t,σ,mv⟩:=by
 intro j0 j a w hr;refine h j0 j a w ⟨hr.defers,hr.jw,hr.size,fun k' av hk'=> ?_,hr.cZ,hr.len0,hr.ag⟩;simp only at hk';rw[get_put] at hk';split at hk'
 ·rename_i e;subst e;simp only[Option.some.injEq] at hk';subst hk';obtain⟨h1,h2⟩:=hr.tmp k _ hk;cases h2 with|mc h2 _ _=>exact⟨h1,h2⟩
 ·exact hr.tmp k' av hk'
def U0{α:Type}(g:Nat->α)(i:Nat)(x:α)(q:Nat):α:=if q<i then g q else if q=i then x else g (q-1)
def skip(i q:Nat):Nat:=if q<i then q else q+1
def without{α:Type}(g:Nat->α)(i:Nat):Nat->α:=fun q=>g (skip i q)
def qc(n:Nat)(g:Nat->Bx)(k:Int):Int:=idxFrom (fun b:Bx=>b.ID==k) (lst n g) 0
theorem bIx_lt(n:Nat)(g:Nat->Bx)(k:Int):qc n g k<n:=qB _ n g
def cIx(b:Bx)(u:Int):Int:=idxFrom (fun c:Cnt=>c.Unit==u) (lst b.nc b.gc) 0
theorem cIx_lt(b:Bx)(u:Int):cIx b u<b.nc:=qB _ b.nc b.gc
def J8(g:Nat->Bx)(u:Int)(i:Nat):Nat->Int×Int
 |0=>(-1,-1)
 |k+1=>if 0<=cIx (g i) u then((i:Int),cIx (g i) u) else J8 g u (i+1) k
theorem whGo_step{g:Nat->Bx}{u:Int}{i n:Nat}(h:i<n):J8 g u i (n-i)=if 0<=cIx (g i) u then((i:Int),cIx (g i) u) else J8 g u (i+1) (n-(i+1)):=by
 obtain⟨k,hk⟩: ∃k,n-i=k+1:=⟨n-i-1,by omega⟩;rw[hk,J8,show n-(i+1)=k by omega]
def ZH(n:Nat)(g:Nat->Bx)(u:Int):Int×Int:=J8 g u 0 n
theorem whGo_lt{g:Nat->Bx}{u:Int} : ∀{k i:Nat},(J8 g u i k).1<0\/∃q,i<=q/\q<i+k/\(J8 g u i k).1=(q:Int)/\(J8 g u i k).2=cIx (g q) u/\0<=cIx (g q) u
 |0,i=> .inl (by simp[J8])
 |k+1,i=>by
  rw[J8];split
  ·rename_i h;exact .inr ⟨i,Nat.le_refl _,by omega,rfl,rfl,h⟩
  ·rcases whGo_lt (k:=k) (i:=i+1) (g:=g) (u:=u) with h|⟨q,h1,h2,h3⟩
   ·exact .inl h
   ·exact .inr ⟨q,by omega,by omega,h3⟩
theorem whR_at{n:Nat}{g:Nat->Bx}{u:Int}(h: ¬(ZH n g u).1<0): ∃q p:Nat,q<n/\p<(g q).nc/\(ZH n g u).1=(q:Int)/\(ZH n g u).2=(p:Int):=by
 rcases whGo_lt (g:=g) (u:=u) (k:=n) (i:=0) with h1|⟨q,h1,h2,h3,h4,h5⟩
 ·exact absurd h1 h
 ·have:=cIx_lt (g q) u;exact⟨q,(cIx (g q) u).toNat,by omega,by omega,h3,by unfold ZH;rw[h4];omega⟩
def qP(n:Nat)(g:Nat->Bx)(u:Int):Int×Int×Bool:=if(ZH n g u).1<0\/dQ n g≠0 then(0,0,false) else((g (ZH n g u).1.toNat).ID,(ZH n g u).2,true)
theorem Tf{g:Nat->Bx} : ∀{k i:Nat} {ks:List Key},Dl g i ks k=0->∀q,i<=q->q<i+k->Dn (g q)=0
 |0,i,ks,_=>by intro q h1 h2;omega
 |k+1,i,ks,h=>by
  rw[Dl] at h;split at h
  ·rename_i h1;exact absurd h h1
  ·rename_i h1;split at h
   ·cases h
   ·split at h
    ·cases h
    ·intro q h2 h3;by_cases hq:q=i
     ·subst hq;exact Classical.byContradiction fun h9=>h1 h9
     ·exact Tf h q (by omega) (by omega)
theorem G6{b:Bx}(h:Dn b=0):yM b=true/\b.nc<=32/\Ri b.gc b.nc<=b.Room/\∀i,i<b.nc->jX (b.gc i)=true:=by
 unfold Dn at h;split at h
 ·cases h
 ·rename_i h1;split at h
  ·cases h
  ·split at h
   ·cases h
   ·have h2:yM b=true:=by simpa using h1
    have h3:=h2;simp only[yM,Bool.and_eq_true,Bool.not_eq_true'] at h3;exact⟨h2,by omega,by omega,S9 h3.2⟩
theorem xM{n:Nat}{g:Nat->Bx}(h:dQ n g=0):n<=128/\∀i,i<n->Dn (g i)=0:=by
 unfold dQ at h;split at h
 ·cases h
 ·exact⟨by omega,fun i hi=>Tf h i (by omega) (by omega)⟩
def wQ(n:Nat)(g:Nat->Bx)(k at_:Int)(c:Cnt):Int:=if dQ n g≠0 then 1 else if qc n g k<0 then 7 else if jy at_ 0 (g (qc n g k).toNat).nc=false\/jX c=false then 2 else if 0<=(ZH n g c.Unit).1 then 6
 else if 32<=(g (qc n g k).toNat).nc then 8 else if(g (qc n g k).toNat).Room<Ri (g (qc n g k).toNat).gc (g (qc n g k).toNat).nc+c.Qa then 12 else 0
def putG(g:Nat->Bx)(i at_:Nat)(c:Cnt):Nat->Bx:=setG g i { g i with nc:=(g i).nc+1,gc:=U0 (g i).gc at_ c }
theorem clonePmtM_cs(c:Option Nat)(n:Nat)(g:Nat->qJ)(hn:n<1000000000):CS prog 99 [.d (SL c 6 qJ.enc n g)] σ (fun r σ' X=>r= .ms σ.length 6 0 n/\σ'=σ++[.arr 6 n fun i=>qJ.enc (g i)]/\X=[]):=by
 refine CS.Zh true func99 fun hwf=> ?_;simp[go_sem,-Bool.forall_bool];try intro b1 hb1
 refine jT ?_ ?_<;>intro c0 d0
 ·simp[go_sem];refine dn 2 6 (fun i=>qJ.enc (g i)) (by simp[go_sem]) (by simp[go_sem];rfl) ?_;refine aj ?_;obtain rfl:=hb1 c0;simp[go_sem]
 ·simp[go_sem];repeat refine⟨by omega,?_⟩
  exact aj so
theorem deletePmt_cs(τ:List aC)(n:Nat)(g:Nat->qJ)(i:Nat)(hi:i<n)(hn:n<1000000000):CS prog 326 [.ms σ.length 6 0 n,.d (I i),.d (I (i+1))] (σ++ .arr 6 n (fun i=>qJ.enc (g i))::τ) (fun r σ' X'=>X'=[]/\r= .ms σ.length 6 0 (n-1)/\σ'=σ++ .arr 6 (n-1) (fun q=>qJ.enc (without g i q))::τ):=by
 have h0:((i:Int)==(i:Int)+1)=false:=by simp;omega
 have h1:((i:Int)+1).toNat=i+1:=by omega
 have h2:((n:Int)-((i:Int)+1)).toNat=n-1-i:=by omega
 refine CS.bdD true [] func326 fun hwf=> ?_;simp[go_sem,h0];repeat refine⟨by omega,?_⟩
 refine cn [0,1,2] rfl ?_ ?_<;>intro c0 d0<;>try simp at d0
 ·simp[go_sem];refine T.dr 6 fun K hK=> ?_;simp[go_sem,hi];repeat refine⟨by omega,?_⟩
  refine hK _ ?_;refine go true ?_;simp[go_sem];repeat refine⟨by omega,?_⟩
  refine xQ σ.length (n-1) (fun q=>qJ.enc (without g i q)) (by simp[go_sem];exact⟨rfl,rfl,rfl⟩) (by omega) (fun q hq=>by
   simp only[setRows,without,skip];rw[if_neg (by omega)];by_cases h:q<i
   ·rw[if_neg (by omega),if_pos h];rfl
   ·rw[if_pos (by omega),if_neg h,show i+1+(q-i)=q+1 by omega];rfl) (by simp[go_sem];rfl) ?_
  refine aj ?_;simp[go_sem];exact⟨_,⟨[],(List.append_nil _).symm⟩,au (by simp[go_sem,aJ]),by omega,rfl⟩
theorem VI(c:Option Nat)(n:Nat)(g:Nat->Cnt)(hn:n<1000000000):CS prog 102 [.d (SL c 2 Cnt.enc n g)] σ (fun r σ' X=>r= .ms σ.length 2 0 n/\σ'=σ++[.arr 2 n fun i=>Cnt.enc (g i)]/\X=[]):=by
 refine CS.Zh true func102 fun hwf=> ?_;simp[go_sem,-Bool.forall_bool];try intro b1 hb1
 refine jT ?_ ?_<;>intro c0 d0
 ·simp[go_sem];refine dn 2 2 (fun i=>Cnt.enc (g i)) (by simp[go_sem]) (by simp[go_sem];rfl) ?_;refine aj ?_;obtain rfl:=hb1 c0;simp[go_sem]
 ·simp[go_sem];repeat refine⟨by omega,?_⟩
  exact aj so
theorem UZ(τ:List aC)(n:Nat)(g:Nat->Cnt)(x:Cnt)(i:Nat)(hi:i<=n)(hn:n<1000000000):CS prog 375 [.ms σ.length 2 0 n,.d (I i),.d (.sl (some 1) 2 1 (rowsOf 2 (Cnt.enc x)))] (σ++ .arr 2 n (fun i=>Cnt.enc (g i))::τ) (fun r σ' X'=>X'=[σ.length]/\r= .d (SL none 2 Cnt.enc (n+1) (U0 g i x))/\σ'=σ.map (bW [σ.length])++ .dead::τ.map (bW [σ.length])):=by
 have h1:((i:Int)+1).toNat=i+1:=by omega
 have h2:((n:Int)+1-(i:Int)).toNat=n+1-i:=by omega
 have h3:i+(n+1-i)=n+1:=by omega
 have h4:((n:Int)+1-((i:Int)+1)).toNat=n-i:=by omega
 have h5:((n:Int)-(i:Int)).toNat=n-i:=by omega
 have h6:((n:Int)+1).toNat=n+1:=by omega
 have h7:min (n+1-i) (n-i)=n-i:=by omega
 refine CS.beD [σ.length] func375 fun hwf=> ?_;refine ak fun K hK=> ?_;simp[go_sem];refine hK _ ?_;refine ak fun K hK=> ?_;simp[go_sem,h5,hi];refine hK _ ?_;refine ak fun K hK=> ?_;simp[go_sem];refine hK _ ?_;refine aK ?_;refine ak fun K hK=> ?_;simp[go_sem];refine hK _ ?_;refine pW [0,1,2,7,16] ?_;refine acn rfl ?_ ?_<;>intro c0 d0<;>try simp at d0
 ·refine aV ?_;refine ak fun K hK=> ?_;simp[go_sem];refine hK _ ?_;refine aK ?_;refine ak fun K hK=> ?_;simp[go_sem];refine hK _ ?_;refine pW [0,1,2,7,8,22] ?_;refine ig ?_ ?_<;>intro c1 d1
  ·obtain rfl:n=i:=by omega
   refine ak fun K hK=> ?_;simp[go_sem];repeat refine⟨by omega,?_⟩
   refine hK _ ?_;refine bC σ.length (fun q=>Cnt.enc (U0 g n x q)) (by simp[go_sem];exact⟨rfl,rfl,rfl⟩) (by intro q hq;unfold aX U0;split;rfl;rw[if_pos (show q=n by omega),show q-n=0 by omega];simp[rowsOf,Cnt.enc]) (by simp[go_sem];rfl) ?_;refine PZ σ.length (by simp[go_sem];exact⟨rfl,rfl,rfl⟩) (by simp[go_sem];rfl) (by simp[go_sem];rfl) ?_;refine aj ?_;simp[go_sem,Xe];exact xu _
  ·have hlt:i<n:=by omega
   refine aV ?_;refine aK ?_;refine awp_mc 0 (by simp[go_sem];first|exact⟨rfl,rfl,rfl,rfl⟩|rfl) fun q hq=> ?_;refine ak fun K hK=> ?_;simp[go_sem,c1];try simp(disch:=omega) only[aA]
   refine hK _ ?_;refine pW [0,1,2,7,8,31] ?_;refine ig ?_ ?_<;>intro c2 d2
   ·have hqn:q=n:=by omega
    subst hqn;refine ak fun K hK=> ?_;simp[go_sem,hi,d2];try simp(disch:=omega) only[aA]
    repeat refine⟨by omega,?_⟩
    refine hK _ ?_;refine ak fun K hK=> ?_;simp[go_sem,h2,h3,h6];repeat refine⟨by omega,?_⟩
    refine hK _ ?_;refine qI 8 T.mixed (by kernel_rfl) fun K hK=> ?_;simp[go_sem,h5,h6,hi];try simp(disch:=omega) only[aA]
    repeat refine⟨by omega,?_⟩
    refine hK _ ?_;refine ak fun K hK=> ?_;simp[go_sem,h1,h4];refine hK _ ?_;obtain⟨hp1,hp2⟩:=hwf.parts 0;simp only[List.length_append,List.length_cons,Nat.add_zero] at hp1 hp2;refine bC (σ.length+(τ.length+1)) (fun p=>Cnt.enc (U0 g i x p)) (by simp[go_sem];exact⟨rfl,rfl,rfl⟩) (by
     intro p hp;simp only[setRows,aX,U0];rcases Nat.lt_trichotomy p i with h|h|h
     ·rw[if_neg (by omega),if_neg (by omega),if_pos h,if_pos h];rfl
     ·subst h;rw[if_neg (by omega),if_pos (by omega),if_neg (by omega),if_pos rfl,Nat.sub_self];simp[rowsOf,Cnt.enc]
     ·rw[if_pos (by omega),if_neg (by omega),if_neg (by omega),show i+(p-(i+1))=p-1 by omega];rfl) (by simp[go_sem];rfl) ?_
    refine PZ (σ.length+(τ.length+1)) (by simp[go_sem];exact⟨rfl,rfl,rfl⟩) (by simp[go_sem];rfl) (by simp[go_sem,hp1,hp2];rfl) ?_;refine AU σ.length (by simp[go_sem];rfl) (by simp[go_sem];rfl) ?_;refine aj ?_;simp[go_sem];exact xu _
   ·have hqn:n+1<=q:=by omega
    refine aV ?_;refine awp_room 0 (by simp[go_sem];first|exact⟨rfl,rfl,rfl,rfl,rfl⟩|rfl) (by simp[go_sem];exact⟨rfl,rfl⟩) (by omega) fun row' hrow=> ?_;refine ak fun K hK=> ?_;simp[go_sem,c2];try simp(disch:=omega) only[aA]
    repeat refine⟨by omega,?_⟩
    refine hK _ ?_;refine aK ?_;refine ak fun K hK=> ?_;simp[go_sem,h6,d2];try simp(disch:=omega) only[aA]
    repeat refine⟨by omega,?_⟩
    refine aW.ext (XS.overlapsD f400 97 4 139 2 func400 rfl rfl rfl rfl rfl (fun w=>rfl) (b:=σ.length) (by simp[go_sem];exact⟨rfl,rfl⟩) (by omega) (by omega) (by omega) (by omega)) ?_;simp[go_sem,h1,h4];refine hK _ ?_;refine pW [0,1,2,7,8,68] ?_;refine acn rfl ?_ ?_<;>intro c3 d3<;>try simp at d3
    ·refine qI 8 T.mixed (by kernel_rfl) fun K hK=> ?_;simp[go_sem,h2,d2];try simp(disch:=omega) only[aA]
     simp only[h1,h4,h7];repeat refine⟨by omega,?_⟩
     refine⟨fun p hp=>by rw[hrow _ (by omega)];simp[go_sem],?_⟩;repeat refine⟨by omega,?_⟩
     refine hK _ ?_;refine ak fun K hK=> ?_;simp[go_sem,h2,h3,d2];repeat refine⟨by omega,?_⟩
     refine hK _ ?_;refine ak fun K hK=> ?_;simp[go_sem];refine hK _ ?_;refine awp_uncap 6 (by simp[go_sem];first|exact⟨rfl,rfl,rfl,rfl,rfl⟩|rfl) ?_;refine xQ σ.length (n+1) (fun p=>Cnt.enc (U0 g i x p)) (by simp[go_sem];exact⟨rfl,rfl,rfl⟩) (by omega) (by
      intro p hp;simp only[setRows,U0];rcases Nat.lt_trichotomy p i with h|h|h
      ·rw[if_neg (by omega),if_neg (by omega),if_pos h,hrow _ (by omega)];rfl
      ·subst h;rw[if_pos (by omega),if_neg (by omega),if_pos rfl,Nat.sub_self];simp[rowsOf,Cnt.enc]
      ·rw[if_neg (by omega),if_pos (by omega),if_neg (by omega),if_neg (by omega),hrow _ (by omega),show i+(p-(i+1))=p-1 by omega];rfl) (by simp[go_sem];rfl) ?_
     refine PZ σ.length (by simp[go_sem];exact⟨rfl,rfl,rfl⟩) (by simp[go_sem];rfl) (by simp[go_sem];rfl) ?_;refine aj ?_;simp[go_sem];exact xu _
theorem PU(τ:List aC)(r:Bx)(k:Int):ay prog 373 [.agg (r.enc.map .d),.ptr σ.length 0] (σ++ .var [.d (I k)]::τ) (.d (B (r.ID==k))):=by
 refine ay.bs true func373 fun hwf=> ?_;exact aj so
theorem VQ(c:Option Nat)(n:Nat)(g:Nat->Bx)(k:Int)(hn:n<1000000000):ay prog 329 [.d (SL c 5 Bx.enc n g),.d (I k)] σ (.d (I (qc n g k))):=by
 refine ay.bs true func329 fun hwf=> ?_;refine aW.mk (xw _ c n g _ _ (fun r=>r.ID==k) hn (fun i hi=>PU σ [] (g i) k)) (sm ?_);refine aj ?_;simp[go_sem,qc]<;>omega
theorem PS(τ:List aC)(r:Cnt)(k:Int):ay prog 374 [.agg (r.enc.map .d),.ptr σ.length 0] (σ++ .var [.d (I k)]::τ) (.d (B (r.Unit==k))):=by
 refine ay.bs true func374 fun hwf=> ?_;exact aj so
theorem G7(c:Option Nat)(n:Nat)(g:Nat->Bx)(u:Int)(hn:n<1000000000)(hN: ∀i,i<n->(g i).nc<1000000000):ay prog 330 [.d (SL c 5 Bx.enc n g),.d (I u)] σ (.eX [.d (I (ZH n g u).1),.d (I (ZH n g u).2)]):=by
 refine ay.bs true func330 fun hwf=> ?_;refine gy (α:=Nat) true [3,9,10,11] (fun i=>[(11,.d (I i))]) (fun i=>σ++[.var [.d (I u)]]) (fun i=>i<=n/\ZH n g u=J8 g u i (n-i)) (fun i=>n-i) 0 ?_ (hx:=⟨by simp,rfl⟩);rintro i ⟨hi,hx⟩;simp[go_sem];refine aH [3,9,10,11] ?_ ?_<;>intro c0 d0
 ·have hst:=whGo_step (g:=g) (u:=u) d0;simp[go_sem];repeat refine⟨by omega,?_⟩
  refine aW.mk ((show ay prog 303 _ _ (.d (I (cIx (g i) u))) from JI _ none (g i).nc (g i).gc _ _ (fun r=>r.Unit==u) (hN i d0) (fun q hq=>by have h:=PS σ [.var ((g i).enc.map .d)] ((g i).gc q) u;simpa[Bx.enc] using h))) ?_;simp[go_sem];refine aH [3,6,8,9,10,11] ?_ ?_<;>intro c1 d1
  ·have hz:ZH n g u=((i:Int),cIx (g i) u):=by rw[hx,hst,if_pos (by omega)]
   simp[go_sem];rw[hz];exact aj sc
  ·simp(disch:=first|omega|simp) [go_sem,aA];refine dB (i+1) ⟨by omega,by rw[hx,hst,if_neg (by omega)]⟩ (h:=by simp[go_sem]<;>omega) (hσ:=by simp[go_sem]) (hb:=au (by simp[go_sem]))
 ·have hz:ZH n g u=(-1,-1):=by rw[hx,show n-i=0 by omega,J8]
  simp[go_sem];refine go true (sm ?_);rw[hz];exact aj sc
theorem VU(c:Option Nat)(n:Nat)(g:Nat->Bx)(u:Int)(hn:n<1000000000)(hN: ∀i,i<n->(g i).nc<1000000000):ay prog 273 [.d (SL c 5 Bx.enc n g),.d (I u)] σ (.eX [.d (I (qP n g u).1),.d (I (qP n g u).2.1),.d (B (qP n g u).2.2)]):=by
 refine ay.bs true func273 fun hwf=> ?_;refine aW.mk (G7 _ c n g u hn hN) (sm ?_);refine fA.mk' (.d (I (dQ n g))) (fun _=>qG _ c n g hn hN) (sm ?_);refine aH [0,7,8] ?_ ?_<;>intro c0 d0
 ·have hz:qP n g u=(0,0,false):=by unfold qP;rw[if_pos];by_cases h:(ZH n g u).1<0;exact .inl h;right;simp[h] at c0;simpa using c0
  simp[go_sem];rw[hz];exact aj sc
 ·have hnn: ¬(ZH n g u).1<0:=by intro h;simp[h] at c0
  have hck:dQ n g=0:=by simp[hnn] at c0;simpa using c0
  obtain⟨q,p,hq,hp,h1,h2⟩:=whR_at hnn;have hz:qP n g u=((g q).ID,(p:Int),true):=by unfold qP;rw[if_neg (by rintro(h|h);exact hnn h;exact h hck),h1,h2];simp
  simp[go_sem,h1,h2];repeat refine⟨by omega,?_⟩
  rw[hz];exact aj sc
theorem bIx_ok{n:Nat}{g:Nat->Bx}{k:Int}(h: ¬qc n g k<0): ∃i:Nat,qc n g k=(i:Int)/\i<n:=⟨(qc n g k).toNat,by omega,by have:=bIx_lt n g k;omega⟩
theorem VT(c:Option Nat)(n:Nat)(g:Nat->Bx)(hn:n<1000000000)(hN: ∀i,i<n->(g i).nc<1000000000):CS prog 331 [.d (SL c 5 Bx.enc n g)] σ (fun r σ' X=>r= .ms σ.length 5 0 n/\σ'=σ++[.arr 5 n fun i=>Bx.enc (g i)]/\X=[]):=by
 refine CS.bsW true func331 fun hwf=> ?_;refine aW.gen (JY _ c n g hn) ?_;rintro r σ' X ⟨rfl,rfl,rfl⟩;simp[go_sem];refine gy (α:=Nat) false [3,8,9] (fun i=>[(9,.d (I i))]) (fun i=>σ++[.arr 5 n (fun i=>Bx.enc (g i))]) (fun i=>i<=n) (fun i=>n-i) 0 ?_;rintro i hi;simp[go_sem];refine go false (sm ?_);refine aH [3,8,9] ?_ ?_<;>intro c0 d0
 ·simp[go_sem];refine go false (sm ?_);repeat refine⟨by omega,?_⟩
  refine aW.mk (JX _ none (g i).nc (g i).gc (hN i d0)) (sm ?_);repeat refine⟨by omega,?_⟩
  refine bC σ.length (fun i=>Bx.enc (g i)) (by simp[go_sem];exact⟨rfl,rfl,rfl⟩) (by intro q hq;by_cases h:q=i<;>simp[h,Bx.enc]) (by simp[go_sem];rfl) ?_;refine go false ?_;simp(disch:=first|omega|simp) [go_sem,aA];refine dB (i+1) (by omega) (h:=by simp[go_sem]<;>omega) (hσ:=by simp[go_sem])
 ·simp[go_sem];refine go true (sm ?_);exact aj sc
theorem OV(c:Option Nat)(n:Nat)(g:Nat->Cnt)(i:Nat)(x:Cnt)(hi:i<=n)(hn:n<1000000000):ay prog 332 [.d (SL c 2 Cnt.enc n g),.d (I i),.agg (x.enc.map .d)] σ (.d (SL none 2 Cnt.enc (n+1) (U0 g i x))):=by
 refine ay.bd true func332 fun hwf=> ?_;simp[go_sem];apply qH 5 1 82 (.ms (σ.length+1) 2 0 n) (.arr 2 n (fun i=>Cnt.enc (g i))) T.mixed (by kernel_rfl)
 ·intro τ K hK;simp[go_sem];exact hK _ _
 ·simp[go_sem];exact CS.mono (VI _ c n g hn) (by rintro r σ' X ⟨rfl,rfl,rfl⟩;simp[Cnt.enc])
 intro K hK;simp[go_sem];have h:=nA (UZ (σ++[.var (x.enc.map .d)]) [] n g x i hi hn);refine aW.gen h ?_;rintro r σ' X ⟨rfl,rfl,rfl⟩;simp[go_sem,hwf.one];refine hK _ ?_;refine go true ?_;simp[go_sem];exact aj sc
theorem box_Put_cs(c:Option Nat)(n:Nat)(g:Nat->Bx)(k at_:Int)(x:Cnt)(hn:n<1000000000)(hN: ∀i,i<n->(g i).nc<1000000000):ay prog 272 [.d (SL c 5 Bx.enc n g),.d (I k),.d (I at_),.agg (x.enc.map .d)] σ (.eX [.d (SL none 5 Bx.enc (if wQ n g k at_ x=0 then n else 0) (putG g (qc n g k).toNat at_.toNat x)),.d (I (wQ n g k at_ x))]):=by
 refine ay.bs true func272 fun hwf=> ?_;refine aW.mk (qG _ c n g hn hN) (sm ?_);refine aH [0,1,2,7] ?_ ?_<;>intro c0 d0
 ·have hz:wQ n g k at_ x=1:=by unfold wQ;rw[if_pos (by simpa using d0)]
  simp[go_sem];refine aj ?_;rw[hz];simp[go_sem,Go.aU.dD]
 ·simp[go_sem];refine aW.mk (VQ _ c n g k hn) (sm ?_);refine aH [0,2,7,10] ?_ ?_<;>intro c1 d1
  ·have hz:wQ n g k at_ x=7:=by unfold wQ;rw[if_neg (by simpa using d0),if_pos (by omega)]
   simp[go_sem];refine aj ?_;rw[hz];simp[go_sem,Go.aU.dD]
  ·obtain⟨i,hi,hin⟩:=bIx_ok (n:=n) (g:=g) (k:=k) (by omega);have hck:dQ n g=0:=by simpa using d0
   have hbx:=G6 ((xM hck).2 i hin);simp[go_sem,hi];refine aW.mk (G7 _ c n g x.Unit hn hN) ?_;simp[go_sem,hin];refine aW.mk (oM _ at_ 0 (g i).nc) ?_;simp[go_sem];refine fA.mk' (.d (B (jX x))) (fun hg=>wB _ x) ?_;simp[go_sem];refine aH [0,2,7,10,11,13] ?_ ?_<;>intro c2 d2
   ·have hz:wQ n g k at_ x=2:=by unfold wQ;rw[if_neg (by simpa using d0),if_neg (by omega),if_pos (by rw[hi];simp only[Int.toNat_natCast];simpa using d2)]
    simp[go_sem];refine aj ?_;rw[hz];simp[go_sem,Go.aU.dD]
   ·have hn2: ¬(jy at_ 0 (g (qc n g k).toNat).nc=false\/jX x=false):=by rw[hi];simp only[Int.toNat_natCast];simpa using d2
    simp[go_sem];refine aH [0,2,7,10,13] ?_ ?_<;>intro c3 d3
    ·have hz:wQ n g k at_ x=6:=by unfold wQ;rw[if_neg (by simpa using d0),if_neg (by omega),if_neg hn2,if_pos (by simpa using d3)]
     simp[go_sem];refine aj ?_;rw[hz];simp[go_sem,Go.aU.dD]
    ·simp[go_sem];refine aH [0,2,7,10,13] ?_ ?_<;>intro c4 d4
     ·have hz:wQ n g k at_ x=8:=by unfold wQ;rw[if_neg (by simpa using d0),if_neg (by omega),if_neg hn2,if_neg (by simpa using d3),if_pos (by rw[hi];simp only[Int.toNat_natCast];omega)]
      simp[go_sem];refine aj ?_;rw[hz];simp[go_sem,Go.aU.dD]
     ·have hcx:jX x=true:=Classical.byContradiction fun h=>hn2 (.inr (by simpa using h));have hxt:=eH.1 (show jy x.Qa 1 10000=true by simp[jX] at hcx;exact hcx.2);have htb:=ZM hbx.2.2.2 (g i).nc (Nat.le_refl _);have hw:IntKind.i64.wrap (Ri (g i).gc (g i).nc+x.Qa)=Ri (g i).gc (g i).nc+x.Qa:=by simp(disch:=omega) only[aA]
      simp[go_sem];refine T.dr 10 fun K hK=> ?_;simp[go_sem];refine dS.mk (G8 _ none (g i).nc (g i).gc (by omega) hbx.2.2.2) ?_;simp[go_sem,hw];refine hK _ ?_;refine go true ?_;simp[go_sem];refine aH [0,2,7,10] ?_ ?_<;>intro c5 d5
      ·have hz:wQ n g k at_ x=12:=by unfold wQ;rw[if_neg (by simpa using d0),if_neg (by omega),if_neg hn2,if_neg (by simpa using d3),if_neg (by rw[hi];simp only[Int.toNat_natCast];omega),if_pos (by rw[hi];simp only[Int.toNat_natCast];simpa[hw] using d5)]
       simp[go_sem];refine aj ?_;rw[hz];simp[go_sem,Go.aU.dD]
      ·have hz:wQ n g k at_ x=0:=by unfold wQ;rw[if_neg (by simpa using d0),if_neg (by omega),if_neg hn2,if_neg (by simpa using d3),if_neg (by rw[hi];simp only[Int.toNat_natCast];omega),if_neg (by rw[hi];simp only[Int.toNat_natCast];simpa[hw] using d5)]
       obtain⟨p,rfl,hp⟩: ∃p:Nat,at_=(p:Int)/\p<=(g i).nc:=⟨at_.toNat,by simp[jy] at hn2;omega,by simp[jy,hi] at hn2;omega⟩;simp[go_sem];refine aW.gen (VT _ c n g hn hN) ?_;rintro r σ' X ⟨rfl,rfl,rfl⟩;simp[go_sem];refine T.dr 12 fun K hK=> ?_;simp[go_sem,hin];refine dS.mk (OV _ none (g i).nc (g i).gc p x hp (by omega)) ?_;simp[go_sem,hin];refine hK _ ?_;refine bC (σ.length+2) (fun q=>Bx.enc (putG g i p x q)) (by simp[go_sem];exact⟨rfl,rfl,rfl⟩) (by intro q hq;unfold putG setG;by_cases h:q=i<;>simp[h,Bx.enc]) (by simp[go_sem];rfl) ?_;refine go false ?_;simp[go_sem];refine go true ?_;simp[go_sem];refine aF hwf (σ.length+2) ?_;rw[hz];exact aj sc
end Go.Proofs.YthlhlnbcjlpigaaGreatDoor
