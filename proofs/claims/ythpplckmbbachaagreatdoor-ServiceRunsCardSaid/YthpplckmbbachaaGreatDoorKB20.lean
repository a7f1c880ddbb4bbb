/- Lemmas, no conditions. -/
import Derived.Test.YthpplckmbbachaaGreatDoorKB19
set_option linter.unusedVariables false
set_option linter.unusedSimpArgs false
set_option maxHeartbeats 1000000
set_option maxRecDepth 100000
namespace Go.Proofs.YthpplckmbbachaaGreatDoor
open Go.aI Go.bI Go.Proofs.Tryz
variable (σ : List aZ)
theorem ic{σ τ x}(Y):aI.Leaves (σ++x::τ) (σ.map (bP Y)++ .dead::τ.map (bP Y)):=by
 refine⟨an,fun b z hz=> ?_⟩;rw[List.getElem?_append] at hz⊢;simp only[List.length_map] at hz;split at hz
 ·grind
 ·rename_i hb;rw[if_neg hb];generalize b-σ.length=k at hz
  rcases k with _|k
  ·simp at hz;subst hz;exact .inr (.inl trivial)
  grind
theorem Ip{P c Q N t σ mv}(k){b sz lo n q}(hk:aI.get t k=some (.mc b sz lo n q))(h:cV P c Q ⟨N,aI.put t k (.ms b sz lo n),σ,mv⟩):cV P c Q ⟨N,t,σ,mv⟩:=by
 intro j0 j a w hr;refine h j0 j a w ⟨hr.defers,hr.fC,hr.size,fun k' av hk'=> ?_,hr.cm,hr.len0,hr.ag⟩;simp only at hk';rw[get_put] at hk';split at hk'
 ·rename_i e;subst e;simp only[Option.some.injEq] at hk';subst hk';obtain⟨h1,h2⟩:=hr.tmp k _ hk;cases h2<;>grind
 ·exact hr.tmp k' av hk'
def fe{α:Type}(g:Nat->α)(i:Nat)(x:α)(q:Nat):α:=if q<i then g q else if q=i then x else g (q-1)
def skip(i q:Nat):Nat:=if q<i then q else q+1
def without{α:Type}(g:Nat->α)(i:Nat):Nat->α:=fun q=>g (skip i q)
def cY(n:Nat)(g:Nat->fu)(p:fu):Int:=if dq n g≠0 then 1 else if sj p=false then 2 else if 0<n/\p.ID<=(g (n-1)).ID then 5 else if 64<=n then 12 else 0
def Ga(n:Nat)(g:Nat->fu)(k:Int):Int:=idxFrom (fun r:fu=>r.ID==k) (lst n g) 0
theorem Xe(n g k):Ga n g k<n:=iR _ n g
def rD(n:Nat)(g:Nat->fu)(k d:Int):Int:=if dq n g≠0 then 1 else if Ga n g k<0 then 7 else if d<0\/1048575<d then 2 else if(g (Ga n g k).toNat).In.Until<=d then 11 else 0
def Gq(n:Nat)(g:Nat->fu)(k d:Int):Nat:=if rD n g k d≠0 then 0 else if d<=(g (Ga n g k).toNat).In.From then n-1 else n
def VL(g:Nat->fu)(i:Nat)(d:Int):Nat->fu:=if d<=(g i).In.From then without g i else cJ g i { g i with In:=⟨(g i).In.From,d⟩ }
def hZ(n:Nat)(g:Nat->Bx)(k:Int):Int:=idxFrom (fun b:Bx=>b.ID==k) (lst n g) 0
theorem zS(n g k):hZ n g k<n:=iR _ n g
def VS(b:Bx)(u:Int):Int:=idxFrom (fun c:Cnt=>c.Unit==u) (lst b.nc b.gc) 0
theorem ad6(b u):VS b u<b.nc:=iR _ b.nc b.gc
def tL(g:Nat->Bx)(u:Int)(i:Nat):Nat->Int×Int
 |0=>(-1,-1)
 |k+1=>if 0<=VS (g i) u then((i:Int),VS (g i) u) else tL g u (i+1) k
theorem Hj{g u i n}(h:i<n):tL g u i (n-i)=if 0<=VS (g i) u then((i:Int),VS (g i) u) else tL g u (i+1) (n-(i+1)):=by
 obtain⟨k,hk⟩: ∃k,n-i=k+1:=⟨n-i-1,aa⟩;grind [tL]
def qS(n:Nat)(g:Nat->Bx)(u:Int):Int×Int:=tL g u 0 n
theorem Ri{g u} : ∀{k i},(tL g u i k).1<0\/∃q,i<=q/\q<i+k/\(tL g u i k).1=(q:Int)/\(tL g u i k).2=VS (g q) u/\0<=VS (g q) u
 |0,i=> .inl (by simp[tL])
 |k+1,i=>by
  rw[tL];split
  ·grind
  ·rcases Ri (k:=k) (i:=i+1) (g:=g) (u:=u) with h|⟨q,h1,h2,h3⟩;all_goals grind
theorem IB{n g u}(h: ¬(qS n g u).1<0): ∃q p,q<n/\p<(g q).nc/\(qS n g u).1=(q:Int)/\(qS n g u).2=(p:Int):=by
 rcases Ri (g:=g) (u:=u) (k:=n) (i:=0) with h1|⟨q,h1,h2,h3,h4,h5⟩
 ·exact absurd h1 h
 ·have:=ad6 (g q) u;exact⟨q,(VS (g q) u).toNat,aa,aa,h3,by grind [qS]⟩
def cp(n:Nat)(g:Nat->Bx)(u:Int):Int×Int×Bool:=if(qS n g u).1<0\/bW n g≠0 then(0,0,false) else((g (qS n g u).1.toNat).ID,(qS n g u).2,true)
theorem Ig{g} : ∀{k i ks},uf g i ks k=0->∀q,i<=q->q<i+k->sX (g q)=0
 |0,i,ks,_=>by grind
 |k+1,i,ks,h=>by
  rw[uf] at h;split at h
  ·grind
  ·rename_i h1;split at h
   ·cases h
   ·split at h
    ·cases h
    ·intro q h2 h3;by_cases hq:q=i
     ·grind
     ·exact Ig h q aa aa
theorem jX{b}(h:sX b=0):rz b=true/\b.nc<=32/\tb b.gc b.nc<=b.Room/\∀i,i<b.nc->ei (b.gc i)=true:=by
 grind [sX,rz,Ib]
theorem e9{n g}(h:bW n g=0):n<=128/\∀i,i<n->sX (g i)=0:=by
 unfold bW at h;split at h
 ·cases h
 ·exact⟨aa,fun i hi=>Ig h i aa aa⟩
def kg(n:Nat)(g:Nat->Bx)(k at_:Int)(c:Cnt):Int:=if bW n g≠0 then 1 else if hZ n g k<0 then 7 else if gD at_ 0 (g (hZ n g k).toNat).nc=false\/ei c=false then 2 else if 0<=(qS n g c.Unit).1 then 6
 else if 32<=(g (hZ n g k).toNat).nc then 8 else if(g (hZ n g k).toNat).Room<tb (g (hZ n g k).toNat).gc (g (hZ n g k).toNat).nc+c.kb then 12 else 0
def Cl(g:Nat->Bx)(i at_:Nat)(c:Cnt):Nat->Bx:=cJ g i { g i with nc:=(g i).nc+1,gc:=fe (g i).gc at_ c }
def fv(n:Nat)(g:Nat->Bx)(u:Int):Int:=if bW n g≠0 then 1 else if(qS n g u).1<0 then 7 else 0
def qU(g:Nat->Bx)(i p:Nat):Nat->Bx:=cJ g i { g i with nc:=(g i).nc-1,gc:=without (g i).gc p }
theorem ym(c n g)(hn:n<1000000000):CS prog 110 [.d (SL c 6 fu.enc n g)] σ (fun r σ' X=>r= .ms σ.length 6 0 n/\σ'=σ++[.arr 6 n fun i=>fu.enc (g i)]/\X=[]):=by
 refine CS.Ik true func110 fun hwf=> ?_;simp[go_sem,-Bool.forall_bool];try intro b1 hb1
 refine fX ?_ ?_<;>intro c0 d0
 ·simp[go_sem];refine bq 2 6 (fun i=>fu.enc (g i)) au aN ?_;refine af ?_;obtain rfl:=hb1 c0;simp[go_sem]
 ·refine wB ?_;exact af so
theorem Kg(τ n g i)(hi:i<n)(hn:n<1000000000):CS prog 369 [.ms σ.length 6 0 n,.d (I i),.d (I (i+1))] (σ++ .arr 6 n (fun i=>fu.enc (g i))::τ) (fun r σ' X'=>X'=[]/\r= .ms σ.length 6 0 (n-1)/\σ'=σ++ .arr 6 (n-1) (fun q=>fu.enc (without g i q))::τ):=by
 have h0:((i:Int)==(i:Int)+1)=false:=ai;have h1:((i:Int)+1).toNat=i+1:=aa;have h2:((n:Int)-((i:Int)+1)).toNat=n-1-i:=aa;refine CS.Gc true [] func369 fun hwf=> ?_;simp[go_sem,h0];repeat refine⟨aa,?_⟩
 refine cn [0,1,2] rfl ?_ ?_<;>intro c0 d0<;>try simp at d0
 ·simp[go_sem];refine T.dr 6 fun K hK=> ?_;simp[go_sem,hi];refine wZ hK ?_;repeat refine⟨aa,?_⟩
  refine lq σ.length (n-1) (fun q=>fu.enc (without g i q)) bj aa (fun q hq=>by
   simp only[setRows,without,skip];rw[if_neg aa];by_cases h:q<i
   ·rw[if_neg aa,if_pos h];rfl
   ·rw[if_pos aa,if_neg h,show i+1+(q-i)=q+1 by omega];rfl) aN ?_
  refine af ?_;simp[go_sem];exact⟨_,⟨[],(List.append_nil _).symm⟩,ae bf,aa,rfl⟩
theorem yp(c n g)(hn:n<1000000000):CS prog 112 [.d (SL c 2 Cnt.enc n g)] σ (fun r σ' X=>r= .ms σ.length 2 0 n/\σ'=σ++[.arr 2 n fun i=>Cnt.enc (g i)]/\X=[]):=by
 refine CS.Ik true func112 fun hwf=> ?_;simp[go_sem,-Bool.forall_bool];try intro b1 hb1
 refine fX ?_ ?_<;>intro c0 d0
 ·simp[go_sem];refine bq 2 2 (fun i=>Cnt.enc (g i)) au aN ?_;refine af ?_;obtain rfl:=hb1 c0;simp[go_sem]
 ·refine wB ?_;exact af so
theorem Kh(τ n g i)(hi:i<n)(hn:n<1000000000):CS prog 423 [.ms σ.length 2 0 n,.d (I i),.d (I (i+1))] (σ++ .arr 2 n (fun i=>Cnt.enc (g i))::τ) (fun r σ' X'=>X'=[]/\r= .ms σ.length 2 0 (n-1)/\σ'=σ++ .arr 2 (n-1) (fun q=>Cnt.enc (without g i q))::τ):=by
 have h0:((i:Int)==(i:Int)+1)=false:=ai;have h1:((i:Int)+1).toNat=i+1:=aa;have h2:((n:Int)-((i:Int)+1)).toNat=n-1-i:=aa;refine CS.Gc true [] func423 fun hwf=> ?_;simp[go_sem,h0];repeat refine⟨aa,?_⟩
 refine cn [0,1,2] rfl ?_ ?_<;>intro c0 d0<;>try simp at d0
 ·simp[go_sem];refine T.dr 6 fun K hK=> ?_;simp[go_sem,hi];refine wZ hK ?_;repeat refine⟨aa,?_⟩
  refine lq σ.length (n-1) (fun q=>Cnt.enc (without g i q)) bj aa (fun q hq=>by
   simp only[setRows,without,skip];rw[if_neg aa];by_cases h:q<i
   ·rw[if_neg aa,if_pos h];rfl
   ·rw[if_pos aa,if_neg h,show i+1+(q-i)=q+1 by omega];rfl) aN ?_
  refine af ?_;simp[go_sem];exact⟨_,⟨[],(List.append_nil _).symm⟩,ae bf,aa,rfl⟩
theorem JX(τ n g x i)(hi:i<=n)(hn:n<1000000000):CS prog 422 [.ms σ.length 2 0 n,.d (I i),.d (.sl (some 1) 2 1 (rowsOf 2 (Cnt.enc x)))] (σ++ .arr 2 n (fun i=>Cnt.enc (g i))::τ) (fun r σ' X'=>X'=[σ.length]/\r= .d (SL none 2 Cnt.enc (n+1) (fe g i x))/\σ'=σ.map (bP [σ.length])++ .dead::τ.map (bP [σ.length])):=by
 have h1:((i:Int)+1).toNat=i+1:=aa;have h2:((n:Int)+1-(i:Int)).toNat=n+1-i:=aa;have h3:i+(n+1-i)=n+1:=aa;have h4:((n:Int)+1-((i:Int)+1)).toNat=n-i:=aa;have h5:((n:Int)-(i:Int)).toNat=n-i:=aa;have h6:((n:Int)+1).toNat=n+1:=aa;have h7:min (n+1-i) (n-i)=n-i:=aa;refine CS.beD [σ.length] func422 fun hwf=> ?_;refine wE ?_;refine aj fun K hK=> ?_;simp[go_sem,h5,hi];refine wY hK fun K hK=> ?_;refine hK _ ?_;refine aq ?_;refine wE ?_;refine gF [0,1,2,7,16] ?_;refine acn rfl ?_ ?_<;>intro c0 d0<;>try simp at d0
 ·refine aJ ?_;refine wE ?_;refine aq ?_;refine wE ?_;refine gF [0,1,2,7,8,22] ?_;refine fL ?_ ?_<;>intro c1 d1
  ·obtain rfl:n=i:=by omega
   refine wV fun K hK=> ?_;refine wG hK ?_;refine ax σ.length (fun q=>Cnt.enc (fe g n x q)) bj (by intro q hq;unfold aO fe;split;rfl;rw[if_pos (show q=n by omega),show q-n=0 by omega];simp[rowsOf,Cnt.enc]) aN ?_;refine pU σ.length bj aN aN ?_;refine af ?_;simp[go_sem,AJ];exact ic _
  ·have hlt:i<n:=aa;refine aJ ?_;refine aq ?_;refine YZ 0 (by simp[go_sem];first|exact⟨rfl,rfl,rfl,rfl⟩|rfl) fun q hq=> ?_;refine aj fun K hK=> ?_;simp[go_sem,c1];try simp(disch:=omega) only[aS]
   refine hK _ ?_;refine gF [0,1,2,7,8,31] ?_;refine fL ?_ ?_<;>intro c2 d2
   ·have vB:q=n:=aa;subst vB;refine aj fun K hK=> ?_;simp[go_sem,hi,d2];try simp(disch:=omega) only[aS]
    refine wG hK ?_;refine aj fun K hK=> ?_;simp[go_sem,h2,h3,h6];refine wG hK ?_;refine im 8 T.mixed aD fun K hK=> ?_;simp[go_sem,h5,h6,hi];try simp(disch:=omega) only[aS]
    refine wG hK ?_;refine aj fun K hK=> ?_;simp[go_sem,h1,h4];refine hK _ ?_;obtain⟨hp1,hp2⟩:=hwf.parts 0;simp only[List.length_append,List.length_cons,Nat.add_zero] at hp1 hp2;refine ax (σ.length+(τ.length+1)) (fun p=>Cnt.enc (fe g i x p)) bj (by
     intro p hp;simp only[setRows,aO,fe];rcases Nat.lt_trichotomy p i with h|h|h
     ·rw[if_neg aa,if_neg aa,if_pos h,if_pos h];rfl
     ·subst h;rw[if_neg aa,if_pos aa,if_neg aa,if_pos rfl,Nat.sub_self];simp[rowsOf,Cnt.enc]
     ·rw[if_pos aa,if_neg aa,if_neg aa,show i+(p-(i+1))=p-1 by omega];rfl) aN ?_
    refine pU (σ.length+(τ.length+1)) bj aN (by simp[go_sem,hp1,hp2];rfl) ?_;refine lY σ.length aN aN ?_;refine af ?_;simp[go_sem];exact ic _
   ·have vB:n+1<=q:=aa;refine aJ ?_;refine OY 0 Rc v7 aa fun row' hrow=> ?_;refine aj fun K hK=> ?_;simp[go_sem,c2];try simp(disch:=omega) only[aS]
    refine wG hK ?_;refine aq ?_;refine aj fun K hK=> ?_;simp[go_sem,h6,d2];try simp(disch:=omega) only[aS]
    repeat refine⟨aa,?_⟩
    refine az.ext (XS.HE f452 116 4 163 2 func452 rfl rfl rfl rfl rfl (fun w=>rfl) (b:=σ.length) v7 aa aa aa aa) ?_;simp[go_sem,h1,h4];refine hK _ ?_;refine gF [0,1,2,7,8,68] ?_;refine acn rfl ?_ ?_<;>intro c3 d3<;>try simp at d3
    ·refine im 8 T.mixed aD fun K hK=> ?_;simp[go_sem,h2,d2];try simp(disch:=omega) only[aS]
     simp only[h1,h4,h7];repeat refine⟨aa,?_⟩
     refine⟨fun p hp=>by rw[hrow _ aa];simp[go_sem],?_⟩;refine wG hK ?_;refine aj fun K hK=> ?_;simp[go_sem,h2,h3,d2];refine wG hK ?_;refine wE ?_;refine Ip 6 Rc ?_;refine lq σ.length (n+1) (fun p=>Cnt.enc (fe g i x p)) bj aa (by
      intro p hp;simp only[setRows,fe];rcases Nat.lt_trichotomy p i with h|h|h
      ·rw[if_neg aa,if_neg aa,if_pos h,hrow _ aa];rfl
      ·simp_all [rowsOf,Cnt.enc]
      ·rw[if_neg aa,if_pos aa,if_neg aa,if_neg aa,hrow _ aa,show i+(p-(i+1))=p-1 by omega];rfl) aN ?_
     refine pU σ.length bj aN aN ?_;refine af ?_;simp[go_sem];exact ic _
theorem Cq(c n g p)(hn:n<1000000000):ak prog 300 [.d (SL c 6 fu.enc n g),.agg (p.enc.map .d)] σ (.cj [.d (SL none 6 fu.enc (if cY n g p=0 then n+1 else 0) (aL g n p)),.d (I (cY n g p))]):=by
 have hwp:=aT (i:=n) aa;refine ak.bd true func300 fun hwf=> ?_;simp[go_sem];refine az.mk (iP _ c n g hn) ?_;refine gc [0,3] ?_ ?_<;>intro d0
 ·have hz:cY n g p=1:=by grind [cY]
  refine wA ?_;rw[hz];simp[go_sem,Go.aI.aK]
 ·simp[go_sem];refine az.mk (kU _ _) ?_;refine gc [0,3] ?_ ?_<;>intro d1
  ·have hz:cY n g p=2:=by grind [cY]
   refine wA ?_;rw[hz];simp[go_sem,Go.aI.aK]
  ·simp[go_sem];refine T.dr 16 fun K hK=> ?_;simp[go_sem,hwp];refine wK hK ?_;refine gc [0,3] ?_ ?_<;>intro d2
   ·have hz:cY n g p=5:=by grind [cY]
    refine wA ?_;rw[hz];simp[go_sem,Go.aI.aK]
   ·refine gc [0,3] ?_ ?_<;>intro d3
    ·have hz:cY n g p=12:=by grind [cY]
     refine wA ?_;rw[hz];simp[go_sem,Go.aI.aK]
    ·have hz:cY n g p=0:=by grind [cY]
     simp[go_sem];apply jZ 4 1 80 (.ms (σ.length+1) 6 0 n) (.arr 6 n (fun i=>fu.enc (g i))) T.mixed aD
     ·intro τ K hK;simp[go_sem];exact hK _ _
     ·simp[go_sem];exact CS.mono (ym _ c n g hn) (by grind [fu.enc])
     intro K hK;simp[go_sem,hwf.one];refine wZ hK ?_;refine aF hwf (σ.length+1) ?_;refine af ?_;rw[hz];simp[go_sem];exact lW (enc:=fu.enc) (x:=p) rfl
theorem vo(τ)(r:fu)(k):ak prog 368 [.agg (r.enc.map .d),.ptr σ.length 0] (σ++ .var [.d (I k)]::τ) (.d (B (r.ID==k))):=by
 refine ak.bt func368 ?_;exact af so
theorem zq(c n g k d)(hn:n<1000000000):ak prog 302 [.d (SL c 6 fu.enc n g),.d (I k),.d (I d)] σ (.cj [.d (SL none 6 fu.enc (Gq n g k d) (VL g (Ga n g k).toNat d)),.d (I (rD n g k d))]):=by
 have hlt:=Xe n g k;refine ak.bs false func302 fun hwf=> ?_;refine go false (sm ?_);refine az.mk (iP _ c n g hn) (sm ?_);refine go false (gc [0,2,4] ?_ ?_)<;>intro d0
 ·have hz:rD n g k d=1:=by grind [rD]
  refine wN ?_;unfold Gq;rw[hz];simp[go_sem,Go.aI.aK]
 ·simp[go_sem];refine az.mk ((show ak prog 367 _ _ (.d (I (Ga n g k))) from A1 _ c n g _ _ (fun r=>r.ID==k) hn (fun i hi=>vo σ [] (g i) k))) (sm ?_);refine go false (sm ?_);refine go false (gc [0,2,8] ?_ ?_)<;>intro d1
  ·have hz:rD n g k d=7:=by grind [rD]
   refine wN ?_;unfold Gq;rw[hz];simp[go_sem,Go.aI.aK]
  ·obtain⟨i,hi⟩: ∃i:Nat,Ga n g k=(i:Int):=⟨(Ga n g k).toNat,aa⟩;have hin:i<n:=aa;simp[go_sem,hi];refine go false ?_;refine gc [0,2,8] ?_ ?_<;>intro d2
   ·have hz:rD n g k d=2:=by grind [rD]
    refine wO ?_;unfold Gq;rw[hz];simp[go_sem,Go.aI.aK]
   ·refine wB ?_;refine go false ?_;refine gc [0,2,8] ?_ ?_<;>intro d3
    ·have hz:rD n g k d=11:=by grind [rD]
     refine wO ?_;unfold Gq;rw[hz];simp[go_sem,Go.aI.aK]
    ·have hz:rD n g k d=0:=by grind [rD]
     simp[go_sem];refine az.gen (ym _ c n g hn) ?_;rintro r σ' X ⟨rfl,rfl,rfl⟩;refine wX ?_;repeat refine⟨aa,?_⟩
     refine go false ?_;refine gc [2,8,9] ?_ ?_<;>intro d4
     ·have hz1:Gq n g k d=n-1:=by grind [Gq]
      have hz2:VL g i d=without g i:=by grind [VL]
      refine wC ?_;have h:=nA (Kg (σ++[.var [.d (I k)]]) [] n g i hin hn);refine az.gen h ?_;rintro r σ' X ⟨rfl,rfl,rfl⟩;refine wI ?_;refine wb ?_;refine aF hwf (σ.length+1) ?_;rw[hz,hz1,hz2];exact af sc
     ·have hz1:Gq n g k d=n:=by grind [Gq]
      have hz2:VL g i d=cJ g i { g i with In:=⟨(g i).In.From,d⟩ } :=by grind [VL]
      refine wB ?_;refine ax (σ.length+1) (fun q=>fu.enc (cJ g i { g i with In:=⟨(g i).In.From,d⟩ } q)) bj (by grind [cJ,fu.enc]) aN ?_;refine wa ?_;refine aF hwf (σ.length+1) ?_;rw[hz,hz1,hz2];exact af sc
theorem FX(τ)(r:Bx)(k):ak prog 420 [.agg (r.enc.map .d),.ptr σ.length 0] (σ++ .var [.d (I k)]::τ) (.d (B (r.ID==k))):=by
 refine ak.bt func420 ?_;exact af so
theorem KH(c n g k)(hn:n<1000000000):ak prog 372 [.d (SL c 5 Bx.enc n g),.d (I k)] σ (.d (I (hZ n g k))):=by
 refine ak.bt func372 ?_;refine az.mk (qz _ c n g _ _ (fun r=>r.ID==k) hn (fun i hi=>FX σ [] (g i) k)) (sm ?_);refine af ?_;simp[go_sem,hZ]<;>omega
theorem FV(τ)(r:Cnt)(k):ak prog 421 [.agg (r.enc.map .d),.ptr σ.length 0] (σ++ .var [.d (I k)]::τ) (.d (B (r.Unit==k))):=by
 refine ak.bt func421 ?_;exact af so
theorem qL(c n g u)(hn:n<1000000000)(hN: ∀i,i<n->(g i).nc<1000000000):ak prog 373 [.d (SL c 5 Bx.enc n g),.d (I u)] σ (.cj [.d (I (qS n g u).1),.d (I (qS n g u).2)]):=by
 refine ak.bt func373 ?_;refine dm (α:=Nat) true [3,9,10,11] (fun i=>[(11,.d (I i))]) (fun i=>σ++[.var [.d (I u)]]) (fun i=>i<=n/\qS n g u=tL g u i (n-i)) (fun i=>n-i) 0 ?_ (hx:=⟨an,rfl⟩);rintro i ⟨hi,hx⟩;refine gc [3,9,10,11] ?_ ?_<;>intro d0
 ·have hst:=Hj (g:=g) (u:=u) d0;refine wB ?_;refine az.mk ((show ak prog 351 _ _ (.d (I (VS (g i) u))) from A2 _ none (g i).nc (g i).gc _ _ (fun r=>r.Unit==u) (hN i d0) (fun q hq=>by have h:=FV σ [.var ((g i).enc.map .d)] ((g i).gc q) u;grind [Bx.enc]))) ?_;refine gc [3,6,8,9,10,11] ?_ ?_<;>intro d1
  ·have hz:qS n g u=((i:Int),VS (g i) u):=ai;exact sx hz
  ·refine wC ?_;refine bF (i+1) ⟨aa,ai⟩ (h:=aR) (hσ:=aP) (hb:=ae au)
 ·have hz:qS n g u=(-1,-1):=by simp_all [tL]
  refine wF ?_;exact sy hz
theorem yy(c n g u)(hn:n<1000000000)(hN: ∀i,i<n->(g i).nc<1000000000):ak prog 310 [.d (SL c 5 Bx.enc n g),.d (I u)] σ (.cj [.d (I (cp n g u).1),.d (I (cp n g u).2.1),.d (B (cp n g u).2.2)]):=by
 refine ak.bt func310 ?_;refine az.mk (qL _ c n g u hn hN) (sm ?_);refine cE.mk' (.d (I (bW n g))) (fun _=>jY _ c n g hn hN) (gc [0,7,8] ?_ ?_)<;>intro d0
 ·have hz:cp n g u=(0,0,false):=by grind [cp]
  exact sx hz
 ·have hnn: ¬(qS n g u).1<0:=ai;have hck:bW n g=0:=ai;obtain⟨q,p,hq,hp,h1,h2⟩:=IB hnn;have hz:cp n g u=((g q).ID,(p:Int),true):=by grind [cp]
  simp[go_sem,h1,h2];repeat refine⟨aa,?_⟩
  exact sy hz
theorem YW{n g k}(h: ¬hZ n g k<0): ∃i:Nat,hZ n g k=(i:Int)/\i<n:=⟨(hZ n g k).toNat,aa,by simp_all [zS]⟩
theorem yx(c n g)(hn:n<1000000000)(hN: ∀i,i<n->(g i).nc<1000000000):CS prog 374 [.d (SL c 5 Bx.enc n g)] σ (fun r σ' X=>r= .ms σ.length 5 0 n/\σ'=σ++[.arr 5 n fun i=>Bx.enc (g i)]/\X=[]):=by
 refine CS.bsW true func374 fun hwf=> ?_;refine az.gen (Bu _ c n g hn) ?_;rintro r σ' X ⟨rfl,rfl,rfl⟩;simp[go_sem];refine dm (α:=Nat) false [3,8,9] (fun i=>[(9,.d (I i))]) (fun i=>σ++[.arr 5 n (fun i=>Bx.enc (g i))]) (fun i=>i<=n) (fun i=>n-i) 0 ?_;rintro i hi;simp[go_sem];refine go false (gc [3,8,9] ?_ ?_)<;>intro d0
 ·simp[go_sem];refine go false (sm ?_);repeat refine⟨aa,?_⟩
  refine az.mk (Bt _ none (g i).nc (g i).gc (hN i d0)) (sm ?_);repeat refine⟨aa,?_⟩
  refine ax σ.length (fun i=>Bx.enc (g i)) bj (by grind [Bx.enc]) aN ?_;refine wW ?_;refine bF (i+1) aa (h:=aR) (hσ:=aP)
 ·refine wF ?_;exact af sc
theorem E9(c n g i x)(hi:i<=n)(hn:n<1000000000):ak prog 375 [.d (SL c 2 Cnt.enc n g),.d (I i),.agg (x.enc.map .d)] σ (.d (SL none 2 Cnt.enc (n+1) (fe g i x))):=by
 refine ak.bd true func375 fun hwf=> ?_;simp[go_sem];apply jZ 5 1 82 (.ms (σ.length+1) 2 0 n) (.arr 2 n (fun i=>Cnt.enc (g i))) T.mixed aD
 ·intro τ K hK;simp[go_sem];exact hK _ _
 ·simp[go_sem];exact CS.mono (yp _ c n g hn) (by grind [Cnt.enc])
 intro K hK;simp[go_sem];have h:=nA (JX (σ++[.var (x.enc.map .d)]) [] n g x i hi hn);refine az.gen h ?_;rintro r σ' X ⟨rfl,rfl,rfl⟩;simp[go_sem,hwf.one];refine hK _ ?_;refine wb ?_;exact af sc
theorem G2(c n g i)(hi:i<n)(hn:n<1000000000):ak prog 376 [.d (SL c 2 Cnt.enc n g),.d (I i)] σ (.d (SL none 2 Cnt.enc (n-1) (without g i))):=by
 have hw:=wS i;refine ak.bd true func376 fun hwf=> ?_;refine wI ?_;refine az.gen (yp _ c n g hn) ?_;rintro r σ' X ⟨rfl,rfl,rfl⟩;simp(disch:=first|omega|simp) [go_sem,hw];refine az.gen (Kh σ [] n g i hi hn) ?_;rintro r σ' X ⟨rfl,rfl,rfl⟩;refine wI ?_;refine bg (σ.length) bj aN eS ?_;exact af sc
theorem QK(c n g k at_ x)(hn:n<1000000000)(hN: ∀i,i<n->(g i).nc<1000000000):ak prog 309 [.d (SL c 5 Bx.enc n g),.d (I k),.d (I at_),.agg (x.enc.map .d)] σ (.cj [.d (SL none 5 Bx.enc (if kg n g k at_ x=0 then n else 0) (Cl g (hZ n g k).toNat at_.toNat x)),.d (I (kg n g k at_ x))]):=by
 refine ak.bs true func309 fun hwf=> ?_;refine az.mk (jY _ c n g hn hN) (gc [0,1,2,7] ?_ ?_)<;>intro d0
 ·have hz:kg n g k at_ x=1:=o7;refine wA ?_;rw[hz];simp[go_sem,Go.aI.aK]
 ·simp[go_sem];refine az.mk (KH _ c n g k hn) (gc [0,2,7,10] ?_ ?_)<;>intro d1
  ·have hz:kg n g k at_ x=7:=o7;refine wA ?_;rw[hz];simp[go_sem,Go.aI.aK]
  ·obtain⟨i,hi,hin⟩:=YW (n:=n) (g:=g) (k:=k) aa;have hck:bW n g=0:=ai;have hbx:=jX ((e9 hck).2 i hin);simp[go_sem,hi];refine az.mk (qL _ c n g x.Unit hn hN) ?_;simp[go_sem,hin];refine az.mk (ln _ at_ 0 (g i).nc) ?_;simp[go_sem];refine cE.mk' (.d (B (ei x))) (fun hg=>pQ _ x) ?_;refine gc [0,2,7,10,11,13] ?_ ?_<;>intro d2
   ·have hz:kg n g k at_ x=2:=o7;refine wA ?_;rw[hz];simp[go_sem,Go.aI.aK]
   ·have hn2: ¬(gD at_ 0 (g (hZ n g k).toNat).nc=false\/ei x=false):=ai;refine gc [0,2,7,10,13] ?_ ?_<;>intro d3
    ·have hz:kg n g k at_ x=6:=o7;refine wA ?_;rw[hz];simp[go_sem,Go.aI.aK]
    ·refine gc [0,2,7,10,13] ?_ ?_<;>intro d4
     ·have hz:kg n g k at_ x=8:=o7;refine wA ?_;rw[hz];simp[go_sem,Go.aI.aK]
     ·have hcx:ei x=true:=Classical.byContradiction fun h=>hn2 (.inr ai);have hxt:=bO.1 (show gD x.kb 1 10000=true by grind [ei]);have htb:=IF hbx.2.2.2 (g i).nc (Nat.le_refl _);have hw:IntKind.i64.wrap (tb (g i).gc (g i).nc+x.kb)=tb (g i).gc (g i).nc+x.kb:=by grind [aS]
      simp[go_sem];refine T.dr 10 fun K hK=> ?_;simp[go_sem];refine bK.mk (yw _ none (g i).nc (g i).gc aa hbx.2.2.2) ?_;simp[go_sem,hw];refine hK _ ?_;refine go true ?_;refine gc [0,2,7,10] ?_ ?_<;>intro d5
      ·have hz:kg n g k at_ x=12:=o7;refine wA ?_;rw[hz];simp[go_sem,Go.aI.aK]
      ·have hz:kg n g k at_ x=0:=o7;obtain⟨p,rfl,hp⟩: ∃p:Nat,at_=(p:Int)/\p<=(g i).nc:=⟨at_.toNat,by grind [gD],by grind [gD]⟩;simp[go_sem];refine az.gen (yx _ c n g hn hN) ?_;rintro r σ' X ⟨rfl,rfl,rfl⟩;simp[go_sem];refine T.dr 12 fun K hK=> ?_;simp[go_sem,hin];refine bK.mk (E9 _ none (g i).nc (g i).gc p x hp aa) ?_;simp[go_sem,hin];refine hK _ ?_;refine ax (σ.length+2) (fun q=>Bx.enc (Cl g i p x q)) bj (by intro q hq;unfold Cl cJ;by_cases h:q=i<;>simp[h,Bx.enc]) aN ?_;refine wa ?_;refine aF hwf (σ.length+2) ?_;exact sy hz
theorem ON(c n g u)(hn:n<1000000000)(hN: ∀i,i<n->(g i).nc<1000000000):ak prog 311 [.d (SL c 5 Bx.enc n g),.d (I u)] σ (.cj [.d (SL none 5 Bx.enc (if fv n g u=0 then n else 0) (qU g (qS n g u).1.toNat (qS n g u).2.toNat)),.agg ((if fv n g u=0 then(g (qS n g u).1.toNat).gc (qS n g u).2.toNat else⟨0,0⟩).enc.map .d),.d (I (fv n g u))]):=by
 refine ak.bs true func311 fun hwf=> ?_;refine az.mk (jY _ c n g hn hN) (gc [0,1,5] ?_ ?_)<;>intro d0
 ·have hz:fv n g u=1:=by grind [fv]
  refine wA ?_;rw[hz];simp[go_sem,bw,Go.aI.aK]
 ·simp[go_sem];refine az.mk (qL _ c n g u hn hN) (gc [0,5,7,8] ?_ ?_)<;>intro d1
  ·have hz:fv n g u=7:=by grind [fv]
   refine wA ?_;rw[hz];simp[go_sem,bw,Go.aI.aK]
  ·have hz:fv n g u=0:=by grind [fv]
   obtain⟨q,p,hq,hp,h1,h2⟩:=IB (n:=n) (g:=g) (u:=u) aa;have hck:bW n g=0:=ai;have hbx:=jX ((e9 hck).2 q hq);simp[go_sem,h1,h2];refine az.gen (yx _ c n g hn hN) ?_;rintro r σ' X ⟨rfl,rfl,rfl⟩;simp[go_sem,hq];refine az.mk (G2 _ none (g q).nc (g q).gc p hp aa) ?_;simp[go_sem,hq];refine ax (σ.length+1) (fun l=>Bx.enc (qU g q p l)) bj (by intro l hl;unfold qU cJ;by_cases h:l=q<;>simp[h,Bx.enc]) aN ?_;refine T.dr 10 fun K hK=> ?_;simp[go_sem,hq,hp];refine hK _ ?_;refine wb ?_;refine aF hwf (σ.length+1) ?_;exact sy hz
end Go.Proofs.YthpplckmbbachaaGreatDoor
