/- Contracts and lemmas, joined out of smaller texts by a program; no conditions. -/
import Derived.Test.YtmahphgjkpgidaaGreatDoorKB20
import Derived.Test.YtmahphgjkpgidaaGreatDoorKB21
set_option linter.unusedVariables false
set_option linter.unusedSimpArgs false
set_option maxHeartbeats 1000000
set_option maxRecDepth 100000
namespace Go.Proofs.YtmahphgjkpgidaaGreatDoor
open Go.aU Go.dh Go.Proofs.Tryz
variable (σ : List aG)
theorem lF{σ τ:List aG}{x:aG}(Y:List Nat):aU.Leaves (σ++x::τ) (σ.map (bQ Y)++ .dead::τ.map (bQ Y)):=by
 refine⟨by simp,fun b z hz=> ?_⟩;rw[List.getElem?_append] at hz⊢;simp only[List.length_map] at hz;split at hz
 ·rename_i hb;rw[if_pos hb];simp only[List.getElem?_map,Option.map_eq_some_iff] at hz;obtain⟨y',h1,rfl⟩:=hz;exact .inr (.inr ⟨Y,y',h1,rfl⟩)
 ·rename_i hb;rw[if_neg hb];generalize b-σ.length=k at hz
  rcases k with _|k
  ·simp at hz;subst hz;exact .inr (.inl trivial)
  ·simp only[List.getElem?_cons_succ,List.getElem?_map,Option.map_eq_some_iff] at hz⊢;obtain⟨y',h1,rfl⟩:=hz;exact .inr (.inr ⟨Y,y',h1,rfl⟩)
theorem VI{P:Program}{c:Code}{Q:Exit->St->Prop}{N:Nat}{t:List (Nat×AV)}{σ:List aG}{mv:List Nat}(k:Nat){b sz lo n q:Nat}(hk:aU.get t k=some (.mc b sz lo n q))(h:fA P c Q ⟨N,aU.put t k (.ms b sz lo n),σ,mv⟩):fA P c Q ⟨N,t,σ,mv⟩:=by
 intro j0 j a w hr;refine h j0 j a w ⟨hr.defers,hr.jY,hr.size,fun k' av hk'=> ?_,hr.dA,hr.len0,hr.ag⟩;simp only at hk';rw[get_put] at hk';split at hk'
 ·rename_i e;subst e;simp only[Option.some.injEq] at hk';subst hk';obtain⟨h1,h2⟩:=hr.tmp k _ hk;cases h2 with|mc h2 _ _=>exact⟨h1,h2⟩
 ·exact hr.tmp k' av hk'
def lU{α:Type}(g:Nat->α)(i:Nat)(x:α)(q:Nat):α:=if q<i then g q else if q=i then x else g (q-1)
def skip(i q:Nat):Nat:=if q<i then q else q+1
def without{α:Type}(g:Nat->α)(i:Nat):Nat->α:=fun q=>g (skip i q)
def kV(n:Nat)(g:Nat->jG)(p:jG):Int:=if kT n g≠0 then 1 else if MC p=false then 2 else if 0<n/\p.ID<=(g (n-1)).ID then 5 else if 64<=n then 12 else 0
def pIx(n:Nat)(g:Nat->jG)(k:Int):Int:=idxFrom (fun r:jG=>r.ID==k) (lst n g) 0
theorem pIx_lt(n:Nat)(g:Nat->jG)(k:Int):pIx n g k<n:=mX _ n g
def TK(n:Nat)(g:Nat->jG)(k d:Int):Int:=if kT n g≠0 then 1 else if pIx n g k<0 then 7 else if d<0\/1048575<d then 2 else if(g (pIx n g k).toNat).In.Until<=d then 11 else 0
def rvN(n:Nat)(g:Nat->jG)(k d:Int):Nat:=if TK n g k d≠0 then 0 else if d<=(g (pIx n g k).toNat).In.From then n-1 else n
def rvG(g:Nat->jG)(i:Nat)(d:Int):Nat->jG:=if d<=(g i).In.From then without g i else iD g i { g i with In:=⟨(g i).In.From,d⟩ }
def lQ(n:Nat)(g:Nat->Bx)(k:Int):Int:=idxFrom (fun b:Bx=>b.ID==k) (lst n g) 0
theorem X6(n:Nat)(g:Nat->Bx)(k:Int):lQ n g k<n:=mX _ n g
def cIx(b:Bx)(u:Int):Int:=idxFrom (fun c:Cnt=>c.Unit==u) (lst b.nc b.gc) 0
theorem cIx_lt(b:Bx)(u:Int):cIx b u<b.nc:=mX _ b.nc b.gc
def GN(g:Nat->Bx)(u:Int)(i:Nat):Nat->Int×Int
 |0=>(-1,-1)
 |k+1=>if 0<=cIx (g i) u then((i:Int),cIx (g i) u) else GN g u (i+1) k
theorem whGo_step{g:Nat->Bx}{u:Int}{i n:Nat}(h:i<n):GN g u i (n-i)=if 0<=cIx (g i) u then((i:Int),cIx (g i) u) else GN g u (i+1) (n-(i+1)):=by
 obtain⟨k,hk⟩: ∃k,n-i=k+1:=⟨n-i-1,by omega⟩;rw[hk,GN,show n-(i+1)=k by omega]
def N8(n:Nat)(g:Nat->Bx)(u:Int):Int×Int:=GN g u 0 n
theorem whGo_lt{g:Nat->Bx}{u:Int} : ∀{k i:Nat},(GN g u i k).1<0\/∃q,i<=q/\q<i+k/\(GN g u i k).1=(q:Int)/\(GN g u i k).2=cIx (g q) u/\0<=cIx (g q) u
 |0,i=> .inl (by simp[GN])
 |k+1,i=>by
  rw[GN];split
  ·rename_i h;exact .inr ⟨i,Nat.le_refl _,by omega,rfl,rfl,h⟩
  ·rcases whGo_lt (k:=k) (i:=i+1) (g:=g) (u:=u) with h|⟨q,h1,h2,h3⟩
   ·exact .inl h
   ·exact .inr ⟨q,by omega,by omega,h3⟩
theorem whR_at{n:Nat}{g:Nat->Bx}{u:Int}(h: ¬(N8 n g u).1<0): ∃q p:Nat,q<n/\p<(g q).nc/\(N8 n g u).1=(q:Int)/\(N8 n g u).2=(p:Int):=by
 rcases whGo_lt (g:=g) (u:=u) (k:=n) (i:=0) with h1|⟨q,h1,h2,h3,h4,h5⟩
 ·exact absurd h1 h
 ·have:=cIx_lt (g q) u;exact⟨q,(cIx (g q) u).toNat,by omega,by omega,h3,by unfold N8;rw[h4];omega⟩
def nC(n:Nat)(g:Nat->Bx)(u:Int):Int×Int×Bool:=if(N8 n g u).1<0\/fO n g≠0 then(0,0,false) else((g (N8 n g u).1.toNat).ID,(N8 n g u).2,true)
theorem VB{g:Nat->Bx} : ∀{k i:Nat} {ks:List Key},LJ g i ks k=0->∀q,i<=q->q<i+k->Uo (g q)=0
 |0,i,ks,_=>by intro q h1 h2;omega
 |k+1,i,ks,h=>by
  rw[LJ] at h;split at h
  ·rename_i h1;exact absurd h h1
  ·rename_i h1;split at h
   ·cases h
   ·split at h
    ·cases h
    ·intro q h2 h3;by_cases hq:q=i
     ·subst hq;exact Classical.byContradiction fun h9=>h1 h9
     ·exact VB h q (by omega) (by omega)
theorem rO{b:Bx}(h:Uo b=0):Gx b=true/\b.nc<=32/\yH b.gc b.nc<=b.Room/\∀i,i<b.nc->pJ (b.gc i)=true:=by
 unfold Uo at h;split at h
 ·cases h
 ·rename_i h1;split at h
  ·cases h
  ·split at h
   ·cases h
   ·have h2:Gx b=true:=by simpa using h1
    have h3:=h2;simp only[Gx,Bool.and_eq_true,Bool.not_eq_true'] at h3;exact⟨h2,by omega,by omega,Vy h3.2⟩
theorem kZ{n:Nat}{g:Nat->Bx}(h:fO n g=0):n<=128/\∀i,i<n->Uo (g i)=0:=by
 unfold fO at h;split at h
 ·cases h
 ·exact⟨by omega,fun i hi=>VB h i (by omega) (by omega)⟩
def wR(n:Nat)(g:Nat->Bx)(k at_:Int)(c:Cnt):Int:=if fO n g≠0 then 1 else if lQ n g k<0 then 7 else if qc at_ 0 (g (lQ n g k).toNat).nc=false\/pJ c=false then 2 else if 0<=(N8 n g c.Unit).1 then 6
 else if 32<=(g (lQ n g k).toNat).nc then 8 else if(g (lQ n g k).toNat).Room<yH (g (lQ n g k).toNat).gc (g (lQ n g k).toNat).nc+c.J6 then 12 else 0
def putG(g:Nat->Bx)(i at_:Nat)(c:Cnt):Nat->Bx:=iD g i { g i with nc:=(g i).nc+1,gc:=lU (g i).gc at_ c }
def vM(n:Nat)(g:Nat->Bx)(u:Int):Int:=if fO n g≠0 then 1 else if(N8 n g u).1<0 then 7 else 0
def Uz(g:Nat->Bx)(i p:Nat):Nat->Bx:=iD g i { g i with nc:=(g i).nc-1,gc:=without (g i).gc p }
theorem JF(c:Option Nat)(n:Nat)(g:Nat->jG)(hn:n<1000000000):CS prog 80 [.d (SL c 6 jG.enc n g)] σ (fun r σ' X=>r= .ms σ.length 6 0 n/\σ'=σ++[.arr 6 n fun i=>jG.enc (g i)]/\X=[]):=by
 refine CS.VD true func80 fun hwf=> ?_;simp[go_sem,-Bool.forall_bool];try intro b1 hb1
 refine fZ ?_ ?_<;>intro c0 d0
 ·simp[go_sem];refine dG 2 6 (fun i=>jG.enc (g i)) (by simp[go_sem]) (by simp[go_sem];rfl) ?_;refine aj ?_;obtain rfl:=hb1 c0;simp[go_sem]
 ·simp[go_sem];repeat refine⟨by omega,?_⟩
  exact aj so
theorem XA(τ:List aG)(n:Nat)(g:Nat->jG)(i:Nat)(hi:i<n)(hn:n<1000000000):CS prog 315 [.ms σ.length 6 0 n,.d (I i),.d (I (i+1))] (σ++ .arr 6 n (fun i=>jG.enc (g i))::τ) (fun r σ' X'=>X'=[]/\r= .ms σ.length 6 0 (n-1)/\σ'=σ++ .arr 6 (n-1) (fun q=>jG.enc (without g i q))::τ):=by
 have h0:((i:Int)==(i:Int)+1)=false:=by simp;omega
 have h1:((i:Int)+1).toNat=i+1:=by omega
 have h2:((n:Int)-((i:Int)+1)).toNat=n-1-i:=by omega
 refine CS.bdD true [] func315 fun hwf=> ?_;simp[go_sem,h0];repeat refine⟨by omega,?_⟩
 refine cn [0,1,2] rfl ?_ ?_<;>intro c0 d0<;>try simp at d0
 ·simp[go_sem];refine T.dr 6 fun K hK=> ?_;simp[go_sem,hi];repeat refine⟨by omega,?_⟩
  refine hK _ ?_;refine go true ?_;simp[go_sem];repeat refine⟨by omega,?_⟩
  refine qN σ.length (n-1) (fun q=>jG.enc (without g i q)) (by simp[go_sem];exact⟨rfl,rfl,rfl⟩) (by omega) (fun q hq=>by
   simp only[setRows,without,skip];rw[if_neg (by omega)];by_cases h:q<i
   ·rw[if_neg (by omega),if_pos h];rfl
   ·rw[if_pos (by omega),if_neg h,show i+1+(q-i)=q+1 by omega];rfl) (by simp[go_sem];rfl) ?_
  refine aj ?_;simp[go_sem];exact⟨_,⟨[],(List.append_nil _).symm⟩,au (by simp[go_sem,ay]),by omega,rfl⟩
theorem JI(c:Option Nat)(n:Nat)(g:Nat->Cnt)(hn:n<1000000000):CS prog 82 [.d (SL c 2 Cnt.enc n g)] σ (fun r σ' X=>r= .ms σ.length 2 0 n/\σ'=σ++[.arr 2 n fun i=>Cnt.enc (g i)]/\X=[]):=by
 refine CS.VD true func82 fun hwf=> ?_;simp[go_sem,-Bool.forall_bool];try intro b1 hb1
 refine fZ ?_ ?_<;>intro c0 d0
 ·simp[go_sem];refine dG 2 2 (fun i=>Cnt.enc (g i)) (by simp[go_sem]) (by simp[go_sem];rfl) ?_;refine aj ?_;obtain rfl:=hb1 c0;simp[go_sem]
 ·simp[go_sem];repeat refine⟨by omega,?_⟩
  exact aj so
theorem XB(τ:List aG)(n:Nat)(g:Nat->Cnt)(i:Nat)(hi:i<n)(hn:n<1000000000):CS prog 366 [.ms σ.length 2 0 n,.d (I i),.d (I (i+1))] (σ++ .arr 2 n (fun i=>Cnt.enc (g i))::τ) (fun r σ' X'=>X'=[]/\r= .ms σ.length 2 0 (n-1)/\σ'=σ++ .arr 2 (n-1) (fun q=>Cnt.enc (without g i q))::τ):=by
 have h0:((i:Int)==(i:Int)+1)=false:=by simp;omega
 have h1:((i:Int)+1).toNat=i+1:=by omega
 have h2:((n:Int)-((i:Int)+1)).toNat=n-1-i:=by omega
 refine CS.bdD true [] func366 fun hwf=> ?_;simp[go_sem,h0];repeat refine⟨by omega,?_⟩
 refine cn [0,1,2] rfl ?_ ?_<;>intro c0 d0<;>try simp at d0
 ·simp[go_sem];refine T.dr 6 fun K hK=> ?_;simp[go_sem,hi];repeat refine⟨by omega,?_⟩
  refine hK _ ?_;refine go true ?_;simp[go_sem];repeat refine⟨by omega,?_⟩
  refine qN σ.length (n-1) (fun q=>Cnt.enc (without g i q)) (by simp[go_sem];exact⟨rfl,rfl,rfl⟩) (by omega) (fun q hq=>by
   simp only[setRows,without,skip];rw[if_neg (by omega)];by_cases h:q<i
   ·rw[if_neg (by omega),if_pos h];rfl
   ·rw[if_pos (by omega),if_neg h,show i+1+(q-i)=q+1 by omega];rfl) (by simp[go_sem];rfl) ?_
  refine aj ?_;simp[go_sem];exact⟨_,⟨[],(List.append_nil _).symm⟩,au (by simp[go_sem,ay]),by omega,rfl⟩
theorem Xk(τ:List aG)(n:Nat)(g:Nat->Cnt)(x:Cnt)(i:Nat)(hi:i<=n)(hn:n<1000000000):CS prog 365 [.ms σ.length 2 0 n,.d (I i),.d (.sl (some 1) 2 1 (rowsOf 2 (Cnt.enc x)))] (σ++ .arr 2 n (fun i=>Cnt.enc (g i))::τ) (fun r σ' X'=>X'=[σ.length]/\r= .d (SL none 2 Cnt.enc (n+1) (lU g i x))/\σ'=σ.map (bQ [σ.length])++ .dead::τ.map (bQ [σ.length])):=by
 have h1:((i:Int)+1).toNat=i+1:=by omega
 have h2:((n:Int)+1-(i:Int)).toNat=n+1-i:=by omega
 have h3:i+(n+1-i)=n+1:=by omega
 have h4:((n:Int)+1-((i:Int)+1)).toNat=n-i:=by omega
 have h5:((n:Int)-(i:Int)).toNat=n-i:=by omega
 have h6:((n:Int)+1).toNat=n+1:=by omega
 have h7:min (n+1-i) (n-i)=n-i:=by omega
 refine CS.beD [σ.length] func365 fun hwf=> ?_;refine ak fun K hK=> ?_;simp[go_sem];refine hK _ ?_;refine ak fun K hK=> ?_;simp[go_sem,h5,hi];refine hK _ ?_;refine ak fun K hK=> ?_;simp[go_sem];refine hK _ ?_;refine aK ?_;refine ak fun K hK=> ?_;simp[go_sem];refine hK _ ?_;refine tq [0,1,2,7,16] ?_;refine acn rfl ?_ ?_<;>intro c0 d0<;>try simp at d0
 ·refine aX ?_;refine ak fun K hK=> ?_;simp[go_sem];refine hK _ ?_;refine aK ?_;refine ak fun K hK=> ?_;simp[go_sem];refine hK _ ?_;refine tq [0,1,2,7,8,22] ?_;refine jr ?_ ?_<;>intro c1 d1
  ·obtain rfl:n=i:=by omega
   refine ak fun K hK=> ?_;simp[go_sem];repeat refine⟨by omega,?_⟩
   refine hK _ ?_;refine aY σ.length (fun q=>Cnt.enc (lU g n x q)) (by simp[go_sem];exact⟨rfl,rfl,rfl⟩) (by intro q hq;unfold bf lU;split;rfl;rw[if_pos (show q=n by omega),show q-n=0 by omega];simp[rowsOf,Cnt.enc]) (by simp[go_sem];rfl) ?_;refine yA σ.length (by simp[go_sem];exact⟨rfl,rfl,rfl⟩) (by simp[go_sem];rfl) (by simp[go_sem];rfl) ?_;refine aj ?_;simp[go_sem,L6];exact lF _
  ·have hlt:i<n:=by omega
   refine aX ?_;refine aK ?_;refine awp_mc 0 (by simp[go_sem];first|exact⟨rfl,rfl,rfl,rfl⟩|rfl) fun q hq=> ?_;refine ak fun K hK=> ?_;simp[go_sem,c1];try simp(disch:=omega) only[aH]
   refine hK _ ?_;refine tq [0,1,2,7,8,31] ?_;refine jr ?_ ?_<;>intro c2 d2
   ·have CU:q=n:=by omega
    subst CU;refine ak fun K hK=> ?_;simp[go_sem,hi,d2];try simp(disch:=omega) only[aH]
    repeat refine⟨by omega,?_⟩
    refine hK _ ?_;refine ak fun K hK=> ?_;simp[go_sem,h2,h3,h6];repeat refine⟨by omega,?_⟩
    refine hK _ ?_;refine jT 8 T.mixed (by kernel_rfl) fun K hK=> ?_;simp[go_sem,h5,h6,hi];try simp(disch:=omega) only[aH]
    repeat refine⟨by omega,?_⟩
    refine hK _ ?_;refine ak fun K hK=> ?_;simp[go_sem,h1,h4];refine hK _ ?_;obtain⟨hp1,hp2⟩:=hwf.parts 0;simp only[List.length_append,List.length_cons,Nat.add_zero] at hp1 hp2;refine aY (σ.length+(τ.length+1)) (fun p=>Cnt.enc (lU g i x p)) (by simp[go_sem];exact⟨rfl,rfl,rfl⟩) (by
     intro p hp;simp only[setRows,bf,lU];rcases Nat.lt_trichotomy p i with h|h|h
     ·rw[if_neg (by omega),if_neg (by omega),if_pos h,if_pos h];rfl
     ·subst h;rw[if_neg (by omega),if_pos (by omega),if_neg (by omega),if_pos rfl,Nat.sub_self];simp[rowsOf,Cnt.enc]
     ·rw[if_pos (by omega),if_neg (by omega),if_neg (by omega),show i+(p-(i+1))=p-1 by omega];rfl) (by simp[go_sem];rfl) ?_
    refine yA (σ.length+(τ.length+1)) (by simp[go_sem];exact⟨rfl,rfl,rfl⟩) (by simp[go_sem];rfl) (by simp[go_sem,hp1,hp2];rfl) ?_;refine yx σ.length (by simp[go_sem];rfl) (by simp[go_sem];rfl) ?_;refine aj ?_;simp[go_sem];exact lF _
   ·have CU:n+1<=q:=by omega
    refine aX ?_;refine awp_room 0 (by simp[go_sem];first|exact⟨rfl,rfl,rfl,rfl,rfl⟩|rfl) (by simp[go_sem];exact⟨rfl,rfl⟩) (by omega) fun row' hrow=> ?_;refine ak fun K hK=> ?_;simp[go_sem,c2];try simp(disch:=omega) only[aH]
    repeat refine⟨by omega,?_⟩
    refine hK _ ?_;refine aK ?_;refine ak fun K hK=> ?_;simp[go_sem,h6,d2];try simp(disch:=omega) only[aH]
    repeat refine⟨by omega,?_⟩
    refine aO.ext (XS.UZ f397 71 4 157 2 func397 rfl rfl rfl rfl rfl (fun w=>rfl) (b:=σ.length) (by simp[go_sem];exact⟨rfl,rfl⟩) (by omega) (by omega) (by omega) (by omega)) ?_;simp[go_sem,h1,h4];refine hK _ ?_;refine tq [0,1,2,7,8,68] ?_;refine acn rfl ?_ ?_<;>intro c3 d3<;>try simp at d3
    ·refine jT 8 T.mixed (by kernel_rfl) fun K hK=> ?_;simp[go_sem,h2,d2];try simp(disch:=omega) only[aH]
     simp only[h1,h4,h7];repeat refine⟨by omega,?_⟩
     refine⟨fun p hp=>by rw[hrow _ (by omega)];simp[go_sem],?_⟩;repeat refine⟨by omega,?_⟩
     refine hK _ ?_;refine ak fun K hK=> ?_;simp[go_sem,h2,h3,d2];repeat refine⟨by omega,?_⟩
     refine hK _ ?_;refine ak fun K hK=> ?_;simp[go_sem];refine hK _ ?_;refine VI 6 (by simp[go_sem];first|exact⟨rfl,rfl,rfl,rfl,rfl⟩|rfl) ?_;refine qN σ.length (n+1) (fun p=>Cnt.enc (lU g i x p)) (by simp[go_sem];exact⟨rfl,rfl,rfl⟩) (by omega) (by
      intro p hp;simp only[setRows,lU];rcases Nat.lt_trichotomy p i with h|h|h
      ·rw[if_neg (by omega),if_neg (by omega),if_pos h,hrow _ (by omega)];rfl
      ·subst h;rw[if_pos (by omega),if_neg (by omega),if_pos rfl,Nat.sub_self];simp[rowsOf,Cnt.enc]
      ·rw[if_neg (by omega),if_pos (by omega),if_neg (by omega),if_neg (by omega),hrow _ (by omega),show i+(p-(i+1))=p-1 by omega];rfl) (by simp[go_sem];rfl) ?_
     refine yA σ.length (by simp[go_sem];exact⟨rfl,rfl,rfl⟩) (by simp[go_sem];rfl) (by simp[go_sem];rfl) ?_;refine aj ?_;simp[go_sem];exact lF _
theorem OO(c:Option Nat)(n:Nat)(g:Nat->jG)(p:jG)(hn:n<1000000000):aA prog 241 [.d (SL c 6 jG.enc n g),.agg (p.enc.map .d)] σ (.eU [.d (SL none 6 jG.enc (if kV n g p=0 then n+1 else 0) (aV g n p)),.d (I (kV n g p))]):=by
 have hwp:=dn (i:=n) (by omega);refine aA.bd true func241 fun hwf=> ?_;simp[go_sem];refine aO.mk (mV _ c n g hn) ?_;simp[go_sem];refine aJ [0,3] ?_ ?_<;>intro c0 d0
 ·have hz:kV n g p=1:=by unfold kV;rw[if_pos (by simpa using d0)]
  simp[go_sem];refine aj ?_;rw[hz];simp[go_sem,Go.aU.bC]
 ·simp[go_sem];refine aO.mk (qE _ _) ?_;simp[go_sem];refine aJ [0,3] ?_ ?_<;>intro c1 d1
  ·have hz:kV n g p=2:=by unfold kV;rw[if_neg (by simpa using d0),if_pos (by simpa using d1)]
   simp[go_sem];refine aj ?_;rw[hz];simp[go_sem,Go.aU.bC]
  ·simp[go_sem];refine T.dr 16 fun K hK=> ?_;simp[go_sem,hwp];repeat refine⟨by omega,?_⟩
   refine hK _ ?_;refine go true ?_;simp[go_sem];refine aJ [0,3] ?_ ?_<;>intro c2 d2
   ·have hz:kV n g p=5:=by unfold kV;rw[if_neg (by simpa using d0),if_neg (by simpa using d1),if_pos (by omega)]
    simp[go_sem];refine aj ?_;rw[hz];simp[go_sem,Go.aU.bC]
   ·simp[go_sem];refine aJ [0,3] ?_ ?_<;>intro c3 d3
    ·have hz:kV n g p=12:=by unfold kV;rw[if_neg (by simpa using d0),if_neg (by simpa using d1),if_neg (by omega),if_pos (by omega)]
     simp[go_sem];refine aj ?_;rw[hz];simp[go_sem,Go.aU.bC]
    ·have hz:kV n g p=0:=by unfold kV;rw[if_neg (by simpa using d0),if_neg (by simpa using d1),if_neg (by omega),if_neg (by omega)]
     simp[go_sem];apply pV 4 1 80 (.ms (σ.length+1) 6 0 n) (.arr 6 n (fun i=>jG.enc (g i))) T.mixed (by kernel_rfl)
     ·intro τ K hK;simp[go_sem];exact hK _ _
     ·simp[go_sem];exact CS.mono (JF _ c n g hn) (by rintro r σ' X ⟨rfl,rfl,rfl⟩;simp[jG.enc])
     intro K hK;simp[go_sem,hwf.one];repeat refine⟨by omega,?_⟩
     refine hK _ ?_;refine go true ?_;simp[go_sem];refine aF hwf (σ.length+1) ?_;refine aj ?_;rw[hz];simp[go_sem];exact JM (enc:=jG.enc) (x:=p) rfl
theorem FZ(τ:List aG)(r:jG)(k:Int):aA prog 314 [.agg (r.enc.map .d),.ptr σ.length 0] (σ++ .var [.d (I k)]::τ) (.d (B (r.ID==k))):=by
 refine aA.bs true func314 fun hwf=> ?_;exact aj so
theorem KR(c:Option Nat)(n:Nat)(g:Nat->jG)(k d:Int)(hn:n<1000000000):aA prog 243 [.d (SL c 6 jG.enc n g),.d (I k),.d (I d)] σ (.eU [.d (SL none 6 jG.enc (rvN n g k d) (rvG g (pIx n g k).toNat d)),.d (I (TK n g k d))]):=by
 have hlt:=pIx_lt n g k;refine aA.bs false func243 fun hwf=> ?_;refine go false (sm ?_);refine aO.mk (mV _ c n g hn) (sm ?_);refine go false (sm ?_);refine aJ [0,2,4] ?_ ?_<;>intro c0 d0
 ·have hz:TK n g k d=1:=by unfold TK;rw[if_pos (by simpa using d0)]
  simp[go_sem];refine go true (sm ?_);refine aj ?_;unfold rvN;rw[hz];simp[go_sem,Go.aU.bC]
 ·simp[go_sem];refine aO.mk ((show aA prog 130 _ _ (.d (I (pIx n g k))) from MS _ c n g _ _ (fun r=>r.ID==k) hn (fun i hi=>FZ σ [] (g i) k))) (sm ?_);refine go false (sm ?_);refine go false (sm ?_);refine aJ [0,2,8] ?_ ?_<;>intro c1 d1
  ·have hz:TK n g k d=7:=by unfold TK;rw[if_neg (by simpa using d0),if_pos (by omega)]
   simp[go_sem];refine go true (sm ?_);refine aj ?_;unfold rvN;rw[hz];simp[go_sem,Go.aU.bC]
  ·obtain⟨i,hi⟩: ∃i:Nat,pIx n g k=(i:Int):=⟨(pIx n g k).toNat,by omega⟩;have hin:i<n:=by omega
   simp[go_sem,hi];refine go false ?_;simp[go_sem];refine aJ [0,2,8] ?_ ?_<;>intro c2 d2
   ·have hz:TK n g k d=2:=by unfold TK;rw[if_neg (by simpa using d0),if_neg (by omega),if_pos (by omega)]
    simp[go_sem];refine go true ?_;simp[go_sem];refine aj ?_;unfold rvN;rw[hz];simp[go_sem,Go.aU.bC]
   ·simp[go_sem];repeat refine⟨by omega,?_⟩
    refine go false ?_;simp[go_sem];refine aJ [0,2,8] ?_ ?_<;>intro c3 d3
    ·have hz:TK n g k d=11:=by unfold TK;rw[if_neg (by simpa using d0),if_neg (by omega),if_neg (by omega),if_pos (by rw[hi];simpa using d3)]
     simp[go_sem];refine go true ?_;simp[go_sem];refine aj ?_;unfold rvN;rw[hz];simp[go_sem,Go.aU.bC]
    ·have hz:TK n g k d=0:=by unfold TK;rw[if_neg (by simpa using d0),if_neg (by omega),if_neg (by omega),if_neg (by rw[hi];simpa using d3)]
     simp[go_sem];refine aO.gen (JF _ c n g hn) ?_;rintro r σ' X ⟨rfl,rfl,rfl⟩;simp[go_sem];refine go false ?_;simp[go_sem];repeat refine⟨by omega,?_⟩
     refine go false ?_;simp[go_sem];refine aJ [2,8,9] ?_ ?_<;>intro c4 d4
     ·have hz1:rvN n g k d=n-1:=by unfold rvN;rw[hz,hi];simp only[Int.toNat_natCast];rw[if_neg (by simp),if_pos (by simpa using d4)]
      have hz2:rvG g i d=without g i:=by unfold rvG;rw[if_pos (by simpa using d4)]
      simp(disch:=first|omega|simp) [go_sem,aH];have h:=nA (XA (σ++[.var [.d (I k)]]) [] n g i hin hn);refine aO.gen h ?_;rintro r σ' X ⟨rfl,rfl,rfl⟩;simp(disch:=first|omega|simp) [go_sem];refine go true ?_;simp[go_sem];refine aF hwf (σ.length+1) ?_;rw[hz,hz1,hz2];exact aj sc
     ·have hz1:rvN n g k d=n:=by unfold rvN;rw[hz,hi];simp only[Int.toNat_natCast];rw[if_neg (by simp),if_neg (by simpa using d4)]
      have hz2:rvG g i d=iD g i { g i with In:=⟨(g i).In.From,d⟩ } :=by unfold rvG;rw[if_neg (by simpa using d4)]
      simp[go_sem];repeat refine⟨by omega,?_⟩
      refine aY (σ.length+1) (fun q=>jG.enc (iD g i { g i with In:=⟨(g i).In.From,d⟩ } q)) (by simp[go_sem];exact⟨rfl,rfl,rfl⟩) (by intro q hq;unfold iD;by_cases h:q=i<;>simp[h,jG.enc]) (by simp[go_sem];rfl) ?_;refine go false ?_;simp[go_sem];refine go true ?_;simp[go_sem];refine aF hwf (σ.length+1) ?_;rw[hz,hz1,hz2];exact aj sc
theorem Td(τ:List aG)(r:Bx)(k:Int):aA prog 363 [.agg (r.enc.map .d),.ptr σ.length 0] (σ++ .var [.d (I k)]::τ) (.d (B (r.ID==k))):=by
 refine aA.bs true func363 fun hwf=> ?_;exact aj so
theorem X3(c:Option Nat)(n:Nat)(g:Nat->Bx)(k:Int)(hn:n<1000000000):aA prog 318 [.d (SL c 5 Bx.enc n g),.d (I k)] σ (.d (I (lQ n g k))):=by
 refine aA.bs true func318 fun hwf=> ?_;refine aO.mk (uO _ c n g _ _ (fun r=>r.ID==k) hn (fun i hi=>Td σ [] (g i) k)) (sm ?_);refine aj ?_;simp[go_sem,lQ]<;>omega
theorem Tc(τ:List aG)(r:Cnt)(k:Int):aA prog 364 [.agg (r.enc.map .d),.ptr σ.length 0] (σ++ .var [.d (I k)]::τ) (.d (B (r.Unit==k))):=by
 refine aA.bs true func364 fun hwf=> ?_;exact aj so
theorem zB(c:Option Nat)(n:Nat)(g:Nat->Bx)(u:Int)(hn:n<1000000000)(hN: ∀i,i<n->(g i).nc<1000000000):aA prog 319 [.d (SL c 5 Bx.enc n g),.d (I u)] σ (.eU [.d (I (N8 n g u).1),.d (I (N8 n g u).2)]):=by
 refine aA.bs true func319 fun hwf=> ?_;refine kQ (α:=Nat) true [3,9,10,11] (fun i=>[(11,.d (I i))]) (fun i=>σ++[.var [.d (I u)]]) (fun i=>i<=n/\N8 n g u=GN g u i (n-i)) (fun i=>n-i) 0 ?_ (hx:=⟨by simp,rfl⟩);rintro i ⟨hi,hx⟩;simp[go_sem];refine aJ [3,9,10,11] ?_ ?_<;>intro c0 d0
 ·have hst:=whGo_step (g:=g) (u:=u) d0;simp[go_sem];repeat refine⟨by omega,?_⟩
  refine aO.mk ((show aA prog 298 _ _ (.d (I (cIx (g i) u))) from MV _ none (g i).nc (g i).gc _ _ (fun r=>r.Unit==u) (hN i d0) (fun q hq=>by have h:=Tc σ [.var ((g i).enc.map .d)] ((g i).gc q) u;simpa[Bx.enc] using h))) ?_;simp[go_sem];refine aJ [3,6,8,9,10,11] ?_ ?_<;>intro c1 d1
  ·have hz:N8 n g u=((i:Int),cIx (g i) u):=by rw[hx,hst,if_pos (by omega)]
   simp[go_sem];rw[hz];exact aj sc
  ·simp(disch:=first|omega|simp) [go_sem,aH];refine gB (i+1) ⟨by omega,by rw[hx,hst,if_neg (by omega)]⟩ (h:=by simp[go_sem]<;>omega) (hσ:=by simp[go_sem]) (hb:=au (by simp[go_sem]))
 ·have hz:N8 n g u=(-1,-1):=by rw[hx,show n-i=0 by omega,GN]
  simp[go_sem];refine go true (sm ?_);rw[hz];exact aj sc
theorem JV(c:Option Nat)(n:Nat)(g:Nat->Bx)(u:Int)(hn:n<1000000000)(hN: ∀i,i<n->(g i).nc<1000000000):aA prog 251 [.d (SL c 5 Bx.enc n g),.d (I u)] σ (.eU [.d (I (nC n g u).1),.d (I (nC n g u).2.1),.d (B (nC n g u).2.2)]):=by
 refine aA.bs true func251 fun hwf=> ?_;refine aO.mk (zB _ c n g u hn hN) (sm ?_);refine fM.mk' (.d (I (fO n g))) (fun _=>pU _ c n g hn hN) (sm ?_);refine aJ [0,7,8] ?_ ?_<;>intro c0 d0
 ·have hz:nC n g u=(0,0,false):=by unfold nC;rw[if_pos];by_cases h:(N8 n g u).1<0;exact .inl h;right;simp[h] at c0;simpa using c0
  simp[go_sem];rw[hz];exact aj sc
 ·have hnn: ¬(N8 n g u).1<0:=by intro h;simp[h] at c0
  have hck:fO n g=0:=by simp[hnn] at c0;simpa using c0
  obtain⟨q,p,hq,hp,h1,h2⟩:=whR_at hnn;have hz:nC n g u=((g q).ID,(p:Int),true):=by unfold nC;rw[if_neg (by rintro(h|h);exact hnn h;exact h hck),h1,h2];simp
  simp[go_sem,h1,h2];repeat refine⟨by omega,?_⟩
  rw[hz];exact aj sc
theorem bIx_ok{n:Nat}{g:Nat->Bx}{k:Int}(h: ¬lQ n g k<0): ∃i:Nat,lQ n g k=(i:Int)/\i<n:=⟨(lQ n g k).toNat,by omega,by have:=X6 n g k;omega⟩
theorem JU(c:Option Nat)(n:Nat)(g:Nat->Bx)(hn:n<1000000000)(hN: ∀i,i<n->(g i).nc<1000000000):CS prog 320 [.d (SL c 5 Bx.enc n g)] σ (fun r σ' X=>r= .ms σ.length 5 0 n/\σ'=σ++[.arr 5 n fun i=>Bx.enc (g i)]/\X=[]):=by
 refine CS.bsW true func320 fun hwf=> ?_;refine aO.gen (NM _ c n g hn) ?_;rintro r σ' X ⟨rfl,rfl,rfl⟩;simp[go_sem];refine kQ (α:=Nat) false [3,8,9] (fun i=>[(9,.d (I i))]) (fun i=>σ++[.arr 5 n (fun i=>Bx.enc (g i))]) (fun i=>i<=n) (fun i=>n-i) 0 ?_;rintro i hi;simp[go_sem];refine go false (sm ?_);refine aJ [3,8,9] ?_ ?_<;>intro c0 d0
 ·simp[go_sem];refine go false (sm ?_);repeat refine⟨by omega,?_⟩
  refine aO.mk (NK _ none (g i).nc (g i).gc (hN i d0)) (sm ?_);repeat refine⟨by omega,?_⟩
  refine aY σ.length (fun i=>Bx.enc (g i)) (by simp[go_sem];exact⟨rfl,rfl,rfl⟩) (by intro q hq;by_cases h:q=i<;>simp[h,Bx.enc]) (by simp[go_sem];rfl) ?_;refine go false ?_;simp(disch:=first|omega|simp) [go_sem,aH];refine gB (i+1) (by omega) (h:=by simp[go_sem]<;>omega) (hσ:=by simp[go_sem])
 ·simp[go_sem];refine go true (sm ?_);exact aj sc
theorem RG(c:Option Nat)(n:Nat)(g:Nat->Cnt)(i:Nat)(x:Cnt)(hi:i<=n)(hn:n<1000000000):aA prog 321 [.d (SL c 2 Cnt.enc n g),.d (I i),.agg (x.enc.map .d)] σ (.d (SL none 2 Cnt.enc (n+1) (lU g i x))):=by
 refine aA.bd true func321 fun hwf=> ?_;simp[go_sem];apply pV 5 1 82 (.ms (σ.length+1) 2 0 n) (.arr 2 n (fun i=>Cnt.enc (g i))) T.mixed (by kernel_rfl)
 ·intro τ K hK;simp[go_sem];exact hK _ _
 ·simp[go_sem];exact CS.mono (JI _ c n g hn) (by rintro r σ' X ⟨rfl,rfl,rfl⟩;simp[Cnt.enc])
 intro K hK;simp[go_sem];have h:=nA (Xk (σ++[.var (x.enc.map .d)]) [] n g x i hi hn);refine aO.gen h ?_;rintro r σ' X ⟨rfl,rfl,rfl⟩;simp[go_sem,hwf.one];refine hK _ ?_;refine go true ?_;simp[go_sem];exact aj sc
theorem Uk(c:Option Nat)(n:Nat)(g:Nat->Cnt)(i:Nat)(hi:i<n)(hn:n<1000000000):aA prog 322 [.d (SL c 2 Cnt.enc n g),.d (I i)] σ (.d (SL none 2 Cnt.enc (n-1) (without g i))):=by
 have hw:=wS i;refine aA.bd true func322 fun hwf=> ?_;simp(disch:=first|omega|simp) [go_sem];refine aO.gen (JI _ c n g hn) ?_;rintro r σ' X ⟨rfl,rfl,rfl⟩;simp(disch:=first|omega|simp) [go_sem,hw];refine aO.gen (XB σ [] n g i hi hn) ?_;rintro r σ' X ⟨rfl,rfl,rfl⟩;simp(disch:=first|omega|simp) [go_sem];refine bK (σ.length) (by simp[go_sem];exact⟨rfl,rfl,rfl⟩) (by simp[go_sem];rfl) (by simp[go_sem,hwf.sZ,hwf.qH];rfl) ?_;exact aj sc
theorem box_Put_cs(c:Option Nat)(n:Nat)(g:Nat->Bx)(k at_:Int)(x:Cnt)(hn:n<1000000000)(hN: ∀i,i<n->(g i).nc<1000000000):aA prog 250 [.d (SL c 5 Bx.enc n g),.d (I k),.d (I at_),.agg (x.enc.map .d)] σ (.eU [.d (SL none 5 Bx.enc (if wR n g k at_ x=0 then n else 0) (putG g (lQ n g k).toNat at_.toNat x)),.d (I (wR n g k at_ x))]):=by
 refine aA.bs true func250 fun hwf=> ?_;refine aO.mk (pU _ c n g hn hN) (sm ?_);refine aJ [0,1,2,7] ?_ ?_<;>intro c0 d0
 ·have hz:wR n g k at_ x=1:=by unfold wR;rw[if_pos (by simpa using d0)]
  simp[go_sem];refine aj ?_;rw[hz];simp[go_sem,Go.aU.bC]
 ·simp[go_sem];refine aO.mk (X3 _ c n g k hn) (sm ?_);refine aJ [0,2,7,10] ?_ ?_<;>intro c1 d1
  ·have hz:wR n g k at_ x=7:=by unfold wR;rw[if_neg (by simpa using d0),if_pos (by omega)]
   simp[go_sem];refine aj ?_;rw[hz];simp[go_sem,Go.aU.bC]
  ·obtain⟨i,hi,hin⟩:=bIx_ok (n:=n) (g:=g) (k:=k) (by omega);have hck:fO n g=0:=by simpa using d0
   have hbx:=rO ((kZ hck).2 i hin);simp[go_sem,hi];refine aO.mk (zB _ c n g x.Unit hn hN) ?_;simp[go_sem,hin];refine aO.mk (qM _ at_ 0 (g i).nc) ?_;simp[go_sem];refine fM.mk' (.d (B (pJ x))) (fun hg=>yt _ x) ?_;simp[go_sem];refine aJ [0,2,7,10,11,13] ?_ ?_<;>intro c2 d2
   ·have hz:wR n g k at_ x=2:=by unfold wR;rw[if_neg (by simpa using d0),if_neg (by omega),if_pos (by rw[hi];simp only[Int.toNat_natCast];simpa using d2)]
    simp[go_sem];refine aj ?_;rw[hz];simp[go_sem,Go.aU.bC]
   ·have hn2: ¬(qc at_ 0 (g (lQ n g k).toNat).nc=false\/pJ x=false):=by rw[hi];simp only[Int.toNat_natCast];simpa using d2
    simp[go_sem];refine aJ [0,2,7,10,13] ?_ ?_<;>intro c3 d3
    ·have hz:wR n g k at_ x=6:=by unfold wR;rw[if_neg (by simpa using d0),if_neg (by omega),if_neg hn2,if_pos (by simpa using d3)]
     simp[go_sem];refine aj ?_;rw[hz];simp[go_sem,Go.aU.bC]
    ·simp[go_sem];refine aJ [0,2,7,10,13] ?_ ?_<;>intro c4 d4
     ·have hz:wR n g k at_ x=8:=by unfold wR;rw[if_neg (by simpa using d0),if_neg (by omega),if_neg hn2,if_neg (by simpa using d3),if_pos (by rw[hi];simp only[Int.toNat_natCast];omega)]
      simp[go_sem];refine aj ?_;rw[hz];simp[go_sem,Go.aU.bC]
     ·have hcx:pJ x=true:=Classical.byContradiction fun h=>hn2 (.inr (by simpa using h));have hxt:=fJ.1 (show qc x.J6 1 10000=true by simp[pJ] at hcx;exact hcx.2);have htb:=thk_bd hbx.2.2.2 (g i).nc (Nat.le_refl _);have hw:IntKind.i64.wrap (yH (g i).gc (g i).nc+x.J6)=yH (g i).gc (g i).nc+x.J6:=by simp(disch:=omega) only[aH]
      simp[go_sem];refine T.dr 10 fun K hK=> ?_;simp[go_sem];refine dF.mk (JR _ none (g i).nc (g i).gc (by omega) hbx.2.2.2) ?_;simp[go_sem,hw];refine hK _ ?_;refine go true ?_;simp[go_sem];refine aJ [0,2,7,10] ?_ ?_<;>intro c5 d5
      ·have hz:wR n g k at_ x=12:=by unfold wR;rw[if_neg (by simpa using d0),if_neg (by omega),if_neg hn2,if_neg (by simpa using d3),if_neg (by rw[hi];simp only[Int.toNat_natCast];omega),if_pos (by rw[hi];simp only[Int.toNat_natCast];simpa[hw] using d5)]
       simp[go_sem];refine aj ?_;rw[hz];simp[go_sem,Go.aU.bC]
      ·have hz:wR n g k at_ x=0:=by unfold wR;rw[if_neg (by simpa using d0),if_neg (by omega),if_neg hn2,if_neg (by simpa using d3),if_neg (by rw[hi];simp only[Int.toNat_natCast];omega),if_neg (by rw[hi];simp only[Int.toNat_natCast];simpa[hw] using d5)]
       obtain⟨p,rfl,hp⟩: ∃p:Nat,at_=(p:Int)/\p<=(g i).nc:=⟨at_.toNat,by simp[qc] at hn2;omega,by simp[qc,hi] at hn2;omega⟩;simp[go_sem];refine aO.gen (JU _ c n g hn hN) ?_;rintro r σ' X ⟨rfl,rfl,rfl⟩;simp[go_sem];refine T.dr 12 fun K hK=> ?_;simp[go_sem,hin];refine dF.mk (RG _ none (g i).nc (g i).gc p x hp (by omega)) ?_;simp[go_sem,hin];refine hK _ ?_;refine aY (σ.length+2) (fun q=>Bx.enc (putG g i p x q)) (by simp[go_sem];exact⟨rfl,rfl,rfl⟩) (by intro q hq;unfold putG iD;by_cases h:q=i<;>simp[h,Bx.enc]) (by simp[go_sem];rfl) ?_;refine go false ?_;simp[go_sem];refine go true ?_;simp[go_sem];refine aF hwf (σ.length+2) ?_;rw[hz];exact aj sc
theorem box_Take_cs(c:Option Nat)(n:Nat)(g:Nat->Bx)(u:Int)(hn:n<1000000000)(hN: ∀i,i<n->(g i).nc<1000000000):aA prog 252 [.d (SL c 5 Bx.enc n g),.d (I u)] σ (.eU [.d (SL none 5 Bx.enc (if vM n g u=0 then n else 0) (Uz g (N8 n g u).1.toNat (N8 n g u).2.toNat)),.agg ((if vM n g u=0 then(g (N8 n g u).1.toNat).gc (N8 n g u).2.toNat else⟨0,0⟩).enc.map .d),.d (I (vM n g u))]):=by
 refine aA.bs true func252 fun hwf=> ?_;refine aO.mk (pU _ c n g hn hN) (sm ?_);refine aJ [0,1,5] ?_ ?_<;>intro c0 d0
 ·have hz:vM n g u=1:=by unfold vM;rw[if_pos (by simpa using d0)]
  simp[go_sem];refine aj ?_;rw[hz];simp[go_sem,eu,Go.aU.bC]
 ·simp[go_sem];refine aO.mk (zB _ c n g u hn hN) (sm ?_);refine aJ [0,5,7,8] ?_ ?_<;>intro c1 d1
  ·have hz:vM n g u=7:=by unfold vM;rw[if_neg (by simpa using d0),if_pos (by omega)]
   simp[go_sem];refine aj ?_;rw[hz];simp[go_sem,eu,Go.aU.bC]
  ·have hz:vM n g u=0:=by unfold vM;rw[if_neg (by simpa using d0),if_neg (by omega)]
   obtain⟨q,p,hq,hp,h1,h2⟩:=whR_at (n:=n) (g:=g) (u:=u) (by omega);have hck:fO n g=0:=by simpa using d0
   have hbx:=rO ((kZ hck).2 q hq);simp[go_sem,h1,h2];refine aO.gen (JU _ c n g hn hN) ?_;rintro r σ' X ⟨rfl,rfl,rfl⟩;simp[go_sem,hq];refine aO.mk (Uk _ none (g q).nc (g q).gc p hp (by omega)) ?_;simp[go_sem,hq];refine aY (σ.length+1) (fun l=>Bx.enc (Uz g q p l)) (by simp[go_sem];exact⟨rfl,rfl,rfl⟩) (by intro l hl;unfold Uz iD;by_cases h:l=q<;>simp[h,Bx.enc]) (by simp[go_sem];rfl) ?_;refine T.dr 10 fun K hK=> ?_;simp[go_sem,hq,hp];refine hK _ ?_;refine go true ?_;simp[go_sem];refine aF hwf (σ.length+1) ?_;rw[hz];exact aj sc
end Go.Proofs.YtmahphgjkpgidaaGreatDoor
