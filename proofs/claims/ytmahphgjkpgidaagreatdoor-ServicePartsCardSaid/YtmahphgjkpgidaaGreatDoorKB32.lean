/- Contracts and lemmas, joined out of smaller texts by a program; no conditions. -/
import Derived.Test.YtmahphgjkpgidaaGreatDoorKB30
import Derived.Test.YtmahphgjkpgidaaGreatDoorKB31
set_option linter.unusedVariables false
set_option linter.unusedSimpArgs false
set_option maxHeartbeats 1000000
set_option maxRecDepth 100000
namespace Go.Proofs.YtmahphgjkpgidaaGreatDoor
open Go.aU Go.dh Go.Proofs.Tryz
variable (σ : List aG)
def uY(g:Nat->Int):Nat->List Int
 |0=>[]
 |k+1=>if k=0\/g k≠g (k-1) then uY g k++[g k] else uY g k
theorem XE(g:Nat->Int): ∀k,(uY g k).length<=k
 |0=>Nat.le_refl _
 |k+1=>by rw[uY];have:=XE g k;split<;>(try simp)<;>omega
theorem XF{g:Nat->Int}{k:Nat}(h:k=0\/g k≠g (k-1)):uY g (k+1)=uY g k++[g k]:=by rw[uY,if_pos h]
theorem SA{g:Nat->Int}{k:Nat}(h0:0<k)(h:g k=g (k-1)):uY g (k+1)=uY g k:=by rw[uY,if_neg (by rintro(h1|h1);omega;exact h1 h)]
theorem Jv{g:Nat->Int} : ∀{k:Nat},(∀q,0<q->q<k->g q≠g (q-1))->(uY g k).length=k/\∀i,i<k->nth (uY g k) i=g i
 |0,_=>⟨rfl,fun i hi=>by omega⟩
 |k+1,h=>by
  obtain⟨h1,h2⟩:=Jv (k:=k) fun q hq hk=>h q hq (by omega);rw[XF (by rcases Nat.eq_zero_or_pos k with e|e;exact .inl e;exact .inr (h k e (by omega)))];refine⟨by simp[h1],fun i hi=> ?_⟩;unfold nth;by_cases hik:i<k
  ·rw[List.getElem?_append_left (by omega)];exact h2 i hik
  ·obtain rfl:i=k:=by omega
   rw[List.getElem?_append_right (by omega),h1];simp
theorem XD{g:Nat->Int}{x:Int} : ∀{k:Nat},x∈uY g k↔∃i,i<k/\g i=x
 |0=>by simp[uY]
 |k+1=>by
  by_cases h:k=0\/g k≠g (k-1)
  ·rw[XF h,List.mem_append,XD (k:=k)];constructor
   ·rintro(⟨i,hi,rfl⟩|h1)
    ·exact⟨i,by omega,rfl⟩
    ·exact⟨k,by omega,by simpa using(List.mem_singleton.1 h1).symm⟩
   ·rintro⟨i,hi,rfl⟩;by_cases hik:i=k
    ·subst hik;exact .inr (by simp)
    ·exact .inl ⟨i,by omega,rfl⟩
  ·have h1:0<k/\g k=g (k-1):=by
    constructor
    ·exact Nat.pos_of_ne_zero fun e=>h (.inl e)
    ·exact Classical.byContradiction fun e=>h (.inr e)
   rw[SA h1.1 h1.2,XD (k:=k)];constructor
   ·rintro⟨i,hi,rfl⟩;exact⟨i,by omega,rfl⟩
   ·rintro⟨i,hi,rfl⟩;by_cases hik:i=k
    ·subst hik;exact⟨i-1,by omega,h1.2.symm⟩
    ·exact⟨i,by omega,rfl⟩
def stU(g:Nat->jH)(s:Span)(n:Nat):List Int:=uY (nth (EY (BG g s n))) (BG g s n).length
theorem stU_mem{g:Nat->jH}{s:Span}{n:Nat}{x:Int} :x∈stU g s n↔x∈BG g s n:=by
 unfold stU;rw[XD,←(qp (BG g s n)).mem_iff,←(qp (BG g s n)).length_eq];constructor
 ·rintro⟨i,hi,rfl⟩;unfold nth;rw[List.getElem?_eq_getElem hi];simp
 ·intro h;obtain⟨i,hi,rfl⟩:=List.getElem_of_mem h;exact⟨i,hi,by unfold nth;rw[List.getElem?_eq_getElem hi];rfl⟩
theorem stU_any{g:Nat->jH}{s:Span}{n:Nat}(p:Int->Bool):(stU g s n).any p=(BG g s n).any p:=by
 rw[Bool.eq_iff_iff];simp only[List.any_eq_true];exact⟨fun⟨x,h,hp⟩=>⟨x,stU_mem.1 h,hp⟩,fun⟨x,h,hp⟩=>⟨x,stU_mem.2 h,hp⟩⟩
theorem stU_len(g:Nat->jH)(s:Span)(n:Nat):(stU g s n).length<=n+1:=Nat.le_trans (XE _ _) (Ph g s n).2
def fullB(k:Int)(n:Nat)(g:Nat->jH)(s:Span):Bool:=(BG g s n).any fun d=>decide (k<=(l7 g d n:Int))
def Us(k:Int)(n:Nat)(g:Nat->jH)(b:jH):Int:=if mD b.ID=false\/mD b.Reader=false\/Qm b.In=false then 2 else if 0<n/\b.ID<=(g (n-1)).ID then 5 else if busyB n g b.Reader b.In then 6 else if fullB k n g b.In then 12 else 0
def qh(k:Int)(n:Nat)(g:Nat->jH):Int:=if k<1\/32<k then 1 else if 1024<n then 8 else aQ (fun i=>Us k i g (g i)) 0 n
def LV(k:Int)(n:Nat)(g:Nat->jH)(b:jH):Int:=if qh k n g≠0 then 1 else if 1024<=n then 8 else Us k n g b
theorem compactI_cs(τ:List aG)(n:Nat)(g:Nat->Int)(hn:n<1000000000):CS prog 349 [.ms σ.length 1 0 n] (σ++ .arr 1 n (fun i=>encI (g i))::τ) (fun r σ' X'=>X'=[]/\r= .ms σ.length 1 0 (uY g n).length/\σ'=σ++ .arr 1 (uY g n).length (fun q=>encI (nth (uY g n) q))::τ):=by
 refine CS.NT true [] func349 fun hwf=> ?_;refine aJ [0] ?_ ?_<;>intro c0 d0
 ·obtain⟨h1,h2⟩:=Jv (g:=g) (k:=n) fun q hq hk=>by omega
  simp[go_sem];refine aY σ.length (fun q=>encI (nth (uY g n) q)) (by simp[go_sem];exact⟨rfl,rfl,rfl⟩) (fun q hq=>by rw[h2 q (by omega)];rfl) (by simp[go_sem];rfl) ?_;refine aj ?_;simp[go_sem,h1];exact au (by simp[go_sem,ay])
 ·simp[go_sem];refine kQ (α:=Nat) true [0,3] (fun i=>[(3,.d (I i))]) (fun i=>σ++ .arr 1 n (fun i=>encI (g i))::τ) (fun i=>1<=i/\i<=n/\(∀q,0<q->q<i->g q≠g (q-1))) (fun i=>n-i) 1 ?_ (hx:=⟨by omega,by omega,fun q hq hk=>by omega⟩);rintro i ⟨hi0,hi,hq⟩;have hwp:=dn (i:=i) (by omega);have htn:((i:Int)-1).toNat=i-1:=by omega
  simp[go_sem];refine aJ [0,3] ?_ ?_<;>intro c1 d1
  ·simp[go_sem];refine T.dr 10 fun K hK=> ?_;simp[go_sem,hwp,htn];repeat refine⟨by omega,?_⟩
   refine hK _ ?_;refine go true ?_;simp[go_sem];refine aJ [0,3] ?_ ?_<;>intro c2 d2
   ·obtain⟨hs1,hs2⟩:=Jv (g:=g) (k:=i) hq;have hd1:uY g (i+1)=uY g i:=SA (by omega) (by simpa using d2);have hl0:(uY g (i+1)).length=i:=by rw[hd1,hs1]
    simp[go_sem];repeat refine⟨by omega,?_⟩
    refine aY σ.length (fun q=>if q<(uY g (i+1)).length then encI (nth (uY g (i+1)) q) else encI (g q)) (by simp[go_sem];exact⟨rfl,rfl,rfl⟩) (fun q hq=>by split;(rename_i h;rw[hd1,hs2 q (by omega)];rfl);rfl) (by simp[go_sem];rfl) ?_;refine Pz (α:=Nat) true [0,3,4,5] (fun j=>[(3,.d (I (uY g (i+j)).length)),(5,.d (I j))]) (fun j=>σ++ .arr 1 n (fun q=>if q<(uY g (i+j)).length then encI (nth (uY g (i+j)) q) else encI (g q))::τ) (fun j=>1<=j/\i+j<=n/\(uY g (i+j)).length<i+j) (fun j=>n-(i+j)) 1 (by simp[go_sem,hl0]) (rfl) (⟨by omega,by omega,by omega⟩) ?_;rintro j ⟨hj0,hj,hl⟩;have hwj:=dn (i:=j) (by omega);have htj:((j:Int)-1).toNat=j-1:=(by omega);have hr1: ¬i+j<(uY g (i+j)).length:=(by omega);have hr2: ¬i+(j-1)<(uY g (i+j)).length:=by omega
    simp[go_sem];refine aJ [0,3,4,5] ?_ ?_<;>intro c3 d3
    ·simp[go_sem];refine T.dr 10 fun K hK=> ?_;simp[go_sem,hwj,htj,hr1,hr2];repeat refine⟨by omega,?_⟩
     refine hK _ ?_;refine go false ?_;simp[go_sem];refine aJ [0,3,4,5] ?_ ?_<;>intro c4 d4
     ·have hc4:uY g (i+(j+1))=uY g (i+j)++[g (i+j)]:=XF (k:=i+j) (.inr (by rw[show i+j-1=i+(j-1) by omega];simpa using d4));have hl4:(uY g (i+(j+1))).length=(uY g (i+j)).length+1:=by rw[hc4];simp
      have hw4:=wrap_succ (i:=(uY g (i+j)).length) (by omega);simp[go_sem,hr1];repeat refine⟨by omega,?_⟩
      refine aY σ.length (fun q=>if q<(uY g (i+(j+1))).length then encI (nth (uY g (i+(j+1))) q) else encI (g q)) (by simp[go_sem];exact⟨rfl,rfl,rfl⟩) (fun q hq=>by
       simp only[hl4];by_cases h1:q=(uY g (i+j)).length
       ·subst h1;simp[hc4,nth,encI]
       ·by_cases h2:q<(uY g (i+j)).length
        ·simp[hc4,h1,h2,nth,encI,Nat.lt_succ_of_lt h2]
        ·simp[h1,h2,show ¬q<(uY g (i+j)).length+1 by omega,encI]) (by simp[go_sem];rfl) ?_
      refine go false ?_;simp(disch:=first|omega|simp) [go_sem,hl4,hw4];refine go true ?_;simp(disch:=first|omega|simp) [go_sem,aH];refine gB (j+1) ⟨by omega,by omega,by omega⟩ (h:=by simp[go_sem,hl4]<;>omega) (hσ:=by simp[go_sem,hl4]) (hb:=au (by simp[go_sem,ay]))
     ·have hc4:uY g (i+(j+1))=uY g (i+j):=SA (k:=i+j) (by omega) (by rw[show i+j-1=i+(j-1) by omega];simpa using d4);have hl4:(uY g (i+(j+1))).length=(uY g (i+j)).length:=by rw[hc4]
      simp(disch:=first|omega|simp) [go_sem,aH];refine gB (j+1) ⟨by omega,by omega,by omega⟩ (h:=by simp[go_sem,hc4]<;>omega) (hσ:=by simp[go_sem,hc4]) (hb:=au (by simp[go_sem,ay]))
    ·have hn3:i+j=n:=by omega
     have hle:=XE g n;simp[go_sem,hn3];refine go true ?_;simp[go_sem];repeat refine⟨by omega,?_⟩
     refine qN σ.length (uY g n).length (fun q=>encI (nth (uY g n) q)) (by simp[go_sem];exact⟨rfl,rfl,rfl⟩) (by omega) (fun q hq=>by simp only[setRows];rw[if_neg (by omega),if_pos hq];rfl) (by simp[go_sem];rfl) ?_;refine aj (sm ?_);exact au (by simp[go_sem,ay])
   ·simp(disch:=first|omega|simp) [go_sem,aH];refine gB (i+1) ⟨by omega,by omega,fun q h1 h2=>by by_cases h3:q=i;subst h3;simpa using d2;exact hq q h1 (by omega)⟩ (h:=by simp[go_sem]<;>omega) (hσ:=by simp[go_sem])
  ·obtain rfl:i=n:=by omega
   obtain⟨h1,h2⟩:=Jv (g:=g) (k:=i) hq;simp[go_sem];refine go true ?_;simp[go_sem];refine aY σ.length (fun q=>encI (nth (uY g i) q)) (by simp[go_sem];exact⟨rfl,rfl,rfl⟩) (fun q hq=>by rw[h2 q (by omega)];rfl) (by simp[go_sem];rfl) ?_;refine aj ?_;simp[go_sem,h1];exact au (by simp[go_sem,ay])
theorem Ia(c:Option Nat)(n:Nat)(g:Nat->jH)(s:Span)(hn:n<100000000):aA prog 302 [.d (SL c 4 jH.enc n g),.agg [.d (I s.From),.d (I s.Until)]] σ (.d (SL none 1 encI (stU g s n).length (nth (stU g s n)))):=by
 refine aA.be func302 fun hwf=> ?_;refine ak fun K hK=>sm ?_;refine hK _ ?_;refine awp_lit_seq 2 (by rintro o ⟨⟩;rfl) fun K hK=> ?_;simp[go_sem];refine hK _ ?_;refine aK ?_;refine ak fun K hK=>sm ?_;refine hK _ ?_;refine aS ?_;refine aY (σ.length+1) (fun q=>encI (nth (BG g s 0) q)) (by simp[go_sem];exact⟨rfl,rfl,rfl⟩) (fun q hq=>by obtain rfl:q=0:=(by omega);rfl) (by simp[go_sem];rfl) ?_;refine bZ [3,5,11,12,13] (by simp[go_sem,bD];rfl) ?_;refine zG [σ.length+1] (by simp) ?_;refine dO (α:=Nat) (fun i=>[(13,.d (I i)),(5,.ms (σ.length+1) 1 0 (BG g s i).length)]) (fun i=>σ++[.var [.d (I s.From),.d (I s.Until)],.arr 1 (BG g s i).length (fun q=>encI (nth (BG g s i) q))]) (fun i=>i<=n) (fun i=>n-i) 0 (by simp[go_sem,(show(BG g s 0).length=1 from rfl)]) (rfl) (by simp) ?_;rintro i hi;have hln:=Ph g s i;refine ak fun K hK=>sm ?_;refine hK _ ?_;refine aK ?_;refine tq [3,5,11,12,13,14] ?_;refine jr ?_ ?_<;>intro c0 d0
 ·refine aX ?_;refine aK ?_;refine aS ?_;refine ak fun K hK=> ?_;simp[go_sem,d0];refine hK _ ?_;refine ak fun K hK=> ?_;simp[go_sem];refine aO.mk (oU _ (g i).In) ?_;simp[go_sem];refine hK _ ?_;refine tq [3,5,7,11,12,13,35] ?_;refine jr ?_ ?_<;>intro c1 d1
  ·have hs:BG g s (i+1)=BG g s i++[(g i).In.From]:=by rw[BG,if_pos (by simpa[stP] using c1)]
   refine aZ fun K hK=> ?_;simp[go_sem,d1,hwf.one];repeat refine⟨by omega,?_⟩
   refine hK _ ?_;refine aY (σ.length+1) (fun q=>encI (nth (BG g s i++[(g i).In.From]) q)) (by simp[go_sem];exact⟨rfl,rfl,rfl⟩) (by exact fun q hq=>Ei (enc:=encI) (x:=(g i).In.From) rfl hq) (by simp[go_sem];rfl) ?_;refine aZ fun K hK=> ?_;simp[go_sem];try simp(disch:=omega) only[aH]
   refine hK _ ?_;refine⟨i+1,dI (by simp[go_sem,hs]) ((au (by simp[go_sem]))) (by(simp[go_sem,hs]<;>omega)),by omega,by first|omega|(dsimp only;omega)⟩
  ·have hs:BG g s (i+1)=BG g s i:=by rw[BG,if_neg (by simpa[stP] using c1)]
   refine aX ?_;refine aZ fun K hK=> ?_;simp[go_sem,c1];try simp(disch:=omega) only[aH]
   refine hK _ ?_;refine⟨i+1,dI (by simp[go_sem,hs]) ((au (by simp[go_sem]))) (by(simp[go_sem,hs]<;>omega)),by omega,by first|omega|(dsimp only;omega)⟩
 ·obtain rfl:i=n:=by omega
  have hln:=Ph g s i;refine fF ?_;refine ak fun K hK=> ?_;simp[go_sem];have h:=nA (Qn (σ++[.var [.d (I s.From),.d (I s.Until)]]) [] (BG g s i).length (BG g s i).length (nth (BG g s i)) hln.1 (Nat.le_refl _) (by omega));refine aO.gen h ?_;rintro r' σ' X ⟨rfl,rfl,L2,hp2,hs2,row,rfl,hrow⟩;rw[Py] at hp2;obtain rfl:=Hr hp2 hs2;simp[go_sem];refine hK _ ?_;refine aY (σ.length+1) (fun q=>encI (nth (EY (BG g s i)) q)) (by simp[go_sem];rfl) (fun q hq=>hrow q hq) (by simp[go_sem];rfl) ?_;refine ak fun K hK=> ?_;simp[go_sem];have h:=nA (compactI_cs (σ++[.var [.d (I s.From),.d (I s.Until)]]) [] (BG g s i).length (nth (EY (BG g s i))) (by omega));refine aO.gen h ?_;rintro r' σ' X ⟨rfl,rfl,rfl⟩;simp[go_sem];refine hK _ ?_;refine aF hwf (σ.length+1) ?_;refine aj ?_;simp[go_sem,stU]
theorem Ib(b1:aG)(τ:List aG)(d:Int)(k:Int)(c:Option Nat)(n:Nat)(g:Nat->jH)(hn:n<100000000):aA prog 303 [.d (I d),.ptr σ.length 0,.ptr (σ.length+2) 0] (σ++ .var [.d (SL c 4 jH.enc n g)]::b1:: .var [.d (I k)]::τ) (.d (B (decide (k<=(l7 g d n:Int))))):=by
 refine aA.bs true func303 fun hwf=> ?_;refine T.dr 5 fun K hK=>sm ?_;refine dF.mk (OE _ c n g d (by omega)) (sm ?_);refine hK _ ?_;refine go true (sm ?_);exact aj so
theorem OC(c:Option Nat)(n:Nat)(g:Nat->jH)(s:Span)(k:Int)(hn:n<100000000):aA prog 222 [.d (SL c 4 jH.enc n g),.agg [.d (I s.From),.d (I s.Until)],.d (I k)] σ (.d (B (fullB k n g s))):=by
 refine aA.bs true func222 fun hwf=> ?_;refine aO.mk (Ia _ c n g s hn) (sm ?_);refine aO.mk ((show aA prog 144 _ _ (.d (B (fullB k n g s))) from by have h:=pG (σ++[.var [.d (SL c 4 jH.enc n g)],.var [.d (I s.From),.d (I s.Until)],.var [.d (I k)]]) none (stU g s n).length (nth (stU g s n)) 303 [.ptr σ.length 0,.ptr (σ.length+2) 0] (fun d=>decide (k<=(l7 g d n:Int))) (by have:=stU_len g s n;omega) (fun i hi=>Ib σ _ [] _ k c n g hn);rw[Py,stU_any] at h;exact h)) ?_;simp[go_sem];exact aj so
theorem xC(k:Int)(c:Option Nat)(n:Nat)(g:Nat->jH)(b:jH)(hn:n<100000000):aA prog 141 [.d (I k),.d (SL c 4 jH.enc n g),.agg (b.enc.map .d)] σ (.d (I (Us k n g b))):=by
 have hwp:=dn (i:=n) (by omega);refine aA.bd true func141 fun hwf=> ?_;simp[go_sem];refine aO.mk (E5 _ b.ID) ?_;simp[go_sem];refine fM.mk' (.d (B (mD b.Reader))) (fun _=>E5 _ b.Reader) ?_;simp[go_sem];refine fM.mk' (.d (B (Qm b.In))) (fun _=>oU _ b.In) ?_;simp[go_sem];refine aJ [0,1,5] ?_ ?_<;>intro c0 d0
 ·have hz:Us k n g b=2:=by unfold Us;rw[if_pos (by simpa[or_assoc] using d0)]
  simp[go_sem];rw[hz];exact aj sc
 ·have hz0: ¬(mD b.ID=false\/mD b.Reader=false\/Qm b.In=false):=by simpa[or_assoc,and_assoc] using d0
  simp[go_sem];refine T.dr 16 fun K hK=> ?_;simp[go_sem,hwp];repeat refine⟨by omega,?_⟩
  refine hK _ ?_;refine go true ?_;simp[go_sem];refine aJ [0,1,5] ?_ ?_<;>intro c1 d1
  ·have hz:Us k n g b=5:=by unfold Us;rw[if_neg hz0,if_pos (by omega)]
   simp[go_sem];rw[hz];exact aj sc
  ·simp[go_sem];refine aO.mk (OD _ c n g b.Reader b.In (by omega)) ?_;simp[go_sem];refine aJ [0,1,5] ?_ ?_<;>intro c2 d2
   ·have hz:Us k n g b=6:=by unfold Us;rw[if_neg hz0,if_neg (by omega),if_pos (by simpa using d2)]
    simp[go_sem];rw[hz];exact aj sc
   ·simp[go_sem];refine aO.mk (OC _ c n g b.In k hn) ?_;simp[go_sem];refine aJ [] ?_ ?_<;>intro c3 d3
    ·have hz:Us k n g b=12:=by unfold Us;rw[if_neg hz0,if_neg (by omega),if_neg (by simpa using d2),if_pos (by simpa using d3)]
     simp[go_sem];rw[hz];exact aj sc
    ·have hz:Us k n g b=0:=by unfold Us;rw[if_neg hz0,if_neg (by omega),if_neg (by simpa using d2),if_neg (by simpa using d3)]
     simp[go_sem];rw[hz];exact aj sc
theorem xE(k:Int)(c:Option Nat)(n:Nat)(g:Nat->jH)(hn:n<100000000):aA prog 105 [.d (I k),.d (SL c 4 jH.enc n g)] σ (.d (I (qh k n g))):=by
 refine aA.bs true func105 fun hwf=> ?_;refine aJ [0,1] ?_ ?_<;>intro c0 d0
 ·have hz:qh k n g=1:=by unfold qh;rw[if_pos (by omega)]
  simp[go_sem];rw[hz];exact aj sc
 ·simp[go_sem];refine aJ [0,1] ?_ ?_<;>intro c1 d1
  ·have hz:qh k n g=8:=by unfold qh;rw[if_neg (by omega),if_pos (by omega)]
   simp[go_sem];rw[hz];exact aj sc
  ·have hz:qh k n g=aQ (fun i=>Us k i g (g i)) 0 (n-0):=by unfold qh;rw[if_neg (by omega),if_neg (by omega)];rfl
   simp[go_sem];refine kQ (α:=Nat) true [0,1,19,20,21] (fun i=>[(21,.d (I i))]) (fun i=>_) (fun i=>i<=n/\qh k n g=aQ (fun i=>Us k i g (g i)) i (n-i)) (fun i=>n-i) 0 ?_ (hx:=⟨by omega,hz⟩);rintro i ⟨hi,hx⟩;simp[go_sem];refine aJ [0,1,19,20,21] ?_ ?_<;>intro c2 d2
   ·have hst:=CZ (e:=fun i=>Us k i g (g i)) d2;simp[go_sem];repeat refine⟨by omega,?_⟩
    refine T.dr 6 fun K hK=>sm ?_;repeat refine⟨by omega,?_⟩
    refine dF.mk (xC _ k _ i g (g i) (by omega)) (sm ?_);refine hK _ ?_;refine go true (sm ?_);refine aJ [0,1,7,19,20,21] ?_ ?_<;>intro c3 d3
    ·have hz1:qh k n g=Us k i g (g i):=by rw[hx,hst,if_pos (by simpa using d3)]
     simp[go_sem];rw[hz1];exact aj sc
    ·simp(disch:=first|omega|simp) [go_sem,aH];refine gB (i+1) ⟨by omega,by rw[hx,hst,if_neg (by simpa using d3)]⟩ (h:=by simp[go_sem]<;>omega)
   ·have hz1:qh k n g=0:=by rw[hx,Gm (by omega)]
    simp[go_sem];refine go true (sm ?_);rw[hz1];exact aj sc
theorem KL(k:Int)(c:Option Nat)(n:Nat)(g:Nat->jH)(b:jH)(hn:n<100000000):aA prog 265 [.d (I k),.d (SL c 4 jH.enc n g),.agg (b.enc.map .d)] σ (.eU [.d (SL none 4 jH.enc (if LV k n g b=0 then n+1 else 0) (aV g n b)),.d (I (LV k n g b))]):=by
 refine aA.bs true func265 fun hwf=> ?_;refine aO.mk (xE _ k c n g hn) (sm ?_);refine aJ [0,1,5] ?_ ?_<;>intro c0 d0
 ·have hz:LV k n g b=1:=by unfold LV;rw[if_pos (by simpa using d0)]
  simp[go_sem];refine aj ?_;rw[hz];simp[go_sem,Go.aU.bC]
 ·simp[go_sem];refine aJ [0,1,5] ?_ ?_<;>intro c1 d1
  ·have hz:LV k n g b=8:=by unfold LV;rw[if_neg (by simpa using d0),if_pos (by omega)]
   simp[go_sem];refine aj ?_;rw[hz];simp[go_sem,Go.aU.bC]
  ·have hz0:LV k n g b=Us k n g b:=by unfold LV;rw[if_neg (by simpa using d0),if_neg (by omega)]
   simp[go_sem];refine aO.mk (xC _ k c n g b hn) (sm ?_);refine aJ [1,5,8] ?_ ?_<;>intro c2 d2
   ·simp[go_sem];refine aj ?_;rw[hz0,if_neg (by simpa using d2)];simp[go_sem,Go.aU.bC]
   ·have hz:LV k n g b=0:=by rw[hz0];simpa using d2
    simp[go_sem];apply pV 4 1 86 (.ms (σ.length+1) 4 0 n) (.arr 4 n (fun i=>jH.enc (g i))) T.mixed (by kernel_rfl)
    ·intro τ K hK;simp[go_sem];exact hK _ _
    ·simp[go_sem];exact CS.mono (XQ _ c n g (by omega)) (by rintro r σ' X ⟨rfl,rfl,rfl⟩;simp[jH.enc])
    intro K hK;simp[go_sem,hwf.one];repeat refine⟨by omega,?_⟩
    refine hK _ ?_;refine go true (sm ?_);refine aF hwf (σ.length+1) ?_;refine aj ?_;rw[hz];simp[go_sem];exact JM (enc:=jH.enc) (x:=b) rfl
def kI:Key->Int
 | .i x=>x
 | .s _=>0
def oD(pl:Int->rU)(p:rU)(ks:List Key):List Int:=(ks.filter fun k=>decide (p=pl (kI k))).map kI
theorem atOf_add{pl:Int->rU}{p:rU}{sn:List Key}{v:Int}(h:p=pl v):oD pl p (sn++[.i v])=oD pl p sn++[v]:=by simp[oD,kI,h]
theorem atOf_no{pl:Int->rU}{p:rU}{sn:List Key}{v:Int}(h: ¬p=pl v):oD pl p (sn++[.i v])=oD pl p sn:=by simp[oD,kI,h]
theorem atOf_perm{pl:Int->rU}{p:rU}{a b:List Key}(h:a.Perm b):(oD pl p a).Perm (oD pl p b):=(h.filter _).map _
theorem atOf_len(pl:Int->rU)(p:rU)(ks:List Key):(oD pl p ks).length<=ks.length:=by unfold oD;rw[List.length_map];exact List.length_filter_le _ _
theorem insK_len(k:Key)(ks:List Key):(kU k ks).length<=ks.length+1:=by unfold kU;split<;>simp
theorem U2{g:Nat->iE} : ∀{k i:Nat} {s:N7},(eG g i s k).2.ks.length<=s.ks.length+k
 |0,i,s=>by simp[eG]
 |k+1,i,s=>by
  rw[eG];split
  ·simp
  ·have h1:=U2 (g:=g) (k:=k) (i:=i+1) (s:=qG s (g i));have h2:(qG s (g i)).ks.length<=s.ks.length+1:=by
    unfold qG;split
    ·exact insK_len _ _
    ·omega
   omega
theorem readL_len(n:Nat)(g:Nat->iE):(bF n g).2.ks.length<=1024:=by
 unfold bF;split
 ·simp[zf]
 ·have:=U2 (g:=g) (k:=n) (i:=0) (s:=zf);simp[zf] at this⊢;omega
theorem kInt{s:N7}(h:J8 s){k:Key}(hk:k∈s.ks): ∃v,k= .i v:=by
 have:=h.kind k hk;cases k with
 |i v=>exact⟨v,rfl⟩
 |s b=>cases this
theorem QM{p q:rU} :p=q↔p.Kind=q.Kind/\p.Of=q.Of:=by cases p;cases q;simp
theorem cat_row{α:Type}[Inhabited α]{enc:α->List D}{l:List α}{x:α}{ds:List D}{sz:Nat}{row:Nat->List D}(hr: ∀i,i<l.length->row i=enc (nth l i))(h:ds.take sz=enc x): ∀i,i<(l++[x]).length->bf l.length row (rowsOf sz ds) i=enc (nth (l++[x]) i):=by
 intro i hi;rw[List.length_append,List.length_singleton] at hi;rw[←Ei (enc:=enc) (x:=x) h hi];unfold bf;split
 ·rename_i h1;exact hr i h1
 ·rfl
theorem Ro{σ xs ys φ us vs:List aG}{Y:List Nat}(h1:lG (σ.length+(xs.length+(φ.length+us.length))) xs ys)(h2:lG (σ.length+(xs.length+(φ.length+us.length))) us vs):aU.Leaves ((σ++(xs++φ))++us) ((σ++(ys++φ.map (bQ Y)))++vs):=by
 obtain⟨l1,g1⟩:=tK h1;obtain⟨l2,g2⟩:=tK h2;refine⟨by simp[l1,l2],fun b z hz=> ?_⟩;rw[List.append_assoc,List.append_assoc] at hz⊢;rw[List.getElem?_append] at hz⊢;split at hz
 ·rename_i hb;rw[if_pos hb];exact .inl hz
 ·rename_i hb;rw[if_neg hb];rw[List.getElem?_append] at hz⊢;rw[l1] at hz;split at hz
  ·rename_i hb2;rw[if_pos hb2];rcases g1 _ _ hz with e|e
   ·exact .inl e
   ·exact .inr (.inl (by simpa[Nat.add_assoc] using e))
  ·rename_i hb2;rw[if_neg hb2];rw[List.getElem?_append] at hz⊢;rw[List.length_map] at hz;split at hz
   ·rename_i hb3;rw[if_pos hb3];simp only[List.getElem?_map,Option.map_eq_some_iff] at hz;obtain⟨y,hy,rfl⟩:=hz;exact .inr (.inr ⟨Y,y,hy,rfl⟩)
   ·rename_i hb3;rw[if_neg hb3];rcases g2 _ _ hz with e|e
    ·exact .inl e
    ·exact .inr (.inl (by simpa[Nat.add_assoc] using e))
theorem CJ{n:Nat} : ∀{xs ys us vs:List aG},lG n xs ys->lG n us vs->lG n (xs++us) (ys++vs)
 |[],[],_,_,_,k=>k
 |x::xs,y::ys,_,_,h,k=>⟨h.1,CJ h.2 k⟩
theorem ML{σ xs ys φ us vs:List aG}(h1:lG (σ.length+(xs.length+(φ.length+us.length))) xs ys)(h2:lG (σ.length+(xs.length+(φ.length+us.length))) us vs):aU.Leaves ((σ++(xs++φ))++us) ((σ++(ys++φ))++vs):=by
 have h:=au (σ:=σ) (xs:=xs++(φ++us)) (ys:=ys++(φ++vs)) (by
  rw[show(xs++(φ++us)).length=xs.length+(φ.length+us.length) by simp];exact CJ h1 (CJ (by rw[ay];trivial) h2))
 simpa using h
theorem Gn{ks L sn:List Key}{k:Key}(h:(L++sn).Perm ks)(hk:k∈L):(L.erase k++(sn++[k])).Perm ks:=by
 refine List.Perm.trans ?_ h;rw[←List.append_assoc];refine(List.perm_append_singleton k _).trans ?_;rw[←List.cons_append];exact(List.perm_cons_erase hk).symm.append_right _
def Ut(n:Nat)(g:Nat->iE)(p:rU):List Int:=EY (oD (bF n g).2.pl p (bF n g).2.ks)
def atE(n:Nat)(g:Nat->iE)(p:rU):Int:=if jm n g≠0 then 1 else if gV p=false\/p.Kind=0 then 2 else 0
theorem TW(b:Nat):aA prog 173 [.ms b 1 0 0,.d (I 0),.d (I 0)] σ (.eU []):=by
 refine aA.bd true func173 fun hwf=> ?_;simp(disch:=first|omega|simp) [go_sem,aH];refine kQ (α:=Nat) true [0,1,2,6] (fun i=>[(6,.d (I (i+1)))]) (fun i=>_) (fun i=>i=0) (fun i=>0) 0 ?_;rintro i hi;simp[go_sem];refine cnd [0,1,2,6] rfl (fun c0=> ?_) (fun c0=> ?_)
 ·have d0:=c0;try simp at d0
  omega
 ·simp[go_sem]
theorem pdqI0_cs(b:Nat):aA prog 122 [.ms b 1 0 0,.d (I 0),.d (I 0),.d (I 0)] σ (.eU []):=by
 refine aA.bs true func122 fun hwf=> ?_;refine kQ (α:=Nat) true [0,1,2,3,8,9] (fun i=>[(8,.d (B true))]) (fun i=>_) (fun i=>i=0) (fun i=>0) 0 ?_;rintro i hi;simp(disch:=first|omega|simp) [go_sem,aH];refine cn [0,1,2,3,8,9,10] rfl ?_ ?_<;>intro c0 d0<;>try simp at d0
 ·simp[go_sem];refine aO.mk (TW _ b) (sm ?_);exact aj so
theorem sortI0_cs(b:Nat):aA prog 94 [.ms b 1 0 0] σ (.eU []):=by
 refine aA.bs true func94 fun hwf=> ?_;refine aO.mk (show aA prog 123 [.d (.v (.int .u64 0))] _ (.d (I 0)) from by have h:=bitsLen_cs (σ:=σ) 0 (by omega);rw[show Lib.bitLen 0=0 from rfl] at h;exact h) ?_;simp[go_sem];exact aO.mk (pdqI0_cs _ b) sc
theorem sortA_cs(σ τ:List aG)(l:List Int)(hn:l.length<1000000000):CS prog 94 [.ms σ.length 1 0 l.length] (σ++ .arr 1 l.length (fun i=>encI (nth l i))::τ) (fun r σ' X=>r= .eU []/\X=[]/\∃row,σ'=σ++ .arr 1 l.length row::τ/\∀i,i<l.length->row i=encI (nth (EY l) i)):=by
 rcases Nat.eq_zero_or_pos l.length with h|h
 ·obtain rfl:=List.length_eq_zero_iff.1 h;exact(sortI0_cs _ _).cs ⟨rfl,rfl,_,rfl,fun i hi=>by simp at hi⟩
 ·refine(Qn σ τ l.length l.length (nth l) h (Nat.le_refl _) hn).mono ?_;rintro r σ' X ⟨rfl,rfl,L,hp,hs,row,rfl,hrow⟩;rw[Py] at hp;obtain rfl:=Hr hp hs;exact⟨rfl,rfl,row,rfl,hrow⟩
theorem Ul(c:Option Nat)(n:Nat)(g:Nat->iE)(p:rU)(hn:n<1000000000):aA prog 52 [.d (SL c 6 iE.enc n g),.agg (p.enc.map .d),.d (I 1048575)] σ (.eU [.d (SL none 1 encI (if atE n g p=0 then(Ut n g p).length else 0) (nth (Ut n g p))),.d (I (atE n g p))]):=by
 have hled:=BQ n g;have hlen:=readL_len n g;refine aA.be func52 fun hwf=> ?_;refine ak fun K hK=> ?_;simp[go_sem];refine hK _ ?_;refine aK ?_;refine aS ?_;refine ak fun K hK=> ?_;simp[go_sem];refine aO.mk (qK _ c n g hn) ?_;simp[go_sem];refine hK _ ?_;refine tq [0,2,4,11] ?_;refine jr ?_ ?_<;>intro c0 d0
 ·have hz:atE n g p=1:=by unfold atE;rw[if_pos (by simpa using d0)]
  refine ak fun K hK=> ?_;simp[go_sem,c0];refine hK _ ?_;refine aj ?_;rw[hz];simp[go_sem,Go.aU.bC]
 ·refine ak fun K hK=> ?_;simp[go_sem,d0];refine aO.mk (nK _ p) ?_;simp[go_sem];refine fM.mk' (.d (B (uX 1048575))) (fun _=>qJ _ 1048575) ?_;simp[go_sem];refine hK _ ?_;refine tq [0,2,4,15] ?_;refine jr ?_ ?_<;>intro c1 d1
  ·have hz:atE n g p=2:=by unfold atE;rw[if_neg (by simpa using d0),if_pos (by simpa[uX,qc] using d1)]
   refine ak fun K hK=> ?_;simp[go_sem,c1];refine hK _ ?_;refine aj ?_;rw[hz];simp[go_sem,Go.aU.bC]
  ·have hz:atE n g p=0:=by unfold atE;rw[if_neg (by simpa using d0),if_neg (by simpa[uX,qc] using d1)]
   have hdays:=(chk_days (n:=n) (g:=g) (by simpa using d0)).2;refine aX ?_;refine ak fun K hK=> ?_;simp[go_sem,d1];refine hK _ ?_;refine aK ?_;refine ak fun K hK=> ?_;simp[go_sem];have h:=nA (MK (σ++[.var (p.enc.map .d)]) c n g hn hdays);refine aO.gen h ?_;rintro r σ' X ⟨υ,rfl,rfl,rfl⟩;simp[go_sem,E9,hwf.one];refine hK _ ?_;refine aS ?_;refine dG 8 1 (fun i=>encI (nth ([]:List Int) i)) (by simp[go_sem]) (by simp[go_sem];rfl) ?_;refine bZ [4,8,35] (by simp[go_sem,bD];rfl) ?_;refine zG [σ.length+1,σ.length+(υ.length+1+1+1)] (by simp) ?_;refine dO (α:=List Key×List Key×Option Key×List aG×(Nat->List D)) (fun x=>[(8,.ms (σ.length+(υ.length+1+1+1)) 1 0 (oD (bF n g).2.pl p x.2.1).length)]) (fun x=>(σ++ .var (p.enc.map .d):: .it x.1 x.2.2.1 (TQ (bF n g).2.pl):: .var [.undef,.d (I (bF n g).2.day)]::x.2.2.2.1)++[.arr 1 (oD (bF n g).2.pl p x.2.1).length x.2.2.2.2]) (fun x=>(x.1++x.2.1).Perm (bF n g).2.ks/\x.2.2.2.1.length=υ.length/\∀i,i<(oD (bF n g).2.pl p x.2.1).length->x.2.2.2.2 i=encI (nth (oD (bF n g).2.pl p x.2.1) i)) (fun x=>x.1.length) ((bF n g).2.ks,[],none,υ.map (bQ [σ.length+1]),fun i=>encI (nth ([]:List Int) i)) (by simp[go_sem,oD]) (rfl) (⟨by simp,by simp,fun i hi=>by simp[oD] at hi⟩) ?_;rintro⟨L,sn,cur,φ,row⟩ ⟨hp,hφ,hr⟩;dsimp only at hp hφ hr;refine ak fun K hK=> ?_;simp[go_sem,Ry,MP,Key.v,TQ,hφ];intro o ho1 ho2;refine hK _ ?_;refine aK ?_;refine tq [4,8,35,37] ?_;refine jr ?_ ?_<;>intro c2 d2
   ·obtain⟨k,rfl⟩:=Option.isSome_iff_exists.1 d2;have hk:=ho2 k rfl;obtain⟨v,rfl⟩:=kInt hled (hp.mem_iff.1 (List.mem_append_left _ hk));have hsm:(oD (bF n g).2.pl p sn).length<=1024:=by have h1:=atOf_len (bF n g).2.pl p sn;have h2:=hp.length_eq;simp at h2;omega
    refine aX ?_;refine aS ?_;refine ak fun K hK=> ?_;simp[go_sem,Key.v,TQ,hφ,c2];refine hK _ ?_;refine ak fun K hK=> ?_;simp[go_sem,hφ];refine hK _ ?_;refine tq [4,8,9,35,43] ?_;refine jr ?_ ?_<;>intro c3 d3
    ·have hout:=atOf_add (sn:=sn) (show p=(bF n g).2.pl v by rw[QM];simpa using d3);refine aZ fun K hK=> ?_;simp[go_sem,hφ,d3,hwf.one];repeat refine⟨by omega,?_⟩
     refine hK _ ?_;refine⟨(L.erase (.i v),sn++[.i v],some (Key.i v),φ.map (bQ [σ.length+(υ.length+1+1+1)]),bf (oD (bF n g).2.pl p sn).length row (rowsOf 1 [I v])),dI (by simp[go_sem,d3,hout]) ((by first|exact Ro (xs:=[_,_,_]) (ys:=[_,_,_]) (by simp[go_sem,hφ]) (by simp[go_sem])|exact ML (xs:=[_,_,_]) (ys:=[_,_,_]) (by simp[go_sem,hφ]) (by simp[go_sem,hφ]))) (by(simp[go_sem,hφ,d3,hout]<;>omega)),⟨Gn hp hk,by simpa using hφ,by dsimp only;rw[hout];exact cat_row (x:=v) hr rfl⟩,by have h1:=List.length_erase_of_mem hk;have h2:=List.length_pos_of_mem hk;dsimp only;omega⟩
    ·have hout:=atOf_no (sn:=sn) (show ¬p=(bF n g).2.pl v by rw[QM];simpa using d3);refine aX ?_;refine⟨(L.erase (.i v),sn++[.i v],some (Key.i v),φ,row),dI (by simp[go_sem,hout]) ((by first|exact Ro (xs:=[_,_,_]) (ys:=[_,_,_]) (by simp[go_sem]) (by simp[go_sem])|exact ML (xs:=[_,_,_]) (ys:=[_,_,_]) (by simp[go_sem,hφ]) (by simp[go_sem]))) (by(simp[go_sem,hφ,c3,hout]<;>omega)),⟨Gn hp hk,hφ,by dsimp only;rw[hout];exact hr⟩,by have h1:=List.length_erase_of_mem hk;have h2:=List.length_pos_of_mem hk;dsimp only;omega⟩
   ·obtain rfl:o=none:=by simpa using d2
    obtain rfl:=ho1 rfl;rw[List.nil_append] at hp;have hsm:(oD (bF n g).2.pl p sn).length<=1024:=by have h1:=atOf_len (bF n g).2.pl p sn;have h2:=hp.length_eq;omega
    have hat:EY (oD (bF n g).2.pl p sn)=Ut n g p:=(Hr (l:=oD (bF n g).2.pl p (bF n g).2.ks) ((qp _).trans (atOf_perm hp)) (YR _));have hal:(oD (bF n g).2.pl p sn).length=(Ut n g p).length:=by rw[←hat,(qp _).length_eq]
    refine fF ?_;refine aY (σ.length+(υ.length+1+1+1)) (fun q=>encI (nth (oD (bF n g).2.pl p sn) q)) (by simp[go_sem,hφ];rfl) (fun q hq=>hr q hq) (by simp[go_sem,hφ];rfl) ?_;refine ak fun K hK=> ?_;simp[go_sem,c2,hal];have h:=nA (sortA_cs (σ++ .var (p.enc.map .d):: .it [] cur (TQ (bF n g).2.pl):: .var [.undef,.d (I (bF n g).2.day)]::φ) [] (oD (bF n g).2.pl p sn) (by omega));rw[hφ,hal] at h;refine aO.gen h ?_;rintro r σ' X ⟨rfl,rfl,row',rfl,hrow'⟩;simp[go_sem];refine hK _ ?_;rw[hat] at hrow';refine aY (σ.length+(υ.length+1+1+1)) (fun q=>encI (nth (Ut n g p) q)) (by simp[go_sem,hφ];rfl) (fun q hq=>hrow' q hq) (by simp[go_sem,hφ];rfl) ?_;refine bK (σ.length+(υ.length+1+1+1)) (by simp[go_sem,hφ];exact⟨rfl,rfl,rfl⟩) (by simp[go_sem];rfl) (by simp[go_sem,hφ,hwf.sZ,hwf.qH];rfl) ?_;refine ak fun K hK=> ?_;simp[go_sem];refine hK _ ?_;rw[hz];exact aj sc
end Go.Proofs.YtmahphgjkpgidaaGreatDoor
