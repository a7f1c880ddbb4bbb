/- Contracts and lemmas, joined out of smaller texts by a program; no conditions. -/
import Derived.Test.YthlhlnbcjlpigaaGreatDoorKB24
set_option linter.unusedVariables false
set_option linter.unusedSimpArgs false
set_option maxHeartbeats 1000000
set_option maxRecDepth 100000
namespace Go.Proofs.YthlhlnbcjlpigaaGreatDoor
open Go.aU Go.bY Go.Proofs.Tryz
variable (σ : List aC)
def rQ(g:Nat->Int):Nat->List Int
 |0=>[]
 |k+1=>if k=0\/g k≠g (k-1) then rQ g k++[g k] else rQ g k
theorem Vt(g:Nat->Int): ∀k,(rQ g k).length<=k
 |0=>Nat.le_refl _
 |k+1=>by rw[rQ];have:=Vt g k;split<;>(try simp)<;>omega
theorem Vu{g:Nat->Int}{k:Nat}(h:k=0\/g k≠g (k-1)):rQ g (k+1)=rQ g k++[g k]:=by rw[rQ,if_pos h]
theorem Po{g:Nat->Int}{k:Nat}(h0:0<k)(h:g k=g (k-1)):rQ g (k+1)=rQ g k:=by rw[rQ,if_neg (by rintro(h1|h1);omega;exact h1 h)]
theorem GL{g:Nat->Int} : ∀{k:Nat},(∀q,0<q->q<k->g q≠g (q-1))->(rQ g k).length=k/\∀i,i<k->nth (rQ g k) i=g i
 |0,_=>⟨rfl,fun i hi=>by omega⟩
 |k+1,h=>by
  obtain⟨h1,h2⟩:=GL (k:=k) fun q hq hk=>h q hq (by omega);rw[Vu (by rcases Nat.eq_zero_or_pos k with e|e;exact .inl e;exact .inr (h k e (by omega)))];refine⟨by simp[h1],fun i hi=> ?_⟩;unfold nth;by_cases hik:i<k
  ·rw[List.getElem?_append_left (by omega)];exact h2 i hik
  ·obtain rfl:i=k:=by omega
   rw[List.getElem?_append_right (by omega),h1];simp
theorem Vr{g:Nat->Int}{x:Int} : ∀{k:Nat},x∈rQ g k↔∃i,i<k/\g i=x
 |0=>by simp[rQ]
 |k+1=>by
  by_cases h:k=0\/g k≠g (k-1)
  ·rw[Vu h,List.mem_append,Vr (k:=k)];constructor
   ·rintro(⟨i,hi,rfl⟩|h1)
    ·exact⟨i,by omega,rfl⟩
    ·exact⟨k,by omega,by simpa using(List.mem_singleton.1 h1).symm⟩
   ·rintro⟨i,hi,rfl⟩;by_cases hik:i=k
    ·subst hik;exact .inr (by simp)
    ·exact .inl ⟨i,by omega,rfl⟩
  ·have h1:0<k/\g k=g (k-1):=by
    constructor
    ·exact Nat.pos_of_ne_zero fun e=>h (.inl e)
    ·exact Classical.byContradiction fun e=>h (.inr e)
   rw[Po h1.1 h1.2,Vr (k:=k)];constructor
   ·rintro⟨i,hi,rfl⟩;exact⟨i,by omega,rfl⟩
   ·rintro⟨i,hi,rfl⟩;by_cases hik:i=k
    ·subst hik;exact⟨i-1,by omega,h1.2.symm⟩
    ·exact⟨i,by omega,rfl⟩
def stU(g:Nat->iy)(s:Span)(n:Nat):List Int:=rQ (nth (yY (BJ g s n))) (BJ g s n).length
theorem stU_mem{g:Nat->iy}{s:Span}{n:Nat}{x:Int} :x∈stU g s n↔x∈BJ g s n:=by
 unfold stU;rw[Vr,←(nZ (BJ g s n)).mem_iff,←(nZ (BJ g s n)).length_eq];constructor
 ·rintro⟨i,hi,rfl⟩;unfold nth;rw[List.getElem?_eq_getElem hi];simp
 ·intro h;obtain⟨i,hi,rfl⟩:=List.getElem_of_mem h;exact⟨i,hi,by unfold nth;rw[List.getElem?_eq_getElem hi];rfl⟩
theorem stU_any{g:Nat->iy}{s:Span}{n:Nat}(p:Int->Bool):(stU g s n).any p=(BJ g s n).any p:=by
 rw[Bool.eq_iff_iff];simp only[List.any_eq_true];exact⟨fun⟨x,h,hp⟩=>⟨x,stU_mem.1 h,hp⟩,fun⟨x,h,hp⟩=>⟨x,stU_mem.2 h,hp⟩⟩
theorem stU_len(g:Nat->iy)(s:Span)(n:Nat):(stU g s n).length<=n+1:=Nat.le_trans (Vt _ _) (Lj g s n).2
def Yi(k:Int)(n:Nat)(g:Nat->iy)(s:Span):Bool:=(BJ g s n).any fun d=>decide (k<=(gq g d n:Int))
def yN(k:Int)(n:Nat)(g:Nat->iy)(b:iy):Int:=if jS b.ID=false\/jS b.Reader=false\/nN b.In=false then 2 else if 0<n/\b.ID<=(g (n-1)).ID then 5 else if Tj n g b.Reader b.In then 6 else if Yi k n g b.In then 12 else 0
def je(k:Int)(n:Nat)(g:Nat->iy):Int:=if k<1\/32<k then 1 else if 1024<n then 8 else aI (fun i=>yN k i g (g i)) 0 n
def Ld(k:Int)(n:Nat)(g:Nat->iy)(b:iy):Int:=if je k n g≠0 then 1 else if 1024<=n then 8 else yN k n g b
theorem YW(τ:List aC)(n:Nat)(g:Nat->Int)(hn:n<1000000000):CS prog 354 [.ms σ.length 1 0 n] (σ++ .arr 1 n (fun i=>encI (g i))::τ) (fun r σ' X'=>X'=[]/\r= .ms σ.length 1 0 (rQ g n).length/\σ'=σ++ .arr 1 (rQ g n).length (fun q=>encI (nth (rQ g n) q))::τ):=by
 refine CS.bsD true [] func354 fun hwf=> ?_;refine aH [0] ?_ ?_<;>intro c0 d0
 ·obtain⟨h1,h2⟩:=GL (g:=g) (k:=n) fun q hq hk=>by omega
  simp[go_sem];refine bC σ.length (fun q=>encI (nth (rQ g n) q)) (by simp[go_sem];exact⟨rfl,rfl,rfl⟩) (fun q hq=>by rw[h2 q (by omega)];rfl) (by simp[go_sem];rfl) ?_;refine aj ?_;simp[go_sem,h1];exact au (by simp[go_sem,aJ])
 ·simp[go_sem];refine gy (α:=Nat) true [0,3] (fun i=>[(3,.d (I i))]) (fun i=>σ++ .arr 1 n (fun i=>encI (g i))::τ) (fun i=>1<=i/\i<=n/\(∀q,0<q->q<i->g q≠g (q-1))) (fun i=>n-i) 1 ?_ (hx:=⟨by omega,by omega,fun q hq hk=>by omega⟩);rintro i ⟨hi0,hi,hq⟩;have hwp:=aZ (i:=i) (by omega);have htn:((i:Int)-1).toNat=i-1:=by omega
  simp[go_sem];refine aH [0,3] ?_ ?_<;>intro c1 d1
  ·simp[go_sem];refine T.dr 10 fun K hK=> ?_;simp[go_sem,hwp,htn];repeat refine⟨by omega,?_⟩
   refine hK _ ?_;refine go true ?_;simp[go_sem];refine aH [0,3] ?_ ?_<;>intro c2 d2
   ·obtain⟨hs1,hs2⟩:=GL (g:=g) (k:=i) hq;have hd1:rQ g (i+1)=rQ g i:=Po (by omega) (by simpa using d2);have hl0:(rQ g (i+1)).length=i:=by rw[hd1,hs1]
    simp[go_sem];repeat refine⟨by omega,?_⟩
    refine bC σ.length (fun q=>if q<(rQ g (i+1)).length then encI (nth (rQ g (i+1)) q) else encI (g q)) (by simp[go_sem];exact⟨rfl,rfl,rfl⟩) (fun q hq=>by split;(rename_i h;rw[hd1,hs2 q (by omega)];rfl);rfl) (by simp[go_sem];rfl) ?_;refine zJ (α:=Nat) true [0,3,4,5] (fun j=>[(3,.d (I (rQ g (i+j)).length)),(5,.d (I j))]) (fun j=>σ++ .arr 1 n (fun q=>if q<(rQ g (i+j)).length then encI (nth (rQ g (i+j)) q) else encI (g q))::τ) (fun j=>1<=j/\i+j<=n/\(rQ g (i+j)).length<i+j) (fun j=>n-(i+j)) 1 (by simp[go_sem,hl0]) (rfl) (⟨by omega,by omega,by omega⟩) ?_;rintro j ⟨hj0,hj,hl⟩;have hwj:=aZ (i:=j) (by omega);have htj:((j:Int)-1).toNat=j-1:=(by omega);have hr1: ¬i+j<(rQ g (i+j)).length:=(by omega);have hr2: ¬i+(j-1)<(rQ g (i+j)).length:=by omega
    simp[go_sem];refine aH [0,3,4,5] ?_ ?_<;>intro c3 d3
    ·simp[go_sem];refine T.dr 10 fun K hK=> ?_;simp[go_sem,hwj,htj,hr1,hr2];repeat refine⟨by omega,?_⟩
     refine hK _ ?_;refine go false ?_;simp[go_sem];refine aH [0,3,4,5] ?_ ?_<;>intro c4 d4
     ·have hc4:rQ g (i+(j+1))=rQ g (i+j)++[g (i+j)]:=Vu (k:=i+j) (.inr (by rw[show i+j-1=i+(j-1) by omega];simpa using d4));have hl4:(rQ g (i+(j+1))).length=(rQ g (i+j)).length+1:=by rw[hc4];simp
      have hw4:=wrap_succ (i:=(rQ g (i+j)).length) (by omega);simp[go_sem,hr1];repeat refine⟨by omega,?_⟩
      refine bC σ.length (fun q=>if q<(rQ g (i+(j+1))).length then encI (nth (rQ g (i+(j+1))) q) else encI (g q)) (by simp[go_sem];exact⟨rfl,rfl,rfl⟩) (fun q hq=>by
       simp only[hl4];by_cases h1:q=(rQ g (i+j)).length
       ·subst h1;simp[hc4,nth,encI]
       ·by_cases h2:q<(rQ g (i+j)).length
        ·simp[hc4,h1,h2,nth,encI,Nat.lt_succ_of_lt h2]
        ·simp[h1,h2,show ¬q<(rQ g (i+j)).length+1 by omega,encI]) (by simp[go_sem];rfl) ?_
      refine go false ?_;simp(disch:=first|omega|simp) [go_sem,hl4,hw4];refine go true ?_;simp(disch:=first|omega|simp) [go_sem,aA];refine dB (j+1) ⟨by omega,by omega,by omega⟩ (h:=by simp[go_sem,hl4]<;>omega) (hσ:=by simp[go_sem,hl4]) (hb:=au (by simp[go_sem,aJ]))
     ·have hc4:rQ g (i+(j+1))=rQ g (i+j):=Po (k:=i+j) (by omega) (by rw[show i+j-1=i+(j-1) by omega];simpa using d4);have hl4:(rQ g (i+(j+1))).length=(rQ g (i+j)).length:=by rw[hc4]
      simp(disch:=first|omega|simp) [go_sem,aA];refine dB (j+1) ⟨by omega,by omega,by omega⟩ (h:=by simp[go_sem,hc4]<;>omega) (hσ:=by simp[go_sem,hc4]) (hb:=au (by simp[go_sem,aJ]))
    ·have hn3:i+j=n:=by omega
     have hle:=Vt g n;simp[go_sem,hn3];refine go true ?_;simp[go_sem];repeat refine⟨by omega,?_⟩
     refine xQ σ.length (rQ g n).length (fun q=>encI (nth (rQ g n) q)) (by simp[go_sem];exact⟨rfl,rfl,rfl⟩) (by omega) (fun q hq=>by simp only[setRows];rw[if_neg (by omega),if_pos hq];rfl) (by simp[go_sem];rfl) ?_;refine aj (sm ?_);exact au (by simp[go_sem,aJ])
   ·simp(disch:=first|omega|simp) [go_sem,aA];refine dB (i+1) ⟨by omega,by omega,fun q h1 h2=>by by_cases h3:q=i;subst h3;simpa using d2;exact hq q h1 (by omega)⟩ (h:=by simp[go_sem]<;>omega) (hσ:=by simp[go_sem])
  ·obtain rfl:i=n:=by omega
   obtain⟨h1,h2⟩:=GL (g:=g) (k:=i) hq;simp[go_sem];refine go true ?_;simp[go_sem];refine bC σ.length (fun q=>encI (nth (rQ g i) q)) (by simp[go_sem];exact⟨rfl,rfl,rfl⟩) (fun q hq=>by rw[h2 q (by omega)];rfl) (by simp[go_sem];rfl) ?_;refine aj ?_;simp[go_sem,h1];exact au (by simp[go_sem,aJ])
theorem FB(c:Option Nat)(n:Nat)(g:Nat->iy)(s:Span)(hn:n<100000000):ay prog 307 [.d (SL c 4 iy.enc n g),.agg [.d (I s.From),.d (I s.Until)]] σ (.d (SL none 1 encI (stU g s n).length (nth (stU g s n)))):=by
 refine ay.be func307 fun hwf=> ?_;refine ak fun K hK=>sm ?_;refine hK _ ?_;refine Zm 2 (by rintro o ⟨⟩;rfl) fun K hK=> ?_;simp[go_sem];refine hK _ ?_;refine aK ?_;refine ak fun K hK=>sm ?_;refine hK _ ?_;refine aN ?_;refine bC (σ.length+1) (fun q=>encI (nth (BJ g s 0) q)) (by simp[go_sem];exact⟨rfl,rfl,rfl⟩) (fun q hq=>by obtain rfl:q=0:=(by omega);rfl) (by simp[go_sem];rfl) ?_;refine bF [3,5,11,12,13] (by simp[go_sem,bf];rfl) ?_;refine qg [σ.length+1] (by simp) ?_;refine bU (α:=Nat) (fun i=>[(13,.d (I i)),(5,.ms (σ.length+1) 1 0 (BJ g s i).length)]) (fun i=>σ++[.var [.d (I s.From),.d (I s.Until)],.arr 1 (BJ g s i).length (fun q=>encI (nth (BJ g s i) q))]) (fun i=>i<=n) (fun i=>n-i) 0 (by simp[go_sem,(show(BJ g s 0).length=1 from rfl)]) (rfl) (by simp) ?_;rintro i hi;have hln:=Lj g s i;refine ak fun K hK=>sm ?_;refine hK _ ?_;refine aK ?_;refine pW [3,5,11,12,13,14] ?_;refine ig ?_ ?_<;>intro c0 d0
 ·refine aV ?_;refine aK ?_;refine aN ?_;refine ak fun K hK=> ?_;simp[go_sem,d0];refine hK _ ?_;refine ak fun K hK=> ?_;simp[go_sem];refine aW.mk (mV _ (g i).In) ?_;simp[go_sem];refine hK _ ?_;refine pW [3,5,7,11,12,13,35] ?_;refine ig ?_ ?_<;>intro c1 d1
  ·have hs:BJ g s (i+1)=BJ g s i++[(g i).In.From]:=by rw[BJ,if_pos (by simpa[stP] using c1)]
   refine aQ fun K hK=> ?_;simp[go_sem,d1,hwf.one];repeat refine⟨by omega,?_⟩
   refine hK _ ?_;refine bC (σ.length+1) (fun q=>encI (nth (BJ g s i++[(g i).In.From]) q)) (by simp[go_sem];exact⟨rfl,rfl,rfl⟩) (by exact fun q hq=>qF (enc:=encI) (x:=(g i).In.From) rfl hq) (by simp[go_sem];rfl) ?_;refine aQ fun K hK=> ?_;simp[go_sem];try simp(disch:=omega) only[aA]
   refine hK _ ?_;refine⟨i+1,bK (by simp[go_sem,hs]) ((au (by simp[go_sem]))) (by(simp[go_sem,hs]<;>omega)),by omega,by first|omega|(dsimp only;omega)⟩
  ·have hs:BJ g s (i+1)=BJ g s i:=by rw[BJ,if_neg (by simpa[stP] using c1)]
   refine aV ?_;refine aQ fun K hK=> ?_;simp[go_sem,c1];try simp(disch:=omega) only[aA]
   refine hK _ ?_;refine⟨i+1,bK (by simp[go_sem,hs]) ((au (by simp[go_sem]))) (by(simp[go_sem,hs]<;>omega)),by omega,by first|omega|(dsimp only;omega)⟩
 ·obtain rfl:i=n:=by omega
  have hln:=Lj g s i;refine dh ?_;refine ak fun K hK=> ?_;simp[go_sem];have h:=nA (MO (σ++[.var [.d (I s.From),.d (I s.Until)]]) [] (BJ g s i).length (BJ g s i).length (nth (BJ g s i)) hln.1 (Nat.le_refl _) (by omega));refine aW.gen h ?_;rintro r' σ' X ⟨rfl,rfl,L2,hp2,hs2,row,rfl,hrow⟩;rw[Lu] at hp2;obtain rfl:=uQ hp2 hs2;simp[go_sem];refine hK _ ?_;refine bC (σ.length+1) (fun q=>encI (nth (yY (BJ g s i)) q)) (by simp[go_sem];rfl) (fun q hq=>hrow q hq) (by simp[go_sem];rfl) ?_;refine ak fun K hK=> ?_;simp[go_sem];have h:=nA (YW (σ++[.var [.d (I s.From),.d (I s.Until)]]) [] (BJ g s i).length (nth (yY (BJ g s i))) (by omega));refine aW.gen h ?_;rintro r' σ' X ⟨rfl,rfl,rfl⟩;simp[go_sem];refine hK _ ?_;refine aF hwf (σ.length+1) ?_;refine aj ?_;simp[go_sem,stU]
theorem FC(b1:aC)(τ:List aC)(d:Int)(k:Int)(c:Option Nat)(n:Nat)(g:Nat->iy)(hn:n<100000000):ay prog 308 [.d (I d),.ptr σ.length 0,.ptr (σ.length+2) 0] (σ++ .var [.d (SL c 4 iy.enc n g)]::b1:: .var [.d (I k)]::τ) (.d (B (decide (k<=(gq g d n:Int))))):=by
 refine ay.bs true func308 fun hwf=> ?_;refine T.dr 5 fun K hK=>sm ?_;refine dS.mk (KD _ c n g d (by omega)) (sm ?_);refine hK _ ?_;refine go true (sm ?_);exact aj so
theorem KA(c:Option Nat)(n:Nat)(g:Nat->iy)(s:Span)(k:Int)(hn:n<100000000):ay prog 237 [.d (SL c 4 iy.enc n g),.agg [.d (I s.From),.d (I s.Until)],.d (I k)] σ (.d (B (Yi k n g s))):=by
 refine ay.bs true func237 fun hwf=> ?_;refine aW.mk (FB _ c n g s hn) (sm ?_);refine aW.mk ((show ay prog 169 _ _ (.d (B (Yi k n g s))) from by have h:=rU (σ++[.var [.d (SL c 4 iy.enc n g)],.var [.d (I s.From),.d (I s.Until)],.var [.d (I k)]]) none (stU g s n).length (nth (stU g s n)) 308 [.ptr σ.length 0,.ptr (σ.length+2) 0] (fun d=>decide (k<=(gq g d n:Int))) (by have:=stU_len g s n;omega) (fun i hi=>FC σ _ [] _ k c n g hn);rw[Lu,stU_any] at h;exact h)) ?_;simp[go_sem];exact aj so
theorem uX(k:Int)(c:Option Nat)(n:Nat)(g:Nat->iy)(b:iy)(hn:n<100000000):ay prog 166 [.d (I k),.d (SL c 4 iy.enc n g),.agg (b.enc.map .d)] σ (.d (I (yN k n g b))):=by
 have hwp:=aZ (i:=n) (by omega);refine ay.bd true func166 fun hwf=> ?_;simp[go_sem];refine aW.mk (DF _ b.ID) ?_;simp[go_sem];refine fA.mk' (.d (B (jS b.Reader))) (fun _=>DF _ b.Reader) ?_;simp[go_sem];refine fA.mk' (.d (B (nN b.In))) (fun _=>mV _ b.In) ?_;simp[go_sem];refine aH [0,1,5] ?_ ?_<;>intro c0 d0
 ·have hz:yN k n g b=2:=by unfold yN;rw[if_pos (by simpa[or_assoc] using d0)]
  simp[go_sem];rw[hz];exact aj sc
 ·have hz0: ¬(jS b.ID=false\/jS b.Reader=false\/nN b.In=false):=by simpa[or_assoc,and_assoc] using d0
  simp[go_sem];refine T.dr 16 fun K hK=> ?_;simp[go_sem,hwp];repeat refine⟨by omega,?_⟩
  refine hK _ ?_;refine go true ?_;simp[go_sem];refine aH [0,1,5] ?_ ?_<;>intro c1 d1
  ·have hz:yN k n g b=5:=by unfold yN;rw[if_neg hz0,if_pos (by omega)]
   simp[go_sem];rw[hz];exact aj sc
  ·simp[go_sem];refine aW.mk (KC _ c n g b.Reader b.In (by omega)) ?_;simp[go_sem];refine aH [0,1,5] ?_ ?_<;>intro c2 d2
   ·have hz:yN k n g b=6:=by unfold yN;rw[if_neg hz0,if_neg (by omega),if_pos (by simpa using d2)]
    simp[go_sem];rw[hz];exact aj sc
   ·simp[go_sem];refine aW.mk (KA _ c n g b.In k hn) ?_;simp[go_sem];refine aH [] ?_ ?_<;>intro c3 d3
    ·have hz:yN k n g b=12:=by unfold yN;rw[if_neg hz0,if_neg (by omega),if_neg (by simpa using d2),if_pos (by simpa using d3)]
     simp[go_sem];rw[hz];exact aj sc
    ·have hz:yN k n g b=0:=by unfold yN;rw[if_neg hz0,if_neg (by omega),if_neg (by simpa using d2),if_neg (by simpa using d3)]
     simp[go_sem];rw[hz];exact aj sc
theorem uY(k:Int)(c:Option Nat)(n:Nat)(g:Nat->iy)(hn:n<100000000):ay prog 115 [.d (I k),.d (SL c 4 iy.enc n g)] σ (.d (I (je k n g))):=by
 refine ay.bs true func115 fun hwf=> ?_;refine aH [0,1] ?_ ?_<;>intro c0 d0
 ·have hz:je k n g=1:=by unfold je;rw[if_pos (by omega)]
  simp[go_sem];rw[hz];exact aj sc
 ·simp[go_sem];refine aH [0,1] ?_ ?_<;>intro c1 d1
  ·have hz:je k n g=8:=by unfold je;rw[if_neg (by omega),if_pos (by omega)]
   simp[go_sem];rw[hz];exact aj sc
  ·have hz:je k n g=aI (fun i=>yN k i g (g i)) 0 (n-0):=by unfold je;rw[if_neg (by omega),if_neg (by omega)];rfl
   simp[go_sem];refine gy (α:=Nat) true [0,1,19,20,21] (fun i=>[(21,.d (I i))]) (fun i=>_) (fun i=>i<=n/\je k n g=aI (fun i=>yN k i g (g i)) i (n-i)) (fun i=>n-i) 0 ?_ (hx:=⟨by omega,hz⟩);rintro i ⟨hi,hx⟩;simp[go_sem];refine aH [0,1,19,20,21] ?_ ?_<;>intro c2 d2
   ·have hst:=l9 (e:=fun i=>yN k i g (g i)) d2;simp[go_sem];repeat refine⟨by omega,?_⟩
    refine T.dr 6 fun K hK=>sm ?_;repeat refine⟨by omega,?_⟩
    refine dS.mk (uX _ k _ i g (g i) (by omega)) (sm ?_);refine hK _ ?_;refine go true (sm ?_);refine aH [0,1,7,19,20,21] ?_ ?_<;>intro c3 d3
    ·have hz1:je k n g=yN k i g (g i):=by rw[hx,hst,if_pos (by simpa using d3)]
     simp[go_sem];rw[hz1];exact aj sc
    ·simp(disch:=first|omega|simp) [go_sem,aA];refine dB (i+1) ⟨by omega,by rw[hx,hst,if_neg (by simpa using d3)]⟩ (h:=by simp[go_sem]<;>omega)
   ·have hz1:je k n g=0:=by rw[hx,oG (by omega)]
    simp[go_sem];refine go true (sm ?_);rw[hz1];exact aj sc
theorem Ip(k:Int)(c:Option Nat)(n:Nat)(g:Nat->iy)(b:iy)(hn:n<100000000):ay prog 288 [.d (I k),.d (SL c 4 iy.enc n g),.agg (b.enc.map .d)] σ (.eX [.d (SL none 4 iy.enc (if Ld k n g b=0 then n+1 else 0) (gV g n b)),.d (I (Ld k n g b))]):=by
 refine ay.bs true func288 fun hwf=> ?_;refine aW.mk (uY _ k c n g hn) (sm ?_);refine aH [0,1,5] ?_ ?_<;>intro c0 d0
 ·have hz:Ld k n g b=1:=by unfold Ld;rw[if_pos (by simpa using d0)]
  simp[go_sem];refine aj ?_;rw[hz];simp[go_sem,Go.aU.dD]
 ·simp[go_sem];refine aH [0,1,5] ?_ ?_<;>intro c1 d1
  ·have hz:Ld k n g b=8:=by unfold Ld;rw[if_neg (by simpa using d0),if_pos (by omega)]
   simp[go_sem];refine aj ?_;rw[hz];simp[go_sem,Go.aU.dD]
  ·have hz0:Ld k n g b=yN k n g b:=by unfold Ld;rw[if_neg (by simpa using d0),if_neg (by omega)]
   simp[go_sem];refine aW.mk (uX _ k c n g b hn) (sm ?_);refine aH [1,5,8] ?_ ?_<;>intro c2 d2
   ·simp[go_sem];refine aj ?_;rw[hz0,if_neg (by simpa using d2)];simp[go_sem,Go.aU.dD]
   ·have hz:Ld k n g b=0:=by rw[hz0];simpa using d2
    simp[go_sem];apply qH 4 1 86 (.ms (σ.length+1) 4 0 n) (.arr 4 n (fun i=>iy.enc (g i))) T.mixed (by kernel_rfl)
    ·intro τ K hK;simp[go_sem];exact hK _ _
    ·simp[go_sem];exact CS.mono (VJ _ c n g (by omega)) (by rintro r σ' X ⟨rfl,rfl,rfl⟩;simp[iy.enc])
    intro K hK;simp[go_sem,hwf.one];repeat refine⟨by omega,?_⟩
    refine hK _ ?_;refine go true (sm ?_);refine aF hwf (σ.length+1) ?_;refine aj ?_;rw[hz];simp[go_sem];exact PD (enc:=iy.enc) (x:=b) rfl
def kI:Key->Int
 | .i x=>x
 | .s _=>0
def lg(pl:Int->sH)(p:sH)(ks:List Key):List Int:=(ks.filter fun k=>decide (p=pl (kI k))).map kI
theorem atOf_add{pl:Int->sH}{p:sH}{sn:List Key}{v:Int}(h:p=pl v):lg pl p (sn++[.i v])=lg pl p sn++[v]:=by simp[lg,kI,h]
theorem atOf_no{pl:Int->sH}{p:sH}{sn:List Key}{v:Int}(h: ¬p=pl v):lg pl p (sn++[.i v])=lg pl p sn:=by simp[lg,kI,h]
theorem atOf_perm{pl:Int->sH}{p:sH}{a b:List Key}(h:a.Perm b):(lg pl p a).Perm (lg pl p b):=(h.filter _).map _
theorem Zr(pl:Int->sH)(p:sH)(ks:List Key):(lg pl p ks).length<=ks.length:=by unfold lg;rw[List.length_map];exact List.length_filter_le _ _
theorem insK_len(k:Key)(ks:List Key):(kQ k ks).length<=ks.length+1:=by unfold kQ;split<;>simp
theorem RQ{g:Nat->fJ} : ∀{k i:Nat} {s:EP},(dP g i s k).2.ks.length<=s.ks.length+k
 |0,i,s=>by simp[dP]
 |k+1,i,s=>by
  rw[dP];split
  ·simp
  ·have h1:=RQ (g:=g) (k:=k) (i:=i+1) (s:=oz s (g i));have h2:(oz s (g i)).ks.length<=s.ks.length+1:=by
    unfold oz;split
    ·exact insK_len _ _
    ·omega
   omega
theorem readL_len(n:Nat)(g:Nat->fJ):(bD n g).2.ks.length<=1024:=by
 unfold bD;split
 ·simp[xq]
 ·have:=RQ (g:=g) (k:=n) (i:=0) (s:=xq);simp[xq] at this⊢;omega
theorem kInt{s:EP}(h:Ht s){k:Key}(hk:k∈s.ks): ∃v,k= .i v:=by
 have:=h.kind k hk;cases k with
 |i v=>exact⟨v,rfl⟩
 |s b=>cases this
theorem NZ{p q:sH} :p=q↔p.Kind=q.Kind/\p.Of=q.Of:=by cases p;cases q;simp
theorem cat_row{α:Type}[Inhabited α]{enc:α->List D}{l:List α}{x:α}{ds:List D}{sz:Nat}{row:Nat->List D}(hr: ∀i,i<l.length->row i=enc (nth l i))(h:ds.take sz=enc x): ∀i,i<(l++[x]).length->aX l.length row (rowsOf sz ds) i=enc (nth (l++[x]) i):=by
 intro i hi;rw[List.length_append,List.length_singleton] at hi;rw[←qF (enc:=enc) (x:=x) h hi];unfold aX;split
 ·rename_i h1;exact hr i h1
 ·rfl
theorem OE{σ xs ys φ us vs:List aC}{Y:List Nat}(h1:kE (σ.length+(xs.length+(φ.length+us.length))) xs ys)(h2:kE (σ.length+(xs.length+(φ.length+us.length))) us vs):aU.Leaves ((σ++(xs++φ))++us) ((σ++(ys++φ.map (bW Y)))++vs):=by
 obtain⟨l1,g1⟩:=qA h1;obtain⟨l2,g2⟩:=qA h2;refine⟨by simp[l1,l2],fun b z hz=> ?_⟩;rw[List.append_assoc,List.append_assoc] at hz⊢;rw[List.getElem?_append] at hz⊢;split at hz
 ·rename_i hb;rw[if_pos hb];exact .inl hz
 ·rename_i hb;rw[if_neg hb];rw[List.getElem?_append] at hz⊢;rw[l1] at hz;split at hz
  ·rename_i hb2;rw[if_pos hb2];rcases g1 _ _ hz with e|e
   ·exact .inl e
   ·exact .inr (.inl (by simpa[Nat.add_assoc] using e))
  ·rename_i hb2;rw[if_neg hb2];rw[List.getElem?_append] at hz⊢;rw[List.length_map] at hz;split at hz
   ·rename_i hb3;rw[if_pos hb3];simp only[List.getElem?_map,Option.map_eq_some_iff] at hz;obtain⟨y,hy,rfl⟩:=hz;exact .inr (.inr ⟨Y,y,hy,rfl⟩)
   ·rename_i hb3;rw[if_neg hb3];rcases g2 _ _ hz with e|e
    ·exact .inl e
    ·exact .inr (.inl (by simpa[Nat.add_assoc] using e))
theorem zM{n:Nat} : ∀{xs ys us vs:List aC},kE n xs ys->kE n us vs->kE n (xs++us) (ys++vs)
 |[],[],_,_,_,k=>k
 |x::xs,y::ys,_,_,h,k=>⟨h.1,zM h.2 k⟩
theorem JD{σ xs ys φ us vs:List aC}(h1:kE (σ.length+(xs.length+(φ.length+us.length))) xs ys)(h2:kE (σ.length+(xs.length+(φ.length+us.length))) us vs):aU.Leaves ((σ++(xs++φ))++us) ((σ++(ys++φ))++vs):=by
 have h:=au (σ:=σ) (xs:=xs++(φ++us)) (ys:=ys++(φ++vs)) (by
  rw[show(xs++(φ++us)).length=xs.length+(φ.length+us.length) by simp];exact zM h1 (zM (by rw[aJ];trivial) h2))
 simpa using h
theorem EF{ks L sn:List Key}{k:Key}(h:(L++sn).Perm ks)(hk:k∈L):(L.erase k++(sn++[k])).Perm ks:=by
 refine List.Perm.trans ?_ h;rw[←List.append_assoc];refine(List.perm_append_singleton k _).trans ?_;rw[←List.cons_append];exact(List.perm_cons_erase hk).symm.append_right _
def atL(n:Nat)(g:Nat->fJ)(p:sH):List Int:=yY (lg (bD n g).2.pl p (bD n g).2.ks)
def atE(n:Nat)(g:Nat->fJ)(p:sH):Int:=if dL n g≠0 then 1 else if dI p=false\/p.Kind=0 then 2 else 0
theorem QK(b:Nat):ay prog 179 [.ms b 1 0 0,.d (I 0),.d (I 0)] σ (.eX []):=by
 refine ay.bd true func179 fun hwf=> ?_;simp(disch:=first|omega|simp) [go_sem,aA];refine gy (α:=Nat) true [0,1,2,6] (fun i=>[(6,.d (I (i+1)))]) (fun i=>_) (fun i=>i=0) (fun i=>0) 0 ?_;rintro i hi;simp[go_sem];refine cnd [0,1,2,6] rfl (fun c0=> ?_) (fun c0=> ?_)
 ·have d0:=c0;try simp at d0
  omega
 ·simp[go_sem]
theorem pdqI0_cs(b:Nat):ay prog 128 [.ms b 1 0 0,.d (I 0),.d (I 0),.d (I 0)] σ (.eX []):=by
 refine ay.bs true func128 fun hwf=> ?_;refine gy (α:=Nat) true [0,1,2,3,8,9] (fun i=>[(8,.d (B true))]) (fun i=>_) (fun i=>i=0) (fun i=>0) 0 ?_;rintro i hi;simp(disch:=first|omega|simp) [go_sem,aA];refine cn [0,1,2,3,8,9,10] rfl ?_ ?_<;>intro c0 d0<;>try simp at d0
 ·simp[go_sem];refine aW.mk (QK _ b) (sm ?_);exact aj so
theorem sortI0_cs(b:Nat):ay prog 72 [.ms b 1 0 0] σ (.eX []):=by
 refine ay.bs true func72 fun hwf=> ?_;refine aW.mk (show ay prog 129 [.d (.v (.int .u64 0))] _ (.d (I 0)) from by have h:=bitsLen_cs (σ:=σ) 0 (by omega);rw[show Lib.bitLen 0=0 from rfl] at h;exact h) ?_;simp[go_sem];exact aW.mk (pdqI0_cs _ b) sc
theorem sortA_cs(σ τ:List aC)(l:List Int)(hn:l.length<1000000000):CS prog 72 [.ms σ.length 1 0 l.length] (σ++ .arr 1 l.length (fun i=>encI (nth l i))::τ) (fun r σ' X=>r= .eX []/\X=[]/\∃row,σ'=σ++ .arr 1 l.length row::τ/\∀i,i<l.length->row i=encI (nth (yY l) i)):=by
 rcases Nat.eq_zero_or_pos l.length with h|h
 ·obtain rfl:=List.length_eq_zero_iff.1 h;exact(sortI0_cs _ _).cs ⟨rfl,rfl,_,rfl,fun i hi=>by simp at hi⟩
 ·refine(MO σ τ l.length l.length (nth l) h (Nat.le_refl _) hn).mono ?_;rintro r σ' X ⟨rfl,rfl,L,hp,hs,row,rfl,hrow⟩;rw[Lu] at hp;obtain rfl:=uQ hp hs;exact⟨rfl,rfl,row,rfl,hrow⟩
theorem QX(c:Option Nat)(n:Nat)(g:Nat->fJ)(p:sH)(hn:n<1000000000):ay prog 35 [.d (SL c 6 fJ.enc n g),.agg (p.enc.map .d),.d (I 1048575)] σ (.eX [.d (SL none 1 encI (if atE n g p=0 then(atL n g p).length else 0) (nth (atL n g p))),.d (I (atE n g p))]):=by
 have hled:=uZ n g;have hlen:=readL_len n g;refine ay.be func35 fun hwf=> ?_;refine ak fun K hK=> ?_;simp[go_sem];refine hK _ ?_;refine aK ?_;refine aN ?_;refine ak fun K hK=> ?_;simp[go_sem];refine aW.mk (oK _ c n g hn) ?_;simp[go_sem];refine hK _ ?_;refine pW [0,2,4,11] ?_;refine ig ?_ ?_<;>intro c0 d0
 ·have hz:atE n g p=1:=by unfold atE;rw[if_pos (by simpa using d0)]
  refine ak fun K hK=> ?_;simp[go_sem,c0];refine hK _ ?_;refine aj ?_;rw[hz];simp[go_sem,Go.aU.dD]
 ·refine ak fun K hK=> ?_;simp[go_sem,d0];refine aW.mk (lS _ p) ?_;simp[go_sem];refine fA.mk' (.d (B (kJ 1048575))) (fun _=>oJ _ 1048575) ?_;simp[go_sem];refine hK _ ?_;refine pW [0,2,4,15] ?_;refine ig ?_ ?_<;>intro c1 d1
  ·have hz:atE n g p=2:=by unfold atE;rw[if_neg (by simpa using d0),if_pos (by simpa[kJ,jy] using d1)]
   refine ak fun K hK=> ?_;simp[go_sem,c1];refine hK _ ?_;refine aj ?_;rw[hz];simp[go_sem,Go.aU.dD]
  ·have hz:atE n g p=0:=by unfold atE;rw[if_neg (by simpa using d0),if_neg (by simpa[kJ,jy] using d1)]
   have hdays:=(Y3 (n:=n) (g:=g) (by simpa using d0)).2;refine aV ?_;refine ak fun K hK=> ?_;simp[go_sem,d1];refine hK _ ?_;refine aK ?_;refine ak fun K hK=> ?_;simp[go_sem];have h:=nA (JC (σ++[.var (p.enc.map .d)]) c n g hn hdays);refine aW.gen h ?_;rintro r σ' X ⟨υ,rfl,rfl,rfl⟩;simp[go_sem,DJ,hwf.one];refine hK _ ?_;refine aN ?_;refine dn 8 1 (fun i=>encI (nth ([]:List Int) i)) (by simp[go_sem]) (by simp[go_sem];rfl) ?_;refine bF [4,8,35] (by simp[go_sem,bf];rfl) ?_;refine qg [σ.length+1,σ.length+(υ.length+1+1+1)] (by simp) ?_;refine bU (α:=List Key×List Key×Option Key×List aC×(Nat->List D)) (fun x=>[(8,.ms (σ.length+(υ.length+1+1+1)) 1 0 (lg (bD n g).2.pl p x.2.1).length)]) (fun x=>(σ++ .var (p.enc.map .d):: .it x.1 x.2.2.1 (QG (bD n g).2.pl):: .var [.undef,.d (I (bD n g).2.day)]::x.2.2.2.1)++[.arr 1 (lg (bD n g).2.pl p x.2.1).length x.2.2.2.2]) (fun x=>(x.1++x.2.1).Perm (bD n g).2.ks/\x.2.2.2.1.length=υ.length/\∀i,i<(lg (bD n g).2.pl p x.2.1).length->x.2.2.2.2 i=encI (nth (lg (bD n g).2.pl p x.2.1) i)) (fun x=>x.1.length) ((bD n g).2.ks,[],none,υ.map (bW [σ.length+1]),fun i=>encI (nth ([]:List Int) i)) (by simp[go_sem,lg]) (rfl) (⟨by simp,by simp,fun i hi=>by simp[lg] at hi⟩) ?_;rintro⟨L,sn,cur,φ,row⟩ ⟨hp,hφ,hr⟩;dsimp only at hp hφ hr;refine ak fun K hK=> ?_;simp[go_sem,OQ,JG,Key.v,QG,hφ];intro o ho1 ho2;refine hK _ ?_;refine aK ?_;refine pW [4,8,35,37] ?_;refine ig ?_ ?_<;>intro c2 d2
   ·obtain⟨k,rfl⟩:=Option.isSome_iff_exists.1 d2;have hk:=ho2 k rfl;obtain⟨v,rfl⟩:=kInt hled (hp.mem_iff.1 (List.mem_append_left _ hk));have hsm:(lg (bD n g).2.pl p sn).length<=1024:=by have h1:=Zr (bD n g).2.pl p sn;have h2:=hp.length_eq;simp at h2;omega
    refine aV ?_;refine aN ?_;refine ak fun K hK=> ?_;simp[go_sem,Key.v,QG,hφ,c2];refine hK _ ?_;refine ak fun K hK=> ?_;simp[go_sem,hφ];refine hK _ ?_;refine pW [4,8,9,35,43] ?_;refine ig ?_ ?_<;>intro c3 d3
    ·have hout:=atOf_add (sn:=sn) (show p=(bD n g).2.pl v by rw[NZ];simpa using d3);refine aQ fun K hK=> ?_;simp[go_sem,hφ,d3,hwf.one];repeat refine⟨by omega,?_⟩
     refine hK _ ?_;refine⟨(L.erase (.i v),sn++[.i v],some (Key.i v),φ.map (bW [σ.length+(υ.length+1+1+1)]),aX (lg (bD n g).2.pl p sn).length row (rowsOf 1 [I v])),bK (by simp[go_sem,d3,hout]) ((by first|exact OE (xs:=[_,_,_]) (ys:=[_,_,_]) (by simp[go_sem,hφ]) (by simp[go_sem])|exact JD (xs:=[_,_,_]) (ys:=[_,_,_]) (by simp[go_sem,hφ]) (by simp[go_sem,hφ]))) (by(simp[go_sem,hφ,d3,hout]<;>omega)),⟨EF hp hk,by simpa using hφ,by dsimp only;rw[hout];exact cat_row (x:=v) hr rfl⟩,by have h1:=List.length_erase_of_mem hk;have h2:=List.length_pos_of_mem hk;dsimp only;omega⟩
    ·have hout:=atOf_no (sn:=sn) (show ¬p=(bD n g).2.pl v by rw[NZ];simpa using d3);refine aV ?_;refine⟨(L.erase (.i v),sn++[.i v],some (Key.i v),φ,row),bK (by simp[go_sem,hout]) ((by first|exact OE (xs:=[_,_,_]) (ys:=[_,_,_]) (by simp[go_sem]) (by simp[go_sem])|exact JD (xs:=[_,_,_]) (ys:=[_,_,_]) (by simp[go_sem,hφ]) (by simp[go_sem]))) (by(simp[go_sem,hφ,c3,hout]<;>omega)),⟨EF hp hk,hφ,by dsimp only;rw[hout];exact hr⟩,by have h1:=List.length_erase_of_mem hk;have h2:=List.length_pos_of_mem hk;dsimp only;omega⟩
   ·obtain rfl:o=none:=by simpa using d2
    obtain rfl:=ho1 rfl;rw[List.nil_append] at hp;have hsm:(lg (bD n g).2.pl p sn).length<=1024:=by have h1:=Zr (bD n g).2.pl p sn;have h2:=hp.length_eq;omega
    have hat:yY (lg (bD n g).2.pl p sn)=atL n g p:=(uQ (l:=lg (bD n g).2.pl p (bD n g).2.ks) ((nZ _).trans (atOf_perm hp)) (WZ _));have hal:(lg (bD n g).2.pl p sn).length=(atL n g p).length:=by rw[←hat,(nZ _).length_eq]
    refine dh ?_;refine bC (σ.length+(υ.length+1+1+1)) (fun q=>encI (nth (lg (bD n g).2.pl p sn) q)) (by simp[go_sem,hφ];rfl) (fun q hq=>hr q hq) (by simp[go_sem,hφ];rfl) ?_;refine ak fun K hK=> ?_;simp[go_sem,c2,hal];have h:=nA (sortA_cs (σ++ .var (p.enc.map .d):: .it [] cur (QG (bD n g).2.pl):: .var [.undef,.d (I (bD n g).2.day)]::φ) [] (lg (bD n g).2.pl p sn) (by omega));rw[hφ,hal] at h;refine aW.gen h ?_;rintro r σ' X ⟨rfl,rfl,row',rfl,hrow'⟩;simp[go_sem];refine hK _ ?_;rw[hat] at hrow';refine bC (σ.length+(υ.length+1+1+1)) (fun q=>encI (nth (atL n g p) q)) (by simp[go_sem,hφ];rfl) (fun q hq=>hrow' q hq) (by simp[go_sem,hφ];rfl) ?_;refine dM (σ.length+(υ.length+1+1+1)) (by simp[go_sem,hφ];exact⟨rfl,rfl,rfl⟩) (by simp[go_sem];rfl) (by simp[go_sem,hφ,hwf.uN,hwf.yL];rfl) ?_;refine ak fun K hK=> ?_;simp[go_sem];refine hK _ ?_;rw[hz];exact aj sc
end Go.Proofs.YthlhlnbcjlpigaaGreatDoor
