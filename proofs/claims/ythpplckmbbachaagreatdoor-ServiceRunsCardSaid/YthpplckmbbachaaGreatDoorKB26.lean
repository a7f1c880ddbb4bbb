/- Lemmas, no conditions. -/
import Derived.Test.YthpplckmbbachaaGreatDoorKB20
import Derived.Test.YthpplckmbbachaaGreatDoorKB24
import Derived.Test.YthpplckmbbachaaGreatDoorKB25
set_option linter.unusedVariables false
set_option linter.unusedSimpArgs false
set_option maxHeartbeats 1000000
set_option maxRecDepth 100000
namespace Go.Proofs.YthpplckmbbachaaGreatDoor
open Go.aI Go.bI Go.Proofs.Tryz
variable (σ : List aZ)
structure ju where
 ID:Int
 Reader:Int
 In:Span
instance:Inhabited ju:=⟨⟨0,0,⟨0,0⟩⟩⟩
def ju.enc(b:ju):List D:=[I b.ID,I b.Reader,I b.In.From,I b.In.Until]
attribute [simp] ju.enc
def kv(s:Span):Bool:=decide (0<=s.From)&&decide (s.From<s.Until)&&decide (s.Until<=1048576)
def uV(a b:Span):Bool:=decide (a.From<b.Until)&&decide (b.From<a.Until)
def M3(d:Int)(b:ju):Bool:=kv b.In&&decide (b.In.From<=d)&&decide (d<b.In.Until)
def dC(g:Nat->ju)(d:Int):Nat->Nat
 |0=>0
 |n+1=>if M3 d (g n) then dC g d n+1 else dC g d n
theorem sw(g d): ∀n,dC g d n<=n
 |0=>Nat.le_refl _
 |n+1=>by rw[dC];have:=sw g d n;split<;>omega
def FO(n:Nat)(g:Nat->ju)(r:Int)(s:Span):Bool:=(lst n g).any fun b=>b.Reader==r&&uV b.In s
def stP(s:Span)(b:ju):Bool:=kv b.In&&decide (s.From<b.In.From)&&decide (b.In.From<s.Until)
def rp(g:Nat->ju)(s:Span):Nat->List Int
 |0=>[s.From]
 |n+1=>if stP s (g n) then rp g s n++[(g n).In.From] else rp g s n
theorem CJ(g s): ∀n,0<(rp g s n).length/\(rp g s n).length<=n+1
 |0=>by simp[rp]
 |n+1=>by rw[rp];have:=CJ g s n;all_goals grind
theorem NH(c n g f cap p)(hn:n<1000000000)(hf: ∀i,i<n->ak prog f (.agg ((g i).enc.map .d)::cap) σ (.d (B (p (g i))))):ak prog 381 [.d (SL c 4 ju.enc n g),.clo (.func f) [] cap] σ (.d (I (idxFrom p (lst n g) 0))):=by
 refine ak.bt func381 ?_;refine dm (α:=Nat) true [0,1,7,8] (fun i=>[(8,.d (I i))]) (fun i=>_) (fun i=>i<=n/\idxFrom p (lst n g) 0=idxFrom p ((lst n g).drop i) i) (fun i=>n-i) 0 ?_;rintro i ⟨hi,hx⟩;refine gc [0,1,7,8] ?_ ?_<;>intro d0
 ·rw[bU d0,idxFrom] at hx;refine wB ?_;refine az.mk (hf i d0) (sm ?_);refine km [0,1,5,7,8] ?_ ?_<;>intro c1 d1
  ·refine wA ?_;simp[go_sem,hx,c1]<;>omega
  ·refine wC ?_;refine bF (i+1) ⟨aa,ai⟩ (h:=aR)
 ·rw[bV d0,idxFrom] at hx;refine wN ?_;simp[go_sem,hx]<;>omega
theorem nS(c n g f cap p)(hn:n<1000000000)(hf: ∀i,i<n->ak prog f (.agg ((g i).enc.map .d)::cap) σ (.d (B (p (g i))))):ak prog 321 [.d (SL c 4 ju.enc n g),.clo (.func f) [] cap] σ (.d (B ((lst n g).any p))):=by
 refine ak.bt func321 ?_;refine az.mk (NH _ c n g f cap p hn hf) (sm ?_);refine af ?_;simp[go_sem,gE]<;>omega
theorem acB(c n g)(hn:n<1000000000):ak prog 116 [.d (SL c 4 ju.enc n g)] σ (.d (SL none 4 ju.enc n g)):=by
 refine ak.bd true func116 fun hwf=> ?_;simp[go_sem,-Bool.forall_bool];try intro b1 hb1
 refine fX ?_ ?_<;>intro c0 d0
 ·refine wA ?_;have:=hb1 c0;simp[go_sem,this]
 ·refine wB ?_;refine bg (σ.length) bj aN eS ?_;exact af so
theorem Ky(c n g)(hn:n<1000000000):CS prog 116 [.d (SL c 4 ju.enc n g)] σ (fun r σ' X=>r= .ms σ.length 4 0 n/\σ'=σ++[.arr 4 n fun i=>ju.enc (g i)]/\X=[]):=by
 refine CS.Ik true func116 fun hwf=> ?_;simp[go_sem,-Bool.forall_bool];try intro b1 hb1
 refine fX ?_ ?_<;>intro c0 d0
 ·simp[go_sem];refine bq 2 4 (fun i=>ju.enc (g i)) au aN ?_;refine af ?_;obtain rfl:=hb1 c0;simp[go_sem]
 ·refine wB ?_;exact af so
theorem uR(n):ak prog 279 [.d (I n)] σ (.d (B (fc n))):=by
 refine ak.bt func279 ?_;refine af ?_;simp[go_sem,fc,gD]<;>omega
theorem jN(s):ak prog 280 [.agg [.d (I s.From),.d (I s.Until)]] σ (.d (B (kv s))):=by
 refine ak.bt func280 ?_;refine af ?_;simp[go_sem,kv]
theorem B8(a b):ak prog 354 [.agg [.d (I a.From),.d (I a.Until)],.agg [.d (I b.From),.d (I b.Until)]] σ (.d (B (uV a b))):=by
 refine ak.bt func354 ?_;refine af ?_;simp[go_sem,uV]<;>omega
theorem Ck(c n g d)(hn:n<1000000000):ak prog 357 [.d (SL c 4 ju.enc n g),.d (I d)] σ (.d (I (dC g d n))):=by
 refine ak.bt func357 ?_;refine mA (α:=Nat) true [1,5,8,9,10] (fun i=>[(10,.d (I i)),(5,.d (I (dC g d i)))]) (fun i=>_) (fun i=>i<=n) (fun i=>n-i) 0 (by simp[go_sem,dC]) (rfl) an ?_;rintro i hi;refine gc [1,5,8,9,10] ?_ ?_<;>intro d0
 ·refine wB ?_;refine az.mk (jN _ (g i).In) (gc [1,5,8,9,10] ?_ ?_)<;>intro d1
  ·have hs:dC g d (i+1)=dC g d i+1:=by grind [dC,M3]
   have hw1:=wrap_succ (i:=dC g d i) (by grind [sw]);simp(disch:=first|omega|simp) [go_sem,hw1,aS];refine bF (i+1) aa (h:=mr)
  ·have hs:dC g d (i+1)=dC g d i:=by grind [dC,M3]
   refine wC ?_;refine bF (i+1) aa (h:=mr)
 ·obtain rfl:i=n:=by omega
  refine wF ?_;exact af so
theorem xu(τ)(b:ju)(r s):ak prog 353 [.agg (b.enc.map .d),.ptr σ.length 0,.ptr (σ.length+1) 0] (σ++ .var [.d (I r)]:: .var [.d (I s.From),.d (I s.Until)]::τ) (.d (B (b.Reader==r&&uV b.In s))):=by
 refine ak.bt func353 ?_;refine cE.mk' (.d (B (uV b.In s))) (fun _=>B8 _ b.In s) (sm ?_);exact af so
theorem Cj(c n g r s)(hn:n<1000000000):ak prog 281 [.d (SL c 4 ju.enc n g),.d (I r),.agg [.d (I s.From),.d (I s.Until)]] σ (.d (B (FO n g r s))):=by
 refine ak.bt func281 ?_;refine az.mk ((show ak prog 321 _ _ (.d (B (FO n g r s))) from nS _ c n g _ _ (fun b=>b.Reader==r&&uV b.In s) hn (fun i hi=>xu σ [] (g i) r s))) (sm ?_);exact af so
def og(g:Nat->Int):Nat->List Int
 |0=>[]
 |k+1=>if k=0\/g k≠g (k-1) then og g k++[g k] else og g k
theorem Kl(g): ∀k,(og g k).length<=k
 |0=>Nat.le_refl _
 |k+1=>by rw[og];have:=Kl g k;all_goals grind
theorem Km{g k}(h:k=0\/g k≠g (k-1)):og g (k+1)=og g k++[g k]:=by grind [og]
theorem Fy{g k}(h0:0<k)(h:g k=g (k-1)):og g (k+1)=og g k:=by grind [og]
theorem yd{g} : ∀{k},(∀q,0<q->q<k->g q≠g (q-1))->(og g k).length=k/\∀i,i<k->nth (og g k) i=g i
 |0,_=>⟨rfl,fun i hi=>aa⟩
 |k+1,h=>by
  obtain⟨h1,h2⟩:=yd (k:=k) fun q hq hk=>h q hq aa;rw[Km ai];refine⟨ai,fun i hi=> ?_⟩;unfold nth;by_cases hik:i<k
  ·rw[List.getElem?_append_left aa];exact h2 i hik
  grind
theorem Kk{g x} : ∀{k},x∈og g k↔∃i,i<k/\g i=x
 |0=>by simp[og]
 |k+1=>by
  by_cases h:k=0\/g k≠g (k-1)
  ·rw[Km h,List.mem_append,Kk (k:=k)];grind
  ·have h1:0<k/\g k=g (k-1):=by
    grind
   rw[Fy h1.1 h1.2,Kk (k:=k)];grind
def ZN(g:Nat->ju)(s:Span)(n:Nat):List Int:=og (nth (ux (rp g s n))) (rp g s n).length
theorem ZK{g s n x} :x∈ZN g s n↔x∈rp g s n:=by
 unfold ZN;rw[Kk,←(kM (rp g s n)).mem_iff,←(kM (rp g s n)).length_eq];constructor
 ·grind [nth]
 ·intro h;obtain⟨i,hi,rfl⟩:=List.getElem_of_mem h;exact⟨i,hi,by grind [nth]⟩
theorem ZM{g s n}(p):(ZN g s n).any p=(rp g s n).any p:=by
 grind [ZK]
theorem ZL(g s n):(ZN g s n).length<=n+1:=Nat.le_trans (Kl _ _) (CJ g s n).2
def H2(k:Int)(n:Nat)(g:Nat->ju)(s:Span):Bool:=(rp g s n).any fun d=>decide (k<=(dC g d n:Int))
def pS(k:Int)(n:Nat)(g:Nat->ju)(b:ju):Int:=if fc b.ID=false\/fc b.Reader=false\/kv b.In=false then 2 else if 0<n/\b.ID<=(g (n-1)).ID then 5 else if FO n g b.Reader b.In then 6 else if H2 k n g b.In then 12 else 0
def dM(k:Int)(n:Nat)(g:Nat->ju):Int:=if k<1\/32<k then 1 else if 1024<n then 8 else aA (fun i=>pS k i g (g i)) 0 n
def lZ(k:Int)(n:Nat)(g:Nat->ju)(b:ju):Int:=if dM k n g≠0 then 1 else if 1024<=n then 8 else pS k n g b
theorem Oy(τ n g)(hn:n<1000000000):CS prog 406 [.ms σ.length 1 0 n] (σ++ .arr 1 n (fun i=>encI (g i))::τ) (fun r σ' X'=>X'=[]/\r= .ms σ.length 1 0 (og g n).length/\σ'=σ++ .arr 1 (og g n).length (fun q=>encI (nth (og g n) q))::τ):=by
 refine CS.BA true [] func406 fun hwf=> ?_;refine dH [0] ?_ ?_<;>intro d0
 ·obtain⟨h1,h2⟩:=yd (g:=g) (k:=n) fun q hq hk=>by omega
  simp[go_sem];refine ax σ.length (fun q=>encI (nth (og g n) q)) bj (fun q hq=>by rw[h2 q aa];rfl) aN ?_;refine af ?_;simp[go_sem,h1];exact ae bf
 ·simp[go_sem];refine dm (α:=Nat) true [0,3] (fun i=>[(3,.d (I i))]) (fun i=>σ++ .arr 1 n (fun i=>encI (g i))::τ) (fun i=>1<=i/\i<=n/\(∀q,0<q->q<i->g q≠g (q-1))) (fun i=>n-i) 1 ?_ (hx:=⟨aa,aa,fun q hq hk=>aa⟩);rintro i ⟨hi0,hi,hq⟩;have hwp:=aT (i:=i) aa;have htn:((i:Int)-1).toNat=i-1:=aa;refine gc [0,3] ?_ ?_<;>intro d1
  ·simp[go_sem];refine T.dr 10 fun K hK=> ?_;simp[go_sem,hwp,htn];refine wK hK ?_;refine gc [0,3] ?_ ?_<;>intro d2
   ·obtain⟨hs1,hs2⟩:=yd (g:=g) (k:=i) hq;have hd1:og g (i+1)=og g i:=Fy aa ai;have hl0:(og g (i+1)).length=i:=ai;refine wB ?_;refine ax σ.length (fun q=>if q<(og g (i+1)).length then encI (nth (og g (i+1)) q) else encI (g q)) bj (fun q hq=>by split;(rename_i h;rw[hd1,hs2 q aa];rfl);rfl) aN ?_;refine mA (α:=Nat) true [0,3,4,5] (fun j=>[(3,.d (I (og g (i+j)).length)),(5,.d (I j))]) (fun j=>σ++ .arr 1 n (fun q=>if q<(og g (i+j)).length then encI (nth (og g (i+j)) q) else encI (g q))::τ) (fun j=>1<=j/\i+j<=n/\(og g (i+j)).length<i+j) (fun j=>n-(i+j)) 1 (by simp[go_sem,hl0]) (rfl) (⟨aa,aa,aa⟩) ?_;rintro j ⟨hj0,hj,hl⟩;have hwj:=aT (i:=j) aa;have htj:((j:Int)-1).toNat=j-1:=aa;have hr1: ¬i+j<(og g (i+j)).length:=aa;have hr2: ¬i+(j-1)<(og g (i+j)).length:=aa;refine gc [0,3,4,5] ?_ ?_<;>intro d3
    ·simp[go_sem];refine T.dr 10 fun K hK=> ?_;simp[go_sem,hwj,htj,hr1,hr2];refine wG hK ?_;refine go false ?_;refine gc [0,3,4,5] ?_ ?_<;>intro d4
     ·have hc4:og g (i+(j+1))=og g (i+j)++[g (i+j)]:=Km (k:=i+j) (.inr (by rw[show i+j-1=i+(j-1) by omega];grind));have hl4:(og g (i+(j+1))).length=(og g (i+j)).length+1:=ai;have hw4:=wrap_succ (i:=(og g (i+j)).length) aa;simp[go_sem,hr1];repeat refine⟨aa,?_⟩
      refine ax σ.length (fun q=>if q<(og g (i+(j+1))).length then encI (nth (og g (i+(j+1))) q) else encI (g q)) bj (fun q hq=>by
       simp only[hl4];by_cases h1:q=(og g (i+j)).length
       ·grind [nth,encI]
       ·by_cases h2:q<(og g (i+j)).length
        ·grind [nth,encI]
        grind [encI]) aN ?_
      refine go false ?_;simp(disch:=first|omega|simp) [go_sem,hl4,hw4];refine go true ?_;refine wC ?_;refine bF (j+1) ⟨aa,aa,aa⟩ (h:=by simp[go_sem,hl4]<;>omega) (hσ:=aP) (hb:=ae bf)
     ·have hc4:og g (i+(j+1))=og g (i+j):=Fy (k:=i+j) aa (by rw[show i+j-1=i+(j-1) by omega];grind);have hl4:(og g (i+(j+1))).length=(og g (i+j)).length:=by rw[hc4]
      refine wC ?_;refine bF (j+1) ⟨aa,aa,aa⟩ (h:=by simp[go_sem,hc4]<;>omega) (hσ:=aP) (hb:=ae (by grind [fD]))
    ·have hn3:i+j=n:=aa;have hle:=Kl g n;simp[go_sem,hn3];refine wb ?_;repeat refine⟨aa,?_⟩
     refine lq σ.length (og g n).length (fun q=>encI (nth (og g n) q)) bj aa (fun q hq=>by simp only[setRows];rw[if_neg aa,if_pos hq];rfl) aN ?_;refine af (sm ?_);exact ae bf
   ·refine wC ?_;refine bF (i+1) ⟨aa,aa,fun q h1 h2=>ai⟩ (h:=aR) (hσ:=aP)
  ·obtain rfl:i=n:=by omega
   obtain⟨h1,h2⟩:=yd (g:=g) (k:=i) hq;refine wL ?_;refine ax σ.length (fun q=>encI (nth (og g i) q)) bj (fun q hq=>by rw[h2 q aa];rfl) aN ?_;refine af ?_;simp[go_sem,h1];exact ae bf
theorem xr(c n g s)(hn:n<100000000):ak prog 355 [.d (SL c 4 ju.enc n g),.agg [.d (I s.From),.d (I s.Until)]] σ (.d (SL none 1 encI (ZN g s n).length (nth (ZN g s n)))):=by
 refine ak.be func355 fun hwf=> ?_;refine wP ?_;refine O1 2 ai fun K hK=> ?_;refine wD hK ?_;refine aq ?_;refine wP ?_;refine aB ?_;refine ax (σ.length+1) (fun q=>encI (nth (rp g s 0) q)) bj (fun q hq=>by obtain rfl:q=0:=aa;rfl) aN ?_;refine ba [3,5,11,12,13] eE ?_;refine mo [σ.length+1] an ?_;refine bB (α:=Nat) (fun i=>[(13,.d (I i)),(5,.ms (σ.length+1) 1 0 (rp g s i).length)]) (fun i=>σ++[.var [.d (I s.From),.d (I s.Until)],.arr 1 (rp g s i).length (fun q=>encI (nth (rp g s i) q))]) (fun i=>i<=n) (fun i=>n-i) 0 (by simp[go_sem,(show(rp g s 0).length=1 from rfl)]) (rfl) an ?_;rintro i hi;have hln:=CJ g s i;refine wP ?_;refine aq ?_;refine gF [3,5,11,12,13,14] ?_;refine ko ?_ ?_<;>intro d0
 ·refine aJ ?_;refine aq ?_;refine aB ?_;refine aj fun K hK=> ?_;simp[go_sem,d0];refine wY hK fun K hK=> ?_;refine az.mk (jN _ (g i).In) ?_;refine wD hK ?_;refine gF [3,5,7,11,12,13,35] ?_;refine fL ?_ ?_<;>intro c1 d1
  ·have hs:rp g s (i+1)=rp g s i++[(g i).In.From]:=by grind [rp,stP]
   refine aE fun K hK=> ?_;simp[go_sem,d1,hwf.one];refine wG hK ?_;refine ax (σ.length+1) (fun q=>encI (nth (rp g s i++[(g i).In.From]) q)) bj (by exact fun q hq=>fH (enc:=encI) (x:=(g i).In.From) rfl hq) aN ?_;refine aE fun K hK=> ?_;simp[go_sem];try simp(disch:=omega) only[aS]
   refine hK _ ?_;refine⟨i+1,bp Hf ((ae au)) (by(simp[go_sem,hs]<;>omega)),aa,ai⟩
  ·have hs:rp g s (i+1)=rp g s i:=by grind [rp,stP]
   refine aJ ?_;refine aE fun K hK=> ?_;simp[go_sem,c1];try simp(disch:=omega) only[aS]
   refine hK _ ?_;refine⟨i+1,bp Hf ((ae au)) (by(simp[go_sem,hs]<;>omega)),aa,ai⟩
 ·obtain rfl:i=n:=by omega
  have hln:=CJ g s i;refine bN ?_;refine wV fun K hK=> ?_;have h:=nA (DL (σ++[.var [.d (I s.From),.d (I s.Until)]]) [] (rp g s i).length (rp g s i).length (nth (rp g s i)) hln.1 (Nat.le_refl _) aa);refine az.gen h ?_;rintro r' σ' X ⟨rfl,rfl,L2,hp2,hs2,row,rfl,hrow⟩;rw[CV] at hp2;obtain rfl:=rT hp2 hs2;refine wD hK ?_;refine ax (σ.length+1) (fun q=>encI (nth (ux (rp g s i)) q)) aN (fun q hq=>hrow q hq) aN ?_;refine wV fun K hK=> ?_;have h:=nA (Oy (σ++[.var [.d (I s.From),.d (I s.Until)]]) [] (rp g s i).length (nth (ux (rp g s i))) aa);refine az.gen h ?_;rintro r' σ' X ⟨rfl,rfl,rfl⟩;refine wD hK ?_;refine aF hwf (σ.length+1) ?_;refine af ?_;simp[go_sem,ZN]
theorem xt(b1 τ d k c n g)(hn:n<100000000):ak prog 356 [.d (I d),.ptr σ.length 0,.ptr (σ.length+2) 0] (σ++ .var [.d (SL c 4 ju.enc n g)]::b1:: .var [.d (I k)]::τ) (.d (B (decide (k<=(dC g d n:Int))))):=by
 refine ak.bt func356 ?_;refine T.dr 5 fun K hK=>sm ?_;refine bK.mk (Ck _ c n g d aa) (sm ?_);refine hK _ ?_;refine go true (sm ?_);exact af so
theorem B9(c n g s k)(hn:n<100000000):ak prog 282 [.d (SL c 4 ju.enc n g),.agg [.d (I s.From),.d (I s.Until)],.d (I k)] σ (.d (B (H2 k n g s))):=by
 refine ak.bt func282 ?_;refine az.mk (xr _ c n g s hn) (sm ?_);refine az.mk ((show ak prog 197 _ _ (.d (B (H2 k n g s))) from by have h:=jV (σ++[.var [.d (SL c 4 ju.enc n g)],.var [.d (I s.From),.d (I s.Until)],.var [.d (I k)]]) none (ZN g s n).length (nth (ZN g s n)) 356 [.ptr σ.length 0,.ptr (σ.length+2) 0] (fun d=>decide (k<=(dC g d n:Int))) (by grind [ZL]) (fun i hi=>xt σ _ [] _ k c n g hn);rw[CV,ZM] at h;exact h)) ?_;simp[go_sem];exact af so
theorem pq(k c n g b)(hn:n<100000000):ak prog 194 [.d (I k),.d (SL c 4 ju.enc n g),.agg (b.enc.map .d)] σ (.d (I (pS k n g b))):=by
 have hwp:=aT (i:=n) aa;refine ak.bd true func194 fun hwf=> ?_;simp[go_sem];refine az.mk (uR _ b.ID) ?_;simp[go_sem];refine cE.mk' (.d (B (fc b.Reader))) (fun _=>uR _ b.Reader) ?_;simp[go_sem];refine cE.mk' (.d (B (kv b.In))) (fun _=>jN _ b.In) ?_;refine gc [0,1,5] ?_ ?_<;>intro d0
 ·have hz:pS k n g b=2:=by grind [pS]
  exact sx hz
 ·have hz0: ¬(fc b.ID=false\/fc b.Reader=false\/kv b.In=false):=ai;simp[go_sem];refine T.dr 16 fun K hK=> ?_;simp[go_sem,hwp];refine wK hK ?_;refine gc [0,1,5] ?_ ?_<;>intro d1
  ·have hz:pS k n g b=5:=by grind [pS]
   exact sx hz
  ·simp[go_sem];refine az.mk (Cj _ c n g b.Reader b.In aa) ?_;refine gc [0,1,5] ?_ ?_<;>intro d2
   ·have hz:pS k n g b=6:=by grind [pS]
    exact sx hz
   ·simp[go_sem];refine az.mk (B9 _ c n g b.In k hn) ?_;refine gc [] ?_ ?_<;>intro d3
    ·have hz:pS k n g b=12:=by grind [pS]
     exact sx hz
    ·have hz:pS k n g b=0:=by grind [pS]
     exact sx hz
theorem pr(k c n g)(hn:n<100000000):ak prog 132 [.d (I k),.d (SL c 4 ju.enc n g)] σ (.d (I (dM k n g))):=by
 refine ak.bt func132 ?_;refine dH [0,1] ?_ ?_<;>intro d0
 ·have hz:dM k n g=1:=by grind [dM]
  exact sx hz
 ·refine gc [0,1] ?_ ?_<;>intro d1
  ·have hz:dM k n g=8:=by grind [dM]
   exact sx hz
  ·have hz:dM k n g=aA (fun i=>pS k i g (g i)) 0 (n-0):=by grind [dM]
   simp[go_sem];refine dm (α:=Nat) true [0,1,19,20,21] (fun i=>[(21,.d (I i))]) (fun i=>_) (fun i=>i<=n/\dM k n g=aA (fun i=>pS k i g (g i)) i (n-i)) (fun i=>n-i) 0 ?_ (hx:=⟨aa,hz⟩);rintro i ⟨hi,hx⟩;refine gc [0,1,19,20,21] ?_ ?_<;>intro d2
   ·have hst:=jm (e:=fun i=>pS k i g (g i)) d2;refine wB ?_;refine T.dr 6 fun K hK=>sm ?_;repeat refine⟨aa,?_⟩
    refine bK.mk (pq _ k _ i g (g i) aa) (sm ?_);refine hK _ ?_;refine go true (gc [0,1,7,19,20,21] ?_ ?_)<;>intro d3
    ·have hz1:dM k n g=pS k i g (g i):=ai;exact sx hz1
    ·refine wC ?_;refine bF (i+1) ⟨aa,ai⟩ (h:=aR)
   ·have hz1:dM k n g=0:=by grind [lg]
    refine wF ?_;exact sy hz1
theorem zk(k c n g b)(hn:n<100000000):ak prog 325 [.d (I k),.d (SL c 4 ju.enc n g),.agg (b.enc.map .d)] σ (.cj [.d (SL none 4 ju.enc (if lZ k n g b=0 then n+1 else 0) (aL g n b)),.d (I (lZ k n g b))]):=by
 refine ak.bs true func325 fun hwf=> ?_;refine az.mk (pr _ k c n g hn) (gc [0,1,5] ?_ ?_)<;>intro d0
 ·have hz:lZ k n g b=1:=by grind [lZ]
  refine wA ?_;rw[hz];simp[go_sem,Go.aI.aK]
 ·refine gc [0,1,5] ?_ ?_<;>intro d1
  ·have hz:lZ k n g b=8:=by grind [lZ]
   refine wA ?_;rw[hz];simp[go_sem,Go.aI.aK]
  ·have hz0:lZ k n g b=pS k n g b:=by grind [lZ]
   simp[go_sem];refine az.mk (pq _ k c n g b hn) (gc [1,5,8] ?_ ?_)<;>intro d2
   ·refine wA ?_;rw[hz0,if_neg ai];simp[go_sem,Go.aI.aK]
   ·have hz:lZ k n g b=0:=ai;simp[go_sem];apply jZ 4 1 86 (.ms (σ.length+1) 4 0 n) (.arr 4 n (fun i=>ju.enc (g i))) T.mixed aD
    ·intro τ K hK;simp[go_sem];exact hK _ _
    ·simp[go_sem];exact CS.mono (Ky _ c n g aa) aP
    intro K hK;simp[go_sem,hwf.one];refine wG hK ?_;refine go true (sm ?_);refine aF hwf (σ.length+1) ?_;refine af ?_;rw[hz];simp[go_sem];exact lW (enc:=ju.enc) (x:=b) rfl
def kI:Key->Int
 | .i x=>x
 | .s _=>0
def mq(pl:Int->yK)(p:yK)(ks:List Key):List Int:=(ks.filter fun k=>decide (p=pl (kI k))).map kI
theorem Y1{pl p sn v}(h:p=pl v):mq pl p (sn++[.i v])=mq pl p sn++[v]:=by simp[mq,kI,h]
theorem abp{pl p sn v}(h: ¬p=pl v):mq pl p (sn++[.i v])=mq pl p sn:=by simp[mq,kI,h]
theorem Vk{pl p a b}(h:a.Perm b):(mq pl p a).Perm (mq pl p b):=(h.filter _).map _
theorem O4(pl p ks):(mq pl p ks).length<=ks.length:=by grind [mq]
theorem XT(k ks):(iX k ks).length<=ks.length+1:=by grind [iX]
theorem HI{g} : ∀{k i s},(cX g i s k).2.ks.length<=s.ks.length+k
 |0,i,s=>by simp[cX]
 |k+1,i,s=>by
  rw[cX];split
  ·simp
  ·have h1:=HI (g:=g) (k:=k) (i:=i+1) (s:=kV s (g i));grind [kV,XT]
theorem TY(n g):(bo n g).2.ks.length<=1024:=by
 grind [bo,vw,HI]
theorem agN{s}(h:yH s){k}(hk:k∈s.ks): ∃v,k= .i v:=by
 have:=h.kind k hk;cases k with
 |i v=>grind
 |s b=>cases this
theorem JD{p q:yK} :p=q↔p.Kind=q.Kind/\p.Of=q.Of:=by cases p;cases q;simp
theorem abd{α:Type}[Inhabited α]{enc:α->List D}{l:List α}{x:α}{ds:List D}{sz:Nat}{row:Nat->List D}(hr: ∀i,i<l.length->row i=enc (nth l i))(h:ds.take sz=enc x): ∀i,i<(l++[x]).length->aO l.length row (rowsOf sz ds) i=enc (nth (l++[x]) i):=by
 intro i hi;rw[List.length_append,List.length_singleton] at hi;rw[←fH (enc:=enc) (x:=x) h hi];grind [aO]
theorem EV{σ xs ys φ us vs Y}(h1:ig (σ.length+(xs.length+(φ.length+us.length))) xs ys)(h2:ig (σ.length+(xs.length+(φ.length+us.length))) us vs):aI.Leaves ((σ++(xs++φ))++us) ((σ++(ys++φ.map (bP Y)))++vs):=by
 obtain⟨l1,g1⟩:=mH h1;obtain⟨l2,g2⟩:=mH h2;refine⟨ai,fun b z hz=> ?_⟩;grind
theorem AW{n} : ∀{xs ys us vs},ig n xs ys->ig n us vs->ig n (xs++us) (ys++vs)
 |[],[],_,_,_,k=>k
 |x::xs,y::ys,_,_,h,k=>⟨h.1,AW h.2 k⟩
theorem AU{σ xs ys φ us vs}(h1:ig (σ.length+(xs.length+(φ.length+us.length))) xs ys)(h2:ig (σ.length+(xs.length+(φ.length+us.length))) us vs):aI.Leaves ((σ++(xs++φ))++us) ((σ++(ys++φ))++vs):=by
 grind [ae,AW,fD]
theorem vE{ks L sn}{k:Key}(h:(L++sn).Perm ks)(hk:k∈L):(L.erase k++(sn++[k])).Perm ks:=by
 grind
def atL(n:Nat)(g:Nat->hY)(p:yK):List Int:=ux (mq (bo n g).2.pl p (bo n g).2.ks)
def atE(n:Nat)(g:Nat->hY)(p:yK):Int:=if bX n g≠0 then 1 else if ey p=false\/p.Kind=0 then 2 else 0
theorem GP(b):ak prog 248 [.ms b 1 0 0,.d (I 0),.d (I 0)] σ (.cj []):=by
 refine ak.bd true func248 fun hwf=> ?_;refine wC ?_;refine dm (α:=Nat) true [0,1,2,6] (fun i=>[(6,.d (I (i+1)))]) (fun i=>_) (fun i=>i=0) (fun i=>0) 0 ?_;rintro i hi;simp[go_sem];refine cnd [0,1,2,6] rfl (fun c0=> ?_) (fun c0=> ?_)
 ·have d0:=c0;try simp at d0
  omega
 ·simp[go_sem]
theorem Xb(b):ak prog 181 [.ms b 1 0 0,.d (I 0),.d (I 0),.d (I 0)] σ (.cj []):=by
 refine ak.bt func181 ?_;refine dm (α:=Nat) true [0,1,2,3,8,9] (fun i=>[(8,.d (B true))]) (fun i=>_) (fun i=>i=0) (fun i=>0) 0 ?_;rintro i hi;refine wC ?_;refine cn [0,1,2,3,8,9,10] rfl ?_ ?_<;>intro c0 d0<;>try simp at d0
 ·simp[go_sem];refine az.mk (GP _ b) (sm ?_);exact af so
theorem TD(b):ak prog 124 [.ms b 1 0 0] σ (.cj []):=by
 refine ak.bt func124 ?_;refine az.mk (show ak prog 182 [.d (.v (.int .u64 0))] _ (.d (I 0)) from by have h:=QN (σ:=σ) 0 aa;rw[show Lib.bitLen 0=0 from rfl] at h;exact h) ?_;simp[go_sem];exact az.mk (Xb _ b) sc
theorem WC(σ τ l)(hn:l.length<1000000000):CS prog 124 [.ms σ.length 1 0 l.length] (σ++ .arr 1 l.length (fun i=>encI (nth l i))::τ) (fun r σ' X=>r= .cj []/\X=[]/\∃row,σ'=σ++ .arr 1 l.length row::τ/\∀i,i<l.length->row i=encI (nth (ux l) i)):=by
 rcases Nat.eq_zero_or_pos l.length with h|h
 ·obtain rfl:=List.length_eq_zero_iff.1 h;exact(TD _ _).cs ⟨rfl,rfl,_,rfl,fun i hi=>ai⟩
 ·refine(DL σ τ l.length l.length (nth l) h (Nat.le_refl _) hn).mono ?_;grind [CV,rT]
theorem G3(c n g p)(hn:n<1000000000):ak prog 52 [.d (SL c 6 hY.enc n g),.agg (p.enc.map .d),.d (I 1048575)] σ (.cj [.d (SL none 1 encI (if atE n g p=0 then(atL n g p).length else 0) (nth (atL n g p))),.d (I (atE n g p))]):=by
 have agZ:=El n g;have hlen:=TY n g;refine ak.be func52 fun hwf=> ?_;refine wE ?_;refine aq ?_;refine aB ?_;refine wV fun K hK=> ?_;refine az.mk (lk _ c n g hn) ?_;refine wD hK ?_;refine gF [0,2,4,11] ?_;refine fL ?_ ?_<;>intro c0 d0
 ·have hz:atE n g p=1:=by grind [atE]
  refine aj fun K hK=> ?_;simp[go_sem,c0];refine hK _ ?_;refine af ?_;rw[hz];simp[go_sem,Go.aI.aK]
 ·refine aj fun K hK=> ?_;simp[go_sem,d0];refine az.mk (ja _ p) ?_;simp[go_sem];refine cE.mk' (.d (B (gW 1048575))) (fun _=>lj _ 1048575) ?_;refine wD hK ?_;refine gF [0,2,4,15] ?_;refine fL ?_ ?_<;>intro c1 d1
  ·have hz:atE n g p=2:=by grind [atE,gW,gD]
   refine aj fun K hK=> ?_;simp[go_sem,c1];refine hK _ ?_;refine af ?_;rw[hz];simp[go_sem,Go.aI.aK]
  ·have hz:atE n g p=0:=by grind [atE]
   have XZ:=(OF (n:=n) (g:=g) ai).2;refine aJ ?_;refine aj fun K hK=> ?_;simp[go_sem,d1];refine hK _ ?_;refine aq ?_;refine wV fun K hK=> ?_;have h:=nA (AT (σ++[.var (p.enc.map .d)]) c n g hn XZ);refine az.gen h ?_;rintro r σ' X ⟨υ,rfl,rfl,rfl⟩;simp[go_sem,uT,hwf.one];refine hK _ ?_;refine aB ?_;refine bq 8 1 (fun i=>encI (nth ([]:List Int) i)) au aN ?_;refine ba [4,8,35] eE ?_;refine mo [σ.length+1,σ.length+(υ.length+1+1+1)] an ?_;refine bB (α:=List Key×List Key×Option Key×List aZ×(Nat->List D)) (fun x=>[(8,.ms (σ.length+(υ.length+1+1+1)) 1 0 (mq (bo n g).2.pl p x.2.1).length)]) (fun x=>(σ++ .var (p.enc.map .d):: .it x.1 x.2.2.1 (JF (bo n g).2.pl):: .var [.undef,.d (I (bo n g).2.day)]::x.2.2.2.1)++[.arr 1 (mq (bo n g).2.pl p x.2.1).length x.2.2.2.2]) (fun x=>(x.1++x.2.1).Perm (bo n g).2.ks/\x.2.2.2.1.length=υ.length/\∀i,i<(mq (bo n g).2.pl p x.2.1).length->x.2.2.2.2 i=encI (nth (mq (bo n g).2.pl p x.2.1) i)) (fun x=>x.1.length) ((bo n g).2.ks,[],none,υ.map (bP [σ.length+1]),fun i=>encI (nth ([]:List Int) i)) (by simp[go_sem,mq]) (rfl) (⟨an,an,fun i hi=>by grind [mq]⟩) ?_;rintro⟨L,sn,cur,φ,row⟩ ⟨hp,hφ,hr⟩;dsimp only at hp hφ hr;refine aj fun K hK=> ?_;simp[go_sem,E3,AZ,Key.v,JF,hφ];intro o ho1 ho2;refine hK _ ?_;refine aq ?_;refine gF [4,8,35,37] ?_;refine fL ?_ ?_<;>intro c2 d2
   ·obtain⟨k,rfl⟩:=Option.isSome_iff_exists.1 d2;have hk:=ho2 k rfl;obtain⟨v,rfl⟩:=agN agZ (hp.mem_iff.1 (List.mem_append_left _ hk));have hsm:(mq (bo n g).2.pl p sn).length<=1024:=by have h1:=O4 (bo n g).2.pl p sn;have h2:=hp.length_eq;grind
    refine aJ ?_;refine aB ?_;refine aj fun K hK=> ?_;simp[go_sem,Key.v,JF,hφ,c2];refine hK _ ?_;refine aj fun K hK=> ?_;simp[go_sem,hφ];refine hK _ ?_;refine gF [4,8,9,35,43] ?_;refine fL ?_ ?_<;>intro c3 d3
    ·have hout:=Y1 (sn:=sn) (show p=(bo n g).2.pl v by grind [JD]);refine aE fun K hK=> ?_;simp[go_sem,hφ,d3,hwf.one];refine wG hK ?_;refine⟨(L.erase (.i v),sn++[.i v],some (Key.i v),φ.map (bP [σ.length+(υ.length+1+1+1)]),aO (mq (bo n g).2.pl p sn).length row (rowsOf 1 [I v])),bp (by simp[go_sem,d3,hout]) ((by first|exact EV (xs:=[_,_,_]) (ys:=[_,_,_]) (by simp[go_sem,hφ]) au|exact AU (xs:=[_,_,_]) (ys:=[_,_,_]) (by simp[go_sem,hφ]) (by simp[go_sem,hφ]))) (by(simp[go_sem,hφ,d3,hout]<;>omega)),⟨vE hp hk,ai,by dsimp only;rw[hout];exact abd (x:=v) hr rfl⟩,ai⟩
    ·have hout:=abp (sn:=sn) (show ¬p=(bo n g).2.pl v by grind);refine aJ ?_;refine⟨(L.erase (.i v),sn++[.i v],some (Key.i v),φ,row),bp (by simp[go_sem,hout]) ((by first|exact EV (xs:=[_,_,_]) (ys:=[_,_,_]) au au|exact AU (xs:=[_,_,_]) (ys:=[_,_,_]) (by simp[go_sem,hφ]) au)) (by(simp[go_sem,hφ,c3,hout]<;>omega)),⟨vE hp hk,hφ,ai⟩,ai⟩
   ·obtain rfl:o=none:=by grind
    obtain rfl:=ho1 rfl;rw[List.nil_append] at hp;have hsm:(mq (bo n g).2.pl p sn).length<=1024:=by have h1:=O4 (bo n g).2.pl p sn;have h2:=hp.length_eq;omega
    have hat:ux (mq (bo n g).2.pl p sn)=atL n g p:=(rT (l:=mq (bo n g).2.pl p (bo n g).2.ks) ((kM _).trans (Vk hp)) (LD _));have hal:(mq (bo n g).2.pl p sn).length=(atL n g p).length:=by rw[←hat,(kM _).length_eq]
    refine bN ?_;refine ax (σ.length+(υ.length+1+1+1)) (fun q=>encI (nth (mq (bo n g).2.pl p sn) q)) (by simp[go_sem,hφ];rfl) (fun q hq=>hr q hq) (by simp[go_sem,hφ];rfl) ?_;refine aj fun K hK=> ?_;simp[go_sem,c2,hal];have h:=nA (WC (σ++ .var (p.enc.map .d):: .it [] cur (JF (bo n g).2.pl):: .var [.undef,.d (I (bo n g).2.day)]::φ) [] (mq (bo n g).2.pl p sn) aa);rw[hφ,hal] at h;refine az.gen h ?_;rintro r σ' X ⟨rfl,rfl,row',rfl,hrow'⟩;refine wD hK ?_;rw[hat] at hrow';refine ax (σ.length+(υ.length+1+1+1)) (fun q=>encI (nth (atL n g p) q)) (by simp[go_sem,hφ];rfl) (fun q hq=>hrow' q hq) (by simp[go_sem,hφ];rfl) ?_;refine bg (σ.length+(υ.length+1+1+1)) (by simp[go_sem,hφ];exact⟨rfl,rfl,rfl⟩) aN (by simp[go_sem,hφ,hwf.tY,hwf.aat];rfl) ?_;refine wE ?_;exact sy hz
end Go.Proofs.YthpplckmbbachaaGreatDoor
