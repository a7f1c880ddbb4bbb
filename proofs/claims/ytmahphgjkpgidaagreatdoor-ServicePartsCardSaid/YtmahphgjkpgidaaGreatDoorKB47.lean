/- Contracts and lemmas, joined out of smaller texts by a program; no conditions. -/
import Derived.Test.YtmahphgjkpgidaaGreatDoorKB44
import Derived.Test.YtmahphgjkpgidaaGreatDoorKB46
set_option linter.unusedVariables false
set_option linter.unusedSimpArgs false
set_option maxHeartbeats 4000000
set_option maxRecDepth 100000
namespace Go.Proofs.YtmahphgjkpgidaaGreatDoor
open Go.aU Go.dh Go.Proofs.Tryz
theorem Y4{m:Nat}{rg:Nat->Row}{g:Nat->Ev}{u:Use} : ∀{k i:Nat},-1<=(dV m rg g u i k).1/\(dV m rg g u i k).1<=((i+k:Nat):Int)
 |0,i=>by rw[dV];dsimp only;omega
 |k+1,i=>by
  rw[dV];split
  ·dsimp only;omega
  ·have:=Y4 (m:=m) (rg:=rg) (g:=g) (u:=u) (k:=k) (i:=i+1);omega
theorem runR_bd{u:Use}{m:Nat}{rg:Nat->Row}{n:Nat}{g:Nat->Ev} : -1<=(gu u m rg n g).2.1/\(gu u m rg n g).2.1<=(n:Int):=by
 unfold gu;split
 ·dsimp only;omega
 ·split
  ·have:=Y4 (m:=m) (rg:=rg) (g:=g) (u:=u) (k:=n) (i:=0);dsimp only;omega
  ·dsimp only;omega
theorem Ru(σ:List aG)(u:Use)(m:Nat)(rg:Nat->Row)(n:Nat)(g:Nat->Ev)(hc: ∀i,i<n->(g i).cn=none/\(g i).ct=none)(hu:LW u)(hm:m<=9223372036854775807)(hnn:n<=9223372036854775807)(hn: ∀i,i<n->(g i).nn<=9223372036854775807/\(g i).nt<=9223372036854775807)(h0:σ[0]? =some (.tab 0 gK))(h1:σ[1]? =some (.loc 1)):aA prog 4 [.agg (u.cells u.bG),.d (SL none 3 Row.enc m rg),.d (SL none 5 Ev.enc n g)] σ (.d (B true)):=by
 refine aA.bs true func4 fun hwf=> ?_;refine aO.mk (o7 _ (aC h0) (aC h1)) (sm ?_);refine cn [1,2,3] rfl ?_ ?_<;>intro c0 d0<;>try simp at d0
 ·simp[go_sem];refine aO.mk (tH _ u none m rg hu) (sm ?_);refine fM.mk' (.d (B (jC n g))) (fun _=>jO _ none n g hnn hn) (sm ?_);refine aJ [1,2,3] ?_ ?_<;>intro c1 d1
  ·simp[go_sem];exact aj so
  ·have hf1:jw m u=true/\jC n g=true:=by
    revert d1;cases jw m u<;>cases jC n g<;>simp
   obtain⟨hq1,hq2⟩:=hf1;obtain⟨hus,hns,hmm⟩:=tV hq1;obtain⟨hn40,hev,hbd⟩:=Ll hq2;obtain⟨k,hk⟩: ∃k,k=n/2:=⟨_,rfl⟩;have hkn:k<=n:=by omega
   have hdv:Int.tdiv (n:Int) 2=(k:Int):=by rw[Yw (by omega)];omega
   have hdw:IntKind.i64.wrap (k:Int)=(k:Int):=aH (by omega) (by omega);simp(disch:=first|omega|simp) [go_sem];refine aO.mk (dS _ u hus) ?_;simp(disch:=first|omega|simp) [go_sem];refine aO.mk (kX _ none m rg (by omega)) ?_;simp(disch:=first|omega|simp) [go_sem];refine aO.mk (oh _ none n g (by omega) (fun i hi=>⟨(hc i hi).1,(hc i hi).2,(hbd i hi).1,(hbd i hi).2⟩)) ?_;simp(disch:=first|omega|simp) [go_sem];refine aO.mk (yJ _ u none m rg none n g hus (by omega) (by omega) (Wv hmm hev) (aC h0) (aC h1)) ?_;simp(disch:=first|omega|simp) [go_sem,hdv,hdw];apply bW 16 13 14 T.mixed (by kernel_rfl)
   ·intro τ K hK;simp[go_sem];refine dF.mk (dS _ u hus) ?_;simp[go_sem];refine dF.mk (kX _ none m rg (by omega)) ?_;simp[go_sem,hkn];refine dF.mk (oh _ none k g (by omega) (fun i hi=>⟨(hc i (by omega)).1,(hc i (by omega)).2,(hbd i (by omega)).1,(hbd i (by omega)).2⟩)) ?_;simp[go_sem];refine dF.mk (yJ _ u none m rg none k g hus (by omega) (by omega) (Wv hmm fun i hi=>hev i (by omega)) (aC h0) (aC h1)) ?_;simp[go_sem];exact hK _ _
   intro K hK;simp[go_sem];refine hK _ ?_;refine go true ?_;simp[go_sem];refine aJ [1,2,7,8,9,10,11,12,13] ?_ ?_<;>intro c2 d2
   ·have hbad:=parts_bad (u:=u) (m:=m) (rg:=rg) (g:=g) hkn (by simpa using d2);have hb1:=congrArg Prod.fst hbad;have hb2:=congrArg Prod.snd hbad;simp[go_sem,hb1,hb2];refine aj ?_;simp[go_sem]<;>omega
   ·have hz2:(gu u m rg k g).2.2=0:=by simpa using d2
    obtain⟨⟨hr1,hr2⟩,hr3,hr4⟩:=D9 hz2;obtain⟨ht1,ht2,ht3⟩:=parts_two hkn hz2;have hm1:=QA hz2;have hrb:aP (gu u m rg k g).1:=by rw[hr4];exact xA (iT.1 hr1) hr3
    obtain⟨b,hb⟩: ∃b,b=(gu u m rg k g).1:=⟨_,rfl⟩;rw[←hb] at hrb ht1 ht2 ht3⊢;obtain⟨q,hq⟩: ∃q,q=n-k:=⟨_,rfl⟩;rw[←hq] at ht1 ht2 ht3;have hqs:(n:Int)-(k:Int)=(q:Int):=by omega
    simp[go_sem,hz2,hm1];apply bW 16 13 14 T.mixed (by kernel_rfl)
    ·intro τ K hK;simp[go_sem];refine dF.mk (dS _ b (oO hrb).1) ?_;simp[go_sem];refine dF.mk (kX _ none m rg (by omega)) ?_;simp[go_sem,hkn,hqs];refine dF.mk (oh _ none q (fun i=>g (k+i)) (by omega) (fun i hi=>⟨(hc (k+i) (by omega)).1,(hc (k+i) (by omega)).2,(hbd (k+i) (by omega)).1,(hbd (k+i) (by omega)).2⟩)) ?_;simp[go_sem];refine dF.mk (yJ _ b none m rg none q (fun i=>g (k+i)) (oO hrb).1 (by omega) (by omega) (Wv hmm fun i hi=>hev (k+i) (by omega)) (aC h0) (aC h1)) ?_;simp[go_sem];exact hK _ _
    intro K hK;simp[go_sem];refine hK _ ?_;refine go true ?_;simp[go_sem];refine aJ [7,8,9,10,12,14,15,16] ?_ ?_<;>intro c3 d3
    ·have hz3:(gu b m rg q fun i=>g (k+i)).2.2≠0:=by simpa using d3
     have ht4:=ht3 (by rw[ht2];exact hz3);have hdw3:IntKind.i64.wrap ((gu b m rg q fun i=>g (k+i)).2.1+(k:Int))=(gu u m rg n g).2.1:=by rw[ht4];have:=runR_bd (u:=b) (m:=m) (rg:=rg) (n:=q) (g:=fun i=>g (k+i));exact aH (by omega) (by omega)
     simp(disch:=first|omega|simp) [go_sem,ht2,hdw3];refine aj ?_;simp[go_sem]<;>omega
    ·have hz3:(gu b m rg q fun i=>g (k+i)).2.2=0:=by simpa using d3
     have hz4:(gu u m rg n g).2.2=0:=by rw[ht2,hz3]
     have hm3:=QA hz3;have hm4:=QA hz4;have hrc:aP (gu b m rg q fun i=>g (k+i)).1:=by
      obtain⟨⟨x1,x2⟩,x3,x4⟩:=D9 hz3;rw[x4];exact xA (iT.1 x1) x3
     simp[go_sem,hz3,hz4,hm3,hm4,ht1];refine fM.mk' (.d (B true)) (fun _=>self45_cs _ (gu b m rg q fun i=>g (k+i)).1 (oO hrc).1) ?_;simp[go_sem];refine aj ?_;simp[go_sem]<;>omega
end Go.Proofs.YtmahphgjkpgidaaGreatDoor
