/- Contracts and lemmas, joined out of smaller texts by a program; no conditions. -/
import Derived.Test.YthlhlnbcjlpigaaGreatDoorKB40
set_option linter.unusedVariables false
set_option linter.unusedSimpArgs false
set_option maxHeartbeats 1000000
set_option maxRecDepth 100000
namespace Go.Proofs.YthlhlnbcjlpigaaGreatDoor
open Go.aU Go.bY Go.Proofs.Tryz
variable (σ : List aC)
theorem NQ(s:ByteArray)(hs:s.size<4294967281):ay prog 190 [.d (Sb s)] σ (.d (B (mX s))):=by
 refine ay.bd true func190 fun hwf=> ?_;simp(disch:=first|omega|simp) [go_sem,aA];repeat refine⟨by omega,?_⟩
 refine aH [0] ?_ ?_<;>intro c0 d0
 ·have hz:mX s=false:=by
   cases hb:mX s with
   |false=>rfl
   |true=>have h:=(IG s).1 hb;unfold bt at h;omega
  simp[go_sem];rw[hz];exact aj sc
 ·simp[go_sem];refine gy (α:=Nat) true [0,3] (fun i=>[(3,.d (I i))]) (fun i=>_) (fun i=>i<=s.size/\∀q,q<i->nameAt s q=true) (fun i=>s.size-i) 0 ?_;rintro i ⟨hi,hx⟩;simp[go_sem];refine aH [0,3] ?_ ?_<;>intro c1 d1
  ·simp(disch:=first|omega|simp) [go_sem,aZ (i:=i) (by omega)];repeat refine⟨by omega,?_⟩
   refine aH [0,3] ?_ ?_<;>intro c2 d2
   ·have hz:mX s=false:=named_no d1 (by
     rw[←Bool.not_eq_true,Om,PN d1,PN (show i-1<s.size by omega)];omega)
    simp[go_sem];rw[hz];exact aj sc
   ·have hnx:nameAt s i=true:=by
     rw[Om,PN d1,PN (show i-1<s.size by omega)];omega
    simp(disch:=first|omega|simp) [go_sem,aA];refine dB (i+1) ⟨by omega,fun q hq=>by rcases Nat.lt_or_eq_of_le (Nat.le_of_lt_succ hq) with h|h;exact hx q h;rw[h];exact hnx⟩ (h:=by simp[go_sem]<;>omega)
  ·have hin:i=s.size:=by omega
   rw[hin] at hx;have hz:mX s=true:=(IG s).2 ⟨by omega,by omega,by unfold bt;omega,by unfold bt;omega,hx⟩;simp[go_sem];refine go true ?_;simp[go_sem];rw[hz];exact aj sc
theorem QA(p:iU)(hs:p.Name.size<4294967281):ay prog 132 [.agg (p.enc.map .d)] σ (.d (I (qj p))):=by
 refine ay.bs true func132 fun hwf=> ?_;refine aH [1] ?_ ?_<;>intro c0 d0
 ·simp[go_sem];refine aj ?_;simp[go_sem,qj,d0]<;>omega
 ·simp[go_sem];refine aW.mk (NQ _ _ (by first|assumption|exact aO (by assumption)|omega|simp_all)) (sm ?_);refine aH [1] ?_ ?_<;>intro c1 d1
  ·simp[go_sem];refine aj ?_;simp[go_sem,qj,d0,d1]<;>omega
  ·simp[go_sem];refine aW.mk (rC _ p.Hz) (sm ?_);refine fA.mk (rC _ p.Hy) (sm ?_);refine aH [1] ?_ ?_<;>intro c2 d2
   ·simp[go_sem];refine aj ?_;simp[go_sem,qj,d0,d1,d2]<;>omega
   ·simp[go_sem];refine aH [] ?_ ?_<;>intro c3 d3
    ·simp[go_sem];refine aj ?_;simp[go_sem,qj,d0,d1,d2,d3]<;>omega
    ·simp[go_sem];refine aj ?_;simp[go_sem,qj,d1,d2]<;>omega
theorem zy(c:Option Nat)(n:Nat)(g:Nat->iU)(hn:n<1000000000)(hN: ∀i,i<n->(g i).Name.size<4294967281):ay prog 74 [.d (SL c 6 iU.enc n g)] σ (.d (I (jM n g))):=by
 refine ay.bs true func74 fun hwf=> ?_;refine aH [0] ?_ ?_<;>intro c0 d0
 ·simp[go_sem];refine aj ?_;simp[go_sem,jM]<;>omega
 ·simp[go_sem];refine gy (α:=Nat) true [0,9,10,11] (fun i=>[(11,.d (I i))]) (fun i=>_) (fun i=>i<=n/\aI (zC g) 0 n=aI (zC g) i (n-i)) (fun i=>n-i) 0 ?_;rintro i ⟨hi,hx⟩;simp[go_sem];refine aH [0,9,10,11] ?_ ?_<;>intro c1 d1
  ·obtain⟨k,hk⟩: ∃k,n-i=k+1:=⟨n-i-1,by omega⟩;have hk':n-(i+1)=k:=by omega
   rw[hk,aI] at hx;simp[go_sem];repeat refine⟨by omega,?_⟩
   refine aW.mk (QA _ (g i) (hN i d1)) ?_;simp[go_sem];refine aH [0,3,4,5,9,10,11] ?_ ?_<;>intro c2 d2
   ·have he:zC g i=qj (g i):=by unfold zC;rw[if_pos d2]
    rw[he,if_pos d2] at hx;simp[go_sem];refine aj ?_;simp[go_sem,jM,hx]<;>omega
   ·simp[go_sem];refine T.dr 13 fun K hK=> ?_;simp[go_sem,aZ (i:=i) (by omega)];repeat refine⟨by omega,?_⟩
    refine hK _ ?_;refine go true ?_;simp[go_sem];refine aH [0,9,10,11] ?_ ?_<;>intro c3 d3
    ·have he:zC g i=5:=by unfold zC;rw[if_neg (by simp[d2]),if_pos d3]
     rw[he] at hx;simp at hx;simp[go_sem];refine aj ?_;simp[go_sem,jM,hx]<;>omega
    ·have he:zC g i=0:=by unfold zC;rw[if_neg (by simp[d2]),if_neg (by omega)]
     rw[he] at hx;simp at hx;simp(disch:=first|omega|simp) [go_sem,aA];refine dB (i+1) ⟨by omega,by rw[hx,hk']⟩ (h:=by simp[go_sem]<;>omega)
  ·obtain rfl:i=n:=by omega
   rw[Nat.sub_self,aI] at hx;simp[go_sem];refine go true ?_;simp[go_sem];refine aj ?_;simp[go_sem,jM,hx]<;>omega
theorem QB(c:Option Nat)(n:Nat)(g:Nat->iU)(u:Int)(hn:n<1000000000)(hN: ∀i,i<n->(g i).Name.size<4294967281):ay prog 137 [.d (SL c 6 iU.enc n g),.d (I u)] σ (.eX [.agg ((uG n g u).1.enc.map .d),.d (B (uG n g u).2)]):=by
 refine ay.bs true func137 fun hwf=> ?_;refine aW.mk (zy _ c n g hn hN) (sm ?_);refine aH [0,1,4] ?_ ?_<;>intro c0 d0
 ·have hz:uG n g u=(iU.zero,false):=by unfold uG;rw[if_pos (.inl d0)]
  simp[go_sem];refine aj ?_;rw[hz];simp[go_sem,iU.zero]
 ·simp[go_sem];refine gy (α:=Nat) true [1,4,12,13,14] (fun i=>[(14,.d (I i))]) (fun i=>_) (fun i=>i<=n/\qm n g u=idxFrom (fun r=>r.ID==u) ((lst n g).drop i) i) (fun i=>n-i) 0 ?_ (hx:=⟨by omega,rfl⟩);rintro i ⟨hi,hx⟩;simp[go_sem];refine aH [1,4,12,13,14] ?_ ?_<;>intro c1 d1
  ·rw[fE d1,idxFrom] at hx;simp[go_sem];repeat refine⟨by omega,?_⟩
   refine aH [1,4,7,12,13,14] ?_ ?_<;>intro c2 d2
   ·simp[go_sem];refine aj ?_;rw[if_pos (by simp[d2])] at hx;have hz:uG n g u=(g i,true):=by unfold uG;rw[hx,if_neg (by omega)];simp
    rw[hz];simp[go_sem,d2]
   ·simp(disch:=first|omega|simp) [go_sem,aA];refine dB (i+1) ⟨by omega,by rw[hx,if_neg (by simp[d2])]⟩ (h:=by simp[go_sem]<;>omega)
  ·rw[fF d1,idxFrom] at hx;simp[go_sem];refine go true (sm ?_);refine aj ?_;have hz:uG n g u=(iU.zero,false):=by unfold uG;rw[hx,if_pos (by omega)]
   rw[hz];simp[go_sem,iU.zero]
end Go.Proofs.YthlhlnbcjlpigaaGreatDoor
