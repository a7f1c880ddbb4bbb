/- Contracts and lemmas, joined out of smaller texts by a program; no conditions. -/
import Derived.Test.YthlhlnbcjlpigaaGreatDoorKB27
set_option linter.unusedVariables false
set_option linter.unusedSimpArgs false
set_option maxHeartbeats 1000000
set_option maxRecDepth 100000
namespace Go.Proofs.YthlhlnbcjlpigaaGreatDoor
open Go.aU Go.bY Go.Proofs.Tryz
variable (σ : List aC)
theorem QF(m:fU):ay prog 191 [.agg (m.enc.map .d)] σ (.d (B (YQ m))):=by
 refine ay.bs true func191 fun hwf=> ?_;refine aj ?_;simp[go_sem,YQ]<;>omega
theorem rC(m:fU):ay prog 135 [.agg (m.enc.map .d)] σ (.d (I (oI m))):=by
 refine ay.bs true func135 fun hwf=> ?_;refine aW.mk (QF _ _) (sm ?_);refine jT ?_ ?_<;>intro c0 d0
 ·simp[go_sem];refine aj ?_;simp[go_sem,oI,d0]<;>omega
 ·simp[go_sem];refine aj ?_;simp[go_sem,oI,d0]<;>omega
theorem iZ(s:Span):ay prog 144 [.agg (s.enc.map .d)] σ (.d (B (qW s))):=by
 refine ay.bs true func144 fun hwf=> ?_;refine aj ?_;simp[go_sem,qW]<;>omega
theorem QE(r:Rule):ay prog 130 [.agg (r.enc.map .d)] σ (.d (B (formed r))):=by
 refine ay.bs true func130 fun hwf=> ?_;refine fA.mk (iZ _ r.In) (sm ?_);refine aj ?_;simp[go_sem,formed]<;>omega
theorem QC(a b:Span):ay prog 131 [.agg (a.enc.map .d),.agg (b.enc.map .d)] σ (.d (B (meetB a b))):=by
 refine ay.bs true func131 fun hwf=> ?_;refine aj ?_;simp[go_sem,meetB]<;>omega
theorem NR(c:Option Nat)(n:Nat)(g:Nat->Rule)(hn:n<1000000000):ay prog 73 [.d (SL c 6 Rule.enc n g)] σ (.d (I (check n g))):=by
 refine ay.bs true func73 fun hwf=> ?_;refine aH [0] ?_ ?_<;>intro c0 d0
 ·simp[go_sem];refine aj ?_;simp[go_sem,check]<;>omega
 ·simp[go_sem];refine gy (α:=Nat) true [0,10,11,12] (fun i=>[(12,.d (I i))]) (fun i=>_) (fun i=>i<=n/\QZ g 0 n=QZ g i (n-i)) (fun i=>n-i) 0 ?_;rintro i ⟨hi,hx⟩;simp[go_sem];refine aH [0,10,11,12] ?_ ?_<;>intro c1 d1
  ·obtain⟨k,hk⟩: ∃k,n-i=k+1:=⟨n-i-1,by omega⟩;have hk':n-(i+1)=k:=by omega
   rw[hk,QZ] at hx;simp[go_sem];repeat refine⟨by omega,?_⟩
   refine aW.mk (QE _ (g i)) ?_;simp[go_sem];refine aH [0,3,4,10,11,12] ?_ ?_<;>intro c2 d2
   ·simp[go_sem];refine aj ?_;simp[go_sem,check,hx,d2]<;>omega
   ·simp[go_sem];refine T.dr 13 fun K hK=> ?_;simp[go_sem,aZ (i:=i) (by omega)];repeat refine⟨by omega,?_⟩
    refine hK _ ?_;refine go true ?_;simp[go_sem];refine aH [0,3,4,10,11,12] ?_ ?_<;>intro c3 d3
    ·simp[go_sem];refine aj ?_;simp[go_sem,check,hx,d2,d3]<;>omega
    ·simp[go_sem,hi];refine gy (α:=Nat) true [0,4,10,11,12,35,36,37] (fun q=>[(37,.d (I q))]) (fun q=>_) (fun q=>q<=i/\(lst i g).any (clash (g i))=((lst i g).drop q).any (clash (g i))) (fun q=>i-q) 0 ?_;rintro q ⟨hq,hy⟩;simp[go_sem];refine aH [0,4,10,11,12,35,36,37] ?_ ?_<;>intro c4 d4
     ·rw[fE d4,List.any_cons] at hy;simp[go_sem];repeat refine⟨by omega,?_⟩
      refine fA.mk (QC _ (g q).In (g i).In) ?_;simp[go_sem];refine aH [0,4,10,11,12,35,36,37] ?_ ?_<;>intro c5 d5
      ·have hany:(lst i g).any (clash (g i))=true:=by rw[hy];simp only[clash,Bool.and_assoc];rw[show((g q).Class==(g i).Class&&(decide ((g q).In.From<(g i).In.Until)&&decide ((g i).In.From<(g q).In.Until)))=true from c5];rfl
       simp[go_sem,hany];refine aj ?_;simp[go_sem,check,hx,hany,d2,c3,d5]<;>omega
      ·simp(disch:=first|omega|simp) [go_sem,aA];refine dB (q+1) ⟨by omega,by rw[hy,show clash (g i) (g q)=false by unfold clash;rw[Bool.and_assoc];exact c5];rfl⟩ (h:=by simp[go_sem]<;>omega)
     ·have hany:(lst i g).any (clash (g i))=false:=by rw[hy,fF (by omega)];rfl
      simp[go_sem];refine go true ?_;simp(disch:=first|omega|simp) [go_sem,aA];refine dB (i+1) ⟨by omega,by rw[hx,hk'];simp[d2,c3,hany]⟩ (h:=by simp[go_sem]<;>omega)
  ·obtain rfl:i=n:=by omega
   rw[Nat.sub_self,QZ] at hx;simp[go_sem];refine go true ?_;simp[go_sem];refine aj ?_;simp[go_sem,check,hx]<;>omega
theorem Qz(a:kP):ay prog 133 [.agg (a.enc.map .d)] σ (.d (B (TG a))):=by
 refine ay.bs true func133 fun hwf=> ?_;refine fA.mk (iZ _ a.In) (sm ?_);refine aj ?_;simp[go_sem,TG]<;>omega
theorem NP(c:Option Nat)(n:Nat)(g:Nat->kP)(hn:n<1000000000):ay prog 75 [.d (SL c 6 kP.enc n g)] σ (.d (I (kR n g))):=by
 refine ay.bs true func75 fun hwf=> ?_;refine aH [0] ?_ ?_<;>intro c0 d0
 ·simp[go_sem];refine aj ?_;simp[go_sem,kR]<;>omega
 ·simp[go_sem];refine gy (α:=Nat) true [0,8,9,10] (fun i=>[(10,.d (I i))]) (fun i=>_) (fun i=>i<=n/\aI (Bv g) 0 n=aI (Bv g) i (n-i)) (fun i=>n-i) 0 ?_;rintro i ⟨hi,hx⟩;simp[go_sem];refine aH [0,8,9,10] ?_ ?_<;>intro c1 d1
  ·obtain⟨k,hk⟩: ∃k,n-i=k+1:=⟨n-i-1,by omega⟩;have hk':n-(i+1)=k:=by omega
   rw[hk,aI] at hx;simp[go_sem];repeat refine⟨by omega,?_⟩
   refine aW.mk (Qz _ _) ?_;simp[go_sem];refine aH [0,3,4,8,9,10] ?_ ?_<;>intro c2 d2
   ·have he:Bv g i=2:=by unfold Bv;rw[if_pos d2]
    rw[he] at hx;simp at hx;simp[go_sem];refine aj ?_;simp[go_sem,kR,hx]<;>omega
   ·simp[go_sem];refine T.dr 13 fun K hK=> ?_;simp[go_sem,aZ (i:=i) (by omega)];repeat refine⟨by omega,?_⟩
    refine hK _ ?_;refine go true ?_;simp[go_sem];refine aH [0,8,9,10] ?_ ?_<;>intro c3 d3
    ·have he:Bv g i=5:=by unfold Bv;rw[if_neg (by simp[d2]),if_pos d3]
     rw[he] at hx;simp at hx;simp[go_sem];refine aj ?_;simp[go_sem,kR,hx]<;>omega
    ·have he:Bv g i=0:=by unfold Bv;rw[if_neg (by simp[d2]),if_neg (by omega)]
     rw[he] at hx;simp at hx;simp(disch:=first|omega|simp) [go_sem,aA];refine dB (i+1) ⟨by omega,by rw[hx,hk']⟩ (h:=by simp[go_sem]<;>omega)
  ·obtain rfl:i=n:=by omega
   rw[Nat.sub_self,aI] at hx;simp[go_sem];refine go true ?_;simp[go_sem];refine aj ?_;simp[go_sem,kR,hx]<;>omega
theorem Qy(a:qJ):ay prog 134 [.agg (a.enc.map .d)] σ (.d (B (RG a))):=by
 refine ay.bs true func134 fun hwf=> ?_;refine fA.mk (iZ _ a.In) (sm ?_);refine aj ?_;simp[go_sem,RG,yK,Bool.and_assoc]<;>omega
theorem NM(c:Option Nat)(n:Nat)(g:Nat->qJ)(hn:n<1000000000):ay prog 76 [.d (SL c 6 qJ.enc n g)] σ (.d (I (lJ n g))):=by
 refine ay.bs true func76 fun hwf=> ?_;refine aH [0] ?_ ?_<;>intro c0 d0
 ·simp[go_sem];refine aj ?_;simp[go_sem,lJ]<;>omega
 ·simp[go_sem];refine gy (α:=Nat) true [0,8,9,10] (fun i=>[(10,.d (I i))]) (fun i=>_) (fun i=>i<=n/\aI (zF g) 0 n=aI (zF g) i (n-i)) (fun i=>n-i) 0 ?_;rintro i ⟨hi,hx⟩;simp[go_sem];refine aH [0,8,9,10] ?_ ?_<;>intro c1 d1
  ·obtain⟨k,hk⟩: ∃k,n-i=k+1:=⟨n-i-1,by omega⟩;have hk':n-(i+1)=k:=by omega
   rw[hk,aI] at hx;simp[go_sem];repeat refine⟨by omega,?_⟩
   refine aW.mk (Qy _ _) ?_;simp[go_sem];refine aH [0,3,4,8,9,10] ?_ ?_<;>intro c2 d2
   ·have he:zF g i=2:=by unfold zF;rw[if_pos d2]
    rw[he] at hx;simp at hx;simp[go_sem];refine aj ?_;simp[go_sem,lJ,hx]<;>omega
   ·simp[go_sem];refine T.dr 13 fun K hK=> ?_;simp[go_sem,aZ (i:=i) (by omega)];repeat refine⟨by omega,?_⟩
    refine hK _ ?_;refine go true ?_;simp[go_sem];refine aH [0,8,9,10] ?_ ?_<;>intro c3 d3
    ·have he:zF g i=5:=by unfold zF;rw[if_neg (by simp[d2]),if_pos d3]
     rw[he] at hx;simp at hx;simp[go_sem];refine aj ?_;simp[go_sem,lJ,hx]<;>omega
    ·have he:zF g i=0:=by unfold zF;rw[if_neg (by simp[d2]),if_neg (by omega)]
     rw[he] at hx;simp at hx;simp(disch:=first|omega|simp) [go_sem,aA];refine dB (i+1) ⟨by omega,by rw[hx,hk']⟩ (h:=by simp[go_sem]<;>omega)
  ·obtain rfl:i=n:=by omega
   rw[Nat.sub_self,aI] at hx;simp[go_sem];refine go true ?_;simp[go_sem];refine aj ?_;simp[go_sem,lJ,hx]<;>omega
end Go.Proofs.YthlhlnbcjlpigaaGreatDoor
