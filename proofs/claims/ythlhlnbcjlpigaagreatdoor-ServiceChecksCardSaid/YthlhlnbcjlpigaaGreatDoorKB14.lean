/- Contracts and lemmas, joined out of smaller texts by a program; no conditions. -/
import Derived.Test.YthlhlnbcjlpigaaGreatDoorKB12
set_option linter.unusedVariables false
set_option linter.unusedSimpArgs false
set_option maxHeartbeats 400000
set_option maxRecDepth 100000
namespace Go.Proofs.YthlhlnbcjlpigaaGreatDoor
open Go.aU Go.bY Go.Proofs.Tryz
theorem rows_1{n:Nat}{g:Nat->Row}(h0: ¬256<n){e:Int}(h:aI (CP g) 0 n=e)(he:e≠0):dH n g=e:=by
 unfold dH;rw[if_neg h0,h,if_pos he]
theorem rows_2{n:Nat}{g:Nat->Row}(h0: ¬256<n)(h1:aI (CP g) 0 n=0){e:Int}(h:aI (IB n g) 0 n=e)(he:e≠0):dH n g=e:=by
 unfold dH;rw[if_neg h0,if_neg (by simp[h1]),h,if_pos he]
theorem rows_3{n:Nat}{g:Nat->Row}(h0: ¬256<n)(h1:aI (CP g) 0 n=0)(h2:aI (IB n g) 0 n=0){i:Nat}(hi:i<n)(hc:Cyc n g i):dH n g=17:=by
 unfold dH;rw[if_neg h0,if_neg (by simp[h1]),if_neg (by simp[h2]),if_pos ⟨i,hi,hc⟩]
theorem rows_4{n:Nat}{g:Nat->Row}(h0: ¬256<n)(h1:aI (CP g) 0 n=0)(h2:aI (IB n g) 0 n=0)(hc: ∀i,i<n->¬Cyc n g i):dH n g=0:=by
 unfold dH;rw[if_neg h0,if_neg (by simp[h1]),if_neg (by simp[h2]),if_neg (by rintro⟨i,hi,h⟩;exact hc i hi h)]
theorem not_cyc{n:Nat}{g:Nat->Row}(hg:Good n g){i:Nat}(hi:i<n)(h: ¬Cyc n g i): ∃K,K<n/\(g (eP n g i K)).Parent=0/\∀q,q<K->(g (eP n g i q)).Parent≠0:=by
 apply Classical.byContradiction;intro hn;refine h fun k hk he=> ?_;obtain⟨K,h4,_,h5,h6⟩:=hg.ends hi he;exact hn ⟨K,h4,h5,h6⟩
theorem rD(σ:List aC)(c:Option Nat)(n:Nat)(g:Nat->Row)(hn:n<1000000000):ay prog 54 [.d (SL c 3 Row.enc n g)] σ (.d (I (dH n g))):=by
 refine ay.be func54 fun hwf=> ?_;refine ak fun K hK=>sm ?_;refine hK _ ?_;refine aK ?_;refine ak fun K hK=>sm ?_;refine hK _ ?_;refine pW [1,2,12] ?_;refine ig ?_ ?_<;>intro c0 d0
 ·have hz:dH n g=8:=by unfold dH;rw[if_pos (by omega)]
  refine ak fun K hK=> ?_;simp[go_sem,d0];refine hK _ ?_;rw[hz];exact aj sc
 ·have hle: ¬256<n:=by omega
  refine aV ?_;refine aK ?_;refine ak fun K hK=> ?_;simp[go_sem,c0];refine hK _ ?_;refine aN ?_;refine bF [1,2,13,14,15] (by simp[go_sem,bf];rfl) ?_;refine bU (α:=Nat) (fun i=>[(15,.d (I i))]) (fun i=>σ++[.var [.d (SL c 3 Row.enc n g)],.var [.d (I 0)]]) (fun i=>i<=n/\aI (CP g) 0 n=aI (CP g) i (n-i)) (fun i=>n-i) 0 (by simp[go_sem]) (rfl) (by simp) ?_;rintro i ⟨hi,hx⟩;refine ak fun K hK=> ?_;simp[go_sem];refine hK _ ?_;refine aK ?_;refine pW [1,2,13,14,15,16] ?_;refine ig ?_ ?_<;>intro c1 d1
  ·obtain⟨k,hk⟩: ∃k,n-i=k+1:=⟨n-i-1,by omega⟩;have hk':n-(i+1)=k:=by omega
   rw[hk,aI] at hx;refine aV ?_;refine aK ?_;refine aN ?_;refine ak fun K hK=> ?_;simp[go_sem,d1];refine hK _ ?_;refine aN ?_;refine ak fun K hK=> ?_;simp[go_sem];refine aW.mk (wR _ (g i).Unit) ?_;simp[go_sem];refine hK _ ?_;refine pW [1,2,3,4,13,14,15,20] ?_;refine ig ?_ ?_<;>intro c2 d2
   ·have hrk:rowOk (g i)=false:=by
     cases h:rowOk (g i) with
     |false=>rfl
     |true=>
      exfalso;simp[rowOk] at h;rcases d2 with(((d2|d2)|d2)|d2)|d2
      ·rw[h.1.1.1.1] at d2;cases d2
      all_goals omega
    have he:CP g i=2:=by unfold CP;rw[if_pos hrk]
    rw[he] at hx;simp at hx;have hz:=rows_1 hle hx (by decide);refine ak fun K hK=> ?_;simp[go_sem,c2];refine hK _ ?_;rw[hz];exact aj sc
   ·have hrk:rowOk (g i)=true:=by simpa[rowOk] using d2
    refine qI 14 T.mixed (by kernel_rfl) fun K hK=> ?_;simp[go_sem,aZ (i:=i) (by omega),d2];repeat refine⟨by omega,?_⟩
    refine hK _ ?_;refine pW [1,2,13,14,15,45] ?_;refine ig ?_ ?_<;>intro c3 d3
    ·have he:CP g i=5:=by unfold CP;rw[if_neg (by simp[hrk]),if_pos d3]
     rw[he] at hx;simp at hx;have hz:=rows_1 hle hx (by decide);refine ak fun K hK=> ?_;simp[go_sem,d3];refine hK _ ?_;rw[hz];exact aj sc
    ·have he:CP g i=0:=by unfold CP;rw[if_neg (by simp[hrk]),if_neg (by rintro⟨h1,h2⟩;have:=d3 h1;omega)]
     rw[he] at hx;simp at hx;refine aV ?_;refine aQ fun K hK=> ?_;simp[go_sem,c3];try simp(disch:=omega) only[aA]
     refine hK _ ?_;refine⟨i+1,bK (by simp[go_sem]) (.refl _) (by(simp[go_sem]<;>omega)),⟨by omega,by rw[hx,hk']⟩,by first|omega|(dsimp only;omega)⟩
  ·have hin:i=n:=by omega
   rw[hin,Nat.sub_self,aI] at hx;refine dh ?_;refine aK ?_;refine ak fun K hK=> ?_;simp[go_sem,c1];refine hK _ ?_;refine aN ?_;refine bF [1,2,60,61,62] (by simp[go_sem,bf];rfl) ?_;refine bU (α:=Nat) (fun q=>[(62,.d (I q))]) (fun q=>σ++[.var [.d (SL c 3 Row.enc n g)],.var [.d (I 0)]]) (fun q=>q<=n/\aI (IB n g) 0 n=aI (IB n g) q (n-q)) (fun q=>n-q) 0 (by simp[go_sem]) (rfl) (by simp) ?_;rintro q ⟨hq,hy⟩;refine ak fun K hK=> ?_;simp[go_sem];refine hK _ ?_;refine aK ?_;refine pW [1,2,60,61,62,63] ?_;refine ig ?_ ?_<;>intro c4 d4
   ·obtain⟨j,hj⟩: ∃j,n-q=j+1:=⟨n-q-1,by omega⟩;have hj':n-(q+1)=j:=by omega
    rw[hj,aI] at hy;refine aV ?_;refine aK ?_;refine aN ?_;refine ak fun K hK=> ?_;simp[go_sem,d4];refine hK _ ?_;refine ak fun K hK=> ?_;simp[go_sem];refine fA.mk (jV _ c n g (g q).Parent hn) ?_;simp[go_sem];refine hK _ ?_;refine pW [1,2,60,61,62,75] ?_;refine ig ?_ ?_<;>intro c5 d5
    ·have he:IB n g q=7:=by unfold IB;rw[if_pos d5]
     rw[he] at hy;simp at hy;have hz:=rows_2 hle hx hy (by decide);refine ak fun K hK=> ?_;simp[go_sem,d5];refine hK _ ?_;rw[hz];exact aj sc
    ·have he:IB n g q=0:=by unfold IB;rw[if_neg (by rintro⟨h1,h2⟩;have:=d5 h1;omega)]
     rw[he] at hy;simp at hy;refine aV ?_;refine aQ fun K hK=> ?_;simp[go_sem,c5];try simp(disch:=omega) only[aA]
     refine hK _ ?_;refine⟨q+1,bK (by simp[go_sem]) (.refl _) (by(simp[go_sem]<;>omega)),⟨by omega,by rw[hy,hj']⟩,by first|omega|(dsimp only;omega)⟩
   ·have hqn:q=n:=by omega
    rw[hqn,Nat.sub_self,aI] at hy;have hg:=good_of (by omega) hx hy;refine dh ?_;refine aK ?_;refine ak fun K hK=> ?_;simp[go_sem,c4];refine hK _ ?_;refine aN ?_;refine bF [1,2,77,78,79] (by simp[go_sem,bf];rfl) ?_;refine qg [σ.length+50] (by simp) ?_;refine bU (α:=Nat) (fun r=>[(79,.d (I r))]) (fun r=>σ++[.var [.d (SL c 3 Row.enc n g)],.var [.d (I 0)]]) (fun r=>r<=n/\∀z,z<r->¬Cyc n g z) (fun r=>n-r) 0 (by simp[go_sem]) (rfl) (by simp) ?_;rintro r ⟨hr,hc⟩;refine ak fun K hK=> ?_;simp[go_sem];refine hK _ ?_;refine aK ?_;refine pW [1,2,77,78,79,80] ?_;refine ig ?_ ?_<;>intro c6 d6
    ·refine aV ?_;refine aK ?_;refine aN ?_;refine ak fun K hK=> ?_;simp[go_sem,d6];refine hK _ ?_;refine ak fun K hK=> ?_;simp[go_sem];refine hK _ ?_;refine ak fun K hK=> ?_;simp[go_sem];have hcl:=nP (pK (σ++[.var [.d (SL c 3 Row.enc n g)],.var [.d (I 0)],.var ((g r).enc.map .d),.var [.d (I 0)]]) c n g (g r).Unit);refine aW.gen hcl ?_;rintro r' σ' X ⟨rfl,rfl,rfl⟩;simp[go_sem];refine hK _ ?_;refine aN ?_;by_cases hcy:Cyc n g r
     ·refine xR rfl [(1,.ptr σ.length 0),(2,.ptr (σ.length+1) 0),(9,.ptr (σ.length+3) 0)] (by simp[go_sem]) ?_;intro La hLa;have hLu: ∀k av,(k,av)∈La.t->av.under (σ.length+7):=by
       rw[hLa];intro k av hm;simp at hm;rcases hm with⟨_,rfl⟩|⟨_,rfl⟩|⟨_,rfl⟩<;>simp[AV.under]<;>omega
      have lQ: ∀k,k<=n->YS prog (σ.length+6) [.agg ((g (eP n g r k)).enc.map .d)] (σ++[.var [.d (SL c 3 Row.enc n g)],.var [.d (I 0)],.var ((g r).enc.map .d),.var [.d (I k)],.var [.d (SL c 3 Row.enc n g)],.var [.d (I (g r).Unit)],.lp La .ready none]) (fun r' σ' X=>X=[σ.length+50]/\(r'= .d (B (decide (k<n)))/\σ'=σ++[.var [.d (SL c 3 Row.enc n g)],.var [.d (I (if k=n then 17 else 0))],.var ((g r).enc.map .d),.var [.d (I (k+1:Nat))],.var [.d (SL c 3 Row.enc n g)],.var [.d (I (g r).Unit)],.lp La (if k=n then .done else .ready) (if k=n then some .ret else none)])):=by
       intro k hk;refine YS.UL (L:=La) (pd:=none) (by simp[go_sem]) (by rw[hLa];rfl) ?_;intro hwf';have eN:=congrArg jo.N hLa;have et:=congrArg jo.t hLa;have ep:=congrArg jo.ps hLa;have ea:=congrArg jo.assign hLa;have eb:=congrArg jo.body hLa;dsimp only at eN et ep ea eb;rw[eN,et,ep,ea,eb];clear eN et ep ea eb hLa hcl;refine aV ?_;simp[I7,go_sem,mY,St.NV];refine G9 ?_;refine aN ?_;refine ak fun K hK=> ?_;simp[go_sem,wS k];refine hK _ ?_;refine ak fun K hK=> ?_;simp[go_sem];refine hK _ ?_;refine pW [2,93] ?_;refine ig ?_ ?_<;>intro c7 d7
       ·refine ak fun K hK=> ?_;simp[go_sem,d7];refine hK _ ?_;refine aj ?_;obtain rfl:k=n:=by omega
        refine⟨_,Sub.refl _,?_⟩;simp[go_sem,Ec,Ey,mY,rF];exact au (by simp[go_sem];exact hLu)
       ·refine aV ?_;have hkn:k<n:=by omega
        have hkn': ¬k=n:=by omega
        refine⟨_,Sub.refl _,?_⟩;simp[go_sem,Ec,Ey,mY,rF,hkn,hkn'];exact au (by simp[go_sem])
      have hR:Ways (fun i=>σ++[.var [.d (SL c 3 Row.enc n g)],.var [.d (I (if i=n+1 then 17 else 0))],.var ((g r).enc.map .d),.var [.d (I i)],.var [.d (SL c 3 Row.enc n g)],.var [.d (I (g r).Unit)],.lp La (if i=n+1 then .done else .ready) (if i=n+1 then some .ret else none)]) c n g (g r).Unit (n+1) (eP n g r) false (σ.length+6) (σ.length+4) (σ.length+5) (σ.length+50):=by
       refine⟨fun i=>by simp[go_sem],fun i=>by simp[go_sem],fun i=>by simp[go_sem],fun i=>by simp[go_sem],fun i=>au (by simp[go_sem];right;exact hLu),fun i=>au (by simp[go_sem];right;exact hLu),fun i=>by simp,by omega,by omega,by omega,by rw[if_neg (by omega)];exact hg.find d6,fun i hi=>hg.wu d6 i (fun q hq=>hcy q (by omega)),fun i hi=>⟨hcy i (by omega),(hg.EK d6 (fun q hq=>hcy q (by omega))).1⟩,fun i hi=> ?_,fun i hi=> ?_,fun i hi h=>by cases h⟩
       ·simpa[show ¬i=n by omega,show i<n by omega,show ¬i=n+1 by omega] using lQ i (by omega)
       ·obtain rfl:i=n:=by omega
        simpa using lQ i (by omega)
      have h3:=jQ σ _ c n g (g r).Unit (n+1) _ false _ _ _ _ hR hn;refine CS.mono (Q:=fun r' σ' X'=>X'=[σ.length+50]/\r'= .eX []/\σ'=_) (by simpa[go_sem] using h3) ?_;rintro r' σ' X ⟨rfl,rfl,rfl⟩;clear h3 hR lQ hLa hcl;refine⟨σ++[.var [.d (SL c 3 Row.enc n g)],.var [.d (I 17)],.var ((g r).enc.map .d),.var [.d (I (n+1:Nat))],.var [.d (SL c 3 Row.enc n g)],.var [.d (I (g r).Unit)]],La,.done,some .ret,by simp[go_sem],au (by simp[go_sem]),by simp,by simp[mY],?_⟩;have hz:=rows_3 hle hx hy d6 hcy;simp[Sz,go_sem,cO,AV.avoids,dK,results54,hz]
     ·obtain⟨Kx,hK1,hK2,hK3⟩:=not_cyc hg d6 hcy;refine xR rfl [(1,.ptr σ.length 0),(2,.ptr (σ.length+1) 0),(9,.ptr (σ.length+3) 0),(77,.d (SL c 3 Row.enc n g)),(78,.d (.v (.int .i64 n))),(79,.d (I r))] (by simp[go_sem]) ?_;intro La hLa;have lQ: ∀k,k+1<=n->YS prog (σ.length+6) [.agg ((g (eP n g r k)).enc.map .d)] (σ++[.var [.d (SL c 3 Row.enc n g)],.var [.d (I 0)],.var ((g r).enc.map .d),.var [.d (I k)],.var [.d (SL c 3 Row.enc n g)],.var [.d (I (g r).Unit)],.lp La .ready none]) (fun r' σ' X=>X=[σ.length+50]/\(r'= .d (B true)/\σ'=σ++[.var [.d (SL c 3 Row.enc n g)],.var [.d (I 0)],.var ((g r).enc.map .d),.var [.d (I (k+1:Nat))],.var [.d (SL c 3 Row.enc n g)],.var [.d (I (g r).Unit)],.lp La .ready none])):=by
       intro k hk;refine YS.UL (L:=La) (pd:=none) (by simp[go_sem]) (by rw[hLa];rfl) ?_;intro hwf';have eN:=congrArg jo.N hLa;have et:=congrArg jo.t hLa;have ep:=congrArg jo.ps hLa;have ea:=congrArg jo.assign hLa;have eb:=congrArg jo.body hLa;dsimp only at eN et ep ea eb;rw[eN,et,ep,ea,eb];clear eN et ep ea eb hLa hcl;refine aV ?_;simp[I7,go_sem,mY,St.NV];refine G9 ?_;refine aN ?_;refine ak fun K hK=> ?_;simp[go_sem,wS k];refine hK _ ?_;refine ak fun K hK=> ?_;simp[go_sem];refine hK _ ?_;refine pW [2,93] ?_;refine ig ?_ ?_<;>intro c8 d8
       ·refine ak fun K hK=> ?_;simp[go_sem,d8];refine hK _ ?_;refine aj ?_;exfalso;omega
       ·refine aV ?_;refine⟨_,Sub.refl _,?_⟩;simp[go_sem,Ec,Ey,mY,rF];exact au (by simp[go_sem])
      have hR:Ways (fun i=>σ++[.var [.d (SL c 3 Row.enc n g)],.var [.d (I 0)],.var ((g r).enc.map .d),.var [.d (I i)],.var [.d (SL c 3 Row.enc n g)],.var [.d (I (g r).Unit)],.lp La .ready none]) c n g (g r).Unit (Kx+1) (eP n g r) true (σ.length+6) (σ.length+4) (σ.length+5) (σ.length+50):=by
       refine⟨fun i=>by simp[go_sem],fun i=>by simp[go_sem],fun i=>by simp[go_sem],fun i=>by simp[go_sem],fun i=>au (by simp[go_sem]),fun i=>au (by simp[go_sem]),fun i=>by simp,by omega,by omega,by omega,by rw[if_neg (by omega)];exact hg.find d6,fun i hi=>hg.wu d6 i (fun q hq=>hK3 q (by omega)),fun i hi=>⟨hK3 i (by omega),(hg.EK d6 (fun q hq=>hK3 q (by omega))).1⟩,fun i hi=>lQ i (by omega),fun i hi=>lQ i (by omega),fun i hi _ hp=> ?_⟩;obtain rfl:i=Kx:=by omega
       exact absurd hK2 hp
      have h3:=jQ σ _ c n g (g r).Unit (Kx+1) _ true _ _ _ _ hR hn;refine CS.mono (Q:=fun r' σ' X'=>X'=[σ.length+50]/\r'= .eX []/\σ'=_) (by simpa[go_sem] using h3) ?_;rintro r' σ' X ⟨rfl,rfl,rfl⟩;clear h3 hR lQ hLa hcl;refine⟨σ++[.var [.d (SL c 3 Row.enc n g)],.var [.d (I 0)],.var ((g r).enc.map .d),.var [.d (I (Kx+1:Nat))],.var [.d (SL c 3 Row.enc n g)],.var [.d (I (g r).Unit)]],La,.ready,none,by simp[go_sem],au (by simp[go_sem]),by simp,by simp[mY],?_⟩;simp[Sz,go_sem,cO,AV.avoids,dK];refine aQ fun K hK=> ?_;simp[go_sem];try simp(disch:=omega) only[aA]
      refine hK _ ?_;refine⟨r+1,bK (by simp[go_sem]) (.refl _) (by(simp[go_sem]<;>omega)),⟨by omega,fun z hz=>by rcases Nat.lt_or_eq_of_le (Nat.le_of_lt_succ hz) with h|h;exact hc z h;rw[h];exact hcy⟩,by first|omega|(dsimp only;omega)⟩
    ·have hrn:r=n:=by omega
     have hz:=rows_4 hle hx hy (fun i hi=>hc i (by omega));refine dh ?_;refine ak fun K hK=> ?_;simp[go_sem,c6];refine hK _ ?_;rw[hz];exact aj sc
end Go.Proofs.YthlhlnbcjlpigaaGreatDoor
