/- Contracts and lemmas, joined out of smaller texts by a program; no conditions. -/
import Derived.Test.YthlhlnbcjlpigaaGreatDoorKB13
import Derived.Test.YthlhlnbcjlpigaaGreatDoorKB14
set_option linter.unusedVariables false
set_option linter.unusedSimpArgs false
set_option maxHeartbeats 1000000
set_option maxRecDepth 100000
namespace Go.Proofs.YthlhlnbcjlpigaaGreatDoor
open Go.aU Go.bY Go.Proofs.Tryz
variable (σ : List aC)
theorem closes_cs(p:qw)(r:Row)(d:Int)(j:Nat)(hp:jJ p)(hσ:σ[1]? =some (.loc 1))(hj:j<3):ay prog (if j=0 then 434 else if j=1 then 439 else 442) [.agg (p.enc.map .d),.agg (r.enc.map .d),.d (I d)] σ (.d (SL none 4 Ground.enc (pG p r d j).length (nth (pG p r d j)))):=by
 have hj3:j=0\/j=1\/j=2:=by omega
 rcases hj3 with rfl|rfl|rfl
 ·exact CX σ p r d hp
 ·exact CW σ p r d hp hσ
 ·exact CV σ p r d hp
def setU(u:Int)(x:Ground):Ground:=⟨x.Kind,x.Source,u,x.Until⟩
def VA(p:qw)(r:Row)(d:Int)(j:Nat):List Ground:=(pG p r d j).map (setU r.Unit)
def uV(p:qw)(d:Int)(r:Row):List Ground:=gather (VA p r d) 3
noncomputable def mG(n:Nat)(g:Nat->Row)(p:qw)(u d:Int):List Ground:=gather (fun k=>uV p d (g (fZ n g u k))) (qQ n g u)
theorem vM{β:Type}{f:Nat->List β}{m:Nat} : ∀{i:Nat},(∀q,q<i->(f q).length<=m)->(gather f i).length<=i*m
 |0,_=>by simp[gather]
 |i+1,h=>by
  have h1:=vM (i:=i) fun q hq=>h q (by omega);have h2:=h i (by omega);simp only[gather,List.length_append,Nat.add_mul,Nat.one_mul];omega
theorem YZ{p:qw}(h:jJ p)(r:Row)(d:Int)(j:Nat):(VA p r d j).length<=1000:=by
 unfold VA;rw[List.length_map];exact Y0 h r d j
theorem Xj{p:qw}(h:jJ p)(d:Int)(r:Row):(uV p d r).length<=3000:=by
 have:=vM (f:=VA p r d) (i:=3) (m:=1000) fun q _=>YZ h r d q;unfold uV;omega
theorem XL{α β:Type}[Inhabited α](f:α->β)(L:List α):lst L.length (fun q=>f (nth L q))=L.map f:=by
 have:=Lu L;rw[←congrArg (List.map f) this];simp[lst]
theorem grow_fn{p:qw}(hp:jJ p)(r:Row)(d:Int)(F:List Ground)(hF:F.length<=768000): ∃Bf:Nat->Nat->List Ground,Bf 0 0=F/\(∀j q,Bf j (q+1)=Bf j q++[setU r.Unit (nth (pG p r d j) q)])/\(∀j,Bf (j+1) 0=Bf j (pG p r d j).length)/\
  (∀j q,j<=3->q<=1000->(Bf j q).length<=800000)/\Bf 3 0=F++gather (VA p r d) 3:=by
 refine⟨fun j q=>F++(gather (VA p r d) j++lst q (fun q=>setU r.Unit (nth (pG p r d j) q))),by simp[gather,lst],fun j q=> ?_,fun j=> ?_,fun j q hj hq=> ?_,by simp[lst]⟩
 ·dsimp only;rw[lst_succ];simp
 ·dsimp only;rw[XL];simp[gather,lst,VA]
 ·have:=vM (f:=VA p r d) (i:=j) (m:=1000) fun q _=>YZ hp r d q;simp only[List.length_append,bP];have:j*1000<=3000:=by omega
  omega
theorem FI(c:Option Nat)(n:Nat)(g:Nat->Row)(p:qw)(u d:Int)(hn:n<=256)(hp:jJ p)(hr:dH n g=0)(hσ:σ[1]? =some (.loc 1)):ay prog 403 [.d (SL c 3 Row.enc n g),.agg (p.enc.map .d),.d (I u),.d (I d)] σ (.d (SL none 4 Ground.enc (mG n g p u d).length (nth (mG n g p u d)))):=by
 obtain⟨hwk,hway⟩:=ZI hr u;refine ay.be func403 fun hwf=> ?_;refine ak fun K hK=>sm ?_;refine hK _ ?_;refine ak fun K hK=>sm ?_;refine hK _ ?_;refine aK ?_;refine Tz (σ.length+2) 4 (fun i=>Ground.enc (nth ([]:List Ground) i)) (by simp[go_sem]) (by simp[go_sem];rfl) ?_;refine ak fun K hK=>sm ?_;have hcl:=nP (pK (σ++[.var (p.enc.map .d),.var [.d (I d)],.var [.ms (σ.length+3) 4 0 0],.arr 4 0 (fun i=>Ground.enc (nth ([]:List Ground) i))]) c n g u);refine aW.gen hcl ?_;rintro r' σ' X ⟨rfl,rfl,rfl⟩;simp[go_sem];refine hK _ ?_;refine aN ?_;refine xR rfl [(5,.ptr σ.length 0),(7,.ptr (σ.length+1) 0),(9,.ptr (σ.length+2) 0)] (by simp[go_sem]) ?_;intro La hLa;have lQ: ∀k,k<qQ n g u->YS prog (σ.length+6) [.agg ((g (fZ n g u k)).enc.map .d)] (σ++[.var (p.enc.map .d),.var [.d (I d)],.var [.ms (σ.length+3) 4 0 (gather (fun k=>uV p d (g (fZ n g u k))) k).length],.arr 4 (gather (fun k=>uV p d (g (fZ n g u k))) k).length (fun i=>Ground.enc (nth (gather (fun k=>uV p d (g (fZ n g u k))) k) i)),.var [.d (SL c 3 Row.enc n g)],.var [.d (I u)],.lp La .ready none]) (fun r' σ' X=>X=[σ.length+3]/\(r'= .d (B true)/\σ'=σ++[.var (p.enc.map .d),.var [.d (I d)],.var [.ms (σ.length+3) 4 0 (gather (fun k=>uV p d (g (fZ n g u k))) (k+1)).length],.arr 4 (gather (fun k=>uV p d (g (fZ n g u k))) (k+1)).length (fun i=>Ground.enc (nth (gather (fun k=>uV p d (g (fZ n g u k))) (k+1)) i)),.var [.d (SL c 3 Row.enc n g)],.var [.d (I u)],.lp La .ready none])):=by
  intro k hk;have hFl:(gather (fun k=>uV p d (g (fZ n g u k))) k).length<=768000:=by
   have:=vM (f:=fun k=>uV p d (g (fZ n g u k))) (i:=k) (m:=3000) fun q _=>Xj hp d _;omega
  have hF1:gather (fun k=>uV p d (g (fZ n g u k))) (k+1)=gather (fun k=>uV p d (g (fZ n g u k))) k++gather (VA p (g (fZ n g u k)) d) 3:=rfl;rw[hF1];generalize gather (fun k=>uV p d (g (fZ n g u k))) k=F at hFl
  obtain⟨Bf,rfl,hs,hnx,hBl,hB3⟩:=grow_fn hp (g (fZ n g u k)) d F hFl;refine YS.UL (L:=La) (pd:=none) (by simp[go_sem]) (by rw[hLa];rfl) ?_;intro hwf';have eN:=congrArg jo.N hLa;have et:=congrArg jo.t hLa;have ep:=congrArg jo.ps hLa;have ea:=congrArg jo.assign hLa;have eb:=congrArg jo.body hLa;dsimp only at eN et ep ea eb;have h1:cO [σ.length+3] La.t=La.t:=by rw[et];simp[cO,AV.avoids]
  rw[eN,et,ep,ea,eb];clear eN et ep ea eb hLa hcl;refine aQ fun K hK=> ?_;simp[go_sem,St.NV];refine hK _ ?_;simp[I7,go_sem,mY];refine G9 ?_;refine aN ?_;refine ak fun K hK=> ?_;simp[go_sem];refine aW.mk (FH _) ?_;simp[go_sem];refine hK _ ?_;refine aN ?_;refine bF [5,7,9,10,19,20,21] (by simp[go_sem,bf];rfl) ?_;refine qg [σ.length+3] (by simp) ?_;refine bU (α:=Nat) (fun j=>[(21,.d (I j))]) (fun j=>σ++[.var (p.enc.map .d),.var [.d (I d)],.var [.ms (σ.length+3) 4 0 (Bf j 0).length],.arr 4 (Bf j 0).length (fun i=>Ground.enc (nth (Bf j 0) i)),.var [.d (SL c 3 Row.enc n g)],.var [.d (I u)],.lp La .busy none,.var ((g (fZ n g u k)).enc.map .d)]) (fun j=>j<=3) (fun j=>3-j) 0 (by simp[go_sem]) (rfl) (by simp) ?_;rintro j hj;refine ak fun K hK=> ?_;simp[go_sem];refine hK _ ?_;refine aK ?_;refine pW [5,7,9,10,19,20,21,22] ?_;refine ig ?_ ?_<;>intro c0 d0
  ·have hcl:=Y0 hp (g (fZ n g u k)) d j;have hrow:rowsOf 2 [] j=rowsOf 2 [] j:=rfl;refine aV ?_;refine aK ?_;refine aN ?_;refine ak fun K hK=> ?_;simp[go_sem,d0];refine hK _ ?_;refine ak fun K hK=> ?_;simp[go_sem];refine aW.mk (closes_cs _ p (g (fZ n g u k)) d j hp (aO hσ) (by omega)) ?_;simp[go_sem];refine hK _ ?_;refine aN ?_;refine bF [5,7,9,10,19,20,21,30,31,32] (by simp[go_sem,bf];rfl) ?_;refine qg [σ.length+3] (by simp) ?_;refine bU (α:=Nat) (fun q=>[(32,.d (I q))]) (fun q=>σ++[.var (p.enc.map .d),.var [.d (I d)],.var [.ms (σ.length+3) 4 0 (Bf j q).length],.arr 4 (Bf j q).length (fun i=>Ground.enc (nth (Bf j q) i)),.var [.d (SL c 3 Row.enc n g)],.var [.d (I u)],.lp La .busy none,.var ((g (fZ n g u k)).enc.map .d),.var [.d (Fn0 (if j=0 then 434 else if j=1 then 439 else 442)),.d (Fn0 (if j=0 then 437 else if j=1 then 441 else 444))]]) (fun q=>q<=(pG p (g (fZ n g u k)) d j).length) (fun q=>(pG p (g (fZ n g u k)) d j).length-q) 0 (by simp[go_sem]) (rfl) (by simp) ?_;rintro q hq;refine ak fun K hK=> ?_;simp[go_sem];refine hK _ ?_;refine aK ?_;refine pW [5,7,9,10,19,20,21,30,31,32,33] ?_;refine ig ?_ ?_<;>intro c1 d1
   ·have hbl:=hBl j q (by omega) (by omega);have hsq:=hs j q;refine aV ?_;refine aK ?_;refine aN ?_;refine ak fun K hK=> ?_;simp[go_sem,d1];refine hK _ ?_;refine ak fun K hK=> ?_;simp[go_sem];refine hK _ ?_;refine aQ fun K hK=> ?_;simp[go_sem,h1,hwf.one];repeat refine⟨by omega,?_⟩
    refine hK _ ?_;refine bC (σ.length+3) (fun i=>Ground.enc (nth (Bf j q++[setU (g (fZ n g u k)).Unit (nth (pG p (g (fZ n g u k)) d j) q)]) i)) (by simp[go_sem];exact⟨rfl,rfl,rfl⟩) (by exact fun i hi=>qF (enc:=Ground.enc) (x:=setU (g (fZ n g u k)).Unit (nth (pG p (g (fZ n g u k)) d j) q)) rfl hi) (by simp[go_sem];rfl) ?_;refine aQ fun K hK=> ?_;simp[go_sem];try simp(disch:=omega) only[aA]
    refine hK _ ?_;refine⟨q+1,bK (by simp[go_sem,hsq]) ((au (by simp[go_sem]))) (by(simp[go_sem]<;>omega)),by omega,by first|omega|(dsimp only;omega)⟩
   ·obtain rfl:q=(pG p (g (fZ n g u k)) d j).length:=by omega
    have hnj:=hnx j;refine dh ?_;refine aQ fun K hK=> ?_;simp[go_sem];try simp(disch:=omega) only[aA]
    refine hK _ ?_;refine⟨j+1,bK (by simp[go_sem,hnj]) ((au (by simp[go_sem]))) (by(simp[go_sem]<;>omega)),by omega,by first|omega|(dsimp only;omega)⟩
  ·obtain rfl:j=3:=by omega
   refine dh ?_;refine⟨_,Sub.refl _,?_⟩;simp[go_sem,Ec,Ey,mY,rF,hB3];exact au (by simp[go_sem])
 have hR:Ways (fun k=>σ++[.var (p.enc.map .d),.var [.d (I d)],.var [.ms (σ.length+3) 4 0 (gather (fun k=>uV p d (g (fZ n g u k))) k).length],.arr 4 (gather (fun k=>uV p d (g (fZ n g u k))) k).length (fun i=>Ground.enc (nth (gather (fun k=>uV p d (g (fZ n g u k))) k) i)),.var [.d (SL c 3 Row.enc n g)],.var [.d (I u)],.lp La .ready none]) c n g u (qQ n g u) (fZ n g u) true (σ.length+6) (σ.length+4) (σ.length+5) (σ.length+3):=by
  refine⟨fun i=>by simp[go_sem],fun i=>by simp[go_sem],fun i=>by simp[go_sem],fun i=>by simp[go_sem],fun i=>au (by simp[go_sem]),fun i=>au (by simp[go_sem]),fun i=>by simp,by omega,by omega,by omega,hway.first,hway.lt,hway.mid,fun i hi=>lQ i (by omega),fun i hi=>lQ i (by omega),fun i hi _=>hway.fin i hi⟩
 have h3:=jQ σ _ c n g u (qQ n g u) _ true _ _ _ _ hR (by omega);refine CS.mono (Q:=fun r' σ' X'=>X'=[σ.length+3]/\r'= .eX []/\σ'=_) (by simpa[go_sem,gather] using h3) ?_;rintro r' σ' X ⟨rfl,rfl,rfl⟩;clear h3 hR lQ hLa hcl;refine⟨σ++[.var (p.enc.map .d),.var [.d (I d)],.var [.ms (σ.length+3) 4 0 (mG n g p u d).length],.arr 4 (mG n g p u d).length (fun i=>Ground.enc (nth (mG n g p u d) i)),.var [.d (SL c 3 Row.enc n g)],.var [.d (I u)]],La,.ready,none,by simp[go_sem,mG],au (by simp[go_sem]),by simp,by simp[mY],?_⟩;simp[Sz,go_sem,cO,AV.avoids,dK];refine ak fun K hK=>sm ?_;refine hK _ ?_;refine aF hwf (σ.length+3) ?_;exact aj sc
theorem cat_fn{α:Type}{enc:α->List D}{f:Nat->α}{k sz:Nat}{ds:List D}(h:ds.take sz=enc (f k)){q:Nat}(hq:q<k+1):aX k (fun q=>enc (f q)) (rowsOf sz ds) q=enc (f q):=by
 unfold aX;split
 ·rfl
 ·have:q=k:=by omega
  subst this;simp[rowsOf,h]
structure Acc where
 Reader:Int
 Unit:Int
 Day:Int
 Granted:Bool
 nr:Nat
 rs:Nat->Reason
instance:Inhabited Acc:=⟨⟨0,0,0,false,0,fun _=>default⟩⟩
def Acc.enc(a:Acc):List D:=[I a.Reader,I a.Unit,I a.Day,B a.Granted,SL none 5 Reason.enc a.nr a.rs]
attribute [go_sem] Acc.enc
def Acc.zero:Acc:=⟨0,0,0,false,0,fun _=>default⟩
noncomputable def Dp(n:Nat)(g:Nat->Row)(p:qw)(r u d:Int):Int:=if dH n g≠0\/fP p≠0 then 1 else if yK r=false\/d<0\/1048575<d then 2 else if gX n g u<0 then 7 else 0
theorem ask_zero{n:Nat}{g:Nat->Row}{p:qw}{r u d:Int}(h:Dp n g p r u d=0):dH n g=0/\fP p=0/\yK r=true/\0<=d/\d<=1048575/\0<=gX n g u:=by
 unfold Dp at h;split at h
 ·omega
 rename_i h1;split at h
 ·omega
 rename_i h2;split at h
 ·omega
 rename_i h3;refine⟨by omega,by omega,?_,by omega,by omega,by omega⟩;cases hr:yK r with
 |true=>rfl
 |false=>exact absurd (.inl hr) h2
def dec1(p:qw)(r:Int)(k:Nat)(w:Nat->Int)(d:Int)(x:Ground):Int:=
 if(uF p.nm p.gm r k w x.Kind d).2=false\/(x.Kind=3/\agrStr p.na p.ga x.Source=true) then 0 else(uF p.nm p.gm r k w x.Kind d).1
def ZB(p:qw)(r:Int)(k:Nat)(w:Nat->Int)(d:Int)(x:Ground):Reason:=⟨x,dec1 p r k w d x⟩
def lifted(f:Nat->Reason):Nat->Bool
 |0=>true
 |i+1=>lifted f i&&((f i).Pm !=0)
def decR(p:qw)(r u:Int)(k:Nat)(w:Nat->Int)(d:Int)(L:List Ground):Acc:=⟨r,u,d,lifted (fun q=>ZB p r k w d (nth L q)) L.length,L.length,fun q=>ZB p r k w d (nth L q)⟩
noncomputable def decW(n:Nat)(g:Nat->Row)(p:qw)(r u d:Int):Acc:=decR p r u (qQ n g u) (fun i=>(g (fZ n g u i)).Unit) d (mG n g p u d)
noncomputable def qC(n:Nat)(g:Nat->Row)(p:qw)(r u d:Int):Acc×Int:=if Dp n g p r u d≠0 then(Acc.zero,Dp n g p r u d) else(decW n g p r u d,0)
theorem wayG_len{n:Nat}{g:Nat->Row}{p:qw}(hp:jJ p)(hn:n<=256)(hr:dH n g=0)(u d:Int):(mG n g p u d).length<=768000:=by
 have h1:=(ZI hr u).1;have:=vM (f:=fun k=>uV p d (g (fZ n g u k))) (i:=qQ n g u) (m:=3000) fun q _=>Xj hp d _;unfold mG;omega
theorem rows_le{n:Nat}{g:Nat->Row}(h:dH n g=0):n<=256:=(Ru h).1.le
theorem KE(c:Option Nat)(n:Nat)(g:Nat->Row)(p:qw)(r u d:Int)(hn:n<1000000000)(hp:jJ p)(hσ:σ[1]? =some (.loc 1)):ay prog 377 [.d (SL c 3 Row.enc n g),.agg (p.enc.map .d),.d (I r),.d (I u),.d (I d)] σ (.d (I (Dp n g p r u d))):=by
 refine ay.bs true func377 fun hwf=> ?_;refine aW.mk (rD _ c n g hn) (sm ?_);refine fA.mk (yw _ p hp (aO hσ)) (sm ?_);refine aH [0,2,3,4] ?_ ?_<;>intro c0 d0
 ·have hz:Dp n g p r u d=1:=by unfold Dp;rw[if_pos d0]
  simp[go_sem];rw[hz];exact aj sc
 ·have hd0: ¬(dH n g≠0\/fP p≠0):=by omega
  simp[go_sem];refine aW.mk (wR _ r) (sm ?_);refine aH [0,3] ?_ ?_<;>intro c1 d1
  ·have hz:Dp n g p r u d=2:=by unfold Dp;rw[if_neg hd0,if_pos (by simpa[or_assoc] using d1)]
   simp[go_sem];rw[hz];exact aj sc
  ·have hd1: ¬(yK r=false\/d<0\/1048575<d):=by
    rintro(h|h|h)
    ·have:=d1.1.1;rw[h] at this;cases this
    ·omega
    ·omega
   simp[go_sem];refine aW.mk (jV _ c n g u hn) (sm ?_);refine aH [] ?_ ?_<;>intro c2 d2
   ·have hz:Dp n g p r u d=7:=by unfold Dp;rw[if_neg hd0,if_neg hd1,if_pos d2]
    simp[go_sem];rw[hz];exact aj sc
   ·have hz:Dp n g p r u d=0:=by unfold Dp;rw[if_neg hd0,if_neg hd1,if_neg (by omega)]
    simp[go_sem];rw[hz];exact aj sc
theorem Iw(c:Option Nat)(n:Nat)(g:Nat->Row)(p:qw)(r u d:Int)(hp:jJ p)(hr:dH n g=0)(hσ:σ[1]? =some (.loc 1)):ay prog 378 [.d (SL c 3 Row.enc n g),.agg (p.enc.map .d),.d (I r),.d (I u),.d (I d)] σ (.agg ((decW n g p r u d).enc.map .d)):=by
 have hn:=rows_le hr;obtain⟨hwk,hway⟩:=ZI hr u;have hwl:=wayG_len hp hn hr u d;refine ay.bs false func378 fun hwf=> ?_;refine go false (sm ?_);refine TA (σ.length+2) 4 5 (fun q=>Reason.enc (ZB p r (qQ n g u) (fun i=>(g (fZ n g u i)).Unit) d (nth (mG n g p u d) q))) (by simp[go_sem];rfl) (by simp[go_sem]) (by simp[go_sem];rfl) (by simp[go_sem];rfl) ?_;refine go false (sm ?_);refine aW.mk (NY _ c n g u _ _ hway (by omega) (by omega)) (sm ?_);refine go true (sm ?_);refine aW.mk (FI _ c n g p u d hn hp hr (aO hσ)) (sm ?_);refine lpU (α:=Nat) false [2,4,6,10,11,12,28,29,30] [σ.length+3] (fun q=>[(30,.d (I q))]) (fun q=>σ++[.var (p.enc.map .d),.var [.d (I 0),.d (I 0),.d (I 0),.d (B false),.d (.v (.slice none 0 0))],.var [.d (I r),.d (I u),.d (I d),.d (B (lifted (fun q=>ZB p r (qQ n g u) (fun i=>(g (fZ n g u i)).Unit) d (nth (mG n g p u d) q)) q)),.ms (σ.length+3) 5 0 q],.arr 5 q (fun q=>Reason.enc (ZB p r (qQ n g u) (fun i=>(g (fZ n g u i)).Unit) d (nth (mG n g p u d) q)))]) (fun q=>q<=(mG n g p u d).length) (fun q=>(mG n g p u d).length-q) 0 (by simp[go_sem]) (rfl) (by simp) (by simp) ?_;rintro q hq;simp[go_sem];refine go false (sm ?_);refine aH [2,4,6,10,11,12,28,29,30] ?_ ?_<;>intro c0 d0
 ·simp[go_sem];repeat refine⟨by omega,?_⟩
  refine go false (sm ?_);refine aW.mk (KJ _ none p.nm p.gm r none (qQ n g u) (fun i=>(g (fZ n g u i)).Unit) (nth (mG n g p u d) q).Kind d (by have:=hp.nm;omega) (by omega)) ?_;simp[go_sem];refine go false (sm ?_);refine fA.mk (Dq _ none p.na p.ga (nth (mG n g p u d) q).Source (by have:=hp.na;omega)) ?_;simp[go_sem];refine go false (sm ?_);refine aH [2,4,6,10,11,12,14,15,28,29,30] ?_ ?_<;>intro c1 d1
  ·have hdec:dec1 p r (qQ n g u) (fun i=>(g (fZ n g u i)).Unit) d (nth (mG n g p u d) q)=0:=by unfold dec1;rw[if_pos d1]
   have hlf:lifted (fun q=>ZB p r (qQ n g u) (fun i=>(g (fZ n g u i)).Unit) d (nth (mG n g p u d) q)) (q+1)=false:=by simp[lifted,ZB,hdec]
   simp[go_sem];refine go false ?_;simp[go_sem,hwf.one];repeat refine⟨by omega,?_⟩
   refine bC (σ.length+3) (fun q=>Reason.enc (ZB p r (qQ n g u) (fun i=>(g (fZ n g u i)).Unit) d (nth (mG n g p u d) q))) (by simp[go_sem];exact⟨rfl,rfl,rfl⟩) (by intro i hi;refine cat_fn (enc:=Reason.enc) (f:=(fun q=>ZB p r (qQ n g u) (fun i=>(g (fZ n g u i)).Unit) d (nth (mG n g p u d) q))) ?_ hi;simp[ZB,Reason.enc,hdec]) (by simp[go_sem];rfl) ?_;refine go false ?_;simp[go_sem];refine go true ?_;simp(disch:=first|omega|simp) [go_sem,aA];refine dB (q+1) (by omega) (h:=by simp[go_sem]<;>omega) (hσ:=by simp[go_sem,hlf]) (hb:=au (by simp[go_sem]))
  ·have hdec:dec1 p r (qQ n g u) (fun i=>(g (fZ n g u i)).Unit) d (nth (mG n g p u d) q)=(uF p.nm p.gm r (qQ n g u) (fun i=>(g (fZ n g u i)).Unit) (nth (mG n g p u d) q).Kind d).1:=by
    unfold dec1;rw[if_neg];rintro(h|⟨h1,h2⟩)
    ·have:=d1.1;rw[h] at this;cases this
    ·have:=d1.2 h1;rw[h2] at this;cases this
   have hlf:lifted (fun q=>ZB p r (qQ n g u) (fun i=>(g (fZ n g u i)).Unit) d (nth (mG n g p u d) q)) (q+1)=(lifted (fun q=>ZB p r (qQ n g u) (fun i=>(g (fZ n g u i)).Unit) d (nth (mG n g p u d) q)) q&&((uF p.nm p.gm r (qQ n g u) (fun i=>(g (fZ n g u i)).Unit) (nth (mG n g p u d) q).Kind d).1 !=0)):=by simp[lifted,ZB,hdec]
   simp[go_sem,hwf.one];repeat refine⟨by omega,?_⟩
   refine bC (σ.length+3) (fun q=>Reason.enc (ZB p r (qQ n g u) (fun i=>(g (fZ n g u i)).Unit) d (nth (mG n g p u d) q))) (by simp[go_sem];exact⟨rfl,rfl,rfl⟩) (by intro i hi;refine cat_fn (enc:=Reason.enc) (f:=(fun q=>ZB p r (qQ n g u) (fun i=>(g (fZ n g u i)).Unit) d (nth (mG n g p u d) q))) ?_ hi;simp[ZB,Reason.enc,hdec]) (by simp[go_sem];rfl) ?_;refine go false ?_;simp[go_sem];refine go true ?_;simp(disch:=first|omega|simp) [go_sem,aA];refine dB (q+1) (by omega) (h:=by simp[go_sem]<;>omega) (hσ:=by simp[go_sem,hlf]) (hb:=au (by simp[go_sem]))
 ·obtain rfl:q=(mG n g p u d).length:=by omega
  simp[go_sem];refine go true (sm ?_);refine aF hwf (σ.length+3) ?_;refine aj ?_;simp[go_sem,decW,decR]
def jy(n lo hi:Int):Bool:=decide (lo<=n)&&decide (n<=hi)
theorem eH{n lo hi:Int} :jy n lo hi=true↔lo<=n/\n<=hi:=by unfold jy;simp
theorem l9{e:Nat->Int}{i n:Nat}(h:i<n):aI e i (n-i)=if e i≠0 then e i else aI e (i+1) (n-(i+1)):=by
 obtain⟨k,hk⟩: ∃k,n-i=k+1:=⟨n-i-1,by omega⟩;rw[hk,aI,show n-(i+1)=k by omega]
theorem oG{e:Nat->Int}{i n:Nat}(h: ¬i<n):aI e i (n-i)=0:=by rw[show n-i=0 by omega,aI]
theorem updK_same(v:AV)(κ:Key):kU (fun _=>v) κ v=fun _=>v:=by funext k;unfold kU;split<;>rfl
structure Cnt where
 Unit:Int
 Qa:Int
instance:Inhabited Cnt:=⟨⟨0,0⟩⟩
def Cnt.enc(c:Cnt):List D:=[I c.Unit,I c.Qa]
structure Bx where
 ID:Int
 Width:Int
 Room:Int
 dU:Int
 nc:Nat
 gc:Nat->Cnt
instance:Inhabited Bx:=⟨⟨0,0,0,0,0,fun _=>default⟩⟩
def Bx.enc(b:Bx):List D:=[I b.ID,I b.Width,I b.Room,I b.dU,SL none 2 Cnt.enc b.nc b.gc]
structure nU where
 ID:Int
 Qc:Int
 Length:Int
 dU:Int
instance:Inhabited nU:=⟨⟨0,0,0,0⟩⟩
def nU.enc(s:nU):List D:=[I s.ID,I s.Qc,I s.Length,I s.dU]
attribute [go_sem] Cnt.enc Bx.enc nU.enc
def jX(c:Cnt):Bool:=jy c.Unit 1 1073741824&&jy c.Qa 1 10000
def Ri(g:Nat->Cnt):Nat->Int
 |0=>0
 |n+1=>Ri g n+(g n).Qa
theorem ZM{g:Nat->Cnt}{n:Nat}(h: ∀i,i<n->jX (g i)=true): ∀k,k<=n->0<=Ri g k/\Ri g k<=10000*(k:Int):=by
 intro k;induction k with
 |zero=>intro _;simp[Ri]
 |succ k ih=>
  intro hk;have h1:=ih (by omega);have h2:=h k (by omega);unfold jX at h2;rw[Bool.and_eq_true,eH,eH] at h2;rw[Ri];omega
def uH(b:Bx):Bool:=(lst b.nc b.gc).any fun c=> !jX c
theorem S9{b:Bx}(h:uH b=false): ∀i,i<b.nc->jX (b.gc i)=true:=by
 intro i hi;unfold uH at h;rw[List.any_eq_false] at h;have:=h (b.gc i) (by simp only[lst,List.mem_map,List.mem_range];exact⟨i,hi,rfl⟩);simpa using this
def yM(b:Bx):Bool:=jy b.ID 1 1073741824&&jy b.Width 1 10000&&jy b.Room 1 b.Width&&jy b.dU 0 7&& !uH b
def Dn(b:Bx):Int:=if yM b=false then 2 else if 32<b.nc then 8 else if b.Room<Ri b.gc b.nc then 12 else 0
def jI(g:Nat->Cnt)(i:Nat)(ks:List Key):Nat->Option (List Key)
 |0=>some ks
 |k+1=>if Key.i (g i).Unit∈ks then none else jI g (i+1) (kQ (.i (g i).Unit) ks) k
def Dl(g:Nat->Bx)(i:Nat)(ks:List Key):Nat->Int
 |0=>0
 |k+1=>if Dn (g i)≠0 then Dn (g i) else if 0<i/\(g i).ID<=(g (i-1)).ID then 5 else
  match jI (g i).gc 0 ks (g i).nc with
  |none=>6
  |some ks'=>Dl g (i+1) ks' k
def dQ(n:Nat)(g:Nat->Bx):Int:=if 128<n then 8 else Dl g 0 [] n
theorem Ti{g:Nat->Bx}{i n:Nat}{ks:List Key}(h:i<n):Dl g i ks (n-i)=if Dn (g i)≠0 then Dn (g i) else if 0<i/\(g i).ID<=(g (i-1)).ID then 5 else
  match jI (g i).gc 0 ks (g i).nc with
  |none=>6
  |some ks'=>Dl g (i+1) ks' (n-(i+1)):=by
 obtain⟨k,hk⟩: ∃k,n-i=k+1:=⟨n-i-1,by omega⟩;rw[hk,Dl,show n-(i+1)=k by omega]
theorem cntGo_step{g:Nat->Cnt}{i n:Nat}{ks:List Key}(h:i<n):jI g i ks (n-i)=if Key.i (g i).Unit∈ks then none else jI g (i+1) (kQ (.i (g i).Unit) ks) (n-(i+1)):=by
 obtain⟨k,hk⟩: ∃k,n-i=k+1:=⟨n-i-1,by omega⟩;rw[hk,jI,show n-(i+1)=k by omega]
theorem JI(c:Option Nat)(n:Nat)(g:Nat->Cnt)(f:FuncId)(cap:List AV)(p:Cnt->Bool)(hn:n<1000000000)(hf: ∀i,i<n->ay prog f (.agg ((g i).enc.map .d)::cap) σ (.d (B (p (g i))))):ay prog 303 [.d (SL c 2 Cnt.enc n g),.clo (.func f) [] cap] σ (.d (I (idxFrom p (lst n g) 0))):=by
 refine ay.bs true func303 fun hwf=> ?_;refine gy (α:=Nat) true [0,1,7,8] (fun i=>[(8,.d (I i))]) (fun i=>_) (fun i=>i<=n/\idxFrom p (lst n g) 0=idxFrom p ((lst n g).drop i) i) (fun i=>n-i) 0 ?_;rintro i ⟨hi,hx⟩;simp[go_sem];refine aH [0,1,7,8] ?_ ?_<;>intro c0 d0
 ·rw[fE d0,idxFrom] at hx;simp[go_sem];repeat refine⟨by omega,?_⟩
  refine aW.mk (hf i d0) (sm ?_);refine aH [0,1,5,7,8] ?_ ?_<;>intro c1 d1
  ·simp[go_sem];refine aj ?_;simp[go_sem,hx,c1]<;>omega
  ·simp(disch:=first|omega|simp) [go_sem,aA];refine dB (i+1) ⟨by omega,by rw[hx,c1];simp⟩ (h:=by simp[go_sem]<;>omega)
 ·rw[fF d0,idxFrom] at hx;simp[go_sem];refine go true (sm ?_);refine aj ?_;simp[go_sem,hx]<;>omega
theorem rV(c:Option Nat)(n:Nat)(g:Nat->Cnt)(f:FuncId)(cap:List AV)(p:Cnt->Bool)(hn:n<1000000000)(hf: ∀i,i<n->ay prog f (.agg ((g i).enc.map .d)::cap) σ (.d (B (p (g i))))):ay prog 225 [.d (SL c 2 Cnt.enc n g),.clo (.func f) [] cap] σ (.d (B ((lst n g).any p))):=by
 refine ay.bs true func225 fun hwf=> ?_;refine aW.mk (JI _ c n g f cap p hn hf) (sm ?_);refine aj ?_;simp[go_sem,lC]<;>omega
theorem JX(c:Option Nat)(n:Nat)(g:Nat->Cnt)(hn:n<1000000000):ay prog 102 [.d (SL c 2 Cnt.enc n g)] σ (.d (SL none 2 Cnt.enc n g)):=by
 refine ay.bd true func102 fun hwf=> ?_;simp[go_sem,-Bool.forall_bool];try intro b1 hb1
 refine jT ?_ ?_<;>intro c0 d0
 ·simp[go_sem];refine aj ?_;have:=hb1 c0;simp[go_sem,this]
 ·simp[go_sem];repeat refine⟨by omega,?_⟩
  refine dM (σ.length) (by simp[go_sem];exact⟨rfl,rfl,rfl⟩) (by simp[go_sem];rfl) (by simp[go_sem,hwf.uN,hwf.yL];rfl) ?_;exact aj so
theorem xw(c:Option Nat)(n:Nat)(g:Nat->Bx)(f:FuncId)(cap:List AV)(p:Bx->Bool)(hn:n<1000000000)(hf: ∀i,i<n->ay prog f (.agg ((g i).enc.map .d)::cap) σ (.d (B (p (g i))))):ay prog 65 [.d (SL c 5 Bx.enc n g),.clo (.func f) [] cap] σ (.d (I (idxFrom p (lst n g) 0))):=by
 refine ay.bs true func65 fun hwf=> ?_;refine gy (α:=Nat) true [0,1,7,8] (fun i=>[(8,.d (I i))]) (fun i=>_) (fun i=>i<=n/\idxFrom p (lst n g) 0=idxFrom p ((lst n g).drop i) i) (fun i=>n-i) 0 ?_;rintro i ⟨hi,hx⟩;simp[go_sem];refine aH [0,1,7,8] ?_ ?_<;>intro c0 d0
 ·rw[fE d0,idxFrom] at hx;simp[go_sem];repeat refine⟨by omega,?_⟩
  refine aW.mk (hf i d0) (sm ?_);refine aH [0,1,5,7,8] ?_ ?_<;>intro c1 d1
  ·simp[go_sem];refine aj ?_;simp[go_sem,hx,c1]<;>omega
  ·simp(disch:=first|omega|simp) [go_sem,aA];refine dB (i+1) ⟨by omega,by rw[hx,c1];simp⟩ (h:=by simp[go_sem]<;>omega)
 ·rw[fF d0,idxFrom] at hx;simp[go_sem];refine go true (sm ?_);refine aj ?_;simp[go_sem,hx]<;>omega
theorem QY(c:Option Nat)(n:Nat)(g:Nat->Bx)(f:FuncId)(cap:List AV)(p:Bx->Bool)(hn:n<1000000000)(hf: ∀i,i<n->ay prog f (.agg ((g i).enc.map .d)::cap) σ (.d (B (p (g i))))):ay prog 122 [.d (SL c 5 Bx.enc n g),.clo (.func f) [] cap] σ (.d (B ((lst n g).any p))):=by
 refine ay.bs true func122 fun hwf=> ?_;refine aW.mk (xw _ c n g f cap p hn hf) (sm ?_);refine aj ?_;simp[go_sem,lC]<;>omega
theorem cloneBx_cs(c:Option Nat)(n:Nat)(g:Nat->Bx)(hn:n<1000000000):ay prog 101 [.d (SL c 5 Bx.enc n g)] σ (.d (SL none 5 Bx.enc n g)):=by
 refine ay.bd true func101 fun hwf=> ?_;simp[go_sem,-Bool.forall_bool];try intro b1 hb1
 refine jT ?_ ?_<;>intro c0 d0
 ·simp[go_sem];refine aj ?_;have:=hb1 c0;simp[go_sem,this]
 ·simp[go_sem];repeat refine⟨by omega,?_⟩
  refine dM (σ.length) (by simp[go_sem];exact⟨rfl,rfl,rfl⟩) (by simp[go_sem];rfl) (by simp[go_sem,hwf.uN,hwf.yL];rfl) ?_;exact aj so
theorem JY(c:Option Nat)(n:Nat)(g:Nat->Bx)(hn:n<1000000000):CS prog 101 [.d (SL c 5 Bx.enc n g)] σ (fun r σ' X=>r= .ms σ.length 5 0 n/\σ'=σ++[.arr 5 n fun i=>Bx.enc (g i)]/\X=[]):=by
 refine CS.Zh true func101 fun hwf=> ?_;simp[go_sem,-Bool.forall_bool];try intro b1 hb1
 refine jT ?_ ?_<;>intro c0 d0
 ·simp[go_sem];refine dn 2 5 (fun i=>Bx.enc (g i)) (by simp[go_sem]) (by simp[go_sem];rfl) ?_;refine aj ?_;obtain rfl:=hb1 c0;simp[go_sem]
 ·simp[go_sem];repeat refine⟨by omega,?_⟩
  exact aj so
theorem X4(c:Option Nat)(n:Nat)(g:Nat->nU)(f:FuncId)(cap:List AV)(p:nU->Bool)(hn:n<1000000000)(hf: ∀i,i<n->ay prog f (.agg ((g i).enc.map .d)::cap) σ (.d (B (p (g i))))):ay prog 175 [.d (SL c 4 nU.enc n g),.clo (.func f) [] cap] σ (.d (I (idxFrom p (lst n g) 0))):=by
 refine ay.bs true func175 fun hwf=> ?_;refine gy (α:=Nat) true [0,1,7,8] (fun i=>[(8,.d (I i))]) (fun i=>_) (fun i=>i<=n/\idxFrom p (lst n g) 0=idxFrom p ((lst n g).drop i) i) (fun i=>n-i) 0 ?_;rintro i ⟨hi,hx⟩;simp[go_sem];refine aH [0,1,7,8] ?_ ?_<;>intro c0 d0
 ·rw[fE d0,idxFrom] at hx;simp[go_sem];repeat refine⟨by omega,?_⟩
  refine aW.mk (hf i d0) (sm ?_);refine aH [0,1,5,7,8] ?_ ?_<;>intro c1 d1
  ·simp[go_sem];refine aj ?_;simp[go_sem,hx,c1]<;>omega
  ·simp(disch:=first|omega|simp) [go_sem,aA];refine dB (i+1) ⟨by omega,by rw[hx,c1];simp⟩ (h:=by simp[go_sem]<;>omega)
 ·rw[fF d0,idxFrom] at hx;simp[go_sem];refine go true (sm ?_);refine aj ?_;simp[go_sem,hx]<;>omega
theorem oM(n lo up:Int):ay prog 224 [.d (I n),.d (I lo),.d (I up)] σ (.d (B (jy n lo up))):=by
 refine ay.bs true func224 fun hwf=> ?_;refine aj ?_;simp[go_sem,jy]<;>omega
theorem sZ(n lo up:Int):ay prog 161 [.d (I n),.d (I lo),.d (I up)] σ (.d (B (jy n lo up))):=by
 refine ay.bs true func161 fun hwf=> ?_;refine aj ?_;simp[go_sem,jy]<;>omega
theorem wB(c:Cnt):ay prog 227 [.agg (c.enc.map .d)] σ (.d (B (jX c))):=by
 refine ay.bs true func227 fun hwf=> ?_;refine aW.mk (oM _ _ _ _) (sm ?_);refine fA.mk (oM _ _ _ _) (sm ?_);refine aj ?_;simp[go_sem,jX]<;>omega
theorem PV(c:Cnt):ay prog 226 [.agg (c.enc.map .d)] σ (.d (B (!jX c))):=by
 refine ay.bs true func226 fun hwf=> ?_;refine aW.mk (wB _ _) (sm ?_);exact aj so
theorem G8(c:Option Nat)(n:Nat)(g:Nat->Cnt)(hn:n<=1000000)(hg: ∀i,i<n->jX (g i)=true):ay prog 228 [.d (SL c 2 Cnt.enc n g)] σ (.d (I (Ri g n))):=by
 have hb:=ZM hg;refine ay.bs true func228 fun hwf=> ?_;refine zJ (α:=Nat) true [3,6,7,8] (fun i=>[(8,.d (I i)),(3,.d (I (Ri g i)))]) (fun i=>_) (fun i=>i<=n) (fun i=>n-i) 0 (by simp[go_sem,Ri]) (rfl) (by simp) ?_;rintro i hi;have hb1:=hb i (by omega);simp[go_sem];refine aH [3,6,7,8] ?_ ?_<;>intro c0 d0
 ·have hb2:=hb (i+1) (by omega);rw[Ri] at hb2;simp(disch:=first|omega|simp) [go_sem,aA];repeat refine⟨by omega,?_⟩
  refine dB (i+1) (by omega) (h:=by simp[go_sem,Ri]<;>omega)
 ·obtain rfl:i=n:=by omega
  simp[go_sem];refine go true (sm ?_);exact aj so
theorem VR(b:Bx)(hn:b.nc<1000000000):ay prog 160 [.agg (b.enc.map .d)] σ (.d (I (Dn b))):=by
 refine ay.bs true func160 fun hwf=> ?_;refine aW.mk (oM _ _ _ _) (sm ?_);refine fA.mk (oM _ _ _ _) (sm ?_);refine fA.mk (oM _ _ _ _) (sm ?_);refine fA.mk (oM _ _ _ _) (sm ?_);refine fA.mk (rV _ none b.nc b.gc 226 [] (fun c=> !jX c) hn (fun i hi=>PV _ _)) (sm ?_);refine aH [1] ?_ ?_<;>intro c0 d0
 ·have hz:Dn b=2:=by
   unfold Dn;rw[if_pos];cases h:yM b with
   |false=>rfl
   |true=>simp only[yM,uH,Bool.and_eq_true,Bool.not_eq_true'] at h;simp[h] at c0
  simp[go_sem];rw[hz];exact aj sc
 ·have hk:yM b=true:=by simp only[yM,uH];simpa[and_assoc] using d0
  have hcb:uH b=false:=by simp only[yM,Bool.and_eq_true,Bool.not_eq_true'] at hk;exact hk.2
  simp[go_sem];refine aH [1] ?_ ?_<;>intro c1 d1
  ·have hz:Dn b=8:=by unfold Dn;rw[if_neg (by simp[hk]),if_pos (by omega)]
   simp[go_sem];rw[hz];exact aj sc
  ·simp[go_sem];refine T.dr 7 fun K hK=>sm ?_;refine dS.mk (G8 _ none b.nc b.gc (by omega) (S9 hcb)) (sm ?_);refine hK _ ?_;refine go true (sm ?_);refine aH [] ?_ ?_<;>intro c2 d2
   ·have hz:Dn b=12:=by unfold Dn;rw[if_neg (by simp[hk]),if_neg (by omega),if_pos (by omega)]
    simp[go_sem];rw[hz];exact aj sc
   ·have hz:Dn b=0:=by unfold Dn;rw[if_neg (by simp[hk]),if_neg (by omega),if_neg (by omega)]
    simp[go_sem];rw[hz];exact aj sc
theorem qG(c:Option Nat)(n:Nat)(g:Nat->Bx)(hn:n<1000000000)(hN: ∀i,i<n->(g i).nc<1000000000):ay prog 112 [.d (SL c 5 Bx.enc n g)] σ (.d (I (dQ n g))):=by
 refine ay.bd false func112 fun hwf=> ?_;simp[go_sem];refine go false ?_;simp[go_sem];refine go false ?_;simp[go_sem];refine aH [0] ?_ ?_<;>intro c0 d0
 ·have hz:dQ n g=8:=by unfold dQ;rw[if_pos (by omega)]
  simp[go_sem];refine go true ?_;simp[go_sem];rw[hz];exact aj sc
 ·have hz:dQ n g=Dl g 0 [] (n-0):=by unfold dQ;rw[if_neg (by omega)];rfl
  simp[go_sem];refine He σ.length (ks':=[]) (f':=fun _=> .d (B true)) (by simp[go_sem];exact⟨rfl,rfl⟩) (.refl _) (fun k hk=>nomatch hk) (fun _=>rfl) (by first|(simp[go_sem];rfl)|rfl) ?_;refine go false ?_;simp[go_sem];refine go true ?_;simp[go_sem];refine zJ (α:=Nat×List Key) true [0,3,13,14,15] (fun x=>[(15,.d (I x.1))]) (fun x=>σ++[.mp false x.2 (fun _=> .d (B true))]) (fun x=>x.1<=n/\dQ n g=Dl g x.1 x.2 (n-x.1)) (fun x=>n-x.1) (0,[]) (by simp[go_sem]) (rfl) (⟨by simp,by simpa using hz⟩) ?_;rintro⟨i,ks⟩ ⟨hi,hx⟩;dsimp only at hi hx;simp[go_sem];refine aH [0,3,13,14,15] ?_ ?_<;>intro c1 d1
  ·have hst:=Ti (g:=g) (ks:=ks) d1;simp[go_sem];repeat refine⟨by omega,?_⟩
   refine aW.mk (VR _ (g i) (hN i d1)) ?_;simp[go_sem];refine aH [0,3,4,5,6,13,14,15] ?_ ?_<;>intro c2 d2
   ·have hz:dQ n g=Dn (g i):=by rw[hx,hst,if_pos (by simpa using d2)]
    simp[go_sem];rw[hz];exact aj sc
   ·simp[go_sem];refine T.dr 13 fun K hK=> ?_;simp[go_sem,aZ (i:=i) (by omega)];repeat refine⟨by omega,?_⟩
    refine hK _ ?_;refine go true ?_;simp[go_sem];refine aH [0,3,5,13,14,15] ?_ ?_<;>intro c3 d3
    ·have hz:dQ n g=5:=by rw[hx,hst,if_neg (by simp[d2]),if_pos (by omega)]
     simp[go_sem];rw[hz];exact aj sc
    ·simp[go_sem];refine zJ (α:=Nat×List Key) true [0,3,13,14,15,39,40,41] (fun y=>[(41,.d (I y.1))]) (fun y=>σ++[.mp false y.2 (fun _=> .d (B true)),.var ((g i).enc.map .d)]) (fun y=>y.1<=(g i).nc/\jI (g i).gc 0 ks (g i).nc=jI (g i).gc y.1 y.2 ((g i).nc-y.1)) (fun y=>(g i).nc-y.1) (0,ks) (by simp[go_sem]) (rfl) (⟨by simp,rfl⟩) ?_;rintro⟨q,kq⟩ ⟨hq,hy⟩;dsimp only at hq hy;simp[go_sem];refine aH [0,3,13,14,15,39,40,41] ?_ ?_<;>intro c4 d4
     ·have hsq:=cntGo_step (g:=(g i).gc) (ks:=kq) d4;simp[go_sem];repeat refine⟨by omega,?_⟩
      refine aH [0,3,8,13,14,15,39,40,41] ?_ ?_<;>intro c5 d5
      ·have hz:dQ n g=6:=by rw[hx,hst,if_neg (by simp[d2]),if_neg (by omega),hy,hsq,if_pos (by simpa using d5)]
       simp[go_sem];rw[hz];exact aj sc
      ·simp(disch:=first|omega|simp) [go_sem,updK_same];refine dB ((q+1,kQ (.i ((g i).gc q).Unit) kq)) ⟨by dsimp only;omega,by dsimp only;rw[hy,hsq,if_neg (by simpa using d5)]⟩ (h:=by simp[go_sem,wS q (by have:=hN i d1;omega)]<;>omega) (hσ:=by simp[go_sem]) (hb:=au (by simp[go_sem]))
     ·obtain⟨XZ,rfl⟩: ∃XZ,XZ=kq:=⟨_,rfl⟩;have hcg:jI (g i).gc 0 ks (g i).nc=some XZ:=by rw[hy,show(g i).nc-q=0 by omega,jI]
      simp[go_sem];refine go true ?_;simp(disch:=first|omega|simp) [go_sem,aA];refine dB ((i+1,XZ)) ⟨by dsimp only;omega,by dsimp only;rw[hx,hst,if_neg (by simp[d2]),if_neg (by omega),hcg]⟩ (h:=by simp[go_sem]<;>omega) (hσ:=by simp[go_sem]) (hb:=au (by simp[go_sem]))
  ·have hz:dQ n g=0:=by rw[hx,show n-i=0 by omega,Dl]
   simp[go_sem];refine go true ?_;simp[go_sem];rw[hz];exact aj sc
end Go.Proofs.YthlhlnbcjlpigaaGreatDoor
