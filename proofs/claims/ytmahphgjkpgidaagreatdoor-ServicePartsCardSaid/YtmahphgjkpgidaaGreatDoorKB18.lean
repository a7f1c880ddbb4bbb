/- Contracts and lemmas, joined out of smaller texts by a program; no conditions. -/
import Derived.Test.YtmahphgjkpgidaaGreatDoorKB16
import Derived.Test.YtmahphgjkpgidaaGreatDoorKB17
set_option linter.unusedVariables false
set_option linter.unusedSimpArgs false
set_option maxHeartbeats 1000000
set_option maxRecDepth 100000
namespace Go.Proofs.YtmahphgjkpgidaaGreatDoor
open Go.aU Go.dh Go.Proofs.Tryz
variable (σ : List aG)
theorem closes_cs(p:oC)(r:Row)(d:Int)(j:Nat)(hp:kF p)(hσ:σ[1]? =some (.loc 1))(hj:j<3):aA prog (if j=0 then 194 else if j=1 then 199 else 202) [.agg (p.enc.map .d),.agg (r.enc.map .d),.d (I d)] σ (.d (SL none 4 Ground.enc (rJ p r d j).length (nth (rJ p r d j)))):=by
 have hj3:j=0\/j=1\/j=2:=by omega
 rcases hj3 with rfl|rfl|rfl
 ·exact EF σ p r d hp
 ·exact ED σ p r d hp hσ
 ·exact EC σ p r d hp
def setU(u:Int)(x:Ground):Ground:=⟨x.Kind,x.Source,u,x.Until⟩
def XJ(p:oC)(r:Row)(d:Int)(j:Nat):List Ground:=(rJ p r d j).map (setU r.Unit)
def xB(p:oC)(d:Int)(r:Row):List Ground:=gather (XJ p r d) 3
noncomputable def oI(n:Nat)(g:Nat->Row)(p:oC)(u d:Int):List Ground:=gather (fun k=>xB p d (g (gQ n g u k))) (uq n g u)
theorem xO{β:Type}{f:Nat->List β}{m:Nat} : ∀{i:Nat},(∀q,q<i->(f q).length<=m)->(gather f i).length<=i*m
 |0,_=>by simp[gather]
 |i+1,h=>by
  have h1:=xO (i:=i) fun q hq=>h q (by omega);have h2:=h i (by omega);simp only[gather,List.length_append,Nat.add_mul,Nat.one_mul];omega
theorem clsU_len{p:oC}(h:kF p)(r:Row)(d:Int)(j:Nat):(XJ p r d j).length<=1000:=by
 unfold XJ;rw[List.length_map];exact clsG_len h r d j
theorem Y8{p:oC}(h:kF p)(d:Int)(r:Row):(xB p d r).length<=3000:=by
 have:=xO (f:=XJ p r d) (i:=3) (m:=1000) fun q _=>clsU_len h r d q;unfold xB;omega
theorem ZA{α β:Type}[Inhabited α](f:α->β)(L:List α):lst L.length (fun q=>f (nth L q))=L.map f:=by
 have:=Py L;rw[←congrArg (List.map f) this];simp[lst]
theorem grow_fn{p:oC}(hp:kF p)(r:Row)(d:Int)(F:List Ground)(hF:F.length<=768000): ∃Bf:Nat->Nat->List Ground,Bf 0 0=F/\(∀j q,Bf j (q+1)=Bf j q++[setU r.Unit (nth (rJ p r d j) q)])/\(∀j,Bf (j+1) 0=Bf j (rJ p r d j).length)/\
  (∀j q,j<=3->q<=1000->(Bf j q).length<=800000)/\Bf 3 0=F++gather (XJ p r d) 3:=by
 refine⟨fun j q=>F++(gather (XJ p r d) j++lst q (fun q=>setU r.Unit (nth (rJ p r d j) q))),by simp[gather,lst],fun j q=> ?_,fun j=> ?_,fun j q hj hq=> ?_,by simp[lst]⟩
 ·dsimp only;rw[lst_succ];simp
 ·dsimp only;rw[ZA];simp[gather,lst,XJ]
 ·have:=xO (f:=XJ p r d) (i:=j) (m:=1000) fun q _=>clsU_len hp r d q;simp only[List.length_append,bT];have:j*1000<=3000:=by omega
  omega
theorem Ih(c:Option Nat)(n:Nat)(g:Nat->Row)(p:oC)(u d:Int)(hn:n<=256)(hp:kF p)(hr:cu n g=0)(hσ:σ[1]? =some (.loc 1)):aA prog 99 [.d (SL c 3 Row.enc n g),.agg (p.enc.map .d),.d (I u),.d (I d)] σ (.d (SL none 4 Ground.enc (oI n g p u d).length (nth (oI n g p u d)))):=by
 obtain⟨hwk,hway⟩:=way_of hr u;refine aA.be func99 fun hwf=> ?_;refine ak fun K hK=>sm ?_;refine hK _ ?_;refine ak fun K hK=>sm ?_;refine hK _ ?_;refine aK ?_;refine VJ (σ.length+2) 4 (fun i=>Ground.enc (nth ([]:List Ground) i)) (by simp[go_sem]) (by simp[go_sem];rfl) ?_;refine ak fun K hK=>sm ?_;have hcl:=nP (rW (σ++[.var (p.enc.map .d),.var [.d (I d)],.var [.ms (σ.length+3) 4 0 0],.arr 4 0 (fun i=>Ground.enc (nth ([]:List Ground) i))]) c n g u);refine aO.gen hcl ?_;rintro r' σ' X ⟨rfl,rfl,rfl⟩;simp[go_sem];refine hK _ ?_;refine aS ?_;refine zF rfl [(5,.ptr σ.length 0),(7,.ptr (σ.length+1) 0),(9,.ptr (σ.length+2) 0)] (by simp[go_sem]) ?_;intro La hLa;have nI: ∀k,k<uq n g u->YS prog (σ.length+6) [.agg ((g (gQ n g u k)).enc.map .d)] (σ++[.var (p.enc.map .d),.var [.d (I d)],.var [.ms (σ.length+3) 4 0 (gather (fun k=>xB p d (g (gQ n g u k))) k).length],.arr 4 (gather (fun k=>xB p d (g (gQ n g u k))) k).length (fun i=>Ground.enc (nth (gather (fun k=>xB p d (g (gQ n g u k))) k) i)),.var [.d (SL c 3 Row.enc n g)],.var [.d (I u)],.lp La .ready none]) (fun r' σ' X=>X=[σ.length+3]/\(r'= .d (B true)/\σ'=σ++[.var (p.enc.map .d),.var [.d (I d)],.var [.ms (σ.length+3) 4 0 (gather (fun k=>xB p d (g (gQ n g u k))) (k+1)).length],.arr 4 (gather (fun k=>xB p d (g (gQ n g u k))) (k+1)).length (fun i=>Ground.enc (nth (gather (fun k=>xB p d (g (gQ n g u k))) (k+1)) i)),.var [.d (SL c 3 Row.enc n g)],.var [.d (I u)],.lp La .ready none])):=by
  intro k hk;have hFl:(gather (fun k=>xB p d (g (gQ n g u k))) k).length<=768000:=by
   have:=xO (f:=fun k=>xB p d (g (gQ n g u k))) (i:=k) (m:=3000) fun q _=>Y8 hp d _;omega
  have hF1:gather (fun k=>xB p d (g (gQ n g u k))) (k+1)=gather (fun k=>xB p d (g (gQ n g u k))) k++gather (XJ p (g (gQ n g u k)) d) 3:=rfl;rw[hF1];generalize gather (fun k=>xB p d (g (gQ n g u k))) k=F at hFl
  obtain⟨Bf,rfl,hs,hnx,hBl,hB3⟩:=grow_fn hp (g (gQ n g u k)) d F hFl;refine YS.WZ (L:=La) (pd:=none) (by simp[go_sem]) (by rw[hLa];rfl) ?_;intro hwf';have eN:=congrArg jJ.N hLa;have et:=congrArg jJ.t hLa;have ep:=congrArg jJ.ps hLa;have ea:=congrArg jJ.assign hLa;have eb:=congrArg jJ.body hLa;dsimp only at eN et ep ea eb;have h1:cZ [σ.length+3] La.t=La.t:=by rw[et];simp[cZ,AV.avoids]
  rw[eN,et,ep,ea,eb];clear eN et ep ea eb hLa hcl;refine aZ fun K hK=> ?_;simp[go_sem,St.QJ];refine hK _ ?_;simp[LM,go_sem,oW];refine JW ?_;refine aS ?_;refine ak fun K hK=> ?_;simp[go_sem];refine aO.mk (Ig _) ?_;simp[go_sem];refine hK _ ?_;refine aS ?_;refine bZ [5,7,9,10,19,20,21] (by simp[go_sem,bD];rfl) ?_;refine zG [σ.length+3] (by simp) ?_;refine dO (α:=Nat) (fun j=>[(21,.d (I j))]) (fun j=>σ++[.var (p.enc.map .d),.var [.d (I d)],.var [.ms (σ.length+3) 4 0 (Bf j 0).length],.arr 4 (Bf j 0).length (fun i=>Ground.enc (nth (Bf j 0) i)),.var [.d (SL c 3 Row.enc n g)],.var [.d (I u)],.lp La .busy none,.var ((g (gQ n g u k)).enc.map .d)]) (fun j=>j<=3) (fun j=>3-j) 0 (by simp[go_sem]) (rfl) (by simp) ?_;rintro j hj;refine ak fun K hK=> ?_;simp[go_sem];refine hK _ ?_;refine aK ?_;refine tq [5,7,9,10,19,20,21,22] ?_;refine jr ?_ ?_<;>intro c0 d0
  ·have hcl:=clsG_len hp (g (gQ n g u k)) d j;have hrow:rowsOf 2 [] j=rowsOf 2 [] j:=rfl;refine aX ?_;refine aK ?_;refine aS ?_;refine ak fun K hK=> ?_;simp[go_sem,d0];refine hK _ ?_;refine ak fun K hK=> ?_;simp[go_sem];refine aO.mk (closes_cs _ p (g (gQ n g u k)) d j hp (aC hσ) (by omega)) ?_;simp[go_sem];refine hK _ ?_;refine aS ?_;refine bZ [5,7,9,10,19,20,21,30,31,32] (by simp[go_sem,bD];rfl) ?_;refine zG [σ.length+3] (by simp) ?_;refine dO (α:=Nat) (fun q=>[(32,.d (I q))]) (fun q=>σ++[.var (p.enc.map .d),.var [.d (I d)],.var [.ms (σ.length+3) 4 0 (Bf j q).length],.arr 4 (Bf j q).length (fun i=>Ground.enc (nth (Bf j q) i)),.var [.d (SL c 3 Row.enc n g)],.var [.d (I u)],.lp La .busy none,.var ((g (gQ n g u k)).enc.map .d),.var [.d (Fn0 (if j=0 then 194 else if j=1 then 199 else 202)),.d (Fn0 (if j=0 then 197 else if j=1 then 201 else 204))]]) (fun q=>q<=(rJ p (g (gQ n g u k)) d j).length) (fun q=>(rJ p (g (gQ n g u k)) d j).length-q) 0 (by simp[go_sem]) (rfl) (by simp) ?_;rintro q hq;refine ak fun K hK=> ?_;simp[go_sem];refine hK _ ?_;refine aK ?_;refine tq [5,7,9,10,19,20,21,30,31,32,33] ?_;refine jr ?_ ?_<;>intro c1 d1
   ·have hbl:=hBl j q (by omega) (by omega);have hsq:=hs j q;refine aX ?_;refine aK ?_;refine aS ?_;refine ak fun K hK=> ?_;simp[go_sem,d1];refine hK _ ?_;refine ak fun K hK=> ?_;simp[go_sem];refine hK _ ?_;refine aZ fun K hK=> ?_;simp[go_sem,h1,hwf.one];repeat refine⟨by omega,?_⟩
    refine hK _ ?_;refine aY (σ.length+3) (fun i=>Ground.enc (nth (Bf j q++[setU (g (gQ n g u k)).Unit (nth (rJ p (g (gQ n g u k)) d j) q)]) i)) (by simp[go_sem];exact⟨rfl,rfl,rfl⟩) (by exact fun i hi=>Ei (enc:=Ground.enc) (x:=setU (g (gQ n g u k)).Unit (nth (rJ p (g (gQ n g u k)) d j) q)) rfl hi) (by simp[go_sem];rfl) ?_;refine aZ fun K hK=> ?_;simp[go_sem];try simp(disch:=omega) only[aH]
    refine hK _ ?_;refine⟨q+1,dI (by simp[go_sem,hsq]) ((au (by simp[go_sem]))) (by(simp[go_sem]<;>omega)),by omega,by first|omega|(dsimp only;omega)⟩
   ·obtain rfl:q=(rJ p (g (gQ n g u k)) d j).length:=by omega
    have hnj:=hnx j;refine fF ?_;refine aZ fun K hK=> ?_;simp[go_sem];try simp(disch:=omega) only[aH]
    refine hK _ ?_;refine⟨j+1,dI (by simp[go_sem,hnj]) ((au (by simp[go_sem]))) (by(simp[go_sem]<;>omega)),by omega,by first|omega|(dsimp only;omega)⟩
  ·obtain rfl:j=3:=by omega
   refine fF ?_;refine⟨_,Sub.refl _,?_⟩;simp[go_sem,FQ,Gg,oW,uM,hB3];exact au (by simp[go_sem])
 have hR:Ways (fun k=>σ++[.var (p.enc.map .d),.var [.d (I d)],.var [.ms (σ.length+3) 4 0 (gather (fun k=>xB p d (g (gQ n g u k))) k).length],.arr 4 (gather (fun k=>xB p d (g (gQ n g u k))) k).length (fun i=>Ground.enc (nth (gather (fun k=>xB p d (g (gQ n g u k))) k) i)),.var [.d (SL c 3 Row.enc n g)],.var [.d (I u)],.lp La .ready none]) c n g u (uq n g u) (gQ n g u) true (σ.length+6) (σ.length+4) (σ.length+5) (σ.length+3):=by
  refine⟨fun i=>by simp[go_sem],fun i=>by simp[go_sem],fun i=>by simp[go_sem],fun i=>by simp[go_sem],fun i=>au (by simp[go_sem]),fun i=>au (by simp[go_sem]),fun i=>by simp,by omega,by omega,by omega,hway.first,hway.lt,hway.mid,fun i hi=>nI i (by omega),fun i hi=>nI i (by omega),fun i hi _=>hway.fin i hi⟩
 have h3:=kM σ _ c n g u (uq n g u) _ true _ _ _ _ hR (by omega);refine CS.mono (Q:=fun r' σ' X'=>X'=[σ.length+3]/\r'= .eU []/\σ'=_) (by simpa[go_sem,gather] using h3) ?_;rintro r' σ' X ⟨rfl,rfl,rfl⟩;clear h3 hR nI hLa hcl;refine⟨σ++[.var (p.enc.map .d),.var [.d (I d)],.var [.ms (σ.length+3) 4 0 (oI n g p u d).length],.arr 4 (oI n g p u d).length (fun i=>Ground.enc (nth (oI n g p u d) i)),.var [.d (SL c 3 Row.enc n g)],.var [.d (I u)]],La,.ready,none,by simp[go_sem,oI],au (by simp[go_sem]),by simp,by simp[oW],?_⟩;simp[Vf,go_sem,cZ,AV.avoids,dQ];refine ak fun K hK=>sm ?_;refine hK _ ?_;refine aF hwf (σ.length+3) ?_;exact aj sc
theorem cat_fn{α:Type}{enc:α->List D}{f:Nat->α}{k sz:Nat}{ds:List D}(h:ds.take sz=enc (f k)){q:Nat}(hq:q<k+1):bf k (fun q=>enc (f q)) (rowsOf sz ds) q=enc (f q):=by
 unfold bf;split
 ·rfl
 ·have:q=k:=by omega
  subst this;simp[rowsOf,h]
structure Acc where
 Reader:Int
 Unit:Int
 Day:Int
 Granted:Bool
 nr:Nat
 rs:Nat->Reason
instance:Inhabited Acc:=⟨⟨0,0,0,false,0,fun _=>default⟩⟩
def Acc.enc(a:Acc):List D:=[I a.Reader,I a.Unit,I a.Day,B a.Granted,SL none 5 Reason.enc a.nr a.rs]
attribute [go_sem] Acc.enc
def Acc.zero:Acc:=⟨0,0,0,false,0,fun _=>default⟩
noncomputable def EN(n:Nat)(g:Nat->Row)(p:oC)(r u d:Int):Int:=if cu n g≠0\/eP p≠0 then 1 else if IY r=false\/d<0\/1048575<d then 2 else if iK n g u<0 then 7 else 0
theorem ask_zero{n:Nat}{g:Nat->Row}{p:oC}{r u d:Int}(h:EN n g p r u d=0):cu n g=0/\eP p=0/\IY r=true/\0<=d/\d<=1048575/\0<=iK n g u:=by
 unfold EN at h;split at h
 ·omega
 rename_i h1;split at h
 ·omega
 rename_i h2;split at h
 ·omega
 rename_i h3;refine⟨by omega,by omega,?_,by omega,by omega,by omega⟩;cases hr:IY r with
 |true=>rfl
 |false=>exact absurd (.inl hr) h2
def dec1(p:oC)(r:Int)(k:Nat)(w:Nat->Int)(d:Int)(x:Ground):Int:=
 if(wW p.nm p.gm r k w x.Kind d).2=false\/(x.Kind=3/\agrStr p.na p.ga x.Source=true) then 0 else(wW p.nm p.gm r k w x.Kind d).1
def rsn(p:oC)(r:Int)(k:Nat)(w:Nat->Int)(d:Int)(x:Ground):Reason:=⟨x,dec1 p r k w d x⟩
def lifted(f:Nat->Reason):Nat->Bool
 |0=>true
 |i+1=>lifted f i&&((f i).Pm !=0)
def decR(p:oC)(r u:Int)(k:Nat)(w:Nat->Int)(d:Int)(L:List Ground):Acc:=⟨r,u,d,lifted (fun q=>rsn p r k w d (nth L q)) L.length,L.length,fun q=>rsn p r k w d (nth L q)⟩
noncomputable def decW(n:Nat)(g:Nat->Row)(p:oC)(r u d:Int):Acc:=decR p r u (uq n g u) (fun i=>(g (gQ n g u i)).Unit) d (oI n g p u d)
noncomputable def qR(n:Nat)(g:Nat->Row)(p:oC)(r u d:Int):Acc×Int:=if EN n g p r u d≠0 then(Acc.zero,EN n g p r u d) else(decW n g p r u d,0)
theorem wayG_len{n:Nat}{g:Nat->Row}{p:oC}(hp:kF p)(hn:n<=256)(hr:cu n g=0)(u d:Int):(oI n g p u d).length<=768000:=by
 have h1:=(way_of hr u).1;have:=xO (f:=fun k=>xB p d (g (gQ n g u k))) (i:=uq n g u) (m:=3000) fun q _=>Y8 hp d _;unfold oI;omega
theorem rows_le{n:Nat}{g:Nat->Row}(h:cu n g=0):n<=256:=(UL h).1.le
theorem OH(c:Option Nat)(n:Nat)(g:Nat->Row)(p:oC)(r u d:Int)(hn:n<1000000000)(hp:kF p)(hσ:σ[1]? =some (.loc 1)):aA prog 55 [.d (SL c 3 Row.enc n g),.agg (p.enc.map .d),.d (I r),.d (I u),.d (I d)] σ (.d (I (EN n g p r u d))):=by
 refine aA.bs true func55 fun hwf=> ?_;refine aO.mk (uJ _ c n g hn) (sm ?_);refine fM.mk (mP _ p hp (aC hσ)) (sm ?_);refine aJ [0,2,3,4] ?_ ?_<;>intro c0 d0
 ·have hz:EN n g p r u d=1:=by unfold EN;rw[if_pos d0]
  simp[go_sem];rw[hz];exact aj sc
 ·have hd0: ¬(cu n g≠0\/eP p≠0):=by omega
  simp[go_sem];refine aO.mk (yQ _ r) (sm ?_);refine aJ [0,3] ?_ ?_<;>intro c1 d1
  ·have hz:EN n g p r u d=2:=by unfold EN;rw[if_neg hd0,if_pos (by simpa[or_assoc] using d1)]
   simp[go_sem];rw[hz];exact aj sc
  ·have hd1: ¬(IY r=false\/d<0\/1048575<d):=by
    rintro(h|h|h)
    ·have:=d1.1.1;rw[h] at this;cases this
    ·omega
    ·omega
   simp[go_sem];refine aO.mk (kS _ c n g u hn) (sm ?_);refine aJ [] ?_ ?_<;>intro c2 d2
   ·have hz:EN n g p r u d=7:=by unfold EN;rw[if_neg hd0,if_neg hd1,if_pos d2]
    simp[go_sem];rw[hz];exact aj sc
   ·have hz:EN n g p r u d=0:=by unfold EN;rw[if_neg hd0,if_neg hd1,if_neg (by omega)]
    simp[go_sem];rw[hz];exact aj sc
theorem KP(c:Option Nat)(n:Nat)(g:Nat->Row)(p:oC)(r u d:Int)(hp:kF p)(hr:cu n g=0)(hσ:σ[1]? =some (.loc 1)):aA prog 56 [.d (SL c 3 Row.enc n g),.agg (p.enc.map .d),.d (I r),.d (I u),.d (I d)] σ (.agg ((decW n g p r u d).enc.map .d)):=by
 have hn:=rows_le hr;obtain⟨hwk,hway⟩:=way_of hr u;have hwl:=wayG_len hp hn hr u d;refine aA.bs false func56 fun hwf=> ?_;refine go false (sm ?_);refine awp_thawC (σ.length+2) 4 5 (fun q=>Reason.enc (rsn p r (uq n g u) (fun i=>(g (gQ n g u i)).Unit) d (nth (oI n g p u d) q))) (by simp[go_sem];rfl) (by simp[go_sem]) (by simp[go_sem];rfl) (by simp[go_sem];rfl) ?_;refine go false (sm ?_);refine aO.mk (QK _ c n g u _ _ hway (by omega) (by omega)) (sm ?_);refine go true (sm ?_);refine aO.mk (Ih _ c n g p u d hn hp hr (aC hσ)) (sm ?_);refine lpU (α:=Nat) false [2,4,6,10,11,12,28,29,30] [σ.length+3] (fun q=>[(30,.d (I q))]) (fun q=>σ++[.var (p.enc.map .d),.var [.d (I 0),.d (I 0),.d (I 0),.d (B false),.d (.v (.slice none 0 0))],.var [.d (I r),.d (I u),.d (I d),.d (B (lifted (fun q=>rsn p r (uq n g u) (fun i=>(g (gQ n g u i)).Unit) d (nth (oI n g p u d) q)) q)),.ms (σ.length+3) 5 0 q],.arr 5 q (fun q=>Reason.enc (rsn p r (uq n g u) (fun i=>(g (gQ n g u i)).Unit) d (nth (oI n g p u d) q)))]) (fun q=>q<=(oI n g p u d).length) (fun q=>(oI n g p u d).length-q) 0 (by simp[go_sem]) (rfl) (by simp) (by simp) ?_;rintro q hq;simp[go_sem];refine go false (sm ?_);refine aJ [2,4,6,10,11,12,28,29,30] ?_ ?_<;>intro c0 d0
 ·simp[go_sem];repeat refine⟨by omega,?_⟩
  refine go false (sm ?_);refine aO.mk (OQ _ none p.nm p.gm r none (uq n g u) (fun i=>(g (gQ n g u i)).Unit) (nth (oI n g p u d) q).Kind d (by have:=hp.nm;omega) (by omega)) ?_;simp[go_sem];refine go false (sm ?_);refine fM.mk (EO _ none p.na p.ga (nth (oI n g p u d) q).Source (by have:=hp.na;omega)) ?_;simp[go_sem];refine go false (sm ?_);refine aJ [2,4,6,10,11,12,14,15,28,29,30] ?_ ?_<;>intro c1 d1
  ·have hdec:dec1 p r (uq n g u) (fun i=>(g (gQ n g u i)).Unit) d (nth (oI n g p u d) q)=0:=by unfold dec1;rw[if_pos d1]
   have hlf:lifted (fun q=>rsn p r (uq n g u) (fun i=>(g (gQ n g u i)).Unit) d (nth (oI n g p u d) q)) (q+1)=false:=by simp[lifted,rsn,hdec]
   simp[go_sem];refine go false ?_;simp[go_sem,hwf.one];repeat refine⟨by omega,?_⟩
   refine aY (σ.length+3) (fun q=>Reason.enc (rsn p r (uq n g u) (fun i=>(g (gQ n g u i)).Unit) d (nth (oI n g p u d) q))) (by simp[go_sem];exact⟨rfl,rfl,rfl⟩) (by intro i hi;refine cat_fn (enc:=Reason.enc) (f:=(fun q=>rsn p r (uq n g u) (fun i=>(g (gQ n g u i)).Unit) d (nth (oI n g p u d) q))) ?_ hi;simp[rsn,Reason.enc,hdec]) (by simp[go_sem];rfl) ?_;refine go false ?_;simp[go_sem];refine go true ?_;simp(disch:=first|omega|simp) [go_sem,aH];refine gB (q+1) (by omega) (h:=by simp[go_sem]<;>omega) (hσ:=by simp[go_sem,hlf]) (hb:=au (by simp[go_sem]))
  ·have hdec:dec1 p r (uq n g u) (fun i=>(g (gQ n g u i)).Unit) d (nth (oI n g p u d) q)=(wW p.nm p.gm r (uq n g u) (fun i=>(g (gQ n g u i)).Unit) (nth (oI n g p u d) q).Kind d).1:=by
    unfold dec1;rw[if_neg];rintro(h|⟨h1,h2⟩)
    ·have:=d1.1;rw[h] at this;cases this
    ·have:=d1.2 h1;rw[h2] at this;cases this
   have hlf:lifted (fun q=>rsn p r (uq n g u) (fun i=>(g (gQ n g u i)).Unit) d (nth (oI n g p u d) q)) (q+1)=(lifted (fun q=>rsn p r (uq n g u) (fun i=>(g (gQ n g u i)).Unit) d (nth (oI n g p u d) q)) q&&((wW p.nm p.gm r (uq n g u) (fun i=>(g (gQ n g u i)).Unit) (nth (oI n g p u d) q).Kind d).1 !=0)):=by simp[lifted,rsn,hdec]
   simp[go_sem,hwf.one];repeat refine⟨by omega,?_⟩
   refine aY (σ.length+3) (fun q=>Reason.enc (rsn p r (uq n g u) (fun i=>(g (gQ n g u i)).Unit) d (nth (oI n g p u d) q))) (by simp[go_sem];exact⟨rfl,rfl,rfl⟩) (by intro i hi;refine cat_fn (enc:=Reason.enc) (f:=(fun q=>rsn p r (uq n g u) (fun i=>(g (gQ n g u i)).Unit) d (nth (oI n g p u d) q))) ?_ hi;simp[rsn,Reason.enc,hdec]) (by simp[go_sem];rfl) ?_;refine go false ?_;simp[go_sem];refine go true ?_;simp(disch:=first|omega|simp) [go_sem,aH];refine gB (q+1) (by omega) (h:=by simp[go_sem]<;>omega) (hσ:=by simp[go_sem,hlf]) (hb:=au (by simp[go_sem]))
 ·obtain rfl:q=(oI n g p u d).length:=by omega
  simp[go_sem];refine go true (sm ?_);refine aF hwf (σ.length+3) ?_;refine aj ?_;simp[go_sem,decW,decR]
def qc(n lo hi:Int):Bool:=decide (lo<=n)&&decide (n<=hi)
theorem fJ{n lo hi:Int} :qc n lo hi=true↔lo<=n/\n<=hi:=by unfold qc;simp
theorem CZ{e:Nat->Int}{i n:Nat}(h:i<n):aQ e i (n-i)=if e i≠0 then e i else aQ e (i+1) (n-(i+1)):=by
 obtain⟨k,hk⟩: ∃k,n-i=k+1:=⟨n-i-1,by omega⟩;rw[hk,aQ,show n-(i+1)=k by omega]
theorem Gm{e:Nat->Int}{i n:Nat}(h: ¬i<n):aQ e i (n-i)=0:=by rw[show n-i=0 by omega,aQ]
theorem updK_same(v:AV)(κ:Key):lX (fun _=>v) κ v=fun _=>v:=by funext k;unfold lX;split<;>rfl
structure Cnt where
 Unit:Int
 J6:Int
instance:Inhabited Cnt:=⟨⟨0,0⟩⟩
def Cnt.enc(c:Cnt):List D:=[I c.Unit,I c.J6]
structure Bx where
 ID:Int
 Width:Int
 Room:Int
 cO:Int
 nc:Nat
 gc:Nat->Cnt
instance:Inhabited Bx:=⟨⟨0,0,0,0,0,fun _=>default⟩⟩
def Bx.enc(b:Bx):List D:=[I b.ID,I b.Width,I b.Room,I b.cO,SL none 2 Cnt.enc b.nc b.gc]
structure sO where
 ID:Int
 Tt:Int
 Length:Int
 cO:Int
instance:Inhabited sO:=⟨⟨0,0,0,0⟩⟩
def sO.enc(s:sO):List D:=[I s.ID,I s.Tt,I s.Length,I s.cO]
attribute [go_sem] Cnt.enc Bx.enc sO.enc
def pJ(c:Cnt):Bool:=qc c.Unit 1 1073741824&&qc c.J6 1 10000
def yH(g:Nat->Cnt):Nat->Int
 |0=>0
 |n+1=>yH g n+(g n).J6
theorem thk_bd{g:Nat->Cnt}{n:Nat}(h: ∀i,i<n->pJ (g i)=true): ∀k,k<=n->0<=yH g k/\yH g k<=10000*(k:Int):=by
 intro k;induction k with
 |zero=>intro _;simp[yH]
 |succ k ih=>
  intro hk;have h1:=ih (by omega);have h2:=h k (by omega);unfold pJ at h2;rw[Bool.and_eq_true,fJ,fJ] at h2;rw[yH];omega
def Gt(b:Bx):Bool:=(lst b.nc b.gc).any fun c=> !pJ c
theorem Vy{b:Bx}(h:Gt b=false): ∀i,i<b.nc->pJ (b.gc i)=true:=by
 intro i hi;unfold Gt at h;rw[List.any_eq_false] at h;have:=h (b.gc i) (by simp only[lst,List.mem_map,List.mem_range];exact⟨i,hi,rfl⟩);simpa using this
def Gx(b:Bx):Bool:=qc b.ID 1 1073741824&&qc b.Width 1 10000&&qc b.Room 1 b.Width&&qc b.cO 0 7&& !Gt b
def Uo(b:Bx):Int:=if Gx b=false then 2 else if 32<b.nc then 8 else if b.Room<yH b.gc b.nc then 12 else 0
def vg(g:Nat->Cnt)(i:Nat)(ks:List Key):Nat->Option (List Key)
 |0=>some ks
 |k+1=>if Key.i (g i).Unit∈ks then none else vg g (i+1) (kU (.i (g i).Unit) ks) k
def LJ(g:Nat->Bx)(i:Nat)(ks:List Key):Nat->Int
 |0=>0
 |k+1=>if Uo (g i)≠0 then Uo (g i) else if 0<i/\(g i).ID<=(g (i-1)).ID then 5 else
  match vg (g i).gc 0 ks (g i).nc with
  |none=>6
  |some ks'=>LJ g (i+1) ks' k
def fO(n:Nat)(g:Nat->Bx):Int:=if 128<n then 8 else LJ g 0 [] n
theorem bxGo_step{g:Nat->Bx}{i n:Nat}{ks:List Key}(h:i<n):LJ g i ks (n-i)=if Uo (g i)≠0 then Uo (g i) else if 0<i/\(g i).ID<=(g (i-1)).ID then 5 else
  match vg (g i).gc 0 ks (g i).nc with
  |none=>6
  |some ks'=>LJ g (i+1) ks' (n-(i+1)):=by
 obtain⟨k,hk⟩: ∃k,n-i=k+1:=⟨n-i-1,by omega⟩;rw[hk,LJ,show n-(i+1)=k by omega]
theorem cntGo_step{g:Nat->Cnt}{i n:Nat}{ks:List Key}(h:i<n):vg g i ks (n-i)=if Key.i (g i).Unit∈ks then none else vg g (i+1) (kU (.i (g i).Unit) ks) (n-(i+1)):=by
 obtain⟨k,hk⟩: ∃k,n-i=k+1:=⟨n-i-1,by omega⟩;rw[hk,vg,show n-(i+1)=k by omega]
theorem MV(c:Option Nat)(n:Nat)(g:Nat->Cnt)(f:FuncId)(cap:List AV)(p:Cnt->Bool)(hn:n<1000000000)(hf: ∀i,i<n->aA prog f (.agg ((g i).enc.map .d)::cap) σ (.d (B (p (g i))))):aA prog 298 [.d (SL c 2 Cnt.enc n g),.clo (.func f) [] cap] σ (.d (I (idxFrom p (lst n g) 0))):=by
 refine aA.bs true func298 fun hwf=> ?_;refine kQ (α:=Nat) true [0,1,7,8] (fun i=>[(8,.d (I i))]) (fun i=>_) (fun i=>i<=n/\idxFrom p (lst n g) 0=idxFrom p ((lst n g).drop i) i) (fun i=>n-i) 0 ?_;rintro i ⟨hi,hx⟩;simp[go_sem];refine aJ [0,1,7,8] ?_ ?_<;>intro c0 d0
 ·rw[gX d0,idxFrom] at hx;simp[go_sem];repeat refine⟨by omega,?_⟩
  refine aO.mk (hf i d0) (sm ?_);refine aJ [0,1,5,7,8] ?_ ?_<;>intro c1 d1
  ·simp[go_sem];refine aj ?_;simp[go_sem,hx,c1]<;>omega
  ·simp(disch:=first|omega|simp) [go_sem,aH];refine gB (i+1) ⟨by omega,by rw[hx,c1];simp⟩ (h:=by simp[go_sem]<;>omega)
 ·rw[gY d0,idxFrom] at hx;simp[go_sem];refine go true (sm ?_);refine aj ?_;simp[go_sem,hx]<;>omega
theorem uZ(c:Option Nat)(n:Nat)(g:Nat->Cnt)(f:FuncId)(cap:List AV)(p:Cnt->Bool)(hn:n<1000000000)(hf: ∀i,i<n->aA prog f (.agg ((g i).enc.map .d)::cap) σ (.d (B (p (g i))))):aA prog 210 [.d (SL c 2 Cnt.enc n g),.clo (.func f) [] cap] σ (.d (B ((lst n g).any p))):=by
 refine aA.bs true func210 fun hwf=> ?_;refine aO.mk (MV _ c n g f cap p hn hf) (sm ?_);refine aj ?_;simp[go_sem,mY]<;>omega
theorem NK(c:Option Nat)(n:Nat)(g:Nat->Cnt)(hn:n<1000000000):aA prog 82 [.d (SL c 2 Cnt.enc n g)] σ (.d (SL none 2 Cnt.enc n g)):=by
 refine aA.bd true func82 fun hwf=> ?_;simp[go_sem,-Bool.forall_bool];try intro b1 hb1
 refine fZ ?_ ?_<;>intro c0 d0
 ·simp[go_sem];refine aj ?_;have:=hb1 c0;simp[go_sem,this]
 ·simp[go_sem];repeat refine⟨by omega,?_⟩
  refine bK (σ.length) (by simp[go_sem];exact⟨rfl,rfl,rfl⟩) (by simp[go_sem];rfl) (by simp[go_sem,hwf.sZ,hwf.qH];rfl) ?_;exact aj so
theorem uO(c:Option Nat)(n:Nat)(g:Nat->Bx)(f:FuncId)(cap:List AV)(p:Bx->Bool)(hn:n<1000000000)(hf: ∀i,i<n->aA prog f (.agg ((g i).enc.map .d)::cap) σ (.d (B (p (g i))))):aA prog 20 [.d (SL c 5 Bx.enc n g),.clo (.func f) [] cap] σ (.d (I (idxFrom p (lst n g) 0))):=by
 refine aA.bs true func20 fun hwf=> ?_;refine kQ (α:=Nat) true [0,1,7,8] (fun i=>[(8,.d (I i))]) (fun i=>_) (fun i=>i<=n/\idxFrom p (lst n g) 0=idxFrom p ((lst n g).drop i) i) (fun i=>n-i) 0 ?_;rintro i ⟨hi,hx⟩;simp[go_sem];refine aJ [0,1,7,8] ?_ ?_<;>intro c0 d0
 ·rw[gX d0,idxFrom] at hx;simp[go_sem];repeat refine⟨by omega,?_⟩
  refine aO.mk (hf i d0) (sm ?_);refine aJ [0,1,5,7,8] ?_ ?_<;>intro c1 d1
  ·simp[go_sem];refine aj ?_;simp[go_sem,hx,c1]<;>omega
  ·simp(disch:=first|omega|simp) [go_sem,aH];refine gB (i+1) ⟨by omega,by rw[hx,c1];simp⟩ (h:=by simp[go_sem]<;>omega)
 ·rw[gY d0,idxFrom] at hx;simp[go_sem];refine go true (sm ?_);refine aj ?_;simp[go_sem,hx]<;>omega
theorem Um(c:Option Nat)(n:Nat)(g:Nat->Bx)(f:FuncId)(cap:List AV)(p:Bx->Bool)(hn:n<1000000000)(hf: ∀i,i<n->aA prog f (.agg ((g i).enc.map .d)::cap) σ (.d (B (p (g i))))):aA prog 112 [.d (SL c 5 Bx.enc n g),.clo (.func f) [] cap] σ (.d (B ((lst n g).any p))):=by
 refine aA.bs true func112 fun hwf=> ?_;refine aO.mk (uO _ c n g f cap p hn hf) (sm ?_);refine aj ?_;simp[go_sem,mY]<;>omega
theorem cloneBx_cs(c:Option Nat)(n:Nat)(g:Nat->Bx)(hn:n<1000000000):aA prog 81 [.d (SL c 5 Bx.enc n g)] σ (.d (SL none 5 Bx.enc n g)):=by
 refine aA.bd true func81 fun hwf=> ?_;simp[go_sem,-Bool.forall_bool];try intro b1 hb1
 refine fZ ?_ ?_<;>intro c0 d0
 ·simp[go_sem];refine aj ?_;have:=hb1 c0;simp[go_sem,this]
 ·simp[go_sem];repeat refine⟨by omega,?_⟩
  refine bK (σ.length) (by simp[go_sem];exact⟨rfl,rfl,rfl⟩) (by simp[go_sem];rfl) (by simp[go_sem,hwf.sZ,hwf.qH];rfl) ?_;exact aj so
theorem NM(c:Option Nat)(n:Nat)(g:Nat->Bx)(hn:n<1000000000):CS prog 81 [.d (SL c 5 Bx.enc n g)] σ (fun r σ' X=>r= .ms σ.length 5 0 n/\σ'=σ++[.arr 5 n fun i=>Bx.enc (g i)]/\X=[]):=by
 refine CS.VD true func81 fun hwf=> ?_;simp[go_sem,-Bool.forall_bool];try intro b1 hb1
 refine fZ ?_ ?_<;>intro c0 d0
 ·simp[go_sem];refine dG 2 5 (fun i=>Bx.enc (g i)) (by simp[go_sem]) (by simp[go_sem];rfl) ?_;refine aj ?_;obtain rfl:=hb1 c0;simp[go_sem]
 ·simp[go_sem];repeat refine⟨by omega,?_⟩
  exact aj so
theorem MQ(c:Option Nat)(n:Nat)(g:Nat->sO)(f:FuncId)(cap:List AV)(p:sO->Bool)(hn:n<1000000000)(hf: ∀i,i<n->aA prog f (.agg ((g i).enc.map .d)::cap) σ (.d (B (p (g i))))):aA prog 23 [.d (SL c 4 sO.enc n g),.clo (.func f) [] cap] σ (.d (I (idxFrom p (lst n g) 0))):=by
 refine aA.bs true func23 fun hwf=> ?_;refine kQ (α:=Nat) true [0,1,7,8] (fun i=>[(8,.d (I i))]) (fun i=>_) (fun i=>i<=n/\idxFrom p (lst n g) 0=idxFrom p ((lst n g).drop i) i) (fun i=>n-i) 0 ?_;rintro i ⟨hi,hx⟩;simp[go_sem];refine aJ [0,1,7,8] ?_ ?_<;>intro c0 d0
 ·rw[gX d0,idxFrom] at hx;simp[go_sem];repeat refine⟨by omega,?_⟩
  refine aO.mk (hf i d0) (sm ?_);refine aJ [0,1,5,7,8] ?_ ?_<;>intro c1 d1
  ·simp[go_sem];refine aj ?_;simp[go_sem,hx,c1]<;>omega
  ·simp(disch:=first|omega|simp) [go_sem,aH];refine gB (i+1) ⟨by omega,by rw[hx,c1];simp⟩ (h:=by simp[go_sem]<;>omega)
 ·rw[gY d0,idxFrom] at hx;simp[go_sem];refine go true (sm ?_);refine aj ?_;simp[go_sem,hx]<;>omega
theorem qM(n lo up:Int):aA prog 209 [.d (I n),.d (I lo),.d (I up)] σ (.d (B (qc n lo up))):=by
 refine aA.bs true func209 fun hwf=> ?_;refine aj ?_;simp[go_sem,qc]<;>omega
theorem vP(n lo up:Int):aA prog 136 [.d (I n),.d (I lo),.d (I up)] σ (.d (B (qc n lo up))):=by
 refine aA.bs true func136 fun hwf=> ?_;refine aj ?_;simp[go_sem,qc]<;>omega
theorem yt(c:Cnt):aA prog 212 [.agg (c.enc.map .d)] σ (.d (B (pJ c))):=by
 refine aA.bs true func212 fun hwf=> ?_;refine aO.mk (qM _ _ _ _) (sm ?_);refine fM.mk (qM _ _ _ _) (sm ?_);refine aj ?_;simp[go_sem,pJ]<;>omega
theorem Tf(c:Cnt):aA prog 211 [.agg (c.enc.map .d)] σ (.d (B (!pJ c))):=by
 refine aA.bs true func211 fun hwf=> ?_;refine aO.mk (yt _ _) (sm ?_);exact aj so
theorem JR(c:Option Nat)(n:Nat)(g:Nat->Cnt)(hn:n<=1000000)(hg: ∀i,i<n->pJ (g i)=true):aA prog 213 [.d (SL c 2 Cnt.enc n g)] σ (.d (I (yH g n))):=by
 have hb:=thk_bd hg;refine aA.bs true func213 fun hwf=> ?_;refine Pz (α:=Nat) true [3,6,7,8] (fun i=>[(8,.d (I i)),(3,.d (I (yH g i)))]) (fun i=>_) (fun i=>i<=n) (fun i=>n-i) 0 (by simp[go_sem,yH]) (rfl) (by simp) ?_;rintro i hi;have hb1:=hb i (by omega);simp[go_sem];refine aJ [3,6,7,8] ?_ ?_<;>intro c0 d0
 ·have hb2:=hb (i+1) (by omega);rw[yH] at hb2;simp(disch:=first|omega|simp) [go_sem,aH];repeat refine⟨by omega,?_⟩
  refine gB (i+1) (by omega) (h:=by simp[go_sem,yH]<;>omega)
 ·obtain rfl:i=n:=by omega
  simp[go_sem];refine go true (sm ?_);exact aj so
theorem X4(b:Bx)(hn:b.nc<1000000000):aA prog 135 [.agg (b.enc.map .d)] σ (.d (I (Uo b))):=by
 refine aA.bs true func135 fun hwf=> ?_;refine aO.mk (qM _ _ _ _) (sm ?_);refine fM.mk (qM _ _ _ _) (sm ?_);refine fM.mk (qM _ _ _ _) (sm ?_);refine fM.mk (qM _ _ _ _) (sm ?_);refine fM.mk (uZ _ none b.nc b.gc 211 [] (fun c=> !pJ c) hn (fun i hi=>Tf _ _)) (sm ?_);refine aJ [1] ?_ ?_<;>intro c0 d0
 ·have hz:Uo b=2:=by
   unfold Uo;rw[if_pos];cases h:Gx b with
   |false=>rfl
   |true=>simp only[Gx,Gt,Bool.and_eq_true,Bool.not_eq_true'] at h;simp[h] at c0
  simp[go_sem];rw[hz];exact aj sc
 ·have hk:Gx b=true:=by simp only[Gx,Gt];simpa[and_assoc] using d0
  have hcb:Gt b=false:=by simp only[Gx,Bool.and_eq_true,Bool.not_eq_true'] at hk;exact hk.2
  simp[go_sem];refine aJ [1] ?_ ?_<;>intro c1 d1
  ·have hz:Uo b=8:=by unfold Uo;rw[if_neg (by simp[hk]),if_pos (by omega)]
   simp[go_sem];rw[hz];exact aj sc
  ·simp[go_sem];refine T.dr 7 fun K hK=>sm ?_;refine dF.mk (JR _ none b.nc b.gc (by omega) (Vy hcb)) (sm ?_);refine hK _ ?_;refine go true (sm ?_);refine aJ [] ?_ ?_<;>intro c2 d2
   ·have hz:Uo b=12:=by unfold Uo;rw[if_neg (by simp[hk]),if_neg (by omega),if_pos (by omega)]
    simp[go_sem];rw[hz];exact aj sc
   ·have hz:Uo b=0:=by unfold Uo;rw[if_neg (by simp[hk]),if_neg (by omega),if_neg (by omega)]
    simp[go_sem];rw[hz];exact aj sc
theorem pU(c:Option Nat)(n:Nat)(g:Nat->Bx)(hn:n<1000000000)(hN: ∀i,i<n->(g i).nc<1000000000):aA prog 102 [.d (SL c 5 Bx.enc n g)] σ (.d (I (fO n g))):=by
 refine aA.bd false func102 fun hwf=> ?_;simp[go_sem];refine go false ?_;simp[go_sem];refine go false ?_;simp[go_sem];refine aJ [0] ?_ ?_<;>intro c0 d0
 ·have hz:fO n g=8:=by unfold fO;rw[if_pos (by omega)]
  simp[go_sem];refine go true ?_;simp[go_sem];rw[hz];exact aj sc
 ·have hz:fO n g=LJ g 0 [] (n-0):=by unfold fO;rw[if_neg (by omega)];rfl
  simp[go_sem];refine En σ.length (ks':=[]) (f':=fun _=> .d (B true)) (by simp[go_sem];exact⟨rfl,rfl⟩) (.refl _) (fun k hk=>nomatch hk) (fun _=>rfl) (by first|(simp[go_sem];rfl)|rfl) ?_;refine go false ?_;simp[go_sem];refine go true ?_;simp[go_sem];refine Pz (α:=Nat×List Key) true [0,3,13,14,15] (fun x=>[(15,.d (I x.1))]) (fun x=>σ++[.mp false x.2 (fun _=> .d (B true))]) (fun x=>x.1<=n/\fO n g=LJ g x.1 x.2 (n-x.1)) (fun x=>n-x.1) (0,[]) (by simp[go_sem]) (rfl) (⟨by simp,by simpa using hz⟩) ?_;rintro⟨i,ks⟩ ⟨hi,hx⟩;dsimp only at hi hx;simp[go_sem];refine aJ [0,3,13,14,15] ?_ ?_<;>intro c1 d1
  ·have hst:=bxGo_step (g:=g) (ks:=ks) d1;simp[go_sem];repeat refine⟨by omega,?_⟩
   refine aO.mk (X4 _ (g i) (hN i d1)) ?_;simp[go_sem];refine aJ [0,3,4,5,6,13,14,15] ?_ ?_<;>intro c2 d2
   ·have hz:fO n g=Uo (g i):=by rw[hx,hst,if_pos (by simpa using d2)]
    simp[go_sem];rw[hz];exact aj sc
   ·simp[go_sem];refine T.dr 13 fun K hK=> ?_;simp[go_sem,dn (i:=i) (by omega)];repeat refine⟨by omega,?_⟩
    refine hK _ ?_;refine go true ?_;simp[go_sem];refine aJ [0,3,5,13,14,15] ?_ ?_<;>intro c3 d3
    ·have hz:fO n g=5:=by rw[hx,hst,if_neg (by simp[d2]),if_pos (by omega)]
     simp[go_sem];rw[hz];exact aj sc
    ·simp[go_sem];refine Pz (α:=Nat×List Key) true [0,3,13,14,15,39,40,41] (fun y=>[(41,.d (I y.1))]) (fun y=>σ++[.mp false y.2 (fun _=> .d (B true)),.var ((g i).enc.map .d)]) (fun y=>y.1<=(g i).nc/\vg (g i).gc 0 ks (g i).nc=vg (g i).gc y.1 y.2 ((g i).nc-y.1)) (fun y=>(g i).nc-y.1) (0,ks) (by simp[go_sem]) (rfl) (⟨by simp,rfl⟩) ?_;rintro⟨q,kq⟩ ⟨hq,hy⟩;dsimp only at hq hy;simp[go_sem];refine aJ [0,3,13,14,15,39,40,41] ?_ ?_<;>intro c4 d4
     ·have hsq:=cntGo_step (g:=(g i).gc) (ks:=kq) d4;simp[go_sem];repeat refine⟨by omega,?_⟩
      refine aJ [0,3,8,13,14,15,39,40,41] ?_ ?_<;>intro c5 d5
      ·have hz:fO n g=6:=by rw[hx,hst,if_neg (by simp[d2]),if_neg (by omega),hy,hsq,if_pos (by simpa using d5)]
       simp[go_sem];rw[hz];exact aj sc
      ·simp(disch:=first|omega|simp) [go_sem,updK_same];refine gB ((q+1,kU (.i ((g i).gc q).Unit) kq)) ⟨by dsimp only;omega,by dsimp only;rw[hy,hsq,if_neg (by simpa using d5)]⟩ (h:=by simp[go_sem,wS q (by have:=hN i d1;omega)]<;>omega) (hσ:=by simp[go_sem]) (hb:=au (by simp[go_sem]))
     ·obtain⟨ks2,rfl⟩: ∃ks2,ks2=kq:=⟨_,rfl⟩;have hcg:vg (g i).gc 0 ks (g i).nc=some ks2:=by rw[hy,show(g i).nc-q=0 by omega,vg]
      simp[go_sem];refine go true ?_;simp(disch:=first|omega|simp) [go_sem,aH];refine gB ((i+1,ks2)) ⟨by dsimp only;omega,by dsimp only;rw[hx,hst,if_neg (by simp[d2]),if_neg (by omega),hcg]⟩ (h:=by simp[go_sem]<;>omega) (hσ:=by simp[go_sem]) (hb:=au (by simp[go_sem]))
  ·have hz:fO n g=0:=by rw[hx,show n-i=0 by omega,LJ]
   simp[go_sem];refine go true ?_;simp[go_sem];rw[hz];exact aj sc
end Go.Proofs.YtmahphgjkpgidaaGreatDoor
