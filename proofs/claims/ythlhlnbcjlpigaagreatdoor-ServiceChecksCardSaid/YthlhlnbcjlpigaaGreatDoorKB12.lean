/- Contracts and lemmas, joined out of smaller texts by a program; no conditions. -/
import Derived.Test.YthlhlnbcjlpigaaGreatDoorKB11
set_option linter.unusedVariables false
set_option linter.unusedSimpArgs false
set_option maxHeartbeats 400000
set_option maxRecDepth 100000
namespace Go.Proofs.YthlhlnbcjlpigaaGreatDoor
open Go.aU Go.bY Go.Shelf Go.RowKit Go.Lib Go.Proofs Go.Proofs.Tryz
variable (σ : List aC)
abbrev Sb(s:ByteArray):D:= .v (.string s)
theorem ML(hσ:σ[1]? =some (.loc 1))(s t:ByteArray)(hs:s.size<4294967281):ay prog 352 [.d (Sb s),.d (Sb t)] σ (.d (B (Lib.contains s.data.toList t.data.toList))):=by
 refine ay.FV T.en352 #[.string s,.string t] (fun w j vs hr=>MZ hr (fun _ h=>kD h) (fun _ h=>kD h)) (fun w j hS=> ?_);obtain⟨m,hm⟩:=loc_cell hS hσ;exact(Any.strings_Contains strContains s t m w hs hm).mono fun e w' ⟨he,hw⟩=>⟨he,by rw[hw];exact Below.refl _ _⟩
set_option maxHeartbeats 1000000 in
theorem QJ(W:World)(x:Nat)(hx:x<=1114111):FnGives prog 351 #[] #[encR x] (.bool (CY x)) W:=by
 unfold FnGives encR CY;go_enter func351,ntmps351
 go_wp2
 all_goals(go_ret;refine⟨congrArg Ending.returned (congrArg Value.bool (?_:_=_)),0,rfl⟩;rw[Bool.eq_iff_iff];simp;omega)
theorem Pv(s:ByteArray):ay prog 353 [.d (Sb s),.clo (.func 351) [] []] σ (.d (B (decide (0<=Lib.idxFunc CY true s)))):=by
 refine ay.FV T.en353 #[.string s,.func (.func 351) #[] #[]] (fun w j vs hr=>MZ hr (fun _ h=>kD h) (fun _ h=>R_clo0 h)) (fun w j hS=> ?_);exact Any.strings_ContainsFunc_runes strContainsFunc 351 #[] (fun args w=>pX T.en351 args w) CY s w fun W x hx _=>QJ W x hx
end Go.Proofs.YthlhlnbcjlpigaaGreatDoor
namespace Go.Proofs.YthlhlnbcjlpigaaGreatDoor
open Go.aU Go.bY Go.Proofs.Tryz
variable (σ : List aC)
structure iU where
 ID:Int
 Name:ByteArray
 Hz:fU
 Hy:fU
instance:Inhabited iU:=⟨⟨0,ByteArray.empty,⟨0,0⟩,⟨0,0⟩⟩⟩
def iU.enc(p:iU):List D:=[I p.ID,Sb p.Name,I p.Hz.First,I p.Hz.Last,I p.Hy.First,I p.Hy.Last]
attribute [go_sem] iU.enc
def qj(p:iU):Int:=if p.ID<1\/1073741824<p.ID then 2 else if mX p.Name=false then 4 else if oI p.Hz≠0\/oI p.Hy≠0 then 1 else if p.Hy.Last<p.Hz.First then 10 else 0
def zC(g:Nat->iU)(i:Nat):Int:=if qj (g i)≠0 then qj (g i) else if 0<i/\(g i).ID<=(g (i-1)).ID then 5 else 0
def jM(n:Nat)(g:Nat->iU):Int:=if 64<n then 8 else aI (zC g) 0 n
def qm(n:Nat)(g:Nat->iU)(u:Int):Int:=idxFrom (fun r=>r.ID==u) (lst n g) 0
def zB(n:Nat)(g:Nat->iU):Bool:=((lst n g).all fun p=>decide (p.Name.size<=200))&&decide (n<=20)
theorem Ej(n:Nat)(g:Nat->iU):zB n g=true↔(∀i,i<n->(g i).Name.size<=200)/\n<=20:=by
 unfold zB;simp[lst]
theorem prsFew_no{n:Nat}{g:Nat->iU}{i:Nat}(hi:i<n)(h:200<(g i).Name.size):zB n g=false:=by
 cases hb:zB n g with
 |false=>rfl
 |true=>have:=((Ej n g).1 hb).1 i hi;omega
theorem aak{n:Nat}{g:Nat->iU}(h: ∀i,i<n->(g i).Name.size<=200):zB n g=decide ((n:Int)<=20):=by
 rw[Bool.eq_iff_iff,Ej];simp only[decide_eq_true_eq];exact⟨fun h=>by have:=h.2;omega,fun h'=>⟨h,by omega⟩⟩
theorem Xy(s:ByteArray):mX s=(decide ((1:Int)<=s.size)&&decide ((s.size:Int)<=64)&&((s[0]?.getD 0).toNat:Int) !=32&&((s[s.size-1]?.getD 0).toNat:Int) !=32&& !Lib.contains s.data.toList [32,32]&& !decide (0<=Lib.idxFunc CY true s)):=by
 have e1:decide ((1:Int)<=s.size)=decide (1<=s.size):=by rw[Bool.eq_iff_iff];simp;omega
 have e2:decide ((s.size:Int)<=64)=decide (s.size<=64):=by rw[Bool.eq_iff_iff];simp;omega
 have e3: ∀n:Nat,((n:Int) !=32)= !decide (n=32):=fun n=>by rw[Bool.eq_iff_iff];simp;omega
 rw[aar,e1,e2,e3,e3];rfl
theorem Om(s:ByteArray)(i:Nat):nameAt s i=true↔32<=bt s i/\bt s i<=126/\¬(0<i/\bt s i=32/\bt s (i-1)=32):=by
 unfold nameAt;rw[Bool.and_eq_true,Bool.and_eq_true,Bool.not_eq_true',←Bool.not_eq_true];simp only[Bool.and_eq_true,decide_eq_true_eq,and_assoc]
theorem named_no{s:ByteArray}{i:Nat}(hi:i<s.size)(h:nameAt s i=false):mX s=false:=by
 cases hb:mX s with
 |false=>rfl
 |true=>have:=((IG s).1 hb).2.2.2.2 i hi;rw[h] at this;cases this
theorem Iy(s:ByteArray)(hs:s.size<4294967281)(hσ:σ[1]? =some (.loc 1)):ay prog 300 [.d (Sb s)] σ (.d (B (mX s))):=by
 refine ay.bd true func300 fun hwf=> ?_;simp(disch:=first|omega|simp) [go_sem,aA];repeat refine⟨by omega,?_⟩
 refine fA.mk (ML _ hσ s _ hs) ?_;simp(disch:=first|omega|simp) [go_sem];refine fA.mk (Pv _ s) ?_;simp(disch:=first|omega|simp) [go_sem];rw[Xy];exact aj sc
theorem KH(p:iU)(hs:p.Name.size<4294967281)(hσ:σ[1]? =some (.loc 1)):ay prog 217 [.agg (p.enc.map .d)] σ (.d (I (qj p))):=by
 refine ay.bs true func217 fun hwf=> ?_;refine aH [1] ?_ ?_<;>intro c0 d0
 ·simp[go_sem];refine aj ?_;simp[go_sem,qj,d0]<;>omega
 ·simp[go_sem];refine aW.mk (Iy _ _ (by first|assumption|exact aO (by assumption)|omega|simp_all) (by first|assumption|exact aO (by assumption)|omega|simp_all)) (sm ?_);refine aH [1] ?_ ?_<;>intro c1 d1
  ·simp[go_sem];refine aj ?_;simp[go_sem,qj,d0,d1]<;>omega
  ·simp[go_sem];refine aW.mk (jH _ p.Hz) (sm ?_);refine fA.mk (jH _ p.Hy) (sm ?_);refine aH [1] ?_ ?_<;>intro c2 d2
   ·simp[go_sem];refine aj ?_;simp[go_sem,qj,d0,d1,d2]<;>omega
   ·simp[go_sem];refine aH [] ?_ ?_<;>intro c3 d3
    ·simp[go_sem];refine aj ?_;simp[go_sem,qj,d0,d1,d2,d3]<;>omega
    ·simp[go_sem];refine aj ?_;simp[go_sem,qj,d1,d2]<;>omega
theorem JH(c:Option Nat)(n:Nat)(g:Nat->iU)(f:FuncId)(cap:List AV)(p:iU->Bool)(hn:n<1000000000)(hf: ∀i,i<n->ay prog f (.agg ((g i).enc.map .d)::cap) σ (.d (B (p (g i))))):ay prog 302 [.d (SL c 6 iU.enc n g),.clo (.func f) [] cap] σ (.d (I (idxFrom p (lst n g) 0))):=by
 refine ay.bs true func302 fun hwf=> ?_;refine gy (α:=Nat) true [0,1,7,8] (fun i=>[(8,.d (I i))]) (fun i=>_) (fun i=>i<=n/\idxFrom p (lst n g) 0=idxFrom p ((lst n g).drop i) i) (fun i=>n-i) 0 ?_;rintro i ⟨hi,hx⟩;simp[go_sem];refine aH [0,1,7,8] ?_ ?_<;>intro c0 d0
 ·rw[fE d0,idxFrom] at hx;simp[go_sem];repeat refine⟨by omega,?_⟩
  refine aW.mk (hf i d0) (sm ?_);refine aH [0,1,5,7,8] ?_ ?_<;>intro c1 d1
  ·simp[go_sem];refine aj ?_;simp[go_sem,hx,c1]<;>omega
  ·simp(disch:=first|omega|simp) [go_sem,aA];refine dB (i+1) ⟨by omega,by rw[hx,c1];simp⟩ (h:=by simp[go_sem]<;>omega)
 ·rw[fF d0,idxFrom] at hx;simp[go_sem];refine go true (sm ?_);refine aj ?_;simp[go_sem,hx]<;>omega
theorem Pq(c:Option Nat)(n:Nat)(g:Nat->iU)(f:FuncId)(cap:List AV)(p:iU->Bool)(hn:n<1000000000)(hf: ∀i,i<n->ay prog f (.agg ((g i).enc.map .d)::cap) σ (.d (B (p (g i))))):ay prog 222 [.d (SL c 6 iU.enc n g),.clo (.func f) [] cap] σ (.d (B ((lst n g).any p))):=by
 refine ay.bs true func222 fun hwf=> ?_;refine aW.mk (JH _ c n g f cap p hn hf) (sm ?_);refine aj ?_;simp[go_sem,lC]<;>omega
theorem clonePrs_cs(c:Option Nat)(n:Nat)(g:Nat->iU)(hn:n<1000000000):ay prog 97 [.d (SL c 6 iU.enc n g)] σ (.d (SL none 6 iU.enc n g)):=by
 refine ay.bd true func97 fun hwf=> ?_;simp[go_sem,-Bool.forall_bool];try intro b1 hb1
 refine jT ?_ ?_<;>intro c0 d0
 ·simp[go_sem];refine aj ?_;have:=hb1 c0;simp[go_sem,this]
 ·simp[go_sem];repeat refine⟨by omega,?_⟩
  refine dM (σ.length) (by simp[go_sem];exact⟨rfl,rfl,rfl⟩) (by simp[go_sem];rfl) (by simp[go_sem,hwf.uN,hwf.yL];rfl) ?_;exact aj so
theorem VF(c:Option Nat)(n:Nat)(g:Nat->iU)(hn:n<1000000000):CS prog 97 [.d (SL c 6 iU.enc n g)] σ (fun r σ' X=>r= .ms σ.length 6 0 n/\σ'=σ++[.arr 6 n fun i=>iU.enc (g i)]/\X=[]):=by
 refine CS.Zh true func97 fun hwf=> ?_;simp[go_sem,-Bool.forall_bool];try intro b1 hb1
 refine jT ?_ ?_<;>intro c0 d0
 ·simp[go_sem];refine dn 2 6 (fun i=>iU.enc (g i)) (by simp[go_sem]) (by simp[go_sem];rfl) ?_;refine aj ?_;obtain rfl:=hb1 c0;simp[go_sem]
 ·simp[go_sem];repeat refine⟨by omega,?_⟩
  exact aj so
theorem FM(τ:List aC)(r:iU)(u:Int):ay prog 370 [.agg (r.enc.map .d),.ptr σ.length 0] (σ++ .var [.d (I u)]::τ) (.d (B (r.ID==u))):=by
 refine ay.bs true func370 fun hwf=> ?_;exact aj so
theorem KG(c:Option Nat)(n:Nat)(g:Nat->iU)(u:Int)(hn:n<1000000000):ay prog 322 [.d (SL c 6 iU.enc n g),.d (I u)] σ (.d (I (qm n g u))):=by
 refine ay.bs true func322 fun hwf=> ?_;refine aW.mk (JH _ c n g _ _ (fun r=>r.ID==u) hn (fun i hi=>FM σ [] (g i) u)) (sm ?_);refine aj ?_;simp[go_sem,qm]<;>omega
theorem yx(c:Option Nat)(n:Nat)(g:Nat->iU)(hn:n<1000000000)(hN: ∀i,i<n->(g i).Name.size<4294967281)(hσ:σ[1]? =some (.loc 1)):ay prog 156 [.d (SL c 6 iU.enc n g)] σ (.d (I (jM n g))):=by
 refine ay.bs true func156 fun hwf=> ?_;refine aH [0] ?_ ?_<;>intro c0 d0
 ·simp[go_sem];refine aj ?_;simp[go_sem,jM]<;>omega
 ·simp[go_sem];refine gy (α:=Nat) true [0,9,10,11] (fun i=>[(11,.d (I i))]) (fun i=>_) (fun i=>i<=n/\aI (zC g) 0 n=aI (zC g) i (n-i)) (fun i=>n-i) 0 ?_;rintro i ⟨hi,hx⟩;simp[go_sem];refine aH [0,9,10,11] ?_ ?_<;>intro c1 d1
  ·obtain⟨k,hk⟩: ∃k,n-i=k+1:=⟨n-i-1,by omega⟩;have hk':n-(i+1)=k:=by omega
   rw[hk,aI] at hx;simp[go_sem];repeat refine⟨by omega,?_⟩
   refine aW.mk (KH _ (g i) (hN i d1) (aO hσ)) ?_;simp[go_sem];refine aH [0,3,4,5,9,10,11] ?_ ?_<;>intro c2 d2
   ·have he:zC g i=qj (g i):=by unfold zC;rw[if_pos d2]
    rw[he,if_pos d2] at hx;simp[go_sem];refine aj ?_;simp[go_sem,jM,hx]<;>omega
   ·simp[go_sem];refine T.dr 13 fun K hK=> ?_;simp[go_sem,aZ (i:=i) (by omega)];repeat refine⟨by omega,?_⟩
    refine hK _ ?_;refine go true ?_;simp[go_sem];refine aH [0,9,10,11] ?_ ?_<;>intro c3 d3
    ·have he:zC g i=5:=by unfold zC;rw[if_neg (by simp[d2]),if_pos d3]
     rw[he] at hx;simp at hx;simp[go_sem];refine aj ?_;simp[go_sem,jM,hx]<;>omega
    ·have he:zC g i=0:=by unfold zC;rw[if_neg (by simp[d2]),if_neg (by omega)]
     rw[he] at hx;simp at hx;simp(disch:=first|omega|simp) [go_sem,aA];refine dB (i+1) ⟨by omega,by rw[hx,hk']⟩ (h:=by simp[go_sem]<;>omega)
  ·obtain rfl:i=n:=by omega
   rw[Nat.sub_self,aI] at hx;simp[go_sem];refine go true ?_;simp[go_sem];refine aj ?_;simp[go_sem,jM,hx]<;>omega
def iU.zero:iU:=⟨0,⟨#[]⟩,⟨0,0⟩,⟨0,0⟩⟩
def uG(n:Nat)(g:Nat->iU)(u:Int):iU×Bool:=if jM n g≠0\/qm n g u<0 then(iU.zero,false) else(g (qm n g u).toNat,true)
theorem findP_lt(n:Nat)(g:Nat->iU)(u:Int):qm n g u<n:=qB _ n g
def zO(d:Int)(g:Nat->Int):Nat->Int
 |0=>d
 |i+1=>(iQ (zO d g i) (g i)).1
def D6(p:iU)(made:fU)(y:Int):Int:=min (min (iQ p.Hy.Last y).1 (iQ (iQ p.Hz.Last 110).1 y).1) (iQ (iQ made.Last 110).1 y).1+1
def grE(n:Nat)(g:Nat->iU)(ids:Nat->Int)(q:Nat):Int:=if qm n g (ids q)<0 then 7 else 0
def prsGd(k u:Int):Ground:=⟨2,k,0,u⟩
def tC(n:Nat)(g:Nat->iU)(ids:Nat->Int)(made:fU)(y d:Int)(q:Nat):List Ground:=
 if d<D6 (g (qm n g (ids q)).toNat) made y then[prsGd (ids q) (D6 (g (qm n g (ids q)).toNat) made y)] else[]
theorem RF(n:Nat)(g:Nat->iU)(ids:Nat->Int)(made:fU)(y d:Int)(i:Nat):(tC n g ids made y d i).length<=1:=by unfold tC;split<;>simp
def qh(n:Nat)(g:Nat->iU)(m:Nat)(ids:Nat->Int)(made:fU)(y d:Int):List Ground×Int:=
 if jM n g≠0\/oI made≠0 then([],1) else if y<0\/200<y\/d<0\/1048575<d then([],2) else if lV ids m=false then([],5)
 else if aI (grE n g ids) 0 m≠0 then([],7) else(gather (tC n g ids made y d) m,0)
theorem SH{e:Nat->Int} : ∀{k i q:Nat},i<=q->q<i+k->e q≠0->aI e i k≠0
 |0,i,q,h1,h2,_=>by omega
 |k+1,i,q,h1,h2,h3=>by
  rw[aI];by_cases he:e i=0
  ·rw[if_neg (by simp[he])];have:q≠i:=fun h=>h3 (h▸he);exact SH (by omega) (by omega) h3
  ·rw[if_pos he];exact he
theorem pO(d:Int)(c:Option Nat)(n:Nat)(g:Nat->Int)(hn:n<1000000000):ay prog 466 [.d (I d),.d (SL c 1 encI n g)] σ (.d (I (zO d g n))):=by
 refine ay.bs true func466 fun hwf=> ?_;refine zJ (α:=Nat) true [0,7,8,9] (fun i=>[(0,.d (I (zO d g i))),(9,.d (I i))]) (fun i=>_) (fun i=>i<=n) (fun i=>n-i) 0 (by simp[go_sem,zO]) (rfl) (by simp) ?_;rintro i hi;simp[go_sem];refine aH [0,7,8,9] ?_ ?_<;>intro c0 d0
 ·simp(disch:=first|omega|simp) [go_sem];repeat refine⟨by omega,?_⟩
  refine aW.mk (Gy _ _ _) ?_;simp(disch:=first|omega|simp) [go_sem,aA];refine dB (i+1) (by omega) (h:=by simp[go_sem,zO]<;>omega)
 ·obtain rfl:i=n:=by omega
  simp[go_sem];refine go true ?_;simp[go_sem];refine aj ?_;simp[go_sem]<;>omega
theorem KF(p:iU)(made:fU)(y:Int):ay prog 457 [.agg (p.enc.map .d),.agg (made.enc.map .d),.d (I y)] σ (.d (I (D6 p made y))):=by
 have hb:=BF p.Hy.Last y;unfold fM at hb;have hb1:=BF (iQ p.Hz.Last 110).1 y;unfold fM at hb1;have hb2:=BF (iQ made.Last 110).1 y;unfold fM at hb2;refine ay.bd true func457 fun hwf=> ?_;simp[go_sem];refine T.dr 19 fun K hK=> ?_;simp[go_sem];refine dS.mk ((pO _ p.Hy.Last none 1 (fun _=>y) (by omega)).sub (by simp[go_sem,xZ,uT,dD,rowsOf])) ?_;simp[go_sem,zO];refine dS.mk ((pO _ p.Hz.Last none 2 (fun i=>if i=0 then 110 else y) (by omega)).sub (by simp[go_sem,xZ,uT,dD,rowsOf];intro i hi;obtain rfl|rfl:i=0\/i=1:=(by omega);all_goals rfl)) ?_;simp[go_sem,zO];refine dS.mk ((pO _ made.Last none 2 (fun i=>if i=0 then 110 else y) (by omega)).sub (by simp[go_sem,xZ,uT,dD,rowsOf];intro i hi;obtain rfl|rfl:i=0\/i=1:=(by omega);all_goals rfl)) ?_;simp[go_sem,zO];try simp(disch:=omega) only[aA]
 refine hK _ ?_;refine go true ?_;simp[go_sem];refine aj ?_;simp[go_sem,D6]<;>omega
theorem FN(c:Option Nat)(n:Nat)(g:Nat->iU)(c':Option Nat)(m:Nat)(ids:Nat->Int)(made:fU)(y d:Int)(hn:n<1000000000)(hm:m<1000000000)(hN: ∀i,i<n->(g i).Name.size<4294967281)(hσ:σ[1]? =some (.loc 1)):ay prog 440 [.d (SL c 6 iU.enc n g),.d (SL c' 1 encI m ids),.agg (made.enc.map .d),.d (I y),.d (I d)] σ (.eX [.d (SL none 4 Ground.enc (qh n g m ids made y d).1.length (nth (qh n g m ids made y d).1)),.d (I (qh n g m ids made y d).2)]):=by
 refine ay.bs true func440 fun hwf=> ?_;refine aW.mk (yx _ c n g hn hN (aO hσ)) (sm ?_);refine fA.mk (jH _ made) (sm ?_);refine aH [0,1,3,4,7] ?_ ?_<;>intro c0 d0
 ·have hz:qh n g m ids made y d=([],1):=by unfold qh;rw[if_pos (by simpa using d0)]
  simp[go_sem];rw[hz];exact aj sc
 ·simp[go_sem];refine aH [0,1,3,4,7] ?_ ?_<;>intro c1 d1
  ·have hz:qh n g m ids made y d=([],2):=by unfold qh;rw[if_neg (by simpa using d0),if_pos (by omega)]
   simp[go_sem];rw[hz];exact aj sc
  ·simp[go_sem];refine gy (α:=Nat) false [0,1,3,4,7,43,44] (fun i=>[(44,.d (I i))]) (fun i=>_) (fun i=>i<=m/\∀q,0<q->q<i->ids (q-1)<ids q) (fun i=>m-i) 0 ?_;rintro i ⟨hi,hx⟩;simp[go_sem];refine go false ?_;simp[go_sem];refine aH [0,1,3,4,7,43,44] ?_ ?_<;>intro c2 d2
   ·simp[go_sem];refine go true ?_;simp[go_sem];refine T.dr 14 fun K hK=> ?_;simp[go_sem,aZ (i:=i) (by omega)];repeat refine⟨by omega,?_⟩
    refine hK _ ?_;refine go true ?_;simp[go_sem];refine aH [0,1,3,4,7,43,44] ?_ ?_<;>intro c3 d3
    ·have hz:qh n g m ids made y d=([],5):=by unfold qh;rw[if_neg (by simpa using d0),if_neg (by omega),if_pos (P6 d2 d3.1 d3.2)]
     simp[go_sem];rw[hz];exact aj sc
    ·simp(disch:=first|omega|simp) [go_sem,aA];refine dB (i+1) ⟨by omega,AY hx d3⟩ (h:=by simp[go_sem]<;>omega)
   ·have him:i=m:=by omega
    rw[him] at hx;have ha:=Hf hx;simp[go_sem];refine go false ?_;simp[go_sem];refine dn 13 4 (fun i=>Ground.enc (nth ([]:List Ground) i)) (by simp[go_sem]) (by simp[go_sem];rfl) ?_;refine go false ?_;simp[go_sem];refine go true ?_;simp[go_sem];refine lpU (α:=Nat) true [0,3,4,7,13,62,63,64] [σ.length+1] (fun q=>[(13,.ms (σ.length+1) 4 0 (gather (tC n g ids made y d) q).length),(64,.d (I q))]) (fun q=>σ++[.var [.d (I made.First),.d (I made.Last)],.arr 4 (gather (tC n g ids made y d) q).length (fun k=>Ground.enc (nth (gather (tC n g ids made y d) q) k))]) (fun q=>q<=m/\∀k,k<q->0<=qm n g (ids k)) (fun q=>m-q) 0 (by simp[go_sem,gather]) (rfl) (by simp) (by simp) ?_;rintro q ⟨hq,hf⟩;simp[go_sem];refine aH [0,3,4,7,13,62,63,64] ?_ ?_<;>intro c4 d4
    ·have hl:=iT (RF n g ids made y d) q;have hlt:=findP_lt n g (ids q);simp[go_sem];repeat refine⟨by omega,?_⟩
     refine aW.mk (KG _ c n g (ids q) hn) ?_;simp[go_sem];refine aH [0,3,4,7,13,15,16,62,63,64] ?_ ?_<;>intro c5 d5
     ·have hz:qh n g m ids made y d=([],7):=by unfold qh;rw[if_neg (by simpa using d0),if_neg (by omega),if_neg (by simp[ha]),if_pos (SH (q:=q) (by omega) (by omega) (by unfold grE;rw[if_pos d5];decide))]
      simp[go_sem];rw[hz];exact aj sc
     ·simp[go_sem];refine T.dr 7 fun K hK=> ?_;simp[go_sem];repeat refine⟨by omega,?_⟩
      refine dS.mk (KF _ (g (qm n g (ids q)).toNat) made y) ?_;simp[go_sem];refine hK _ ?_;refine go false ?_;simp[go_sem];refine go false ?_;simp[go_sem];refine aH [0,3,4,7,13,15,17,62,63,64] ?_ ?_<;>intro c6 d6
      ·have hg:gather (tC n g ids made y d) (q+1)=gather (tC n g ids made y d) q++[prsGd (ids q) (D6 (g (qm n g (ids q)).toNat) made y)]:=by rw[gather,tC,if_pos d6]
       simp[go_sem,hwf.one];repeat refine⟨by omega,?_⟩
       refine bC (σ.length+1) (fun k=>Ground.enc (nth (gather (tC n g ids made y d) q++[prsGd (ids q) (D6 (g (qm n g (ids q)).toNat) made y)]) k)) (by simp[go_sem];exact⟨rfl,rfl,rfl⟩) (by exact fun k hk=>qF (enc:=Ground.enc) (x:=prsGd (ids q) (D6 (g (qm n g (ids q)).toNat) made y)) rfl hk) (by simp[go_sem];rfl) ?_;refine go false ?_;simp(disch:=first|omega|simp) [go_sem,aA];refine dB (q+1) ⟨by omega,fun k hk=>by rcases Nat.lt_or_eq_of_le (Nat.le_of_lt_succ hk) with h|h;exact hf k h;rw[h];omega⟩ (h:=by simp[go_sem,hg]<;>omega) (hσ:=by simp[go_sem,hg]) (hb:=au (by simp[go_sem]))
      ·have hg:gather (tC n g ids made y d) (q+1)=gather (tC n g ids made y d) q:=by rw[gather,tC,if_neg (by omega)];simp
       simp(disch:=first|omega|simp) [go_sem,aA];refine dB (q+1) ⟨by omega,fun k hk=>by rcases Nat.lt_or_eq_of_le (Nat.le_of_lt_succ hk) with h|h;exact hf k h;rw[h];omega⟩ (h:=by simp[go_sem,hg]<;>omega) (hσ:=by simp[go_sem,hg]) (hb:=au (by simp[go_sem]))
    ·obtain rfl:q=m:=by omega
     have hz:qh n g q ids made y d=(gather (tC n g ids made y d) q,0):=by unfold qh;rw[if_neg (by simpa using d0),if_neg (by omega),if_neg (by simp[ha]),if_neg (by simp only[ne_eq,Decidable.not_not];exact IU fun k h1 h2=>by unfold grE;rw[if_neg (by have:=hf k (by omega);omega)])]
     simp[go_sem];refine go true ?_;simp[go_sem];refine aF hwf (σ.length+1) ?_;rw[hz];exact aj sc
open Classical in
noncomputable def xI{α:Type}(l m:List α):Bool:=decide (l=m)
theorem Vh{α:Type}{l m:List α} :xI l m=true↔l=m:=by unfold xI;simp
theorem eqL_not{α:Type}{l m:List α} :xI l m=false↔l≠m:=by rw[←Bool.not_eq_true,Vh]
theorem tX{α:Type}{n m:Nat}{f g:Nat->α}(h: ¬n=m):xI (lst n f) (lst m g)=false:=by
 rw[eqL_not];intro he;have:=congrArg List.length he;rw[bP,bP] at this;exact h this
theorem zY{α:Type}{n m:Nat}{f g:Nat->α}{i:Nat}(h1:i<n)(h2:i<m)(h:f i≠g i):xI (lst n f) (lst m g)=false:=by
 rw[eqL_not];intro he;have e1:=xg (f:=f) h1;rw[he,xg h2] at e1;exact h (Option.some.inj e1).symm
theorem lst_congr{α:Type}{n:Nat}{f g:Nat->α}(h: ∀q,q<n->f q=g q):lst n f=lst n g:=
 List.map_congr_left fun q hq=>h q (by simpa using hq)
theorem tV{α:Type}{n m:Nat}{f g:Nat->α}(h:n=m)(hq: ∀q,q<n->f q=g q):xI (lst n f) (lst m g)=true:=by
 rw[Vh,←h];exact lst_congr hq
structure Reason where
 Gd:Ground
 Pm:Int
instance:Inhabited Reason:=⟨⟨⟨0,0,0,0⟩,0⟩⟩
def Reason.enc(r:Reason):List D:=[I r.Gd.Kind,I r.Gd.Source,I r.Gd.Unit,I r.Gd.Until,I r.Pm]
attribute [go_sem] Reason.enc
structure nV where
 Unit:Int
 Made:fU
 Class:Int
 np:Nat
 ps:Nat->Int
instance:Inhabited nV:=⟨⟨0,⟨0,0⟩,0,0,fun _=>0⟩⟩
def nV.enc(s:nV):List D:=[I s.Unit,I s.Made.First,I s.Made.Last,I s.Class,SL none 1 encI s.np s.ps]
attribute [go_sem] nV.enc
theorem cloneSbj_cs(c:Option Nat)(n:Nat)(g:Nat->nV)(hn:n<1000000000):ay prog 95 [.d (SL c 5 nV.enc n g)] σ (.d (SL none 5 nV.enc n g)):=by
 refine ay.bd true func95 fun hwf=> ?_;simp[go_sem,-Bool.forall_bool];try intro b1 hb1
 refine jT ?_ ?_<;>intro c0 d0
 ·simp[go_sem];refine aj ?_;have:=hb1 c0;simp[go_sem,this]
 ·simp[go_sem];repeat refine⟨by omega,?_⟩
  refine dM (σ.length) (by simp[go_sem];exact⟨rfl,rfl,rfl⟩) (by simp[go_sem];rfl) (by simp[go_sem,hwf.uN,hwf.yL];rfl) ?_;exact aj so
theorem VE(c:Option Nat)(n:Nat)(g:Nat->nV)(hn:n<1000000000):CS prog 95 [.d (SL c 5 nV.enc n g)] σ (fun r σ' X=>r= .ms σ.length 5 0 n/\σ'=σ++[.arr 5 n fun i=>nV.enc (g i)]/\X=[]):=by
 refine CS.Zh true func95 fun hwf=> ?_;simp[go_sem,-Bool.forall_bool];try intro b1 hb1
 refine jT ?_ ?_<;>intro c0 d0
 ·simp[go_sem];refine dn 2 5 (fun i=>nV.enc (g i)) (by simp[go_sem]) (by simp[go_sem];rfl) ?_;refine aj ?_;obtain rfl:=hb1 c0;simp[go_sem]
 ·simp[go_sem];repeat refine⟨by omega,?_⟩
  exact aj so
theorem X5(c:Option Nat)(n:Nat)(g:Nat->nV)(f:FuncId)(cap:List AV)(p:nV->Bool)(hn:n<1000000000)(hf: ∀i,i<n->ay prog f (.agg ((g i).enc.map .d)::cap) σ (.d (B (p (g i))))):ay prog 451 [.d (SL c 5 nV.enc n g),.clo (.func f) [] cap] σ (.d (I (idxFrom p (lst n g) 0))):=by
 refine ay.bs true func451 fun hwf=> ?_;refine gy (α:=Nat) true [0,1,7,8] (fun i=>[(8,.d (I i))]) (fun i=>_) (fun i=>i<=n/\idxFrom p (lst n g) 0=idxFrom p ((lst n g).drop i) i) (fun i=>n-i) 0 ?_;rintro i ⟨hi,hx⟩;simp[go_sem];refine aH [0,1,7,8] ?_ ?_<;>intro c0 d0
 ·rw[fE d0,idxFrom] at hx;simp[go_sem];repeat refine⟨by omega,?_⟩
  refine aW.mk (hf i d0) (sm ?_);refine aH [0,1,5,7,8] ?_ ?_<;>intro c1 d1
  ·simp[go_sem];refine aj ?_;simp[go_sem,hx,c1]<;>omega
  ·simp(disch:=first|omega|simp) [go_sem,aA];refine dB (i+1) ⟨by omega,by rw[hx,c1];simp⟩ (h:=by simp[go_sem]<;>omega)
 ·rw[fF d0,idxFrom] at hx;simp[go_sem];refine go true (sm ?_);refine aj ?_;simp[go_sem,hx]<;>omega
def nV.zero:nV:=⟨0,⟨0,0⟩,0,0,fun _=>0⟩
structure qw where
 ns:Nat
 gs:Nat->nV
 nc:Nat
 gc:Nat->Rule
 np:Nat
 gp:Nat->iU
 jg:Int
 na:Nat
 ga:Nat->kP
 nm:Nat
 gm:Nat->qJ
def qw.enc(p:qw):List D:=[SL none 5 nV.enc p.ns p.gs,SL none 6 Rule.enc p.nc p.gc,SL none 6 iU.enc p.np p.gp,I p.jg,SL none 6 kP.enc p.na p.ga,SL none 6 qJ.enc p.nm p.gm]
attribute [go_sem] qw.enc
structure jJ(p:qw):Prop where
 ns:p.ns<=1000
 nc:p.nc<=1000
 np:p.np<=1000
 na:p.na<=1000
 nm:p.nm<=1000
 ps: ∀i,i<p.ns->(p.gs i).np<=1000
 nn: ∀i,i<p.np->(p.gp i).Name.size<4294967281
def JO(n:Nat)(g:Nat->nV)(u:Int):Int:=idxFrom (fun r=>r.Unit==u) (lst n g) 0
theorem Yp(n:Nat)(g:Nat->nV)(u:Int):JO n g u<n:=qB _ n g
def gU(p:qw)(u:Int):nV×Bool:=if JO p.ns p.gs u<0 then(nV.zero,false) else(p.gs (JO p.ns p.gs u).toNat,true)
theorem subj_np{p:qw}(h:jJ p)(u:Int):(gU p u).1.np<=1000:=by
 unfold gU;have:=Yp p.ns p.gs u;split
 ·simp[nV.zero]
 ·exact h.ps _ (by omega)
def O0(n:Nat)(g:Nat->iU)(u:Int):Bool:=(lst n g).any fun r=>r.ID==u
theorem hasP_iff(n:Nat)(g:Nat->iU)(u:Int):O0 n g u=decide (0<=qm n g u):=(lC _ _ _).symm
def WR(p:qw)(s:nV):Int:=aI (fun q=>if O0 p.np p.gp (s.ps q)=false then 7 else 0) 0 s.np
def um(p:qw)(i:Nat):Int:=if yK (p.gs i).Unit=false\/(p.gs i).Class<0\/999<(p.gs i).Class then 2 else if oI (p.gs i).Made≠0 then 1
 else if(0<i/\(p.gs i).Unit<=(p.gs (i-1)).Unit)\/lV (p.gs i).ps (p.gs i).np=false then 5 else WR p (p.gs i)
def jL(p:qw):Int:=if 256<p.ns then 8 else aI (um p) 0 p.ns
theorem Yo{n:Nat}{g:Nat->iU}(h:jM n g=0)(u:Int):(uG n g u).2=O0 n g u:=by
 rw[hasP_iff];unfold uG;by_cases hf:qm n g u<0
 ·rw[if_pos (.inr hf)];simp;omega
 ·rw[if_neg (by rintro(h'|h');exact h' h;exact hf h')];simp;omega
def vw(p:qw)(i:Nat):Int:=if i=0 then check p.nc p.gc else if i=1 then jM p.np p.gp else if i=2 then kR p.na p.ga else lJ p.nm p.gm
def fP(p:qw):Int:=if aI (vw p) 0 4≠0 then aI (vw p) 0 4 else if p.jg<0\/200<p.jg then 2 else jL p
theorem CU(τ:List aC)(r:nV)(u:Int):ay prog 452 [.agg (r.enc.map .d),.ptr σ.length 0] (σ++ .var [.d (I u)]::τ) (.d (B (r.Unit==u))):=by
 refine ay.bs true func452 fun hwf=> ?_;exact aj so
theorem tH(p:qw)(u:Int)(hp:jJ p):ay prog 435 [.agg (p.enc.map .d),.d (I u)] σ (.eX [.agg ((gU p u).1.enc.map .d),.d (B (gU p u).2)]):=by
 have hlt:=Yp p.ns p.gs u;unfold JO at hlt;refine ay.bs true func435 fun hwf=> ?_;refine aW.mk (X5 _ none p.ns p.gs _ _ (fun r=>r.Unit==u) (by have:=hp.ns;omega) (fun i hi=>by have h:=nP (CU (σ++[.var (p.enc.map .d)]) [.var [.d (I 0),.d (I 0),.d (I 0),.d (I 0),.d (.v (.slice none 0 0))]] (p.gs i) u);exact h)) ?_;simp[go_sem];refine aH [2,4,6] ?_ ?_<;>intro c0 d0
 ·have hz:gU p u=(nV.zero,false):=by unfold gU JO;rw[if_pos d0]
  simp[go_sem];refine aj ?_;rw[hz];simp[go_sem,nV.zero]
 ·have hz:gU p u=(p.gs (JO p.ns p.gs u).toNat,true):=by unfold gU JO;rw[if_neg (by omega)]
  unfold JO at hz;simp[go_sem];repeat refine⟨by omega,?_⟩
  rw[hz];exact aj sc
theorem zD(τ:List aC)(r:iU)(u:Int):ay prog 223 [.agg (r.enc.map .d),.ptr σ.length 0] (σ++ .var [.d (I u)]::τ) (.d (B (r.ID==u))):=by
 refine ay.bs true func223 fun hwf=> ?_;exact aj so
theorem Em(p:qw)(hp:jJ p):ay prog 159 [.agg (p.enc.map .d)] σ (.d (I (jL p))):=by
 refine ay.bs true func159 fun hwf=> ?_;refine aH [1] ?_ ?_<;>intro c0 d0
 ·simp[go_sem];refine aj ?_;simp[go_sem,jL]<;>omega
 ·simp[go_sem];refine gy (α:=Nat) true [1,12,13,14] (fun i=>[(14,.d (I i))]) (fun i=>σ++[.var (p.enc.map .d)]) (fun i=>i<=p.ns/\aI (um p) 0 p.ns=aI (um p) i (p.ns-i)) (fun i=>p.ns-i) 0 ?_;rintro i ⟨hi,hx⟩;simp[go_sem];refine aH [1,12,13,14] ?_ ?_<;>intro c1 d1
  ·obtain⟨k,hk⟩: ∃k,p.ns-i=k+1:=⟨p.ns-i-1,by omega⟩;have hk':p.ns-(i+1)=k:=by omega
   rw[hk,aI] at hx;simp[go_sem];repeat refine⟨by omega,?_⟩
   refine aW.mk (wR _ (p.gs i).Unit) ?_;simp[go_sem];refine aH [1,3,4,12,13,14] ?_ ?_<;>intro c2 d2
   ·have he:um p i=2:=by unfold um;rw[if_pos (by simpa[or_assoc] using d2)]
    rw[he] at hx;simp at hx;simp[go_sem];refine aj ?_;simp[go_sem,jL,hx]<;>omega
   ·have hd2: ¬(yK (p.gs i).Unit=false\/(p.gs i).Class<0\/999<(p.gs i).Class):=by
     rintro(h|h|h)
     ·have:=d2.1.1;rw[h] at this;cases this
     ·omega
     ·omega
    simp[go_sem];refine aW.mk (jH _ (p.gs i).Made) ?_;simp[go_sem];refine aH [1,3,4,12,13,14] ?_ ?_<;>intro c3 d3
    ·have he:um p i=1:=by unfold um;rw[if_neg hd2,if_pos d3]
     rw[he] at hx;simp at hx;simp[go_sem];refine aj ?_;simp[go_sem,jL,hx]<;>omega
    ·simp[go_sem];refine T.dr 21 fun K hK=> ?_;simp[go_sem,aZ (i:=i) (by have:=hp.ns;omega)];repeat refine⟨by omega,?_⟩
     refine dS.mk (En _ none (p.gs i).np (p.gs i).ps (by have:=hp.ps i d1;omega)) ?_;simp[go_sem];refine hK _ ?_;refine go true ?_;simp[go_sem];refine aH [1,4,12,13,14] ?_ ?_<;>intro c4 d4
     ·have he:um p i=5:=by unfold um;rw[if_neg hd2,if_neg (by simp[d3]),if_pos d4]
      rw[he] at hx;simp at hx;simp[go_sem];refine aj ?_;simp[go_sem,jL,hx]<;>omega
     ·have he:um p i=WR p (p.gs i):=by
       unfold um;rw[if_neg hd2,if_neg (by simp[d3]),if_neg];rintro(h|h)
       ·have:=d4.1 h.1;omega
       ·have:=d4.2;rw[h] at this;cases this
      simp[go_sem];refine gy (α:=Nat) true [1,12,13,14,61,62,63] (fun q=>[(63,.d (I q))]) (fun q=>σ++[.var (p.enc.map .d),.var ((p.gs i).enc.map .d)]) (fun q=>q<=(p.gs i).np/\WR p (p.gs i)=aI (fun q=>if O0 p.np p.gp ((p.gs i).ps q)=false then 7 else 0) q ((p.gs i).np-q)) (fun q=>(p.gs i).np-q) 0 ?_ (hx:=⟨by omega,rfl⟩);rintro q ⟨hq,hy⟩;simp[go_sem];refine aH [1,12,13,14,61,62,63] ?_ ?_<;>intro c5 d5
      ·obtain⟨j,hj⟩: ∃j,(p.gs i).np-q=j+1:=⟨(p.gs i).np-q-1,by omega⟩;have hj':(p.gs i).np-(q+1)=j:=by omega
       rw[hj,aI] at hy;simp[go_sem];repeat refine⟨by omega,?_⟩
       refine aW.mk (Pq _ none p.np p.gp _ _ (fun r=>r.ID==(p.gs i).ps q) (by have:=hp.np;omega) (fun k hk=>by have h:=nP (zD (σ++[.var (p.enc.map .d),.var ((p.gs i).enc.map .d)]) [] (p.gp k) ((p.gs i).ps q));exact h)) ?_;simp[go_sem];refine aH [1,12,13,14,61,62,63] ?_ ?_<;>intro c6 d6
       ·have hh:O0 p.np p.gp ((p.gs i).ps q)=false:=by unfold O0;simpa using c6
        simp only[hh,if_true] at hy;rw[he,hy] at hx;simp at hx;simp[go_sem];refine aj ?_;simp[go_sem,jL,hx]<;>omega
       ·have hh:O0 p.np p.gp ((p.gs i).ps q)=true:=by unfold O0;simpa using c6
        simp only[hh,Bool.true_eq_false,if_false] at hy;simp at hy;simp(disch:=first|omega|simp) [go_sem];refine dB (q+1) ⟨by omega,by rw[hy,hj']⟩ (h:=by simp[go_sem,wS q (by have:=hp.ps i d1;omega)]<;>omega) (hσ:=by simp[go_sem])
      ·obtain rfl:q=(p.gs i).np:=by omega
       rw[Nat.sub_self,aI] at hy;rw[he,hy] at hx;simp at hx;simp[go_sem];refine go true ?_;simp(disch:=first|omega|simp) [go_sem,aA];refine dB (i+1) ⟨by omega,by rw[hx,hk']⟩ (h:=by simp[go_sem]<;>omega) (hσ:=by simp[go_sem])
  ·have hin:i=p.ns:=by omega
   rw[hin,Nat.sub_self,aI] at hx;simp[go_sem];refine go true ?_;simp[go_sem];refine aj ?_;simp[go_sem,jL,hx]<;>omega
theorem yw(p:qw)(hp:jJ p)(hσ:σ[1]? =some (.loc 1)):ay prog 111 [.agg (p.enc.map .d)] σ (.d (I (fP p))):=by
 refine ay.bs true func111 fun hwf=> ?_;refine T.dr 15 fun K hK=>sm ?_;refine dS.mk (wo _ none p.nc p.gc (by have:=hp.nc;omega)) ?_;simp[go_sem];refine dS.mk (yx _ none p.np p.gp (by have:=hp.np;omega) hp.nn (aO hσ)) ?_;simp[go_sem];refine dS.mk (lW _ none p.na p.ga (by have:=hp.na;omega)) ?_;simp[go_sem];refine dS.mk (yA _ none p.nm p.gm (by have:=hp.nm;omega)) ?_;simp[go_sem];refine hK _ ?_;refine go true (sm ?_);refine gy (α:=Nat) true [1,17,18,19] (fun i=>[(19,.d (I i))]) (fun i=>_) (fun i=>i<=4/\aI (vw p) 0 4=aI (vw p) i (4-i)) (fun i=>4-i) 0 ?_;rintro i ⟨hi,hx⟩;simp[go_sem];refine aH [1,17,18,19] ?_ ?_<;>intro c0 d0
 ·obtain⟨k,hk⟩: ∃k,4-i=k+1:=⟨4-i-1,by omega⟩;have hk':4-(i+1)=k:=by omega
  have hs:aI (vw p) i (k+1)=if vw p i≠0 then vw p i else aI (vw p) (i+1) k:=rfl
  rw[hk,hs] at hx;have hrow:rowsOf 1 [I (check p.nc p.gc),I (jM p.np p.gp),I (kR p.na p.ga),I (lJ p.nm p.gm)] i=[I (vw p i)]:=by
   have hi4:i=0\/i=1\/i=2\/i=3:=by omega
   rcases hi4 with rfl|rfl|rfl|rfl<;>rfl
  simp[go_sem,hrow];repeat refine⟨by omega,?_⟩
  refine aH [1,4,17,18,19] ?_ ?_<;>intro c1 d1
  ·rw[if_pos d1] at hx;have hz:fP p=vw p i:=by unfold fP;rw[if_pos (by rw[hx];exact d1),hx]
   simp[go_sem];rw[hz];exact aj sc
  ·rw[if_neg (by simp[d1])] at hx;simp(disch:=first|omega|simp) [go_sem,aA];refine dB (i+1) ⟨by omega,by rw[hx,hk']⟩ (h:=by simp[go_sem]<;>omega)
 ·obtain rfl:i=4:=by omega
  have hx:aI (vw p) 0 4=0:=hx;simp[go_sem];refine go true (sm ?_);refine aH [1] ?_ ?_<;>intro c2 d2
  ·have hz:fP p=2:=by unfold fP;rw[if_neg (by simp[hx]),if_pos d2]
   simp[go_sem];rw[hz];exact aj sc
  ·have hz:fP p=jL p:=by unfold fP;rw[if_neg (by simp[hx]),if_neg (by omega)]
   simp[go_sem];refine aW.mk (Em _ p hp) (sm ?_);rw[hz];exact aj sc
end Go.Proofs.YthlhlnbcjlpigaaGreatDoor
