/- Contracts and lemmas, joined out of smaller texts by a program; no conditions. -/
import Derived.Test.YtmahphgjkpgidaaGreatDoorKB14
import Derived.Test.YtmahphgjkpgidaaGreatDoorKB11
set_option linter.unusedVariables false
set_option linter.unusedSimpArgs false
set_option maxHeartbeats 400000
set_option maxRecDepth 100000
namespace Go.Proofs.YtmahphgjkpgidaaGreatDoor
open Go.aU Go.dh Go.Shelf Go.RowKit Go.Lib Go.Proofs Go.Proofs.Tryz
variable (σ : List aG)
abbrev Sb(s:ByteArray):D:= .v (.string s)
theorem Qk(hσ:σ[1]? =some (.loc 1))(s t:ByteArray)(hs:s.size<4294967281):aA prog 340 [.d (Sb s),.d (Sb t)] σ (.d (B (Lib.contains s.data.toList t.data.toList))):=by
 refine aA.Ir T.en340 #[.string s,.string t] (fun w j vs hr=>QB hr (fun _ h=>lM h) (fun _ h=>lM h)) (fun w j hS=> ?_);obtain⟨m,hm⟩:=loc_cell hS hσ;exact(Any.strings_Contains YL s t m w hs hm).mono fun e w' ⟨he,hw⟩=>⟨he,by rw[hw];exact Below.refl _ _⟩
set_option maxHeartbeats 1000000 in
theorem TV(W:World)(x:Nat)(hx:x<=1114111):FnGives prog 339 #[] #[encR x] (.bool (EG x)) W:=by
 unfold FnGives encR EG;go_enter func339,ntmps339
 go_wp2
 all_goals(go_ret;refine⟨congrArg Ending.returned (congrArg Value.bool (?_:_=_)),0,rfl⟩;rw[Bool.eq_iff_iff];simp;omega)
theorem SC(s:ByteArray):aA prog 341 [.d (Sb s),.clo (.func 339) [] []] σ (.d (B (decide (0<=Lib.idxFunc EG true s)))):=by
 refine aA.Ir T.en341 #[.string s,.func (.func 339) #[] #[]] (fun w j vs hr=>QB hr (fun _ h=>lM h) (fun _ h=>R_clo0 h)) (fun w j hS=> ?_);exact Any.strings_ContainsFunc_runes Oq 339 #[] (fun args w=>sH T.en339 args w) EG s w fun W x hx _=>TV W x hx
end Go.Proofs.YtmahphgjkpgidaaGreatDoor
namespace Go.Proofs.YtmahphgjkpgidaaGreatDoor
open Go.aU Go.dh Go.Proofs.Tryz
variable (σ : List aG)
structure iq where
 ID:Int
 Name:ByteArray
 wM:eF
 wL:eF
instance:Inhabited iq:=⟨⟨0,ByteArray.empty,⟨0,0⟩,⟨0,0⟩⟩⟩
def iq.enc(p:iq):List D:=[I p.ID,Sb p.Name,I p.wM.First,I p.wM.Last,I p.wL.First,I p.wL.Last]
attribute [go_sem] iq.enc
def xF(p:iq):Int:=if p.ID<1\/1073741824<p.ID then 2 else if F8 p.Name=false then 4 else if kH p.wM≠0\/kH p.wL≠0 then 1 else if p.wL.Last<p.wM.First then 10 else 0
def OG(g:Nat->iq)(i:Nat):Int:=if xF (g i)≠0 then xF (g i) else if 0<i/\(g i).ID<=(g (i-1)).ID then 5 else 0
def jy(n:Nat)(g:Nat->iq):Int:=if 64<n then 8 else aQ (OG g) 0 n
def pq(n:Nat)(g:Nat->iq)(u:Int):Int:=idxFrom (fun r=>r.ID==u) (lst n g) 0
def BR(n:Nat)(g:Nat->iq):Bool:=((lst n g).all fun p=>decide (p.Name.size<=200))&&decide (n<=20)
theorem FV(n:Nat)(g:Nat->iq):BR n g=true↔(∀i,i<n->(g i).Name.size<=200)/\n<=20:=by
 unfold BR;simp[lst]
theorem prsFew_no{n:Nat}{g:Nat->iq}{i:Nat}(hi:i<n)(h:200<(g i).Name.size):BR n g=false:=by
 cases hb:BR n g with
 |false=>rfl
 |true=>have:=((FV n g).1 hb).1 i hi;omega
theorem prsFew_yes{n:Nat}{g:Nat->iq}(h: ∀i,i<n->(g i).Name.size<=200):BR n g=decide ((n:Int)<=20):=by
 rw[Bool.eq_iff_iff,FV];simp only[decide_eq_true_eq];exact⟨fun h=>by have:=h.2;omega,fun h'=>⟨h,by omega⟩⟩
theorem Zq(s:ByteArray):F8 s=(decide ((1:Int)<=s.size)&&decide ((s.size:Int)<=64)&&((s[0]?.getD 0).toNat:Int) !=32&&((s[s.size-1]?.getD 0).toNat:Int) !=32&& !Lib.contains s.data.toList [32,32]&& !decide (0<=Lib.idxFunc EG true s)):=by
 have e1:decide ((1:Int)<=s.size)=decide (1<=s.size):=by rw[Bool.eq_iff_iff];simp;omega
 have e2:decide ((s.size:Int)<=64)=decide (s.size<=64):=by rw[Bool.eq_iff_iff];simp;omega
 have e3: ∀n:Nat,((n:Int) !=32)= !decide (n=32):=fun n=>by rw[Bool.eq_iff_iff];simp;omega
 rw[named_prog,e1,e2,e3,e3];rfl
theorem KQ(s:ByteArray)(hs:s.size<4294967281)(hσ:σ[1]? =some (.loc 1)):aA prog 283 [.d (Sb s)] σ (.d (B (F8 s))):=by
 refine aA.bd true func283 fun hwf=> ?_;simp(disch:=first|omega|simp) [go_sem,aH];repeat refine⟨by omega,?_⟩
 refine fM.mk (Qk _ hσ s _ hs) ?_;simp(disch:=first|omega|simp) [go_sem];refine fM.mk (SC _ s) ?_;simp(disch:=first|omega|simp) [go_sem];rw[Zq];exact aj sc
theorem rY(p:iq)(hs:p.Name.size<4294967281)(hσ:σ[1]? =some (.loc 1)):aA prog 187 [.agg (p.enc.map .d)] σ (.d (I (xF p))):=by
 refine aA.bs true func187 fun hwf=> ?_;refine aJ [1] ?_ ?_<;>intro c0 d0
 ·simp[go_sem];refine aj ?_;simp[go_sem,xF,d0]<;>omega
 ·simp[go_sem];refine aO.mk (KQ _ _ (by first|assumption|exact aC (by assumption)|omega|simp_all) (by first|assumption|exact aC (by assumption)|omega|simp_all)) (sm ?_);refine aJ [1] ?_ ?_<;>intro c1 d1
  ·simp[go_sem];refine aj ?_;simp[go_sem,xF,d0,d1]<;>omega
  ·simp[go_sem];refine aO.mk (eX _ p.wM) (sm ?_);refine fM.mk (eX _ p.wL) (sm ?_);refine aJ [1] ?_ ?_<;>intro c2 d2
   ·simp[go_sem];refine aj ?_;simp[go_sem,xF,d0,d1,d2]<;>omega
   ·simp[go_sem];refine aJ [] ?_ ?_<;>intro c3 d3
    ·simp[go_sem];refine aj ?_;simp[go_sem,xF,d0,d1,d2,d3]<;>omega
    ·simp[go_sem];refine aj ?_;simp[go_sem,xF,d1,d2]<;>omega
theorem MR(c:Option Nat)(n:Nat)(g:Nat->iq)(f:FuncId)(cap:List AV)(p:iq->Bool)(hn:n<1000000000)(hf: ∀i,i<n->aA prog f (.agg ((g i).enc.map .d)::cap) σ (.d (B (p (g i))))):aA prog 285 [.d (SL c 6 iq.enc n g),.clo (.func f) [] cap] σ (.d (I (idxFrom p (lst n g) 0))):=by
 refine aA.bs true func285 fun hwf=> ?_;refine kQ (α:=Nat) true [0,1,7,8] (fun i=>[(8,.d (I i))]) (fun i=>_) (fun i=>i<=n/\idxFrom p (lst n g) 0=idxFrom p ((lst n g).drop i) i) (fun i=>n-i) 0 ?_;rintro i ⟨hi,hx⟩;simp[go_sem];refine aJ [0,1,7,8] ?_ ?_<;>intro c0 d0
 ·rw[gX d0,idxFrom] at hx;simp[go_sem];repeat refine⟨by omega,?_⟩
  refine aO.mk (hf i d0) (sm ?_);refine aJ [0,1,5,7,8] ?_ ?_<;>intro c1 d1
  ·simp[go_sem];refine aj ?_;simp[go_sem,hx,c1]<;>omega
  ·simp(disch:=first|omega|simp) [go_sem,aH];refine gB (i+1) ⟨by omega,by rw[hx,c1];simp⟩ (h:=by simp[go_sem]<;>omega)
 ·rw[gY d0,idxFrom] at hx;simp[go_sem];refine go true (sm ?_);refine aj ?_;simp[go_sem,hx]<;>omega
theorem SB(c:Option Nat)(n:Nat)(g:Nat->iq)(f:FuncId)(cap:List AV)(p:iq->Bool)(hn:n<1000000000)(hf: ∀i,i<n->aA prog f (.agg ((g i).enc.map .d)::cap) σ (.d (B (p (g i))))):aA prog 192 [.d (SL c 6 iq.enc n g),.clo (.func f) [] cap] σ (.d (B ((lst n g).any p))):=by
 refine aA.bs true func192 fun hwf=> ?_;refine aO.mk (MR _ c n g f cap p hn hf) (sm ?_);refine aj ?_;simp[go_sem,mY]<;>omega
theorem clonePrs_cs(c:Option Nat)(n:Nat)(g:Nat->iq)(hn:n<1000000000):aA prog 78 [.d (SL c 6 iq.enc n g)] σ (.d (SL none 6 iq.enc n g)):=by
 refine aA.bd true func78 fun hwf=> ?_;simp[go_sem,-Bool.forall_bool];try intro b1 hb1
 refine fZ ?_ ?_<;>intro c0 d0
 ·simp[go_sem];refine aj ?_;have:=hb1 c0;simp[go_sem,this]
 ·simp[go_sem];repeat refine⟨by omega,?_⟩
  refine bK (σ.length) (by simp[go_sem];exact⟨rfl,rfl,rfl⟩) (by simp[go_sem];rfl) (by simp[go_sem,hwf.sZ,hwf.qH];rfl) ?_;exact aj so
theorem JE(c:Option Nat)(n:Nat)(g:Nat->iq)(hn:n<1000000000):CS prog 78 [.d (SL c 6 iq.enc n g)] σ (fun r σ' X=>r= .ms σ.length 6 0 n/\σ'=σ++[.arr 6 n fun i=>iq.enc (g i)]/\X=[]):=by
 refine CS.VD true func78 fun hwf=> ?_;simp[go_sem,-Bool.forall_bool];try intro b1 hb1
 refine fZ ?_ ?_<;>intro c0 d0
 ·simp[go_sem];refine dG 2 6 (fun i=>iq.enc (g i)) (by simp[go_sem]) (by simp[go_sem];rfl) ?_;refine aj ?_;obtain rfl:=hb1 c0;simp[go_sem]
 ·simp[go_sem];repeat refine⟨by omega,?_⟩
  exact aj so
theorem Ij(τ:List aG)(r:iq)(u:Int):aA prog 346 [.agg (r.enc.map .d),.ptr σ.length 0] (σ++ .var [.d (I u)]::τ) (.d (B (r.ID==u))):=by
 refine aA.bs true func346 fun hwf=> ?_;exact aj so
theorem zX(c:Option Nat)(n:Nat)(g:Nat->iq)(u:Int)(hn:n<1000000000):aA prog 292 [.d (SL c 6 iq.enc n g),.d (I u)] σ (.d (I (pq n g u))):=by
 refine aA.bs true func292 fun hwf=> ?_;refine aO.mk (MR _ c n g _ _ (fun r=>r.ID==u) hn (fun i hi=>Ij σ [] (g i) u)) (sm ?_);refine aj ?_;simp[go_sem,pq]<;>omega
theorem mQ(c:Option Nat)(n:Nat)(g:Nat->iq)(hn:n<1000000000)(hN: ∀i,i<n->(g i).Name.size<4294967281)(hσ:σ[1]? =some (.loc 1)):aA prog 125 [.d (SL c 6 iq.enc n g)] σ (.d (I (jy n g))):=by
 refine aA.bs true func125 fun hwf=> ?_;refine aJ [0] ?_ ?_<;>intro c0 d0
 ·simp[go_sem];refine aj ?_;simp[go_sem,jy]<;>omega
 ·simp[go_sem];refine kQ (α:=Nat) true [0,9,10,11] (fun i=>[(11,.d (I i))]) (fun i=>_) (fun i=>i<=n/\aQ (OG g) 0 n=aQ (OG g) i (n-i)) (fun i=>n-i) 0 ?_;rintro i ⟨hi,hx⟩;simp[go_sem];refine aJ [0,9,10,11] ?_ ?_<;>intro c1 d1
  ·obtain⟨k,hk⟩: ∃k,n-i=k+1:=⟨n-i-1,by omega⟩;have hk':n-(i+1)=k:=by omega
   rw[hk,aQ] at hx;simp[go_sem];repeat refine⟨by omega,?_⟩
   refine aO.mk (rY _ (g i) (hN i d1) (aC hσ)) ?_;simp[go_sem];refine aJ [0,3,4,5,9,10,11] ?_ ?_<;>intro c2 d2
   ·have he:OG g i=xF (g i):=by unfold OG;rw[if_pos d2]
    rw[he,if_pos d2] at hx;simp[go_sem];refine aj ?_;simp[go_sem,jy,hx]<;>omega
   ·simp[go_sem];refine T.dr 13 fun K hK=> ?_;simp[go_sem,dn (i:=i) (by omega)];repeat refine⟨by omega,?_⟩
    refine hK _ ?_;refine go true ?_;simp[go_sem];refine aJ [0,9,10,11] ?_ ?_<;>intro c3 d3
    ·have he:OG g i=5:=by unfold OG;rw[if_neg (by simp[d2]),if_pos d3]
     rw[he] at hx;simp at hx;simp[go_sem];refine aj ?_;simp[go_sem,jy,hx]<;>omega
    ·have he:OG g i=0:=by unfold OG;rw[if_neg (by simp[d2]),if_neg (by omega)]
     rw[he] at hx;simp at hx;simp(disch:=first|omega|simp) [go_sem,aH];refine gB (i+1) ⟨by omega,by rw[hx,hk']⟩ (h:=by simp[go_sem]<;>omega)
  ·obtain rfl:i=n:=by omega
   rw[Nat.sub_self,aQ] at hx;simp[go_sem];refine go true ?_;simp[go_sem];refine aj ?_;simp[go_sem,jy,hx]<;>omega
def iq.zero:iq:=⟨0,⟨#[]⟩,⟨0,0⟩,⟨0,0⟩⟩
theorem aam(n:Nat)(g:Nat->iq)(u:Int):pq n g u<n:=mX _ n g
def CO(d:Int)(g:Nat->Int):Nat->Int
 |0=>d
 |i+1=>(jl (CO d g i) (g i)).1
def FI(p:iq)(made:eF)(y:Int):Int:=min (min (jl p.wL.Last y).1 (jl (jl p.wM.Last 110).1 y).1) (jl (jl made.Last 110).1 y).1+1
def sW(a b:eF):eF×Bool:=if kH a≠0\/kH b≠0\/min a.Last b.Last<max a.First b.First then(⟨0,0⟩,false) else(⟨max a.First b.First,min a.Last b.Last⟩,true)
def sD(p:iq)(b d:eF):iq×Bool:=(⟨p.ID,p.Name,(sW p.wM b).1,(sW p.wL d).1⟩,(sW p.wM b).2&&(sW p.wL d).2&&decide (xF ⟨p.ID,p.Name,(sW p.wM b).1,(sW p.wL d).1⟩=0))
def jP(n:Nat)(g:Nat->iq)(k:Int)(b d:eF):(Nat×(Nat->iq))×Int:=
 if jy n g≠0\/kH b≠0\/kH d≠0 then((0,g),1) else if pq n g k<0 then((0,g),7)
 else if(sD (g (pq n g k).toNat) b d).2=false then((0,g),10) else((n,fun q=>if q=(pq n g k).toNat then(sD (g (pq n g k).toNat) b d).1 else g q),0)
def grE(n:Nat)(g:Nat->iq)(ids:Nat->Int)(q:Nat):Int:=if pq n g (ids q)<0 then 7 else 0
def prsGd(k u:Int):Ground:=⟨2,k,0,u⟩
def vV(n:Nat)(g:Nat->iq)(ids:Nat->Int)(made:eF)(y d:Int)(q:Nat):List Ground:=
 if d<FI (g (pq n g (ids q)).toNat) made y then[prsGd (ids q) (FI (g (pq n g (ids q)).toNat) made y)] else[]
theorem UY(n:Nat)(g:Nat->iq)(ids:Nat->Int)(made:eF)(y d:Int)(i:Nat):(vV n g ids made y d i).length<=1:=by unfold vV;split<;>simp
def sU(n:Nat)(g:Nat->iq)(m:Nat)(ids:Nat->Int)(made:eF)(y d:Int):List Ground×Int:=
 if jy n g≠0\/kH made≠0 then([],1) else if y<0\/200<y\/d<0\/1048575<d then([],2) else if qO ids m=false then([],5)
 else if aQ (grE n g ids) 0 m≠0 then([],7) else(gather (vV n g ids made y d) m,0)
theorem Vl{e:Nat->Int} : ∀{k i q:Nat},i<=q->q<i+k->e q≠0->aQ e i k≠0
 |0,i,q,h1,h2,_=>by omega
 |k+1,i,q,h1,h2,h3=>by
  rw[aQ];by_cases he:e i=0
  ·rw[if_neg (by simp[he])];have:q≠i:=fun h=>h3 (h▸he);exact Vl (by omega) (by omega) h3
  ·rw[if_pos he];exact he
theorem rX(d:Int)(c:Option Nat)(n:Nat)(g:Nat->Int)(hn:n<1000000000):aA prog 347 [.d (I d),.d (SL c 1 encI n g)] σ (.d (I (CO d g n))):=by
 refine aA.bs true func347 fun hwf=> ?_;refine Pz (α:=Nat) true [0,7,8,9] (fun i=>[(0,.d (I (CO d g i))),(9,.d (I i))]) (fun i=>_) (fun i=>i<=n) (fun i=>n-i) 0 (by simp[go_sem,CO]) (rfl) (by simp) ?_;rintro i hi;simp[go_sem];refine aJ [0,7,8,9] ?_ ?_<;>intro c0 d0
 ·simp(disch:=first|omega|simp) [go_sem];repeat refine⟨by omega,?_⟩
  refine aO.mk (Jp _ _ _) ?_;simp(disch:=first|omega|simp) [go_sem,aH];refine gB (i+1) (by omega) (h:=by simp[go_sem,CO]<;>omega)
 ·obtain rfl:i=n:=by omega
  simp[go_sem];refine go true ?_;simp[go_sem];refine aj ?_;simp[go_sem]<;>omega
theorem OJ(p:iq)(made:eF)(y:Int):aA prog 293 [.agg (p.enc.map .d),.agg (made.enc.map .d),.d (I y)] σ (.d (I (FI p made y))):=by
 have hb:=DR p.wL.Last y;unfold fQ at hb;have hb1:=DR (jl p.wM.Last 110).1 y;unfold fQ at hb1;have hb2:=DR (jl made.Last 110).1 y;unfold fQ at hb2;refine aA.bd true func293 fun hwf=> ?_;simp[go_sem];refine T.dr 19 fun K hK=> ?_;simp[go_sem];refine dF.mk ((rX _ p.wL.Last none 1 (fun _=>y) (by omega)).sub (by simp[go_sem,xw,sS,bC,rowsOf])) ?_;simp[go_sem,CO];refine dF.mk ((rX _ p.wM.Last none 2 (fun i=>if i=0 then 110 else y) (by omega)).sub (by simp[go_sem,xw,sS,bC,rowsOf];intro i hi;obtain rfl|rfl:i=0\/i=1:=(by omega);all_goals rfl)) ?_;simp[go_sem,CO];refine dF.mk ((rX _ made.Last none 2 (fun i=>if i=0 then 110 else y) (by omega)).sub (by simp[go_sem,xw,sS,bC,rowsOf];intro i hi;obtain rfl|rfl:i=0\/i=1:=(by omega);all_goals rfl)) ?_;simp[go_sem,CO];try simp(disch:=omega) only[aH]
 refine hK _ ?_;refine go true ?_;simp[go_sem];refine aj ?_;simp[go_sem,FI]<;>omega
theorem Sr(a b:eF):aA prog 395 [.agg (a.enc.map .d),.agg (b.enc.map .d)] σ (.d (B (decide (kH a=0)&&decide (kH b=0)))):=by
 refine aA.bs true func395 fun hwf=> ?_;refine aO.mk (eX _ _) (sm ?_);refine fM.mk (eX _ _) (sm ?_);refine aj (sm ?_);rfl
theorem Dp(a b:eF):aA prog 361 [.agg (a.enc.map .d),.agg (b.enc.map .d)] σ (.eU [.agg ((sW a b).1.enc.map .d),.d (B (sW a b).2)]):=by
 refine aA.bs true func361 fun hwf=> ?_;refine aO.mk (Sr _ a b) (sm ?_);refine aJ [4,6] ?_ ?_<;>intro c0 d0
 ·have hz:sW a b=(⟨0,0⟩,false):=by unfold sW;rw[if_pos (by simpa[or_assoc] using d0)]
  simp[go_sem];rw[hz];exact aj sc
 ·have hz:sW a b=(⟨max a.First b.First,min a.Last b.Last⟩,true):=by unfold sW;rw[if_neg (by rintro(h|h|h);exact h d0.1.1;exact h d0.1.2;omega)]
  simp[go_sem];rw[hz];exact aj sc
theorem Ii(p:iq)(b d:eF)(hs:p.Name.size<4294967281)(hσ:σ[1]? =some (.loc 1)):aA prog 313 [.agg (p.enc.map .d),.agg (b.enc.map .d),.agg (d.enc.map .d)] σ (.eU [.agg ((sD p b d).1.enc.map .d),.d (B (sD p b d).2)]):=by
 refine aA.be func313 fun hwf=> ?_;refine ak fun K hK=>sm ?_;refine hK _ ?_;refine ak fun K hK=>sm ?_;refine hK _ ?_;refine ak fun K hK=>sm ?_;refine aO.mk (Dp _ p.wM b) (sm ?_);refine hK _ ?_;refine ak fun K hK=>sm ?_;refine aO.mk (Dp _ p.wL d) (sm ?_);refine hK _ ?_;apply zH 11 10 T.mixed (by kernel_rfl)
 ·intro K hK;simp[go_sem];refine dF.mk (rY _ ⟨p.ID,p.Name,(sW p.wM b).1,(sW p.wL d).1⟩ hs (aC hσ)) (sm ?_);exact hK _ _
 ·simp[go_sem];rfl
 ·intro K hK;simp[go_sem];refine dF.mk (rY _ ⟨p.ID,p.Name,(sW p.wM b).1,(sW p.wL d).1⟩ hs (aC hσ)) (sm ?_);exact hK _ _
 intro K hK;simp[go_sem];refine hK _ ?_;refine aj ?_;simp[go_sem,sD];rfl
theorem Ik(c:Option Nat)(n:Nat)(g:Nat->iq)(c':Option Nat)(m:Nat)(ids:Nat->Int)(made:eF)(y d:Int)(hn:n<1000000000)(hm:m<1000000000)(hN: ∀i,i<n->(g i).Name.size<4294967281)(hσ:σ[1]? =some (.loc 1)):aA prog 200 [.d (SL c 6 iq.enc n g),.d (SL c' 1 encI m ids),.agg (made.enc.map .d),.d (I y),.d (I d)] σ (.eU [.d (SL none 4 Ground.enc (sU n g m ids made y d).1.length (nth (sU n g m ids made y d).1)),.d (I (sU n g m ids made y d).2)]):=by
 refine aA.bs true func200 fun hwf=> ?_;refine aO.mk (mQ _ c n g hn hN (aC hσ)) (sm ?_);refine fM.mk (eX _ made) (sm ?_);refine aJ [0,1,3,4,7] ?_ ?_<;>intro c0 d0
 ·have hz:sU n g m ids made y d=([],1):=by unfold sU;rw[if_pos (by simpa using d0)]
  simp[go_sem];rw[hz];exact aj sc
 ·simp[go_sem];refine aJ [0,1,3,4,7] ?_ ?_<;>intro c1 d1
  ·have hz:sU n g m ids made y d=([],2):=by unfold sU;rw[if_neg (by simpa using d0),if_pos (by omega)]
   simp[go_sem];rw[hz];exact aj sc
  ·simp[go_sem];refine kQ (α:=Nat) false [0,1,3,4,7,43,44] (fun i=>[(44,.d (I i))]) (fun i=>_) (fun i=>i<=m/\∀q,0<q->q<i->ids (q-1)<ids q) (fun i=>m-i) 0 ?_;rintro i ⟨hi,hx⟩;simp[go_sem];refine go false ?_;simp[go_sem];refine aJ [0,1,3,4,7,43,44] ?_ ?_<;>intro c2 d2
   ·simp[go_sem];refine go true ?_;simp[go_sem];refine T.dr 14 fun K hK=> ?_;simp[go_sem,dn (i:=i) (by omega)];repeat refine⟨by omega,?_⟩
    refine hK _ ?_;refine go true ?_;simp[go_sem];refine aJ [0,1,3,4,7,43,44] ?_ ?_<;>intro c3 d3
    ·have hz:sU n g m ids made y d=([],5):=by unfold sU;rw[if_neg (by simpa using d0),if_neg (by omega),if_pos (asc_no d2 d3.1 d3.2)]
     simp[go_sem];rw[hz];exact aj sc
    ·simp(disch:=first|omega|simp) [go_sem,aH];refine gB (i+1) ⟨by omega,Tm hx d3⟩ (h:=by simp[go_sem]<;>omega)
   ·have him:i=m:=by omega
    rw[him] at hx;have ha:=Yb hx;simp[go_sem];refine go false ?_;simp[go_sem];refine dG 13 4 (fun i=>Ground.enc (nth ([]:List Ground) i)) (by simp[go_sem]) (by simp[go_sem];rfl) ?_;refine go false ?_;simp[go_sem];refine go true ?_;simp[go_sem];refine lpU (α:=Nat) true [0,3,4,7,13,62,63,64] [σ.length+1] (fun q=>[(13,.ms (σ.length+1) 4 0 (gather (vV n g ids made y d) q).length),(64,.d (I q))]) (fun q=>σ++[.var [.d (I made.First),.d (I made.Last)],.arr 4 (gather (vV n g ids made y d) q).length (fun k=>Ground.enc (nth (gather (vV n g ids made y d) q) k))]) (fun q=>q<=m/\∀k,k<q->0<=pq n g (ids k)) (fun q=>m-q) 0 (by simp[go_sem,gather]) (rfl) (by simp) (by simp) ?_;rintro q ⟨hq,hf⟩;simp[go_sem];refine aJ [0,3,4,7,13,62,63,64] ?_ ?_<;>intro c4 d4
    ·have hl:=nJ (UY n g ids made y d) q;have hlt:=aam n g (ids q);simp[go_sem];repeat refine⟨by omega,?_⟩
     refine aO.mk (zX _ c n g (ids q) hn) ?_;simp[go_sem];refine aJ [0,3,4,7,13,15,16,62,63,64] ?_ ?_<;>intro c5 d5
     ·have hz:sU n g m ids made y d=([],7):=by unfold sU;rw[if_neg (by simpa using d0),if_neg (by omega),if_neg (by simp[ha]),if_pos (Vl (q:=q) (by omega) (by omega) (by unfold grE;rw[if_pos d5];decide))]
      simp[go_sem];rw[hz];exact aj sc
     ·simp[go_sem];refine T.dr 7 fun K hK=> ?_;simp[go_sem];repeat refine⟨by omega,?_⟩
      refine dF.mk (OJ _ (g (pq n g (ids q)).toNat) made y) ?_;simp[go_sem];refine hK _ ?_;refine go false ?_;simp[go_sem];refine go false ?_;simp[go_sem];refine aJ [0,3,4,7,13,15,17,62,63,64] ?_ ?_<;>intro c6 d6
      ·have hg:gather (vV n g ids made y d) (q+1)=gather (vV n g ids made y d) q++[prsGd (ids q) (FI (g (pq n g (ids q)).toNat) made y)]:=by rw[gather,vV,if_pos d6]
       simp[go_sem,hwf.one];repeat refine⟨by omega,?_⟩
       refine aY (σ.length+1) (fun k=>Ground.enc (nth (gather (vV n g ids made y d) q++[prsGd (ids q) (FI (g (pq n g (ids q)).toNat) made y)]) k)) (by simp[go_sem];exact⟨rfl,rfl,rfl⟩) (by exact fun k hk=>Ei (enc:=Ground.enc) (x:=prsGd (ids q) (FI (g (pq n g (ids q)).toNat) made y)) rfl hk) (by simp[go_sem];rfl) ?_;refine go false ?_;simp(disch:=first|omega|simp) [go_sem,aH];refine gB (q+1) ⟨by omega,fun k hk=>by rcases Nat.lt_or_eq_of_le (Nat.le_of_lt_succ hk) with h|h;exact hf k h;rw[h];omega⟩ (h:=by simp[go_sem,hg]<;>omega) (hσ:=by simp[go_sem,hg]) (hb:=au (by simp[go_sem]))
      ·have hg:gather (vV n g ids made y d) (q+1)=gather (vV n g ids made y d) q:=by rw[gather,vV,if_neg (by omega)];simp
       simp(disch:=first|omega|simp) [go_sem,aH];refine gB (q+1) ⟨by omega,fun k hk=>by rcases Nat.lt_or_eq_of_le (Nat.le_of_lt_succ hk) with h|h;exact hf k h;rw[h];omega⟩ (h:=by simp[go_sem,hg]<;>omega) (hσ:=by simp[go_sem,hg]) (hb:=au (by simp[go_sem]))
    ·obtain rfl:q=m:=by omega
     have hz:sU n g q ids made y d=(gather (vV n g ids made y d) q,0):=by unfold sU;rw[if_neg (by simpa using d0),if_neg (by omega),if_neg (by simp[ha]),if_neg (by simp only[ne_eq,Decidable.not_not];exact Lh fun k h1 h2=>by unfold grE;rw[if_neg (by have:=hf k (by omega);omega)])]
     simp[go_sem];refine go true ?_;simp[go_sem];refine aF hwf (σ.length+1) ?_;rw[hz];exact aj sc
open Classical in
noncomputable def xk{α:Type}(l m:List α):Bool:=decide (l=m)
theorem Xu{α:Type}{l m:List α} :xk l m=true↔l=m:=by unfold xk;simp
theorem eqL_not{α:Type}{l m:List α} :xk l m=false↔l≠m:=by rw[←Bool.not_eq_true,Xu]
theorem wC{α:Type}{n m:Nat}{f g:Nat->α}(h: ¬n=m):xk (lst n f) (lst m g)=false:=by
 rw[eqL_not];intro he;have:=congrArg List.length he;rw[bT,bT] at this;exact h this
theorem Dn{α:Type}{n m:Nat}{f g:Nat->α}{i:Nat}(h1:i<n)(h2:i<m)(h:f i≠g i):xk (lst n f) (lst m g)=false:=by
 rw[eqL_not];intro he;have e1:=yY (f:=f) h1;rw[he,yY h2] at e1;exact h (Option.some.inj e1).symm
theorem lst_congr{α:Type}{n:Nat}{f g:Nat->α}(h: ∀q,q<n->f q=g q):lst n f=lst n g:=
 List.map_congr_left fun q hq=>h q (by simpa using hq)
theorem tY{α:Type}{n m:Nat}{f g:Nat->α}(h:n=m)(hq: ∀q,q<n->f q=g q):xk (lst n f) (lst m g)=true:=by
 rw[Xu,←h];exact lst_congr hq
structure Reason where
 Gd:Ground
 Pm:Int
instance:Inhabited Reason:=⟨⟨⟨0,0,0,0⟩,0⟩⟩
def Reason.enc(r:Reason):List D:=[I r.Gd.Kind,I r.Gd.Source,I r.Gd.Unit,I r.Gd.Until,I r.Pm]
attribute [go_sem] Reason.enc
structure kP where
 Unit:Int
 Made:eF
 Class:Int
 np:Nat
 ps:Nat->Int
instance:Inhabited kP:=⟨⟨0,⟨0,0⟩,0,0,fun _=>0⟩⟩
def kP.enc(s:kP):List D:=[I s.Unit,I s.Made.First,I s.Made.Last,I s.Class,SL none 1 encI s.np s.ps]
attribute [go_sem] kP.enc
theorem cloneSbj_cs(c:Option Nat)(n:Nat)(g:Nat->kP)(hn:n<1000000000):aA prog 76 [.d (SL c 5 kP.enc n g)] σ (.d (SL none 5 kP.enc n g)):=by
 refine aA.bd true func76 fun hwf=> ?_;simp[go_sem,-Bool.forall_bool];try intro b1 hb1
 refine fZ ?_ ?_<;>intro c0 d0
 ·simp[go_sem];refine aj ?_;have:=hb1 c0;simp[go_sem,this]
 ·simp[go_sem];repeat refine⟨by omega,?_⟩
  refine bK (σ.length) (by simp[go_sem];exact⟨rfl,rfl,rfl⟩) (by simp[go_sem];rfl) (by simp[go_sem,hwf.sZ,hwf.qH];rfl) ?_;exact aj so
theorem JB(c:Option Nat)(n:Nat)(g:Nat->kP)(hn:n<1000000000):CS prog 76 [.d (SL c 5 kP.enc n g)] σ (fun r σ' X=>r= .ms σ.length 5 0 n/\σ'=σ++[.arr 5 n fun i=>kP.enc (g i)]/\X=[]):=by
 refine CS.VD true func76 fun hwf=> ?_;simp[go_sem,-Bool.forall_bool];try intro b1 hb1
 refine fZ ?_ ?_<;>intro c0 d0
 ·simp[go_sem];refine dG 2 5 (fun i=>kP.enc (g i)) (by simp[go_sem]) (by simp[go_sem];rfl) ?_;refine aj ?_;obtain rfl:=hb1 c0;simp[go_sem]
 ·simp[go_sem];repeat refine⟨by omega,?_⟩
  exact aj so
theorem ZP(c:Option Nat)(n:Nat)(g:Nat->kP)(f:FuncId)(cap:List AV)(p:kP->Bool)(hn:n<1000000000)(hf: ∀i,i<n->aA prog f (.agg ((g i).enc.map .d)::cap) σ (.d (B (p (g i))))):aA prog 286 [.d (SL c 5 kP.enc n g),.clo (.func f) [] cap] σ (.d (I (idxFrom p (lst n g) 0))):=by
 refine aA.bs true func286 fun hwf=> ?_;refine kQ (α:=Nat) true [0,1,7,8] (fun i=>[(8,.d (I i))]) (fun i=>_) (fun i=>i<=n/\idxFrom p (lst n g) 0=idxFrom p ((lst n g).drop i) i) (fun i=>n-i) 0 ?_;rintro i ⟨hi,hx⟩;simp[go_sem];refine aJ [0,1,7,8] ?_ ?_<;>intro c0 d0
 ·rw[gX d0,idxFrom] at hx;simp[go_sem];repeat refine⟨by omega,?_⟩
  refine aO.mk (hf i d0) (sm ?_);refine aJ [0,1,5,7,8] ?_ ?_<;>intro c1 d1
  ·simp[go_sem];refine aj ?_;simp[go_sem,hx,c1]<;>omega
  ·simp(disch:=first|omega|simp) [go_sem,aH];refine gB (i+1) ⟨by omega,by rw[hx,c1];simp⟩ (h:=by simp[go_sem]<;>omega)
 ·rw[gY d0,idxFrom] at hx;simp[go_sem];refine go true (sm ?_);refine aj ?_;simp[go_sem,hx]<;>omega
theorem OL(c:Option Nat)(n:Nat)(g:Nat->iq)(k:Int)(b d:eF)(hn:n<1000000000)(hN: ∀i,i<n->(g i).Name.size<4294967281)(hσ:σ[1]? =some (.loc 1)):aA prog 239 [.d (SL c 6 iq.enc n g),.d (I k),.agg (b.enc.map .d),.agg (d.enc.map .d)] σ (.eU [.d (SL none 6 iq.enc (jP n g k b d).1.1 (jP n g k b d).1.2),.d (I (jP n g k b d).2)]):=by
 have hlt:=aam n g k;refine aA.bs true func239 fun hwf=> ?_;refine aO.mk (mQ _ c n g hn hN (aC hσ)) (sm ?_);refine fM.mk (eX _ b) (sm ?_);refine fM.mk (eX _ d) (sm ?_);refine aJ [0,1,6,7] ?_ ?_<;>intro c0 d0
 ·have hz:jP n g k b d=((0,g),1):=by unfold jP;rw[if_pos (by simpa[or_assoc] using d0)]
  simp[go_sem];rw[hz];exact aj sc
 ·have hd0: ¬(jy n g≠0\/kH b≠0\/kH d≠0):=by simpa[or_assoc,and_assoc] using d0
  simp[go_sem];refine aO.mk (zX _ c n g k hn) (sm ?_);refine aJ [0,6,7,10] ?_ ?_<;>intro c1 d1
  ·have hz:jP n g k b d=((0,g),7):=by unfold jP;rw[if_neg hd0,if_pos d1]
   simp[go_sem];rw[hz];exact aj sc
  ·simp[go_sem];apply bW 12 10 11 T.mixed (by kernel_rfl)
   ·intro τ K hK;simp[go_sem];repeat refine⟨by omega,?_⟩
    refine dF.mk (Ii _ (g (pq n g k).toNat) b d (hN _ (by omega)) (aC hσ)) (sm ?_);exact hK _ _
   intro K hK;simp[go_sem];refine hK _ ?_;refine go true (sm ?_);refine aJ [0,10,11] ?_ ?_<;>intro c2 d2
   ·have hz:jP n g k b d=((0,g),10):=by unfold jP;rw[if_neg hd0,if_neg (by omega),if_pos d2]
    simp[go_sem];rw[hz];exact aj sc
   ·have hz:jP n g k b d=((n,fun q=>if q=(pq n g k).toNat then(sD (g (pq n g k).toNat) b d).1 else g q),0):=by unfold jP;rw[if_neg hd0,if_neg (by omega),if_neg (by simp[d2])]
    simp[go_sem];refine aO.gen (JE _ c n g hn) ?_;rintro r σ' X ⟨rfl,rfl,rfl⟩;simp[go_sem];refine T.dr 6 fun K hK=>sm ?_;repeat refine⟨by omega,?_⟩
    refine hK _ ?_;refine go true (sm ?_);refine aJ [10,11,13] ?_ ?_<;>intro c3 d3
    ·simp[go_sem];repeat refine⟨by omega,?_⟩
     refine aF hwf (σ.length+3) ?_;refine aj ?_;rw[hz];simp[go_sem];intro i hi;split<;>simp_all
    ·simp[go_sem];refine aF hwf (σ.length+3) ?_;refine aj ?_;rw[hz];simp[go_sem];intro i hi;split<;>simp_all
def kP.zero:kP:=⟨0,⟨0,0⟩,0,0,fun _=>0⟩
structure oC where
 ns:Nat
 gs:Nat->kP
 nc:Nat
 gc:Nat->Rule
 np:Nat
 gp:Nat->iq
 jI:Int
 na:Nat
 ga:Nat->jW
 nm:Nat
 gm:Nat->jG
def oC.enc(p:oC):List D:=[SL none 5 kP.enc p.ns p.gs,SL none 6 Rule.enc p.nc p.gc,SL none 6 iq.enc p.np p.gp,I p.jI,SL none 6 jW.enc p.na p.ga,SL none 6 jG.enc p.nm p.gm]
attribute [go_sem] oC.enc
structure kF(p:oC):Prop where
 ns:p.ns<=1000
 nc:p.nc<=1000
 np:p.np<=1000
 na:p.na<=1000
 nm:p.nm<=1000
 ps: ∀i,i<p.ns->(p.gs i).np<=1000
 nn: ∀i,i<p.np->(p.gp i).Name.size<4294967281
def Nu(n:Nat)(g:Nat->kP)(u:Int):Int:=idxFrom (fun r=>r.Unit==u) (lst n g) 0
theorem aal(n:Nat)(g:Nat->kP)(u:Int):Nu n g u<n:=mX _ n g
def iH(p:oC)(u:Int):kP×Bool:=if Nu p.ns p.gs u<0 then(kP.zero,false) else(p.gs (Nu p.ns p.gs u).toNat,true)
theorem subj_np{p:oC}(h:kF p)(u:Int):(iH p u).1.np<=1000:=by
 unfold iH;have:=aal p.ns p.gs u;split
 ·simp[kP.zero]
 ·exact h.ps _ (by omega)
def I4(n:Nat)(g:Nat->iq)(u:Int):Bool:=(lst n g).any fun r=>r.ID==u
def YI(p:oC)(s:kP):Int:=aQ (fun q=>if I4 p.np p.gp (s.ps q)=false then 7 else 0) 0 s.np
def Hl(p:oC)(i:Nat):Int:=if IY (p.gs i).Unit=false\/(p.gs i).Class<0\/999<(p.gs i).Class then 2 else if kH (p.gs i).Made≠0 then 1
 else if(0<i/\(p.gs i).Unit<=(p.gs (i-1)).Unit)\/qO (p.gs i).ps (p.gs i).np=false then 5 else YI p (p.gs i)
def oK(p:oC):Int:=if 256<p.ns then 8 else aQ (Hl p) 0 p.ns
def OI(p:oC)(i:Nat):Int:=if i=0 then check p.nc p.gc else if i=1 then jy p.np p.gp else if i=2 then lC p.na p.ga else kT p.nm p.gm
def eP(p:oC):Int:=if aQ (OI p) 0 4≠0 then aQ (OI p) 0 4 else if p.jI<0\/200<p.jI then 2 else oK p
theorem Ez(τ:List aG)(r:kP)(u:Int):aA prog 287 [.agg (r.enc.map .d),.ptr σ.length 0] (σ++ .var [.d (I u)]::τ) (.d (B (r.Unit==u))):=by
 refine aA.bs true func287 fun hwf=> ?_;exact aj so
theorem vW(p:oC)(u:Int)(hp:kF p):aA prog 195 [.agg (p.enc.map .d),.d (I u)] σ (.eU [.agg ((iH p u).1.enc.map .d),.d (B (iH p u).2)]):=by
 have hlt:=aal p.ns p.gs u;unfold Nu at hlt;refine aA.bs true func195 fun hwf=> ?_;refine aO.mk (ZP _ none p.ns p.gs _ _ (fun r=>r.Unit==u) (by have:=hp.ns;omega) (fun i hi=>by have h:=nP (Ez (σ++[.var (p.enc.map .d)]) [.var [.d (I 0),.d (I 0),.d (I 0),.d (I 0),.d (.v (.slice none 0 0))]] (p.gs i) u);exact h)) ?_;simp[go_sem];refine aJ [2,4,6] ?_ ?_<;>intro c0 d0
 ·have hz:iH p u=(kP.zero,false):=by unfold iH Nu;rw[if_pos d0]
  simp[go_sem];refine aj ?_;rw[hz];simp[go_sem,kP.zero]
 ·have hz:iH p u=(p.gs (Nu p.ns p.gs u).toNat,true):=by unfold iH Nu;rw[if_neg (by omega)]
  unfold Nu at hz;simp[go_sem];repeat refine⟨by omega,?_⟩
  rw[hz];exact aj sc
theorem BU(τ:List aG)(r:iq)(u:Int):aA prog 193 [.agg (r.enc.map .d),.ptr σ.length 0] (σ++ .var [.d (I u)]::τ) (.d (B (r.ID==u))):=by
 refine aA.bs true func193 fun hwf=> ?_;exact aj so
theorem FX(p:oC)(hp:kF p):aA prog 128 [.agg (p.enc.map .d)] σ (.d (I (oK p))):=by
 refine aA.bs true func128 fun hwf=> ?_;refine aJ [1] ?_ ?_<;>intro c0 d0
 ·simp[go_sem];refine aj ?_;simp[go_sem,oK]<;>omega
 ·simp[go_sem];refine kQ (α:=Nat) true [1,12,13,14] (fun i=>[(14,.d (I i))]) (fun i=>σ++[.var (p.enc.map .d)]) (fun i=>i<=p.ns/\aQ (Hl p) 0 p.ns=aQ (Hl p) i (p.ns-i)) (fun i=>p.ns-i) 0 ?_;rintro i ⟨hi,hx⟩;simp[go_sem];refine aJ [1,12,13,14] ?_ ?_<;>intro c1 d1
  ·obtain⟨k,hk⟩: ∃k,p.ns-i=k+1:=⟨p.ns-i-1,by omega⟩;have hk':p.ns-(i+1)=k:=by omega
   rw[hk,aQ] at hx;simp[go_sem];repeat refine⟨by omega,?_⟩
   refine aO.mk (yQ _ (p.gs i).Unit) ?_;simp[go_sem];refine aJ [1,3,4,12,13,14] ?_ ?_<;>intro c2 d2
   ·have he:Hl p i=2:=by unfold Hl;rw[if_pos (by simpa[or_assoc] using d2)]
    rw[he] at hx;simp at hx;simp[go_sem];refine aj ?_;simp[go_sem,oK,hx]<;>omega
   ·have hd2: ¬(IY (p.gs i).Unit=false\/(p.gs i).Class<0\/999<(p.gs i).Class):=by
     rintro(h|h|h)
     ·have:=d2.1.1;rw[h] at this;cases this
     ·omega
     ·omega
    simp[go_sem];refine aO.mk (eX _ (p.gs i).Made) ?_;simp[go_sem];refine aJ [1,3,4,12,13,14] ?_ ?_<;>intro c3 d3
    ·have he:Hl p i=1:=by unfold Hl;rw[if_neg hd2,if_pos d3]
     rw[he] at hx;simp at hx;simp[go_sem];refine aj ?_;simp[go_sem,oK,hx]<;>omega
    ·simp[go_sem];refine T.dr 21 fun K hK=> ?_;simp[go_sem,dn (i:=i) (by have:=hp.ns;omega)];repeat refine⟨by omega,?_⟩
     refine dF.mk (FY _ none (p.gs i).np (p.gs i).ps (by have:=hp.ps i d1;omega)) ?_;simp[go_sem];refine hK _ ?_;refine go true ?_;simp[go_sem];refine aJ [1,4,12,13,14] ?_ ?_<;>intro c4 d4
     ·have he:Hl p i=5:=by unfold Hl;rw[if_neg hd2,if_neg (by simp[d3]),if_pos d4]
      rw[he] at hx;simp at hx;simp[go_sem];refine aj ?_;simp[go_sem,oK,hx]<;>omega
     ·have he:Hl p i=YI p (p.gs i):=by
       unfold Hl;rw[if_neg hd2,if_neg (by simp[d3]),if_neg];rintro(h|h)
       ·have:=d4.1 h.1;omega
       ·have:=d4.2;rw[h] at this;cases this
      simp[go_sem];refine kQ (α:=Nat) true [1,12,13,14,61,62,63] (fun q=>[(63,.d (I q))]) (fun q=>σ++[.var (p.enc.map .d),.var ((p.gs i).enc.map .d)]) (fun q=>q<=(p.gs i).np/\YI p (p.gs i)=aQ (fun q=>if I4 p.np p.gp ((p.gs i).ps q)=false then 7 else 0) q ((p.gs i).np-q)) (fun q=>(p.gs i).np-q) 0 ?_ (hx:=⟨by omega,rfl⟩);rintro q ⟨hq,hy⟩;simp[go_sem];refine aJ [1,12,13,14,61,62,63] ?_ ?_<;>intro c5 d5
      ·obtain⟨j,hj⟩: ∃j,(p.gs i).np-q=j+1:=⟨(p.gs i).np-q-1,by omega⟩;have hj':(p.gs i).np-(q+1)=j:=by omega
       rw[hj,aQ] at hy;simp[go_sem];repeat refine⟨by omega,?_⟩
       refine aO.mk (SB _ none p.np p.gp _ _ (fun r=>r.ID==(p.gs i).ps q) (by have:=hp.np;omega) (fun k hk=>by have h:=nP (BU (σ++[.var (p.enc.map .d),.var ((p.gs i).enc.map .d)]) [] (p.gp k) ((p.gs i).ps q));exact h)) ?_;simp[go_sem];refine aJ [1,12,13,14,61,62,63] ?_ ?_<;>intro c6 d6
       ·have hh:I4 p.np p.gp ((p.gs i).ps q)=false:=by unfold I4;simpa using c6
        simp only[hh,if_true] at hy;rw[he,hy] at hx;simp at hx;simp[go_sem];refine aj ?_;simp[go_sem,oK,hx]<;>omega
       ·have hh:I4 p.np p.gp ((p.gs i).ps q)=true:=by unfold I4;simpa using c6
        simp only[hh,Bool.true_eq_false,if_false] at hy;simp at hy;simp(disch:=first|omega|simp) [go_sem];refine gB (q+1) ⟨by omega,by rw[hy,hj']⟩ (h:=by simp[go_sem,wS q (by have:=hp.ps i d1;omega)]<;>omega) (hσ:=by simp[go_sem])
      ·obtain rfl:q=(p.gs i).np:=by omega
       rw[Nat.sub_self,aQ] at hy;rw[he,hy] at hx;simp at hx;simp[go_sem];refine go true ?_;simp(disch:=first|omega|simp) [go_sem,aH];refine gB (i+1) ⟨by omega,by rw[hx,hk']⟩ (h:=by simp[go_sem]<;>omega) (hσ:=by simp[go_sem])
  ·have hin:i=p.ns:=by omega
   rw[hin,Nat.sub_self,aQ] at hx;simp[go_sem];refine go true ?_;simp[go_sem];refine aj ?_;simp[go_sem,oK,hx]<;>omega
theorem mP(p:oC)(hp:kF p)(hσ:σ[1]? =some (.loc 1)):aA prog 97 [.agg (p.enc.map .d)] σ (.d (I (eP p))):=by
 refine aA.bs true func97 fun hwf=> ?_;refine T.dr 15 fun K hK=>sm ?_;refine dF.mk (lJ _ none p.nc p.gc (by have:=hp.nc;omega)) ?_;simp[go_sem];refine dF.mk (mQ _ none p.np p.gp (by have:=hp.np;omega) hp.nn (aC hσ)) ?_;simp[go_sem];refine dF.mk (jV _ none p.na p.ga (by have:=hp.na;omega)) ?_;simp[go_sem];refine dF.mk (mV _ none p.nm p.gm (by have:=hp.nm;omega)) ?_;simp[go_sem];refine hK _ ?_;refine go true (sm ?_);refine kQ (α:=Nat) true [1,17,18,19] (fun i=>[(19,.d (I i))]) (fun i=>_) (fun i=>i<=4/\aQ (OI p) 0 4=aQ (OI p) i (4-i)) (fun i=>4-i) 0 ?_;rintro i ⟨hi,hx⟩;simp[go_sem];refine aJ [1,17,18,19] ?_ ?_<;>intro c0 d0
 ·obtain⟨k,hk⟩: ∃k,4-i=k+1:=⟨4-i-1,by omega⟩;have hk':4-(i+1)=k:=by omega
  have hs:aQ (OI p) i (k+1)=if OI p i≠0 then OI p i else aQ (OI p) (i+1) k:=rfl
  rw[hk,hs] at hx;have hrow:rowsOf 1 [I (check p.nc p.gc),I (jy p.np p.gp),I (lC p.na p.ga),I (kT p.nm p.gm)] i=[I (OI p i)]:=by
   have hi4:i=0\/i=1\/i=2\/i=3:=by omega
   rcases hi4 with rfl|rfl|rfl|rfl<;>rfl
  simp[go_sem,hrow];repeat refine⟨by omega,?_⟩
  refine aJ [1,4,17,18,19] ?_ ?_<;>intro c1 d1
  ·rw[if_pos d1] at hx;have hz:eP p=OI p i:=by unfold eP;rw[if_pos (by rw[hx];exact d1),hx]
   simp[go_sem];rw[hz];exact aj sc
  ·rw[if_neg (by simp[d1])] at hx;simp(disch:=first|omega|simp) [go_sem,aH];refine gB (i+1) ⟨by omega,by rw[hx,hk']⟩ (h:=by simp[go_sem]<;>omega)
 ·obtain rfl:i=4:=by omega
  have hx:aQ (OI p) 0 4=0:=hx;simp[go_sem];refine go true (sm ?_);refine aJ [1] ?_ ?_<;>intro c2 d2
  ·have hz:eP p=2:=by unfold eP;rw[if_neg (by simp[hx]),if_pos d2]
   simp[go_sem];rw[hz];exact aj sc
  ·have hz:eP p=oK p:=by unfold eP;rw[if_neg (by simp[hx]),if_neg (by omega)]
   simp[go_sem];refine aO.mk (FX _ p hp) (sm ?_);rw[hz];exact aj sc
end Go.Proofs.YtmahphgjkpgidaaGreatDoor
