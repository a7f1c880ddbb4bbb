/- Lemmas, no conditions. -/
import Derived.Test.YthpplckmbbachaaGreatDoorKB14
import Derived.Test.YthpplckmbbachaaGreatDoorKB16
set_option linter.unusedVariables false
set_option linter.unusedSimpArgs false
set_option maxHeartbeats 400000
set_option maxRecDepth 100000
namespace Go.Proofs.YthpplckmbbachaaGreatDoor
open Go.aI Go.bI Go.Shelf Go.RowKit Go.Lib Go.Proofs Go.Proofs.Tryz
variable (σ : List aZ)
abbrev Sb(s:ByteArray):D:= .v (.string s)
theorem DI(hσ:σ[1]? =some (.loc 1))(s t)(hs:s.size<4294967281):ak prog 404 [.d (Sb s),.d (Sb t)] σ (.d (B (Lib.contains s.data.toList t.data.toList))):=by
 refine ak.xH T.afI #[.string s,.string t] (fun w j vs hr=>DY hr (fun _ h=>iu h) (fun _ h=>iu h)) (fun w j hS=> ?_);obtain⟨m,hm⟩:=Xt hS hσ;exact(Any.strings_Contains Ly s t m w hs hm).mono fun e w' ⟨he,hw⟩=>⟨he,by grind [Below.refl]⟩
set_option maxHeartbeats 1000000 in
theorem GO(W x)(hx:x<=1114111):FnGives prog 403 #[] #[encR x] (.bool (xF x)) W:=by
 unfold FnGives encR xF;go_enter func403,ntmps403
 go_wp2
 all_goals(go_ret;refine⟨congrArg Ending.returned (congrArg Value.bool (?_:_=_)),0,rfl⟩;grind)
theorem FA(s):ak prog 405 [.d (Sb s),.clo (.func 403) [] []] σ (.d (B (decide (0<=Lib.idxFunc xF true s)))):=by
 refine ak.xH T.afH #[.string s,.func (.func 403) #[] #[]] (fun w j vs hr=>DY hr (fun _ h=>iu h) (fun _ h=>Q3 h)) (fun w j hS=> ?_);exact Any.strings_ContainsFunc_runes BP 403 #[] (fun args w=>mn T.afJ args w) xF s w fun W x hx _=>GO W x hx
end Go.Proofs.YthpplckmbbachaaGreatDoor
namespace Go.Proofs.YthpplckmbbachaaGreatDoor
open Go.aI Go.bI Go.Proofs.Tryz
variable (σ : List aZ)
structure dF where
 ID:Int
 Name:ByteArray
 jv:dV
 jr:dV
instance:Inhabited dF:=⟨⟨0,ByteArray.empty,⟨0,0⟩,⟨0,0⟩⟩⟩
def dF.enc(p:dF):List D:=[I p.ID,Sb p.Name,I p.jv.First,I p.jv.Last,I p.jr.First,I p.jr.Last]
attribute [go_sem] dF.enc
def fk(p:dF):Int:=if p.ID<1\/1073741824<p.ID then 2 else if jP p.Name=false then 4 else if cy p.jv≠0\/cy p.jr≠0 then 1 else if p.jr.Last<p.jv.First then 10 else 0
def oh(g:Nat->dF)(i:Nat):Int:=if fk (g i)≠0 then fk (g i) else if 0<i/\(g i).ID<=(g (i-1)).ID then 5 else 0
def cL(n:Nat)(g:Nat->dF):Int:=if 64<n then 8 else aA (oh g) 0 n
def ee(n:Nat)(g:Nat->dF)(u:Int):Int:=idxFrom (fun r=>r.ID==u) (lst n g) 0
def vj(n:Nat)(g:Nat->dF):Bool:=((lst n g).all fun p=>decide (p.Name.size<=200))&&decide (n<=20)
theorem qj(n g):vj n g=true↔(∀i,i<n->(g i).Name.size<=200)/\n<=20:=by
 grind [vj,lst]
theorem T0{n g i}(hi:i<n)(h:200<(g i).Name.size):vj n g=false:=by
 grind [qj]
theorem PW{n g}(h: ∀i,i<n->(g i).Name.size<=200):vj n g=decide ((n:Int)<=20):=by
 grind [qj]
theorem MN(s):jP s=(decide ((1:Int)<=s.size)&&decide ((s.size:Int)<=64)&&((s[0]?.getD 0).toNat:Int) !=32&&((s[s.size-1]?.getD 0).toNat:Int) !=32&& !Lib.contains s.data.toList [32,32]&& !decide (0<=Lib.idxFunc xF true s)):=by
 have e1:decide ((1:Int)<=s.size)=decide (1<=s.size):=ai;have e2:decide ((s.size:Int)<=64)=decide (s.size<=64):=ai;have e3: ∀n:Nat,((n:Int) !=32)= !decide (n=32):=fun n=>by grind
 rw[P3,e1,e2,e3,e3];rfl
theorem EH(s i):nameAt s i=true↔32<=bt s i/\bt s i<=126/\¬(0<i/\bt s i=32/\bt s (i-1)=32):=by
 grind [nameAt]
theorem Xo{s i}(hi:i<s.size)(h:nameAt s i=false):jP s=false:=by
 grind [zx]
theorem zp(s)(hs:s.size<4294967281)(hσ:σ[1]? =some (.loc 1)):ak prog 348 [.d (Sb s)] σ (.d (B (jP s))):=by
 refine ak.bd true func348 fun hwf=> ?_;refine wC ?_;repeat refine⟨aa,?_⟩
 refine cE.mk (DI _ hσ s _ hs) ?_;refine wI ?_;refine cE.mk (FA _ s) ?_;refine wI ?_;rw[MN];exact af sc
theorem mi(p)(hs:p.Name.size<4294967281)(hσ:σ[1]? =some (.loc 1)):ak prog 262 [.agg (p.enc.map .d)] σ (.d (I (fk p))):=by
 refine ak.bt func262 ?_;refine dH [1] ?_ ?_<;>intro d0
 ·refine wA ?_;simp[go_sem,fk,d0]<;>omega
 ·simp[go_sem];refine az.mk (zp _ _ ai ai) (gc [1] ?_ ?_)<;>intro d1
  ·refine wA ?_;simp[go_sem,fk,d0,d1]<;>omega
  ·simp[go_sem];refine az.mk (cZ _ p.jv) (sm ?_);refine cE.mk (cZ _ p.jr) (gc [1] ?_ ?_)<;>intro d2
   ·refine wA ?_;simp[go_sem,fk,d0,d1,d2]<;>omega
   ·refine gc [] ?_ ?_<;>intro d3
    ·refine wA ?_;simp[go_sem,fk,d0,d1,d2,d3]<;>omega
    ·refine wA ?_;simp[go_sem,fk,d1,d2]<;>omega
theorem A0(c n g f cap p)(hn:n<1000000000)(hf: ∀i,i<n->ak prog f (.agg ((g i).enc.map .d)::cap) σ (.d (B (p (g i))))):ak prog 350 [.d (SL c 6 dF.enc n g),.clo (.func f) [] cap] σ (.d (I (idxFrom p (lst n g) 0))):=by
 refine ak.bt func350 ?_;refine dm (α:=Nat) true [0,1,7,8] (fun i=>[(8,.d (I i))]) (fun i=>_) (fun i=>i<=n/\idxFrom p (lst n g) 0=idxFrom p ((lst n g).drop i) i) (fun i=>n-i) 0 ?_;rintro i ⟨hi,hx⟩;refine gc [0,1,7,8] ?_ ?_<;>intro d0
 ·rw[bU d0,idxFrom] at hx;refine wB ?_;refine az.mk (hf i d0) (sm ?_);refine km [0,1,5,7,8] ?_ ?_<;>intro c1 d1
  ·refine wA ?_;simp[go_sem,hx,c1]<;>omega
  ·refine wC ?_;refine bF (i+1) ⟨aa,ai⟩ (h:=aR)
 ·rw[bV d0,idxFrom] at hx;refine wN ?_;simp[go_sem,hx]<;>omega
theorem Fz(c n g f cap p)(hn:n<1000000000)(hf: ∀i,i<n->ak prog f (.agg ((g i).enc.map .d)::cap) σ (.d (B (p (g i))))):ak prog 267 [.d (SL c 6 dF.enc n g),.clo (.func f) [] cap] σ (.d (B ((lst n g).any p))):=by
 refine ak.bt func267 ?_;refine az.mk (A0 _ c n g f cap p hn hf) (sm ?_);refine af ?_;simp[go_sem,gE]<;>omega
theorem acy(c n g)(hn:n<1000000000):ak prog 108 [.d (SL c 6 dF.enc n g)] σ (.d (SL none 6 dF.enc n g)):=by
 refine ak.bd true func108 fun hwf=> ?_;simp[go_sem,-Bool.forall_bool];try intro b1 hb1
 refine fX ?_ ?_<;>intro c0 d0
 ·refine wA ?_;have:=hb1 c0;simp[go_sem,this]
 ·refine wB ?_;refine bg (σ.length) bj aN eS ?_;exact af so
theorem yl(c n g)(hn:n<1000000000):CS prog 108 [.d (SL c 6 dF.enc n g)] σ (fun r σ' X=>r= .ms σ.length 6 0 n/\σ'=σ++[.arr 6 n fun i=>dF.enc (g i)]/\X=[]):=by
 refine CS.Ik true func108 fun hwf=> ?_;simp[go_sem,-Bool.forall_bool];try intro b1 hb1
 refine fX ?_ ?_<;>intro c0 d0
 ·simp[go_sem];refine bq 2 6 (fun i=>dF.enc (g i)) au aN ?_;refine af ?_;obtain rfl:=hb1 c0;simp[go_sem]
 ·refine wB ?_;exact af so
theorem xA(τ)(r:dF)(u):ak prog 417 [.agg (r.enc.map .d),.ptr σ.length 0] (σ++ .var [.d (I u)]::τ) (.d (B (r.ID==u))):=by
 refine ak.bt func417 ?_;exact af so
theorem rf(c n g u)(hn:n<1000000000):ak prog 365 [.d (SL c 6 dF.enc n g),.d (I u)] σ (.d (I (ee n g u))):=by
 refine ak.bt func365 ?_;refine az.mk (A0 _ c n g _ _ (fun r=>r.ID==u) hn (fun i hi=>xA σ [] (g i) u)) (sm ?_);refine af ?_;simp[go_sem,ee]<;>omega
theorem iO(c n g)(hn:n<1000000000)(hN: ∀i,i<n->(g i).Name.size<4294967281)(hσ:σ[1]? =some (.loc 1)):ak prog 184 [.d (SL c 6 dF.enc n g)] σ (.d (I (cL n g))):=by
 refine ak.bt func184 ?_;refine dH [0] ?_ ?_<;>intro d0
 ·refine wA ?_;simp[go_sem,cL]<;>omega
 ·simp[go_sem];refine dm (α:=Nat) true [0,9,10,11] (fun i=>[(11,.d (I i))]) (fun i=>_) (fun i=>i<=n/\aA (oh g) 0 n=aA (oh g) i (n-i)) (fun i=>n-i) 0 ?_;rintro i ⟨hi,hx⟩;refine gc [0,9,10,11] ?_ ?_<;>intro d1
  ·obtain⟨k,hk⟩: ∃k,n-i=k+1:=⟨n-i-1,aa⟩;have hk':n-(i+1)=k:=aa;rw[hk,aA] at hx;refine wB ?_;refine az.mk (mi _ (g i) (hN i d1) (ay hσ)) ?_;refine gc [0,3,4,5,9,10,11] ?_ ?_<;>intro d2
   ·have he:oh g i=fk (g i):=by grind [oh]
    rw[he,if_pos d2] at hx;refine wA ?_;simp[go_sem,cL,hx]<;>omega
   ·simp[go_sem];refine T.dr 13 fun K hK=> ?_;simp[go_sem,aT (i:=i) aa];refine wK hK ?_;refine gc [0,9,10,11] ?_ ?_<;>intro d3
    ·have he:oh g i=5:=by grind [oh]
     rw[he] at hx;simp at hx;refine wA ?_;simp[go_sem,cL,hx]<;>omega
    ·have he:oh g i=0:=by grind [oh]
     rw[he] at hx;simp at hx;refine wC ?_;refine bF (i+1) ⟨aa,ai⟩ (h:=aR)
  ·obtain rfl:i=n:=by omega
   rw[Nat.sub_self,aA] at hx;refine wO ?_;simp[go_sem,cL,hx]<;>omega
def dF.zero:dF:=⟨0,⟨#[]⟩,⟨0,0⟩,⟨0,0⟩⟩
def gU(n:Nat)(g:Nat->dF)(u:Int):dF×Bool:=if cL n g≠0\/ee n g u<0 then(dF.zero,false) else(g (ee n g u).toNat,true)
theorem Fh(n g u):ee n g u<n:=iR _ n g
def sG(d:Int)(g:Nat->Int):Nat->Int
 |0=>d
 |i+1=>(cN (sG d g i) (g i)).1
def kH(p:dF)(made:dV)(y:Int):Int:=min (min (cN p.jr.Last y).1 (cN (cN p.jv.Last 110).1 y).1) (cN (cN made.Last 110).1 y).1+1
def lu(p:dF)(made:dV)(y:Int):Int×Int:=if fk p≠0\/cy made≠0 then(0,1) else if y<0\/200<y then(0,2) else(kH p made y,0)
def jS(a b:dV):dV×Bool:=if cy a≠0\/cy b≠0\/min a.Last b.Last<max a.First b.First then(⟨0,0⟩,false) else(⟨max a.First b.First,min a.Last b.Last⟩,true)
def nE(p:dF)(b d:dV):dF×Bool:=(⟨p.ID,p.Name,(jS p.jv b).1,(jS p.jr d).1⟩,(jS p.jv b).2&&(jS p.jr d).2&&decide (fk ⟨p.ID,p.Name,(jS p.jv b).1,(jS p.jr d).1⟩=0))
def cQ(n:Nat)(g:Nat->dF)(k:Int)(b d:dV):(Nat×(Nat->dF))×Int:=
 if cL n g≠0\/cy b≠0\/cy d≠0 then((0,g),1) else if ee n g k<0 then((0,g),7)
 else if(nE (g (ee n g k).toNat) b d).2=false then((0,g),10) else((n,fun q=>if q=(ee n g k).toNat then(nE (g (ee n g k).toNat) b d).1 else g q),0)
def grE(n:Nat)(g:Nat->dF)(ids:Nat->Int)(q:Nat):Int:=if ee n g (ids q)<0 then 7 else 0
def HB(k u:Int):Ground:=⟨2,k,0,u⟩
def fQ(n:Nat)(g:Nat->dF)(ids:Nat->Int)(made:dV)(y d:Int)(q:Nat):List Ground:=
 if d<kH (g (ee n g (ids q)).toNat) made y then[HB (ids q) (kH (g (ee n g (ids q)).toNat) made y)] else[]
theorem zm(n g ids made y d i):(fQ n g ids made y d i).length<=1:=by grind [fQ]
def ew(n:Nat)(g:Nat->dF)(m:Nat)(ids:Nat->Int)(made:dV)(y d:Int):List Ground×Int:=
 if cL n g≠0\/cy made≠0 then([],1) else if y<0\/200<y\/d<0\/1048575<d then([],2) else if fZ ids m=false then([],5)
 else if aA (grE n g ids) 0 m≠0 then([],7) else(gather (fQ n g ids made y d) m,0)
theorem zD{e} : ∀{k i q},i<=q->q<i+k->e q≠0->aA e i k≠0
 |0,i,q,h1,h2,_=>by omega
 |k+1,i,q,h1,h2,h3=>by
  rw[aA];by_cases he:e i=0
  ·rw[if_neg ai];have:q≠i:=fun h=>h3 (h▸he);exact zD aa aa h3
  grind
theorem ac2{n g}(h0:cL n g=0):n<=64/\∀i,i<n->fk (g i)=0:=by
 unfold cL at h0;split at h0
 ·omega
 ·refine⟨aa,fun i hi=> ?_⟩;have:=dc h0 i aa aa;grind [oh]
theorem mh(d c n g)(hn:n<1000000000):ak prog 531 [.d (I d),.d (SL c 1 encI n g)] σ (.d (I (sG d g n))):=by
 refine ak.bt func531 ?_;refine mA (α:=Nat) true [0,7,8,9] (fun i=>[(0,.d (I (sG d g i))),(9,.d (I i))]) (fun i=>_) (fun i=>i<=n) (fun i=>n-i) 0 (by simp[go_sem,sG]) (rfl) an ?_;rintro i hi;refine gc [0,7,8,9] ?_ ?_<;>intro d0
 ·refine wI ?_;repeat refine⟨aa,?_⟩
  refine az.mk (x8 _ _ _) ?_;refine wC ?_;refine bF (i+1) aa (h:=by simp[go_sem,sG]<;>omega)
 ·obtain rfl:i=n:=by omega
  refine wO ?_;simp[go_sem]<;>omega
theorem Cn(p made y):ak prog 522 [.agg (p.enc.map .d),.agg (made.enc.map .d),.d (I y)] σ (.d (I (kH p made y))):=by
 have hb:=kF p.jr.Last y;unfold cv at hb;have hb1:=kF (cN p.jv.Last 110).1 y;unfold cv at hb1;have hb2:=kF (cN made.Last 110).1 y;unfold cv at hb2;refine ak.bd true func522 fun hwf=> ?_;simp[go_sem];refine T.dr 19 fun K hK=> ?_;simp[go_sem];refine bK.mk ((mh _ p.jr.Last none 1 (fun _=>y) aa).sub (by simp[go_sem,mY,my,aK,rowsOf])) ?_;simp[go_sem,sG];refine bK.mk ((mh _ p.jv.Last none 2 (fun i=>if i=0 then 110 else y) aa).sub abF) ?_;simp[go_sem,sG];refine bK.mk ((mh _ made.Last none 2 (fun i=>if i=0 then 110 else y) aa).sub abF) ?_;simp[go_sem,sG];try simp(disch:=omega) only[aS]
 refine hK _ ?_;refine wJ ?_;simp[go_sem,kH]<;>omega
theorem Fv(a b):ak prog 450 [.agg (a.enc.map .d),.agg (b.enc.map .d)] σ (.d (B (decide (cy a=0)&&decide (cy b=0)))):=by
 refine ak.bt func450 ?_;refine az.mk (cZ _ _) (sm ?_);refine cE.mk (cZ _ _) (sm ?_);refine af (sm ?_);rfl
theorem sP(a b):ak prog 418 [.agg (a.enc.map .d),.agg (b.enc.map .d)] σ (.cj [.agg ((jS a b).1.enc.map .d),.d (B (jS a b).2)]):=by
 refine ak.bt func418 ?_;refine az.mk (Fv _ a b) (gc [4,6] ?_ ?_)<;>intro d0
 ·have hz:jS a b=(⟨0,0⟩,false):=by grind [jS]
  exact sx hz
 ·have hz:jS a b=(⟨max a.First b.First,min a.Last b.Last⟩,true):=by grind [jS]
  exact sx hz
theorem xz(p b d)(hs:p.Name.size<4294967281)(hσ:σ[1]? =some (.loc 1)):ak prog 366 [.agg (p.enc.map .d),.agg (b.enc.map .d),.agg (d.enc.map .d)] σ (.cj [.agg ((nE p b d).1.enc.map .d),.d (B (nE p b d).2)]):=by
 refine ak.be func366 fun hwf=> ?_;refine we ?_;refine aj fun K hK=>sm ?_;refine az.mk (sP _ p.jv b) (sm ?_);refine hK _ ?_;refine aj fun K hK=>sm ?_;refine az.mk (sP _ p.jr d) (sm ?_);refine hK _ ?_;apply qP 11 10 T.mixed aD
 ·intro K hK;simp[go_sem];refine bK.mk (mi _ ⟨p.ID,p.Name,(jS p.jv b).1,(jS p.jr d).1⟩ hs (ay hσ)) (sm ?_);exact hK _ _
 ·simp[go_sem];rfl
 ·intro K hK;simp[go_sem];refine bK.mk (mi _ ⟨p.ID,p.Name,(jS p.jv b).1,(jS p.jr d).1⟩ hs (ay hσ)) (sm ?_);grind
 intro K hK;refine wD hK ?_;refine af ?_;simp[go_sem,nE];rfl
theorem xB(c n g c' m ids made y d)(hn:n<1000000000)(hm:m<1000000000)(hN: ∀i,i<n->(g i).Name.size<4294967281)(hσ:σ[1]? =some (.loc 1)):ak prog 503 [.d (SL c 6 dF.enc n g),.d (SL c' 1 encI m ids),.agg (made.enc.map .d),.d (I y),.d (I d)] σ (.cj [.d (SL none 4 Ground.enc (ew n g m ids made y d).1.length (nth (ew n g m ids made y d).1)),.d (I (ew n g m ids made y d).2)]):=by
 refine ak.bs true func503 fun hwf=> ?_;refine az.mk (iO _ c n g hn hN (ay hσ)) (sm ?_);refine cE.mk (cZ _ made) (gc [0,1,3,4,7] ?_ ?_)<;>intro d0
 ·have hz:ew n g m ids made y d=([],1):=by grind [ew]
  exact sx hz
 ·refine gc [0,1,3,4,7] ?_ ?_<;>intro d1
  ·have hz:ew n g m ids made y d=([],2):=by grind [ew]
   exact sx hz
  ·simp[go_sem];refine dm (α:=Nat) false [0,1,3,4,7,43,44] (fun i=>[(44,.d (I i))]) (fun i=>_) (fun i=>i<=m/\∀q,0<q->q<i->ids (q-1)<ids q) (fun i=>m-i) 0 ?_;rintro i ⟨hi,hx⟩;refine wH ?_;refine gc [0,1,3,4,7,43,44] ?_ ?_<;>intro d2
   ·refine wL ?_;refine T.dr 14 fun K hK=> ?_;simp[go_sem,aT (i:=i) aa];refine wK hK ?_;refine gc [0,1,3,4,7,43,44] ?_ ?_<;>intro d3
    ·have hz:ew n g m ids made y d=([],5):=by grind [ew,zV]
     exact sx hz
    ·refine wC ?_;refine bF (i+1) ⟨aa,pV hx d3⟩ (h:=aR)
   ·have him:i=m:=aa;rw[him] at hx;have ha:=tJ hx;refine wX ?_;refine bq 13 4 (fun i=>Ground.enc (nth ([]:List Ground) i)) au aN ?_;refine wa ?_;refine JQ (α:=Nat) true [0,3,4,7,13,62,63,64] [σ.length+1] (fun q=>[(13,.ms (σ.length+1) 4 0 (gather (fQ n g ids made y d) q).length),(64,.d (I q))]) (fun q=>σ++[.var [.d (I made.First),.d (I made.Last)],.arr 4 (gather (fQ n g ids made y d) q).length (fun k=>Ground.enc (nth (gather (fQ n g ids made y d) q) k))]) (fun q=>q<=m/\∀k,k<q->0<=ee n g (ids k)) (fun q=>m-q) 0 Dk (rfl) an an ?_;rintro q ⟨hq,hf⟩;refine gc [0,3,4,7,13,62,63,64] ?_ ?_<;>intro d4
    ·have hl:=fF (zm n g ids made y d) q;have hlt:=Fh n g (ids q);refine wB ?_;refine az.mk (rf _ c n g (ids q) hn) ?_;refine gc [0,3,4,7,13,15,16,62,63,64] ?_ ?_<;>intro d5
     ·have hz:ew n g m ids made y d=([],7):=by unfold ew;rw[if_neg ai,if_neg aa,if_neg ai,if_pos (zD (q:=q) aa aa (by grind [grE]))]
      exact sx hz
     ·simp[go_sem];refine T.dr 7 fun K hK=> ?_;refine wB ?_;refine bK.mk (Cn _ (g (ee n g (ids q)).toNat) made y) ?_;refine wd hK ?_;refine gc [0,3,4,7,13,15,17,62,63,64] ?_ ?_<;>intro d6
      ·have hg:gather (fQ n g ids made y d) (q+1)=gather (fQ n g ids made y d) q++[HB (ids q) (kH (g (ee n g (ids q)).toNat) made y)]:=by grind [gather,fQ]
       simp[go_sem,hwf.one];repeat refine⟨aa,?_⟩
       refine ax (σ.length+1) (fun k=>Ground.enc (nth (gather (fQ n g ids made y d) q++[HB (ids q) (kH (g (ee n g (ids q)).toNat) made y)]) k)) bj abG aN ?_;refine wW ?_;refine bF (q+1) ⟨aa,fun k hk=>ai⟩ (h:=by simp[go_sem,hg]<;>omega) (hσ:=aP) (hb:=ae au)
      ·have hg:gather (fQ n g ids made y d) (q+1)=gather (fQ n g ids made y d) q:=by grind [gather,fQ]
       refine wC ?_;refine bF (q+1) ⟨aa,fun k hk=>ai⟩ (h:=by simp[go_sem,hg]<;>omega) (hσ:=aP) (hb:=ae au)
    ·obtain rfl:q=m:=by omega
     have hz:ew n g q ids made y d=(gather (fQ n g ids made y d) q,0):=by grind [ew,tD,grE]
     refine wL ?_;refine aF hwf (σ.length+1) ?_;exact sy hz
open Classical in
noncomputable def qH{α:Type}(l m:List α):Bool:=decide (l=m)
theorem Ka{α}{l m:List α} :qH l m=true↔l=m:=by grind [qH]
theorem SI{α}{l m:List α} :qH l m=false↔l≠m:=by grind [Ka]
theorem oD{α n m}{f g:Nat->α}(h: ¬n=m):qH (lst n f) (lst m g)=false:=by
 grind [SI,cd]
theorem sN{α n m}{f g:Nat->α}{i}(h1:i<n)(h2:i<m)(h:f i≠g i):qH (lst n f) (lst m g)=false:=by
 rw[SI];intro he;have e1:=qv (f:=f) h1;grind [qv]
theorem Ue{α n}{f g:Nat->α}(h: ∀q,q<n->f q=g q):lst n f=lst n g:=
 List.map_congr_left fun q hq=>h q ai
theorem oC{α n m}{f g:Nat->α}(h:n=m)(hq: ∀q,q<n->f q=g q):qH (lst n f) (lst m g)=true:=by
 grind [Ka,Ue]
structure Reason where
 Gd:Ground
 Pm:Int
instance:Inhabited Reason:=⟨⟨⟨0,0,0,0⟩,0⟩⟩
def Reason.enc(r:Reason):List D:=[I r.Gd.Kind,I r.Gd.Source,I r.Gd.Unit,I r.Gd.Until,I r.Pm]
attribute [go_sem] Reason.enc
structure ej where
 Unit:Int
 Made:dV
 Class:Int
 np:Nat
 ps:Nat->Int
instance:Inhabited ej:=⟨⟨0,⟨0,0⟩,0,0,fun _=>0⟩⟩
def ej.enc(s:ej):List D:=[I s.Unit,I s.Made.First,I s.Made.Last,I s.Class,SL none 1 encI s.np s.ps]
attribute [go_sem] ej.enc
theorem acw(c n g)(hn:n<1000000000):ak prog 106 [.d (SL c 5 ej.enc n g)] σ (.d (SL none 5 ej.enc n g)):=by
 refine ak.bd true func106 fun hwf=> ?_;simp[go_sem,-Bool.forall_bool];try intro b1 hb1
 refine fX ?_ ?_<;>intro c0 d0
 ·refine wA ?_;have:=hb1 c0;simp[go_sem,this]
 ·refine wB ?_;refine bg (σ.length) bj aN eS ?_;exact af so
theorem yi(c n g)(hn:n<1000000000):CS prog 106 [.d (SL c 5 ej.enc n g)] σ (fun r σ' X=>r= .ms σ.length 5 0 n/\σ'=σ++[.arr 5 n fun i=>ej.enc (g i)]/\X=[]):=by
 refine CS.Ik true func106 fun hwf=> ?_;simp[go_sem,-Bool.forall_bool];try intro b1 hb1
 refine fX ?_ ?_<;>intro c0 d0
 ·simp[go_sem];refine bq 2 5 (fun i=>ej.enc (g i)) au aN ?_;refine af ?_;obtain rfl:=hb1 c0;simp[go_sem]
 ·refine wB ?_;exact af so
theorem NB(c n g f cap p)(hn:n<1000000000)(hf: ∀i,i<n->ak prog f (.agg ((g i).enc.map .d)::cap) σ (.d (B (p (g i))))):ak prog 516 [.d (SL c 5 ej.enc n g),.clo (.func f) [] cap] σ (.d (I (idxFrom p (lst n g) 0))):=by
 refine ak.bt func516 ?_;refine dm (α:=Nat) true [0,1,7,8] (fun i=>[(8,.d (I i))]) (fun i=>_) (fun i=>i<=n/\idxFrom p (lst n g) 0=idxFrom p ((lst n g).drop i) i) (fun i=>n-i) 0 ?_;rintro i ⟨hi,hx⟩;refine gc [0,1,7,8] ?_ ?_<;>intro d0
 ·rw[bU d0,idxFrom] at hx;refine wB ?_;refine az.mk (hf i d0) (sm ?_);refine km [0,1,5,7,8] ?_ ?_<;>intro c1 d1
  ·refine wA ?_;simp[go_sem,hx,c1]<;>omega
  ·refine wC ?_;refine bF (i+1) ⟨aa,ai⟩ (h:=aR)
 ·rw[bV d0,idxFrom] at hx;refine wN ?_;simp[go_sem,hx]<;>omega
theorem Co(c n g k b d)(hn:n<1000000000)(hN: ∀i,i<n->(g i).Name.size<4294967281)(hσ:σ[1]? =some (.loc 1)):ak prog 298 [.d (SL c 6 dF.enc n g),.d (I k),.agg (b.enc.map .d),.agg (d.enc.map .d)] σ (.cj [.d (SL none 6 dF.enc (cQ n g k b d).1.1 (cQ n g k b d).1.2),.d (I (cQ n g k b d).2)]):=by
 have hlt:=Fh n g k;refine ak.bs true func298 fun hwf=> ?_;refine az.mk (iO _ c n g hn hN (ay hσ)) (sm ?_);refine cE.mk (cZ _ b) (sm ?_);refine cE.mk (cZ _ d) (gc [0,1,6,7] ?_ ?_)<;>intro d0
 ·have hz:cQ n g k b d=((0,g),1):=by grind [cQ]
  exact sx hz
 ·have hd0: ¬(cL n g≠0\/cy b≠0\/cy d≠0):=ai;simp[go_sem];refine az.mk (rf _ c n g k hn) (gc [0,6,7,10] ?_ ?_)<;>intro d1
  ·have hz:cQ n g k b d=((0,g),7):=by grind [cQ]
   exact sx hz
  ·simp[go_sem];apply cU 12 10 11 T.mixed aD
   ·intro τ K hK;refine wB ?_;refine bK.mk (xz _ (g (ee n g k).toNat) b d (hN _ aa) (ay hσ)) (sm ?_);exact hK _ _
   intro K hK;refine wD hK ?_;refine go true (gc [0,10,11] ?_ ?_)<;>intro d2
   ·have hz:cQ n g k b d=((0,g),10):=by grind [cQ]
    exact sx hz
   ·have hz:cQ n g k b d=((n,fun q=>if q=(ee n g k).toNat then(nE (g (ee n g k).toNat) b d).1 else g q),0):=by grind [cQ]
    simp[go_sem];refine az.gen (yl _ c n g hn) ?_;rintro r σ' X ⟨rfl,rfl,rfl⟩;simp[go_sem];refine T.dr 6 fun K hK=>sm ?_;refine wG hK ?_;refine go true (gc [10,11,13] ?_ ?_)<;>intro d3
    ·refine wB ?_;refine aF hwf (σ.length+3) ?_;refine af ?_;rw[hz];simp[go_sem];grind
    ·simp[go_sem];refine aF hwf (σ.length+3) ?_;refine af ?_;rw[hz];simp[go_sem];grind
def ej.zero:ej:=⟨0,⟨0,0⟩,0,0,fun _=>0⟩
structure u5 where
 ns:Nat
 gs:Nat->ej
 nc:Nat
 gc:Nat->Rule
 np:Nat
 gp:Nat->dF
 dE:Int
 na:Nat
 ga:Nat->fM
 nm:Nat
 gm:Nat->fu
def u5.enc(p:u5):List D:=[SL none 5 ej.enc p.ns p.gs,SL none 6 Rule.enc p.nc p.gc,SL none 6 dF.enc p.np p.gp,I p.dE,SL none 6 fM.enc p.na p.ga,SL none 6 fu.enc p.nm p.gm]
attribute [go_sem] u5.enc
structure dT(p:u5):Prop where
 ns:p.ns<=1000
 nc:p.nc<=1000
 np:p.np<=1000
 na:p.na<=1000
 nm:p.nm<=1000
 ps: ∀i,i<p.ns->(p.gs i).np<=1000
 nn: ∀i,i<p.np->(p.gp i).Name.size<4294967281
def lR(n:Nat)(g:Nat->ej)(u:Int):Int:=idxFrom (fun r=>r.Unit==u) (lst n g) 0
theorem Fg(n g u):lR n g u<n:=iR _ n g
def dQ(p:u5)(u:Int):ej×Bool:=if lR p.ns p.gs u<0 then(ej.zero,false) else(p.gs (lR p.ns p.gs u).toNat,true)
theorem Ru{p}(h:dT p)(u):(dQ p u).1.np<=1000:=by
 unfold dQ;have:=Fg p.ns p.gs u;split
 ·simp[ej.zero]
 ·exact h.ps _ aa
def qC(n:Nat)(g:Nat->dF)(u:Int):Bool:=(lst n g).any fun r=>r.ID==u
theorem X3(n g u):qC n g u=decide (0<=ee n g u):=(gE _ _ _).symm
def DH(p:u5)(s:ej):Int:=aA (fun q=>if qC p.np p.gp (s.ps q)=false then 7 else 0) 0 s.np
def kK(p:u5)(i:Nat):Int:=if kZ (p.gs i).Unit=false\/(p.gs i).Class<0\/999<(p.gs i).Class then 2 else if cy (p.gs i).Made≠0 then 1
 else if(0<i/\(p.gs i).Unit<=(p.gs (i-1)).Unit)\/fZ (p.gs i).ps (p.gs i).np=false then 5 else DH p (p.gs i)
def db(p:u5):Int:=if 256<p.ns then 8 else aA (kK p) 0 p.ns
theorem NT{n g}(h:cL n g=0)(u):(gU n g u).2=qC n g u:=by
 grind [X3,gU]
def oV(p:u5)(i:Nat):Int:=if i=0 then check p.nc p.gc else if i=1 then cL p.np p.gp else if i=2 then dA p.na p.ga else dq p.nm p.gm
def bL(p:u5):Int:=if aA (oV p) 0 4≠0 then aA (oV p) 0 4 else if p.dE<0\/200<p.dE then 2 else db p
theorem tT(τ)(r:ej)(u):ak prog 517 [.agg (r.enc.map .d),.ptr σ.length 0] (σ++ .var [.d (I u)]::τ) (.d (B (r.Unit==u))):=by
 refine ak.bt func517 ?_;exact af so
theorem oy(p u)(hp:dT p):ak prog 498 [.agg (p.enc.map .d),.d (I u)] σ (.cj [.agg ((dQ p u).1.enc.map .d),.d (B (dQ p u).2)]):=by
 have hlt:=Fg p.ns p.gs u;unfold lR at hlt;refine ak.bt func498 ?_;refine az.mk (NB _ none p.ns p.gs _ _ (fun r=>r.Unit==u) abB (fun i hi=>by have h:=nP (tT (σ++[.var (p.enc.map .d)]) [.var [.d (I 0),.d (I 0),.d (I 0),.d (I 0),.d (.v (.slice none 0 0))]] (p.gs i) u);exact h)) ?_;refine gc [2,4,6] ?_ ?_<;>intro d0
 ·have hz:dQ p u=(ej.zero,false):=by grind [dQ,lR]
  refine wA ?_;rw[hz];simp[go_sem,ej.zero]
 ·have hz:dQ p u=(p.gs (lR p.ns p.gs u).toNat,true):=by grind [dQ,lR]
  unfold lR at hz;refine wB ?_;exact sy hz
theorem si(τ)(r:dF)(u):ak prog 268 [.agg (r.enc.map .d),.ptr σ.length 0] (σ++ .var [.d (I u)]::τ) (.d (B (r.ID==u))):=by
 refine ak.bt func268 ?_;exact af so
theorem vl(p)(hp:dT p):ak prog 187 [.agg (p.enc.map .d)] σ (.d (I (db p))):=by
 refine ak.bt func187 ?_;refine dH [1] ?_ ?_<;>intro d0
 ·refine wA ?_;simp[go_sem,db]<;>omega
 ·simp[go_sem];refine dm (α:=Nat) true [1,12,13,14] (fun i=>[(14,.d (I i))]) (fun i=>σ++[.var (p.enc.map .d)]) (fun i=>i<=p.ns/\aA (kK p) 0 p.ns=aA (kK p) i (p.ns-i)) (fun i=>p.ns-i) 0 ?_;rintro i ⟨hi,hx⟩;refine gc [1,12,13,14] ?_ ?_<;>intro d1
  ·obtain⟨k,hk⟩: ∃k,p.ns-i=k+1:=⟨p.ns-i-1,aa⟩;have hk':p.ns-(i+1)=k:=aa;rw[hk,aA] at hx;refine wB ?_;refine az.mk (qk _ (p.gs i).Unit) ?_;refine gc [1,3,4,12,13,14] ?_ ?_<;>intro d2
   ·have he:kK p i=2:=by grind [kK]
    rw[he] at hx;simp at hx;refine wA ?_;simp[go_sem,db,hx]<;>omega
   ·have hd2: ¬(kZ (p.gs i).Unit=false\/(p.gs i).Class<0\/999<(p.gs i).Class):=by
     grind
    simp[go_sem];refine az.mk (cZ _ (p.gs i).Made) ?_;refine gc [1,3,4,12,13,14] ?_ ?_<;>intro d3
    ·have he:kK p i=1:=by grind [kK]
     rw[he] at hx;simp at hx;refine wA ?_;simp[go_sem,db,hx]<;>omega
    ·simp[go_sem];refine T.dr 21 fun K hK=> ?_;simp[go_sem,aT (i:=i) ai];repeat refine⟨aa,?_⟩
     refine bK.mk (vn _ none (p.gs i).np (p.gs i).ps (by have:=hp.ps i d1;omega)) ?_;refine wc hK ?_;refine gc [1,4,12,13,14] ?_ ?_<;>intro d4
     ·have he:kK p i=5:=by grind [kK]
      rw[he] at hx;simp at hx;refine wA ?_;simp[go_sem,db,hx]<;>omega
     ·have he:kK p i=DH p (p.gs i):=by
       grind [kK]
      simp[go_sem];refine dm (α:=Nat) true [1,12,13,14,61,62,63] (fun q=>[(63,.d (I q))]) (fun q=>σ++[.var (p.enc.map .d),.var ((p.gs i).enc.map .d)]) (fun q=>q<=(p.gs i).np/\DH p (p.gs i)=aA (fun q=>if qC p.np p.gp ((p.gs i).ps q)=false then 7 else 0) q ((p.gs i).np-q)) (fun q=>(p.gs i).np-q) 0 ?_ (hx:=⟨aa,rfl⟩);rintro q ⟨hq,hy⟩;refine gc [1,12,13,14,61,62,63] ?_ ?_<;>intro d5
      ·obtain⟨j,hj⟩: ∃j,(p.gs i).np-q=j+1:=⟨(p.gs i).np-q-1,aa⟩;have hj':(p.gs i).np-(q+1)=j:=aa;rw[hj,aA] at hy;refine wB ?_;refine az.mk (Fz _ none p.np p.gp _ _ (fun r=>r.ID==(p.gs i).ps q) Ax (fun k hk=>by have h:=nP (si (σ++[.var (p.enc.map .d),.var ((p.gs i).enc.map .d)]) [] (p.gp k) ((p.gs i).ps q));exact h)) ?_;refine gc [1,12,13,14,61,62,63] ?_ ?_<;>intro d6
       ·have hh:qC p.np p.gp ((p.gs i).ps q)=false:=by grind [qC]
        simp only[hh,if_true] at hy;rw[he,hy] at hx;simp at hx;refine wA ?_;simp[go_sem,db,hx]<;>omega
       ·have hh:qC p.np p.gp ((p.gs i).ps q)=true:=by grind [qC]
        simp only[hh,Bool.true_eq_false,if_false] at hy;simp at hy;refine wI ?_;refine bF (q+1) ⟨aa,ai⟩ (h:=by simp[go_sem,wS q (by have:=hp.ps i d1;omega)]<;>omega) (hσ:=aP)
      ·obtain rfl:q=(p.gs i).np:=by omega
       rw[Nat.sub_self,aA] at hy;rw[he,hy] at hx;simp at hx;refine wT ?_;refine bF (i+1) ⟨aa,ai⟩ (h:=aR) (hσ:=aP)
  ·have hin:i=p.ns:=aa;rw[hin,Nat.sub_self,aA] at hx;refine wO ?_;simp[go_sem,db,hx]<;>omega
theorem iN(p)(hp:dT p)(hσ:σ[1]? =some (.loc 1)):ak prog 128 [.agg (p.enc.map .d)] σ (.d (I (bL p))):=by
 refine ak.bt func128 ?_;refine T.dr 15 fun K hK=>sm ?_;refine bK.mk (il _ none p.nc p.gc (by have:=hp.nc;omega)) ?_;simp[go_sem];refine bK.mk (iO _ none p.np p.gp Ax hp.nn (ay hσ)) ?_;simp[go_sem];refine bK.mk (fK _ none p.na p.ga Hb) ?_;simp[go_sem];refine bK.mk (iP _ none p.nm p.gm (by have:=hp.nm;omega)) ?_;refine wD hK ?_;refine go true (sm ?_);refine dm (α:=Nat) true [1,17,18,19] (fun i=>[(19,.d (I i))]) (fun i=>_) (fun i=>i<=4/\aA (oV p) 0 4=aA (oV p) i (4-i)) (fun i=>4-i) 0 ?_;rintro i ⟨hi,hx⟩;refine gc [1,17,18,19] ?_ ?_<;>intro d0
 ·obtain⟨k,hk⟩: ∃k,4-i=k+1:=⟨4-i-1,aa⟩;have hk':4-(i+1)=k:=aa;have hs:aA (oV p) i (k+1)=if oV p i≠0 then oV p i else aA (oV p) (i+1) k:=rfl
  rw[hk,hs] at hx;have hrow:rowsOf 1 [I (check p.nc p.gc),I (cL p.np p.gp),I (dA p.na p.ga),I (dq p.nm p.gm)] i=[I (oV p i)]:=by
   have hi4:i=0\/i=1\/i=2\/i=3:=aa;rcases hi4 with rfl|rfl|rfl|rfl<;>rfl
  simp[go_sem,hrow];repeat refine⟨aa,?_⟩
  refine dH [1,4,17,18,19] ?_ ?_<;>intro d1
  ·rw[if_pos d1] at hx;have hz:bL p=oV p i:=by grind [bL]
   exact sx hz
  ·rw[if_neg ai] at hx;refine wC ?_;refine bF (i+1) ⟨aa,ai⟩ (h:=aR)
 ·obtain rfl:i=4:=by omega
  have hx:aA (oV p) 0 4=0:=hx;simp[go_sem];refine go true (gc [1] ?_ ?_)<;>intro d2
  ·have hz:bL p=2:=by grind [bL]
   exact sx hz
  ·have hz:bL p=db p:=by grind [bL]
   simp[go_sem];refine az.mk (vl _ p hp) (sm ?_);exact sy hz
end Go.Proofs.YthpplckmbbachaaGreatDoor
