/- Lemmas, no conditions. -/
import Derived.Test.YthpplckmbbachaaGreatDoorKB33
set_option linter.unusedVariables false
set_option linter.unusedSimpArgs false
set_option maxHeartbeats 4000000
set_option maxRecDepth 100000
namespace Go.Proofs.YthpplckmbbachaaGreatDoor
open Go.aI Go.bI Go.Proofs.Tryz
variable (σ : List aZ)
theorem GG(c n g)(hn:n<1000000000)(hc: ∀i,i<n->(g i).nc<1000000000):ak prog 31 [.d (SL c 5 Bx.enc n g)] σ (.d (SL none 5 Bx.enc n g)):=by
 refine ak.be func31 fun hwf=> ?_;refine wP ?_;refine wV fun K hK=> ?_;refine wG hK ?_;refine aq ?_;refine wP ?_;refine aB ?_;refine ba [3,9,10] eE ?_;refine bB (α:=Nat) (fun i=>[(10,.d (I i))]) (fun i=>σ++[.arr 5 n (fun q=>Bx.enc (g q))]) (fun i=>i<=n) (fun i=>n-i) 0 au (rfl) an ?_;rintro i hi;refine wP ?_;refine aq ?_;refine gF [3,9,10,11] ?_;refine ko ?_ ?_<;>intro d0
 ·have hi0:i<n:=aa;have hc0:=hc i hi0;refine aJ ?_;refine aq ?_;refine aB ?_;refine aj fun K hK=> ?_;simp[go_sem,d0];refine hK _ ?_;refine Apd.BB 8 aP fun K hK=> ?_;simp[go_sem,d0];refine wG hK ?_;refine ax σ.length (fun q=>Bx.enc (g q)) bj (by grind [Bx.enc,Cnt.enc]) aN ?_;refine aE fun K hK=> ?_;simp[go_sem];try simp(disch:=omega) only[aS]
  refine hK _ ?_;refine⟨i+1,bp au ((ae au)) iv,aa,ai⟩
 ·obtain rfl:i=n:=by omega
  refine bN ?_;refine wE ?_;refine bg (σ.length) bj aN eS ?_;exact af sc
theorem uA(u)(hu:br u):ak prog 9 [.agg (u.cells u.aX)] σ (.agg (u.cells u.aX)):=by
 have b0:=hu.P.ns;have b9:=hu.P.nc;have b10:=hu.P.np;have b11:=hu.P.na;have b12:=hu.P.nm;have b1:=hu.nb;have b2:=hu.nf;have b3:=hu.nv;have b4:=hu.nr;have b5:=hu.nk;have b6:=hu.nt;have b7:=hu.nl;have b8:=hu.nw;refine ak.be func9 fun hwf=> ?_;refine we ?_;refine wV fun K hK=> ?_;refine wG hK ?_;refine aq ?_;refine wP ?_;refine aB ?_;refine ba [1,2,3,20,21] eE ?_;refine bB (α:=Nat) (fun i=>[(21,.d (I i))]) (fun i=>(σ++[.var ((u.cells u.aX).set 0 (.ms (σ.length+2) 5 0 u.P.ns)),.var zU,.arr 5 u.P.ns (fun q=>ej.enc (u.P.gs q))])) (fun i=>i<=u.P.ns) (fun i=>u.P.ns-i) 0 au (rfl) an ?_;rintro i hi;refine wP ?_;refine aq ?_;refine gF [1,2,3,20,21,22] ?_;refine ko ?_ ?_<;>intro d0
 ·have hi0:i<u.P.ns:=aa;have g0:=hu.P.ps i hi0;refine aJ ?_;refine aq ?_;refine aB ?_;refine aj fun K hK=> ?_;simp[go_sem,d0];refine hK _ ?_;refine T.dr 17 fun K hK=> ?_;simp[go_sem,d0];refine wG hK ?_;refine ax (σ.length+2) (fun q=>ej.enc (u.P.gs q)) bj (by grind [ej.enc,encI]) aN ?_;refine aE fun K hK=> ?_;simp[go_sem];try simp(disch:=omega) only[aS]
  refine hK _ ?_;refine⟨i+1,bp au ((ae au)) iv,aa,ai⟩
 ·obtain rfl:i=u.P.ns:=by omega
  refine aF hwf (σ.length+2) ?_;refine bN ?_;apply Mix.cw 20 [(16,none),(19,none)] [[0,2,3,4,5,6,7,8,9,10,11,12,13,14,15],[0,1,2,3,4,5,6,7,8,9,10,11,12,13,14,15,17,18]] [(.undef,(σ++[.var (u.cells u.aX),.var zU,.dead])),(.undef,(σ++[.var (u.cells u.aX),.var zU,.dead]))] T.mixed aD
  ·intro K hK;refine wB ?_;exact hK _ _
  ·refine Mix.aw ?_ (Mix.aw ?_ (Mix.aW))
   ·intro K hK;simp[go_sem];grind
   ·intro K hK;simp[go_sem];grind
  ·refine Mix.aG ?_ (Mix.aG ?_ (Mix.bn))
   ·simp[go_sem];all_goals first|rfl|omega|skip
   ·simp[go_sem];all_goals first|rfl|omega|skip
  intro K hK;refine wD hK ?_;apply Mix.cw 20 [(16,none),(19,none)] [[0,2,3,4,5,6,7,8,9,10,11,12,13,14,15],[0,1,2,3,4,5,6,7,8,9,10,11,12,13,14,15,17,18]] [(.undef,(σ++[.var (u.cells u.aX),.var zU,.dead])),(.undef,(σ++[.var (u.cells u.aX),.var zU,.dead]))] T.mixed aD
  ·intro K hK;refine wB ?_;exact hK _ _
  ·refine Mix.aw ?_ (Mix.aw ?_ (Mix.aW))
   ·intro K hK;simp[go_sem];grind
   ·intro K hK;simp[go_sem];grind
  ·refine Mix.aG ?_ (Mix.aG ?_ (Mix.bn))
   ·simp[go_sem];all_goals first|rfl|omega|skip
   ·simp[go_sem];all_goals first|rfl|omega|skip
  intro K hK;refine wD hK ?_;refine im 6 T.mixed aD fun K hK=> ?_;simp[go_sem];refine bK.mk (GG _ none u.nb u.gb aa (fun i hi=>AB)) ?_;refine wB ?_;refine hK _ ?_;refine aF hwf (σ.length+3) ?_;apply Mix.cw 10 [(9,none)] [[0,1,2,3,4,5,6,7,8]] [(.undef,(σ++[.var (u.cells u.aX),.var zU,.dead,.dead]))] T.mixed aD
  ·intro K hK;refine wB ?_;exact hK _ _
  ·refine Mix.aw ?_ (Mix.aW)
   ·intro K hK;simp[go_sem];grind
  ·refine Mix.aG ?_ (Mix.bn)
   ·simp[go_sem];all_goals first|rfl|omega|skip
  intro K hK;refine wD hK ?_;apply Mix.cw 10 [(7,some 104),(9,none)] [[0,1,2,3,4,5,6],[0,1,2,3,4,5,6,8]] [(.ms (σ.length+4) 8 0 u.nt,(σ++[.var (u.cells u.aX),.var zU,.dead,.dead,.arr 8 u.nt (fun q=>ek.enc (u.gt q))])),(.undef,(σ++[.var (u.cells u.aX),.var zU,.dead,.dead,.arr 8 u.nt (fun q=>ek.enc (u.gt q))]))] T.mixed aD
  ·intro K hK;refine wB ?_;exact hK _ _
  ·refine Mix.aw ?_ (Mix.aw ?_ (Mix.aW))
   ·intro K hK;simp[go_sem];grind
   ·intro K hK;simp[go_sem];grind
  ·refine Mix.aG ?_ (Mix.aG ?_ (Mix.bn))
   ·simp[go_sem];grind
   ·simp[go_sem];all_goals first|rfl|omega|skip
  intro K hK;refine wD hK ?_;refine aq ?_;refine wE ?_;refine aB ?_;refine ba [1,2,109,110] eE ?_;refine bB (α:=Nat) (fun i=>[(110,.d (I i))]) (fun i=>(σ++[.var ((u.cells u.aX).set 12 (.ms (σ.length+4) 8 0 u.nt)),.var zU,.dead,.dead,.arr 8 u.nt (fun q=>ek.enc (u.gt q))])) (fun i=>i<=u.nt) (fun i=>u.nt-i) 0 au (rfl) an ?_;rintro i hi;refine wE ?_;refine aq ?_;refine gF [1,2,109,110,111] ?_;refine ko ?_ ?_<;>intro d1
  ·have hi0:i<u.nt:=aa;have g0:=hu.bu i hi0;have g1:=hu.bb i hi0;refine aJ ?_;refine aq ?_;refine aB ?_;refine aj fun K hK=> ?_;simp[go_sem,d1];refine hK _ ?_;refine T.dr 9 fun K hK=> ?_;simp[go_sem,d1];refine bK.mk (ly _ (u.gt i) aa aa) ?_;simp[go_sem,d1];refine hK _ ?_;refine ax (σ.length+4) (fun q=>ek.enc (u.gt q)) bj (by grind [ek.enc]) aN ?_;refine aE fun K hK=> ?_;simp[go_sem];try simp(disch:=omega) only[aS]
   refine hK _ ?_;refine⟨i+1,bp au ((ae au)) iv,aa,ai⟩
  ·obtain rfl:i=u.nt:=by omega
   refine aF hwf (σ.length+4) ?_;refine bN ?_;apply Mix.cw 10 [(9,none)] [[0,1,2,3,4,5,6,7,8]] [(.undef,(σ++[.var (u.cells u.aX),.var zU,.dead,.dead,.dead]))] T.mixed aD
   ·intro K hK;refine wB ?_;exact hK _ _
   ·refine Mix.aw ?_ (Mix.aW)
    ·intro K hK;simp[go_sem];grind
   ·refine Mix.aG ?_ (Mix.bn)
    ·simp[go_sem];all_goals first|rfl|omega|skip
   intro K hK;refine wD hK ?_;refine wE ?_;exact af sc
structure Std where
 Shelf:Int
 n:Nat
 g:Nat->Int
instance:Inhabited Std:=⟨⟨0,0,fun _=>0⟩⟩
def Std.enc(s:Std):List D:=[I s.Shelf,SL none 1 encI s.n s.g]
attribute [go_sem] Std.enc
def onS(u:Use)(k:Int):Std:=⟨k,if atE u.nv u.gv ⟨1,k⟩=0 then(atL u.nv u.gv ⟨1,k⟩).length else 0,nth (atL u.nv u.gv ⟨1,k⟩)⟩
def tP(u:Use)(i:Nat):List Std:=if 0<(onS u (u.gf i).ID).n then[onS u (u.gf i).ID] else[]
theorem Wx(u i):(tP u i).length<=1:=by grind [tP]
theorem Gm(u)(hu:br u)(h0:σ[0]? =some (.tab 0 dG))(h1:σ[1]? =some (.loc 1)):ak prog 18 [.agg (u.cells u.aX)] σ (.cj [.d (SL none 2 Std.enc (if ck u=true then(gather (tP u) u.nf).length else 0) (nth (gather (tP u) u.nf))),.d (I (if ck u=true then 0 else 1))]):=by
 have b2:=hu.nf;have b3:=hu.nv;refine ak.be func18 fun hwf=> ?_;refine wP ?_;refine aq ?_;refine aj fun K hK=>sm ?_;refine az.mk (mE _ u hu (ay h0) (ay h1)) (sm ?_);refine hK _ ?_;refine gF [1,11] ?_;refine ko ?_ ?_<;>intro d0
 ·have hz:ck u=false:=ai;refine aj fun K hK=> ?_;simp[go_sem,d0];refine hK _ ?_;refine af ?_;rw[hz];simp[go_sem,Go.aI.aK]
 ·have hz:ck u=true:=ai;refine aJ ?_;refine aj fun K hK=> ?_;simp[go_sem,d0];refine hK _ ?_;refine aq ?_;refine wE ?_;refine aB ?_;refine bq 4 2 (fun i=>Std.enc (nth ([]:List Std) i)) au aN ?_;refine ba [1,4,13,14,15] eE ?_;refine mo [σ.length+1] an ?_;refine bB (α:=Nat) (fun q=>[(4,.ms (σ.length+1) 2 0 (gather (tP u) q).length),(15,.d (I q))]) (fun q=>σ++[.var (u.cells u.aX),.arr 2 (gather (tP u) q).length (fun k=>Std.enc (nth (gather (tP u) q) k))]) (fun q=>q<=u.nf) (fun q=>u.nf-q) 0 Dk Dk an ?_;rintro q hq;refine wE ?_;refine aq ?_;refine gF [1,4,13,14,15,16] ?_;refine ko ?_ ?_<;>intro d1
  ·have hq0:q<u.nf:=aa;have hl:=fF (Wx u) q;refine aJ ?_;refine aq ?_;refine aB ?_;refine aj fun K hK=> ?_;simp[go_sem,d1];refine wY hK fun K hK=> ?_;refine az.mk (G3 _ none u.nv u.gv ⟨1,(u.gf q).ID⟩ aa) ?_;refine wD hK ?_;refine wE ?_;refine gF [1,4,6,7,13,14,15,30] ?_;refine fL ?_ ?_<;>intro c2 d2
   ·have hg:gather (tP u) (q+1)=gather (tP u) q++[onS u (u.gf q).ID]:=by grind [gather,tP,onS]
    refine aE fun K hK=> ?_;simp[go_sem,d2,hwf.one];refine wG hK ?_;refine ax (σ.length+1) (fun k=>Std.enc (nth (gather (tP u) q++[onS u (u.gf q).ID]) k)) bj (by exact fun k hk=>fH (enc:=Std.enc) (x:=onS u (u.gf q).ID) rfl hk) aN ?_;refine aE fun K hK=> ?_;simp[go_sem];try simp(disch:=omega) only[aS]
    refine hK _ ?_;refine⟨q+1,bp abA ((ae au)) (by(simp[go_sem,hg]<;>omega)),aa,ai⟩
   ·have hg:gather (tP u) (q+1)=gather (tP u) q:=by grind [gather,tP,onS]
    refine aJ ?_;refine aE fun K hK=> ?_;simp[go_sem,c2];try simp(disch:=omega) only[aS]
    refine hK _ ?_;refine⟨q+1,bp abA ((ae au)) (by(simp[go_sem,hg]<;>omega)),aa,ai⟩
  ·obtain rfl:q=u.nf:=by omega
   refine bN ?_;refine wE ?_;refine aF hwf (σ.length+1) ?_;rw[if_pos hz,if_pos hz];exact af sc
theorem Hs{c c' sz n row row'}(hc:c'=none\/c'=c)(hr: ∀i,i<n->(row' i).length=(row i).length/\∀k,k<sz->∀w j v,RD w j ((row i).getD k default) v->RD w j ((row' i).getD k default) v):Same (.d (.sl c sz n row)) (.d (.sl c' sz n row')):=by
 refine .d fun w j v h=> ?_;have hcap: ∀q:Nat,(c=none\/c=some q)->(c'=none\/c'=some q):=fun q hq=>by
  grind
 cases h with
 |sl a q val h1 h2 h3 h4 h5 h6 h7 h8=>exact .sl a q val (hcap q h1) h2 h3 h4 h5 (fun i hi=>ai) h7 (fun i hi k hk=>(hr i hi).2 k hk _ _ _ (h8 i hi k hk))
 |zero p q h1 h2=>exact .zero p q (hcap q h1) h2
theorem WN{P f args σ r r'}(h:ak P f args σ r)(hs:Same r r'):ak P f args σ r':=
 ⟨h.1,fun j w vs h1 h2=>(h.2 j w vs h1 h2).mono (by
  rintro e w' ⟨v,r1,σ1,j1,X,h5,h6,h7,h8,h9,h10,h11⟩;obtain⟨rfl,h12⟩:=h11;exact⟨v,r',σ1,j1,X,h5,h6,hs _ _ _ h7,h8,h9,h10,rfl,h12⟩)⟩
def ik(id k:Int)(l:List Int):Ev:=⟨id,0,k,none,l.length,nth l,none,0,fun _=> .empty⟩
def yJ:List Ev:=[ik 1 48 [1,100,90,0],ik 2 51 [5,1,150,0],ik 3 49 [1,0,7,20],ik 4 52 [1,1,5],ik 5 56 [1,3,0,10],ik 6 53 [1,3,7]]
def exD:List D:=[I 1,I 0,I 48,.sl (some 4) 1 4 (rowsOf 1 [I 1,I 100,I 90,I 0]),.v (.slice none 0 0),I 2,I 0,I 51,.sl (some 4) 1 4 (rowsOf 1 [I 5,I 1,I 150,I 0]),.v (.slice none 0 0),I 3,I 0,I 49,.sl (some 4) 1 4 (rowsOf 1 [I 1,I 0,I 7,I 20]),.v (.slice none 0 0),I 4,I 0,I 52,.sl (some 3) 1 3 (rowsOf 1 [I 1,I 1,I 5]),.v (.slice none 0 0),I 5,I 0,I 56,.sl (some 4) 1 4 (rowsOf 1 [I 1,I 3,I 0,I 10]),.v (.slice none 0 0),I 6,I 0,I 53,.sl (some 3) 1 3 (rowsOf 1 [I 1,I 3,I 7]),.v (.slice none 0 0)]
theorem JS:ak prog 17 [] σ (.d (.sl (some 6) 5 6 (rowsOf 5 exD))):=by
 refine ak.bt func17 ?_;refine af ?_;simp[go_sem,exD]
theorem GC(c c' n m f g)(hnm:n=m)(hn:n<1000000000)(h: ∀i,i<n->(f i).Shelf=(g i).Shelf/\(f i).n=(g i).n/\(f i).n<1000000000/\∀k,k<(f i).n->(f i).g k=(g i).g k):ak prog 20 [.d (SL c 2 Std.enc n f),.d (SL c' 2 Std.enc m g)] σ (.d (B true)):=by
 refine ak.bt func20 ?_;refine dH [0,1] ?_ ?_<;>intro d0
 ·exact absurd hnm aa
 ·simp[go_sem];refine dm (α:=Nat) true [0,1,13,14] (fun i=>[(14,.d (I i))]) (fun i=>_) (fun i=>i<=n) (fun i=>n-i) 0 ?_;rintro i hi;refine gc [0,1,13,14] ?_ ?_<;>intro d1
  ·have hi0:i<n:=aa;have him:i<m:=aa;have hh:=h i hi0;have hh1:=hh.1;have hh2:=hh.2.1;have hh3:=hh.2.2.1;simp[go_sem];refine T.dr 26 fun K hK=> ?_;simp[go_sem,hi0,him];refine hK _ ?_;refine go true ?_;refine gc [0,1,5,13,14] ?_ ?_<;>intro d2
   ·exfalso;omega
   ·simp[go_sem,hi0];refine dm (α:=Nat) true [0,1,5,13,14,48,49] (fun k=>[(49,.d (I k))]) (fun k=>_) (fun k=>k<=(f i).n) (fun k=>(f i).n-k) 0 ?_;rintro k hk;refine gc [0,1,5,13,14,48,49] ?_ ?_<;>intro d3
    ·have hk0:k<(f i).n:=aa;have hk1:k<(g i).n:=aa;simp[go_sem];refine T.dr 17 fun K hK=> ?_;simp[go_sem,hi0,him,hk0,hk1];refine hK _ ?_;refine go true ?_;refine gc [0,1,5,13,14,48,49] ?_ ?_<;>intro d4
     ·have:=hh.2.2.2 k hk0;grind
     ·refine wC ?_;refine bF (k+1) aa (h:=aR)
    ·refine wT ?_;refine bF (i+1) aa (h:=aR)
  ·refine wF ?_;exact af so
theorem aaR:Same (.d (.sl (some 6) 5 6 (rowsOf 5 exD))) (.d (SL none 5 Ev.enc 6 (nth yJ))):=by
 refine Hs (.inl rfl) fun i hi=> ?_;have XY:i=0\/i=1\/i=2\/i=3\/i=4\/i=5:=aa;refine⟨by rcases XY with rfl|rfl|rfl|rfl|rfl|rfl<;>rfl,fun k hk w j v h=> ?_⟩;have hk5:k=0\/k=1\/k=2\/k=3\/k=4:=aa;rcases hk5 with rfl|rfl|rfl|rfl|rfl
 ·rcases XY with rfl|rfl|rfl|rfl|rfl|rfl<;>exact h
 ·rcases XY with rfl|rfl|rfl|rfl|rfl|rfl<;>exact h
 ·rcases XY with rfl|rfl|rfl|rfl|rfl|rfl<;>exact h
 ·rcases XY with rfl|rfl|rfl|rfl|rfl|rfl;all_goals
   refine RD.rows (.inl rfl) (fun q hq=> ?_) h;have hlt:q<4:=Nat.lt_of_lt_of_le hq aH;have hq4:q=0\/q=1\/q=2\/q=3:=aa;rcases hq4 with rfl|rfl|rfl|rfl<;>first|rfl|exact absurd hq aH
 ·rcases XY with rfl|rfl|rfl|rfl|rfl|rfl<;>exact RD.nil h
theorem Nu(σ):ak prog 17 [] σ (.d (SL none 5 Ev.enc 6 (nth yJ))):=WN (JS σ) aaR
def jn:Nat->Row:=fun _=>⟨7,0,0⟩
def eY:Use:= { en with P:= { en.P with dE:=30 },gq:=2 }
def Yu:Use:= { Pk eY (ik 1 48 [1,100,90,0]) with Changed:=0 }
def Yt:Use:= { S2 Yu (ik 2 51 [5,1,150,0]) with Changed:=0 }
def Ys:Use:= { W1 Yt (ik 3 49 [1,0,7,20]) with Changed:=0 }
def Yr:Use:= { dz Ys (ik 4 52 [1,1,5]) 1 ⟨1,5⟩ with Changed:=0 }
def zE:Use:= { YR Yr (ik 5 56 [1,3,0,10]) with Changed:=0 }
def eD:Use:= { Zd zE (ik 6 53 [1,3,7]) with Changed:=0 }
theorem afE:Vv eY (ik 1 48 [1,100,90,0])=0:=by decide+kernel
theorem afD:Y3 Yu (ik 2 51 [5,1,150,0])=0:=by decide+kernel
theorem afC:PV Yt (ik 3 49 [1,0,7,20])=0:=by decide+kernel
theorem afB:AQ Ys (ik 4 52 [1,1,5])=0:=by decide+kernel
theorem afA:QM Yr (ik 5 56 [1,3,0,10])=0:=by decide+kernel
theorem adR:okB (ik 1 48 [1,100,90,0])=true:=by decide+kernel
theorem adQ:okB (ik 2 51 [5,1,150,0])=true:=by decide+kernel
theorem adO:okB (ik 3 49 [1,0,7,20])=true:=by decide+kernel
theorem adN:okB (ik 4 52 [1,1,5])=true:=by decide+kernel
theorem adM:okB (ik 5 56 [1,3,0,10])=true:=by decide+kernel
theorem adL:okB (ik 6 53 [1,3,7])=true:=by decide+kernel
theorem Yp:pC eD=true:=by decide+kernel
theorem Uy:eI eD=true:=by decide+kernel
theorem aaV: ∀i,i<6->Ep eD i=0:=by decide+kernel
theorem acu:(cp zE.nb zE.gb 7).2.2=true/\dB zE.nr zE.gr (gG zE (ik 6 53 [1,3,7]))=0:=by decide+kernel
theorem aaW: ∀i,i<6->Ep eY i=0:=by decide+kernel
def exV:Use:= { KY eD (ik 7 54 [1]) with Changed:=0 }
def J8:Use:= { Pk eD (ik 7 48 [2,60,50,0]) with Changed:=0 }
theorem adK:okB (ik 7 54 [1])=true:=by decide+kernel
theorem adJ:okB (ik 7 48 [2,60,50,0])=true:=by decide+kernel
theorem adI:okB (ik 8 52 [2,1,5])=true:=by decide+kernel
theorem afz:Vv eD (ik 7 48 [2,60,50,0])=0:=by decide+kernel
theorem afy:AQ J8 (ik 8 52 [2,1,5])=12:=by decide+kernel
theorem Yo:pC exV=true:=by decide+kernel
theorem Yn:pC J8=true:=by decide+kernel
theorem UA:pC eY=true:=by decide+kernel
theorem Ux:eI exV=true:=by decide+kernel
theorem Uw:eI J8=true:=by decide+kernel
theorem Uz:eI eY=true:=by decide+kernel
theorem aaT: ∀i,i<6->Ep exV i=0:=by decide+kernel
theorem aaS: ∀i,i<6->Ep J8 i=0:=by decide+kernel
theorem Ym:aM exV 1=⟨3,3⟩/\0<=hZ exV.nb exV.gb 1:=by decide+kernel
theorem Yg:exV.nw=1/\(exV.gw 0).Reader=3/\(exV.gw 0).Unit=7/\(exV.gw 0).Day=0:=by decide+kernel
end Go.Proofs.YthpplckmbbachaaGreatDoor
namespace Go.Proofs.YthpplckmbbachaaGreatDoor
open Go.aI Go.bI
theorem A7{β}{f:Nat->List β}(h: ∀i,f i=[]): ∀k,gather f k=[]
 |0=>rfl
 |k+1=>by rw[gather,h,A7 h k];rfl
theorem x2:bC 1 jn=0:=by
 unfold bC;rw[if_neg aH,if_neg fh,if_neg fh,if_neg];rintro⟨i,hi,h⟩;exact h 0 aa rfl
theorem Yq(u e)(hd:e.Day=0)(hp:bL u.P=0)(hg:ib u.P 0 ⟨7,0,0⟩=[]):jc u 1 jn e 3 7=true:=by
 have ha:jy 1 jn u.P 3 7 0=0:=by
  unfold jy;rw[if_neg (by grind [x2]),if_neg fh,if_neg fh]
 have hw:dN 1 jn u.P 7 0=[]:=A7 (fun i=>hg) _;unfold jc fG;rw[hd,if_neg ai];unfold QA;rw[hw];rfl
theorem acv:bL zE.P=0/\ib zE.P 0 ⟨7,0,0⟩=[]:=by
 constructor
 ·decide+kernel
 ·rfl
theorem afF:Ge zE 1 jn (ik 6 53 [1,3,7])=0:=by
 unfold Ge;have h7:=acu.1;have h8:=acu.2;rw[if_neg (by rw[show(ik 6 53 [1,3,7]).gn 2=7 from rfl,h7];decide),if_neg,h8];have h:=Yq zE (ik 6 53 [1,3,7]) rfl acv.1 acv.2;rw[show(ik 6 53 [1,3,7]).gn 1=3 from rfl,show(ik 6 53 [1,3,7]).gn 2=7 from rfl,h];decide
theorem C0(u)(h1: ∀i,i<6->Ep u i=0)(h2:u.nt=0)(h3:u.nl=0)(h4: ∀i,i<u.nw->G7 u i)(h5:gD u.Changed 0 1048575=true)(h6:u.nw<=1024):mj u=true:=
 iW.2 ⟨h1,fun i hi=>aa,fun i hi=>aa,h4,h5,aa,aa,h6⟩
theorem SE(u)(h1: ∀i,i<u.nr->(u.gr i).Changed<=u.Changed)(h2: ∀k∈(dO u u.nr).1,∀x,k=Key.i x->aM u x=⟨3,(dO u u.nr).2 x⟩)(h3: ∀i,i<u.nb->(aM u (u.gb i).ID).Kind=3->(dO u u.nr).2 (u.gb i).ID=(aM u (u.gb i).ID).Of):xP u=true:=
 sA.2 ⟨h1,fun x hx=>h2 _ hx x rfl,h3⟩
theorem Fj(u)(h1: ∀i,i<u.nr->(u.gr i).Changed<=u.Changed)(h2:(dO u u.nr).1=[])(h3: ∀i,i<u.nb->(aM u (u.gb i).ID).Kind=3->(dO u u.nr).2 (u.gb i).ID=(aM u (u.gb i).ID).Of):xP u=true:=
 SE u h1 (fun k hk=>ai) h3
theorem afx:xP eY=true:=Fj eY (fun i hi=>absurd hi (Nat.not_lt_zero i)) rfl (fun i hi=>absurd hi (Nat.not_lt_zero i))
theorem afw:xP eD=true:=Fj eD fh fh fh
theorem afv:xP J8=true:=Fj J8 fh fh fh
theorem Uv:ck eY=true:=by
 unfold ck;rw[C0 eY aaW rfl rfl (fun i hi=>absurd hi (Nat.not_lt_zero i)) aH aH,Uz,UA,afx];rfl
theorem tE:ck eD=true:=by
 unfold ck;rw[C0 eD aaV rfl rfl (fun i hi=>absurd hi (Nat.not_lt_zero i)) aH aH,Uy,Yp,afw];rfl
theorem Uu:ck J8=true:=by
 unfold ck;rw[C0 J8 aaS rfl rfl (fun i hi=>absurd hi (Nat.not_lt_zero i)) aH aH,Uw,Yn,afv];rfl
theorem aaQ: ∀i,i<exV.nw->fc (exV.gw i).Reader=true/\fc (exV.gw i).Unit=true/\gD (exV.gw i).Day 0 exV.Changed=true/\i=0:=by decide+kernel
theorem H3:ck exV=true:=by
 unfold ck;rw[C0 exV aaT rfl rfl (fun i hi=>by obtain⟨a,b,c,d⟩:=aaQ i hi;exact⟨a,b,c,fun h=>aa⟩) aH fh,Ux,Yo,SE exV fh (fun k hk x hx=>by
  have h:(dO exV exV.nr).1=[Key.i 1]:=fh;rw[h] at hk;obtain rfl:k=Key.i 1:=by grind
  cases hx
  decide+kernel) fh]
 rfl
theorem aaX:jc eD 1 jn (ik 7 54 [1]) 3 7=true:=Yq eD _ rfl fh rfl
theorem qc{u m rg e}(h1:okB e=true)(h2: ¬e.Day<u.Changed)(h3: ¬1048575<e.Day):gK u m rg e=rE u m rg e:=by
 unfold gK;rw[if_neg (by rw[h1];decide),if_neg h2,if_neg h3]
theorem acs:gK eY 1 jn (ik 1 48 [1,100,90,0])=0:=(qc adR aH aH).trans afE
theorem acr:gK Yu 1 jn (ik 2 51 [5,1,150,0])=0:=(qc adQ aH aH).trans afD
theorem acq:gK Yt 1 jn (ik 3 49 [1,0,7,20])=0:=(qc adO aH aH).trans afC
theorem acp:gK Ys 1 jn (ik 4 52 [1,1,5])=0:=(qc adN aH aH).trans afB
theorem aco:gK Yr 1 jn (ik 5 56 [1,3,0,10])=0:=(qc adM aH aH).trans afA
theorem acm:gK zE 1 jn (ik 6 53 [1,3,7])=0:=(qc adL aH aH).trans afF
theorem afs:gK eD 1 jn (ik 7 48 [2,60,50,0])=0:=(qc adJ aH aH).trans afz
theorem ack:gK J8 1 jn (ik 8 52 [2,1,5])=12:=(qc adI aH aH).trans afy
theorem gz{u m rg e}(h:gK u m rg e=0):dx u m rg e=(IY u e,0):=by
 unfold dx;rw[if_neg (by rw[h];decide)]
theorem Yl:eC 1 jn (nth yJ) eY 1=Yu:=by
 show(dx eY 1 jn (ik 1 48 [1,100,90,0])).1=_
 rw[gz acs];rfl
theorem Yk:eC 1 jn (nth yJ) eY 2=Yt:=by
 show(dx (eC 1 jn (nth yJ) eY 1) 1 jn (ik 2 51 [5,1,150,0])).1=_
 rw[Yl,gz acr];rfl
theorem Yj:eC 1 jn (nth yJ) eY 3=Ys:=by
 show(dx (eC 1 jn (nth yJ) eY 2) 1 jn (ik 3 49 [1,0,7,20])).1=_
 rw[Yk,gz acq];rfl
theorem Yi:eC 1 jn (nth yJ) eY 4=Yr:=by
 show(dx (eC 1 jn (nth yJ) eY 3) 1 jn (ik 4 52 [1,1,5])).1=_
 rw[Yj,gz acp];rfl
theorem Yh:eC 1 jn (nth yJ) eY 5=zE:=by
 show(dx (eC 1 jn (nth yJ) eY 4) 1 jn (ik 5 56 [1,3,0,10])).1=_
 rw[Yi,gz aco];rfl
theorem afu:eC 1 jn (nth yJ) eY 6=eD:=by
 show(dx (eC 1 jn (nth yJ) eY 5) 1 jn (ik 6 53 [1,3,7])).1=_
 rw[Yh,gz acm];rfl
theorem adG:od eY 1 jn 6 (nth yJ)=(eD,-1,0):=by
 have e0:gI 1 jn (nth yJ) eY 0=0:=by show(dx eY 1 jn (ik 1 48 [1,100,90,0])).2=0;rw[gz acs]
 have e1:gI 1 jn (nth yJ) eY 1=0:=by show(dx (eC 1 jn (nth yJ) eY 1) 1 jn (ik 2 51 [5,1,150,0])).2=0;rw[Yl,gz acr]
 have e2:gI 1 jn (nth yJ) eY 2=0:=by show(dx (eC 1 jn (nth yJ) eY 2) 1 jn (ik 3 49 [1,0,7,20])).2=0;rw[Yk,gz acq]
 have e3:gI 1 jn (nth yJ) eY 3=0:=by show(dx (eC 1 jn (nth yJ) eY 3) 1 jn (ik 4 52 [1,1,5])).2=0;rw[Yj,gz acp]
 have e4:gI 1 jn (nth yJ) eY 4=0:=by show(dx (eC 1 jn (nth yJ) eY 4) 1 jn (ik 5 56 [1,3,0,10])).2=0;rw[Yi,gz aco]
 have e5:gI 1 jn (nth yJ) eY 5=0:=by show(dx (eC 1 jn (nth yJ) eY 5) 1 jn (ik 6 53 [1,3,7])).2=0;rw[Yh,gz acm]
 have hg:eu 1 jn (nth yJ) eY 0 6=(-1,0):=by
  rw[eu,if_neg (by rw[e0];decide),eu,if_neg (by rw[e1];decide),eu,if_neg (by rw[e2];decide),eu,if_neg (by rw[e3];decide),eu,if_neg (by rw[e4];decide),eu,if_neg (by rw[e5];decide),eu]
 unfold od;rw[if_neg (by rw[Uv,x2];decide),if_neg (by rw[hg];decide),afu]
theorem Qm:ml eD 1 jn (ik 7 54 [1])=0:=by
 have hf:(bJ eD 1).2=true/\(bJ eD 1).1.Reader=3/\(bJ eD 1).1.Box=1:=fh;have hb:(sE eD 1).1=1/\((sE eD 1).2 0).Unit=7:=fh;unfold ml;rw[show(ik 7 54 [1]).gn 0=1 from rfl,if_neg (by rw[hf.1];decide),hf.2.2];unfold gT;have h1:((lst (sE eD 1).1 (sE eD 1).2).any fun x=> !jc eD 1 jn (ik 7 54 [1]) (bJ eD 1).1.Reader x.Unit)=false:=by
  rw[hb.1,hf.2.1];simp[lst,hb.2,aaX]
 rw[if_neg (by rw[h1];decide)];decide+kernel
theorem aft:gK eD 1 jn (ik 7 54 [1])=0:=(qc adK aH aH).trans Qm
theorem KU{u m rg e}(h1:ck u=true)(h2:bC m rg=0):ir u m rg e=dx u m rg e:=by
 unfold ir;rw[if_neg (by rw[h1,h2];decide)]
theorem ahf:ir eD 1 jn (ik 7 54 [1])=(exV,0):=by rw[KU tE x2,gz aft];rfl
theorem ahe:ir eD 1 jn (ik 7 48 [2,60,50,0])=(J8,0):=by rw[KU tE x2,gz afs];rfl
theorem ahd:(ir J8 1 jn (ik 8 52 [2,1,5])).2=12:=by
 rw[KU Uu x2];unfold dx;rw[if_pos (by rw[ack];decide),ack]
open Go.Proofs.Tryz
variable (σ : List aZ)
theorem LZ{f g:Nat->List D}(h:f 0=g 0): ∀i,i<1->f i=g i:=fun i hi=>by
 grind
theorem adH:dT eY.P:=⟨aH,aH,aH,aH,aH,fun i hi=>absurd hi (Nat.not_lt_zero i),fun i hi=>absurd hi (Nat.not_lt_zero i)⟩
theorem qF(u)(hp:u.P=eY.P)(h1:u.nb<=100/\u.nf<=100/\u.nv<=100/\u.nr<=100/\u.nk<=100/\u.nt=0/\u.nl<=100/\u.nw<=100)(h2: ∀i,i<u.nb->(u.gb i).nc<=100):br u:=
 ⟨by grind [adH],aa,fun i hi=>ai,aa,aa,aa,aa,aa,fun i hi=>aa,fun i hi=>aa,aa,aa⟩
theorem SD:br eY:=qF _ rfl aH (fun i hi=>absurd hi (Nat.not_lt_zero i))
theorem aaP:br Yu:=qF _ rfl aH fh
theorem aaO:br Yt:=qF _ rfl aH fh
theorem aaN:br Ys:=qF _ rfl aH fh
theorem aaM:br Yr:=qF _ rfl aH fh
theorem aaL:br zE:=qF _ rfl aH fh
theorem J6:br eD:=qF _ rfl aH fh
theorem SC:br exV:=qF _ rfl fh fh
theorem aaK:br J8:=qF _ rfl fh fh
theorem qG{u:Use}(hu:br u)(e:Ev)(h1:e.nn<=1000)(h2:e.nt=0)(h3:u.P.ns=0:=by rfl):s8 u 1 e:=
 ⟨hu,aa,h1,aa,fun i hi=>aa,aa⟩
theorem N2: ∀l,bw l l
 |[]=>trivial
 |x::xs=>⟨by unfold aK;all_goals grind,N2 xs⟩
theorem x1(u:Use)(w):my (.agg (u.cells w)) (.agg (u.cells w)):=N2 _
theorem UC:ak prog 16 [.d (I 2),.d (I 30)] σ (.cj [.agg (eY.cells eY.aX),.d (I 0)]):=by
 have h:=PB σ 2 30;rw[if_pos aH,if_pos aH] at h;exact h
theorem UB(h0:σ[0]? =some (.tab 0 dG))(h1:σ[1]? =some (.loc 1)):ak prog 14 [.agg (eY.cells eY.aX),.d (.sl (some 1) 3 1 (rowsOf 3 [I 7,I 0,I 0])),.d (SL none 5 Ev.enc 6 (nth yJ))] σ (.cj [.agg (eD.cells eD.aX),.d (I (-1)),.d (I 0)]):=by
 have h:=DA σ eY (some 1) 1 jn none 6 (nth yJ) SD aH aH (fun _ i hi _=>by
  have XY:i=0\/i=1\/i=2\/i=3\/i=4\/i=5:=aa;rcases XY with rfl|rfl|rfl|rfl|rfl|rfl
  ·exact qG SD _ aH aH
  ·rw[Yl];exact qG aaP _ aH aH
  ·rw[Yk];exact qG aaO _ aH aH
  ·rw[Yj];exact qG aaN _ aH aH
  ·rw[Yi];exact qG aaM _ aH aH
  ·rw[Yh];exact qG aaL _ aH aH) h0 h1
 rw[adG] at h;refine ak.sub h ?_;exact⟨x1 _ _,⟨.inr rfl,rfl,rfl,LZ rfl⟩,⟨.inl rfl,rfl,rfl,fun _ _=>rfl⟩,trivial⟩
def exS:Nat->Std:=nth (gather (tP eD) eD.nf)
theorem Yf:(gather (tP eD) eD.nf).length=1/\(exS 0).Shelf=5/\(exS 0).n=1/\(exS 0).g 0=1:=by decide+kernel
theorem J7(h0:σ[0]? =some (.tab 0 dG))(h1:σ[1]? =some (.loc 1)):ak prog 18 [.agg (eD.cells eD.aX)] σ (.cj [.d (SL none 2 Std.enc 1 exS),.d (I 0)]):=by
 have h:=Gm σ eD J6 h0 h1;rw[if_pos tE,if_pos tE,Yf.1] at h;exact h
theorem N6(h0:σ[0]? =some (.tab 0 dG))(h1:σ[1]? =some (.loc 1)):ak prog 19 [.agg (exV.cells exV.aX),.d (I 1)] σ (.cj [.agg [.d (I 3),.d (I 3)],.d (I 0)]):=by
 have h:=IV σ exV 1 SC h0 h1;have h2:=Ym;rw[if_neg (by grind [H3]),if_neg (by grind [H3]),if_neg ai,h2.1] at h;exact h
theorem N5(h0:σ[0]? =some (.tab 0 dG))(h1:σ[1]? =some (.loc 1)):ak prog 8 [.agg (eD.cells eD.aX),.d (.sl (some 1) 3 1 (rowsOf 3 [I 7,I 0,I 0])),.agg [.d (I 7),.d (I 0),.d (I 54),.d (.sl (some 1) 1 1 (rowsOf 1 [I 1])),.d (.v (.slice none 0 0))]] σ (.cj [.agg (exV.cells exV.aX),.d (I 0)]):=by
 have h:=om σ eD (some 1) 1 jn (ik 7 54 [1]) (qG J6 _ aH aH) h0 h1;rw[ahf] at h;refine ak.sub h ?_;refine⟨x1 _ _,⟨.inr rfl,rfl,rfl,LZ rfl⟩,⟨rfl,rfl,rfl,⟨.inl rfl,rfl,rfl,fun q hq=>by
  have hq4:q=0\/q=1\/q=2\/q=3:=aa;rcases hq4 with rfl|rfl|rfl|rfl<;>first|rfl|omega⟩,⟨.inl rfl,rfl⟩,trivial⟩,trivial⟩
theorem N4(h0:σ[0]? =some (.tab 0 dG))(h1:σ[1]? =some (.loc 1)):ak prog 8 [.agg (eD.cells eD.aX),.d (.sl (some 1) 3 1 (rowsOf 3 [I 7,I 0,I 0])),.agg [.d (I 7),.d (I 0),.d (I 48),.d (.sl (some 4) 1 4 (rowsOf 1 [I 2,I 60,I 50,I 0])),.d (.v (.slice none 0 0))]] σ (.cj [.agg (J8.cells J8.aX),.d (I 0)]):=by
 have h:=om σ eD (some 1) 1 jn (ik 7 48 [2,60,50,0]) (qG J6 _ aH aH) h0 h1;rw[ahe] at h;refine ak.sub h ?_;refine⟨x1 _ _,⟨.inr rfl,rfl,rfl,LZ rfl⟩,⟨rfl,rfl,rfl,⟨.inl rfl,rfl,rfl,fun q hq=>by
  have hq4:q=0\/q=1\/q=2\/q=3:=aa;rcases hq4 with rfl|rfl|rfl|rfl<;>first|rfl|omega⟩,⟨.inl rfl,rfl⟩,trivial⟩,trivial⟩
theorem N3(h0:σ[0]? =some (.tab 0 dG))(h1:σ[1]? =some (.loc 1)):ak prog 8 [.agg (J8.cells J8.aX),.d (.sl (some 1) 3 1 (rowsOf 3 [I 7,I 0,I 0])),.agg [.d (I 8),.d (I 0),.d (I 52),.d (.sl (some 3) 1 3 (rowsOf 1 [I 2,I 1,I 5])),.d (.v (.slice none 0 0))]] σ (.cj [.agg ((ir J8 1 jn (ik 8 52 [2,1,5])).1.cells (ir J8 1 jn (ik 8 52 [2,1,5])).1.aX),.d (I 12)]):=by
 have h:=om σ J8 (some 1) 1 jn (ik 8 52 [2,1,5]) (qG aaK _ aH aH) h0 h1;rw[ahd] at h;refine ak.sub h ?_;refine⟨x1 _ _,⟨.inr rfl,rfl,rfl,LZ rfl⟩,⟨rfl,rfl,rfl,⟨.inl rfl,rfl,rfl,fun q hq=>by
  have hq4:q=0\/q=1\/q=2\/q=3:=aa;rcases hq4 with rfl|rfl|rfl|rfl<;>first|rfl|omega⟩,⟨.inl rfl,rfl⟩,trivial⟩,trivial⟩
theorem Qn:ak prog 20 [.d (SL none 2 Std.enc 1 exS),.d (.sl (some 1) 2 1 (rowsOf 2 [I 5,.sl (some 1) 1 1 (rowsOf 1 [I 1])]))] σ (.d (B true)):=by
 have h:=GC σ none (some 1) 1 1 exS (fun _=>⟨5,1,fun _=>1⟩) rfl aH (fun i hi=>by
  grind [Yf])
 have hsm:Same (.d (.sl (some 1) 2 1 (rowsOf 2 [I 5,.sl (some 1) 1 1 (rowsOf 1 [I 1])]))) (.d (SL (some 1) 2 Std.enc 1 (fun _=>⟨5,1,fun _=>1⟩))):=Hs (.inr rfl) fun i hi=>by
  obtain rfl:i=0:=by omega
  refine⟨rfl,fun k hk w j v hr=> ?_⟩;have hk2:k=0\/k=1:=aa;rcases hk2 with rfl|rfl
  ·exact hr
  ·exact RD.rows (.inl rfl) (LZ rfl) hr
 refine⟨h.1,fun j w vs h1 h2=>h.2 j w vs h1 ⟨h2.1,fun k hk=> ?_⟩⟩;have hk2:k=0\/k=1:=ai;rcases hk2 with rfl|rfl
 ·exact h2.2 0 an
 ·exact hsm _ _ _ (h2.2 1 an)
theorem N1:ak prog 21 [.d (SL none 3 ke.enc exV.nw exV.gw),.d (.sl (some 1) 3 1 (rowsOf 3 [I 3,I 7,I 0]))] σ (.d (B true)):=by
 have h:=Bp σ none (some 1) exV.nw 1 exV.gw (fun _=>⟨3,7,0⟩) (by have:=SC.nw;omega) aH;have hs:=Yg;have he:qH (lst exV.nw exV.gw) (lst 1 fun _=>(⟨3,7,0⟩:ke))=true:=by
  rw[hs.1];have:exV.gw 0=⟨3,7,0⟩:=by
   rcases hv:exV.gw 0 with⟨a,b,c⟩;grind
  grind [qH,lst]
 rw[he] at h;refine ak.sub h ⟨⟨.inr rfl,rfl,rfl,fun _ _=>rfl⟩,⟨.inr rfl,rfl,rfl,LZ rfl⟩,trivial⟩
theorem sF(h0:σ[0]? =some (.tab 0 dG))(h1:σ[1]? =some (.loc 1)):ak prog 5 [] σ (.d (B true)):=by
 refine ak.be func5 fun hwf=> ?_;refine wj fun K hK=> ?_;refine az.mk (UC _) (sm ?_);refine hK _ ?_;refine wP ?_;apply Mix.cw 10 [(8,none)] [[0,1,2,3,4,5]] [(.undef,(σ++[.var (eD.cells eD.aX)]))] T.mixed aD
 ·intro K hK;simp[go_sem];refine bK.mk (Nu _) (sm ?_);refine bK.mk (UB _ (ay h0) (ay h1)) (sm ?_);exact hK _ _
 ·refine Mix.aw ?_ (Mix.aW)
  ·intro K hK;simp[go_sem];grind
 ·refine Mix.aG ?_ (Mix.bn)
  ·simp[go_sem];all_goals first|rfl|skip
 intro K hK;refine wD hK ?_;refine aj fun K hK=>sm ?_;refine az.mk (J7 _ (ay h0) (ay h1)) (sm ?_);refine hK _ ?_;refine aj fun K hK=>sm ?_;refine az.mk (N5 _ (ay h0) (ay h1)) (sm ?_);refine hK _ ?_;refine aj fun K hK=>sm ?_;refine az.mk (N6 _ (ay h0) (ay h1)) (sm ?_);refine hK _ ?_;refine aj fun K hK=>sm ?_;refine az.mk (N4 _ (ay h0) (ay h1)) (sm ?_);refine hK _ ?_;refine aj fun K hK=>sm ?_;refine az.mk (N3 _ (ay h0) (ay h1)) (sm ?_);refine hK _ ?_;refine aj fun K hK=>sm ?_;refine cE.mk (Qn _) (sm ?_);refine cE.mk (N1 _) (sm ?_);try simp(disch:=omega) only[aS]
 refine hK _ ?_;exact af so
end Go.Proofs.YthpplckmbbachaaGreatDoor
