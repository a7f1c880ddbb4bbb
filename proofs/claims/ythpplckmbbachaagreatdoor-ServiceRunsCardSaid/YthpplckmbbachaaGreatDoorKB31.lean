/- Lemmas, no conditions. -/
import Derived.Test.YthpplckmbbachaaGreatDoorKB30
set_option linter.unusedVariables false
set_option linter.unusedSimpArgs false
set_option maxHeartbeats 2000000
set_option maxRecDepth 100000
namespace Go.Proofs.YthpplckmbbachaaGreatDoor
open Go.aI Go.bI Go.Proofs.Tryz
variable (σ : List aZ)
def oI(a b:Int):Int:=if a<b then-1 else if b<a then 1 else 0
def eF(e:Ev):ej:=⟨e.gn 0,⟨e.gn 1,e.gn 2⟩,e.gn 3,e.nn-4,fun i=>e.gn (4+i)⟩
def PI(u:Use)(e:Ev):Nat->Int:=fun i=>oI (u.P.gs i).Unit (e.gn 0)
def rC(u:Use)(e:Ev):Nat:=FU u.P.ns (PI u e)
def Gp(u:Use)(e:Ev):u5:=if FT u.P.ns (PI u e)=true then { u.P with gs:=cJ u.P.gs (rC u e) (eF e) } else { u.P with ns:=u.P.ns+1,gs:=fe u.P.gs (rC u e) (eF e) }
def Wz(u:Use)(e:Ev):Int:=bL (Gp u e)
def VI(u:Use)(e:Ev):Use:= { u with P:=Gp u e }
theorem PH{u e}(hp:dT u.P)(hs:u.P.ns<=999)(hb:e.nn<=1000):dT (Gp u e):=by
 unfold Gp;split
 ·refine⟨hp.ns,hp.nc,hp.np,hp.na,hp.nm,fun i hi=> ?_,hp.nn⟩;show(cJ u.P.gs (rC u e) (eF e) i).np<=1000
  unfold cJ;split
  ·simp[eF];omega
  ·exact hp.ps i hi
 ·refine⟨by show u.P.ns+1<=1000;omega,hp.nc,hp.np,hp.na,hp.nm,fun i hi=> ?_,hp.nn⟩;have hi':i<u.P.ns+1:=hi;show(fe u.P.gs (rC u e) (eF e) i).np<=1000
  have hI:rC u e<=u.P.ns:=KG _ _;unfold fe;split
  ·exact hp.ps i aa
  ·split
   ·simp[eF];omega
   ·exact hp.ps (i-1) aa
theorem LK(σ τ)(u:Use)(c m rg e p k):CS prog 306 [.ptr σ.length 0,.agg (p.enc.map .d),.d (I k)] (σ++ .var (bm (u.cells u.aX) c m rg e)::τ) (fun r σ' X'=>X'=[]/\r= .d (I k)/\σ'=σ++ .var (if k=0 then bm ({ u with P:=p }.cells u.aX) c m rg e else bm (u.cells u.aX) c m rg e)::τ):=by
 by_cases hk:k=0
 ·subst hk;exact(TH σ τ u c m rg e p).mono (by rintro r σ' X ⟨h1,h2,h3⟩;exact⟨h1,h2,by rw[if_pos rfl];exact h3⟩)
 ·exact(TI σ τ u c m rg e p k hk).cs ⟨rfl,rfl,by rw[if_neg hk]⟩
theorem YO(c n g u f cap p)(hn:n<1000000000)(hf: ∀i,i<n->ak prog f (.agg ((g i).enc.map .d):: .d (I u)::cap) σ (.d (I (p i)))):ak prog 303 [.d (SL c 5 ej.enc n g),.d (I u),.clo (.func f) [] cap] σ (.cj [.d (I (FU n p)),.d (B (FT n p))]):=by
 refine ak.bt func303 ?_;refine dm (α:=Nat×Nat) true [0,1,2,8,9,10] (fun x=>[(9,.d (I x.1)),(10,.d (I x.2))]) (fun x=>_) (fun x=>x.1<=x.2/\x.2<=n/\FU n p=fI p x.1 x.2) (fun x=>x.2-x.1) (0,n) ?_ (hx:=⟨Nat.zero_le _,Nat.le_refl _,rfl⟩);rintro⟨l,h⟩ ⟨hl,hh,hx⟩;dsimp only at hl hh hx;refine gc [0,1,2,8,9,10] ?_ ?_<;>intro d0
 ·rw[By d0] at hx;obtain⟨k,hk⟩: ∃k,k=(l+h)/2:=⟨_,rfl⟩;have NK:=Sw (lo:=l) (hi:=h) aa;rw[←hk] at hx NK;have hkb:l<=k/\k<h:=aa;have hwk:=wS k;simp(disch:=first|omega|simp) [go_sem,NK,aS];repeat refine⟨aa,?_⟩
  refine az.mk (hf k aa) ?_;refine wI ?_;refine dH [0,1,2,8,9,10,11] ?_ ?_<;>intro d1
  ·simp(disch:=first|omega|simp) [go_sem,hwk];refine bF ((k+1,h)) ⟨Dm,Dm,by rw[hx,if_pos ku]⟩ (h:=aR)
  ·simp[go_sem];refine bF ((l,k)) ⟨Dm,Dm,abD⟩ (h:=aR)
 ·rw[Bz aa] at hx;refine wF ?_;refine cE.mk' (.d (I (p l))) (fun hg=>hf l (by simpa using hg)) (sm ?_);refine af ?_;simp[go_sem,FT,hx]
theorem JW(τ n g x i)(hi:i<=n)(hn:n<1000000000):CS prog 305 [.ms σ.length 5 0 n,.d (I i),.d (.sl (some 1) 5 1 (rowsOf 5 (ej.enc x)))] (σ++ .arr 5 n (fun i=>ej.enc (g i))::τ) (fun r σ' X'=>X'=[σ.length]/\r= .d (SL none 5 ej.enc (n+1) (fe g i x))/\σ'=σ.map (bP [σ.length])++ .dead::τ.map (bP [σ.length])):=by
 have h1:((i:Int)+1).toNat=i+1:=aa;have h2:((n:Int)+1-(i:Int)).toNat=n+1-i:=aa;have h3:i+(n+1-i)=n+1:=aa;have h4:((n:Int)+1-((i:Int)+1)).toNat=n-i:=aa;have h5:((n:Int)-(i:Int)).toNat=n-i:=aa;have h6:((n:Int)+1).toNat=n+1:=aa;have h7:min (n+1-i) (n-i)=n-i:=aa;refine CS.beD [σ.length] func305 fun hwf=> ?_;refine wE ?_;refine aj fun K hK=> ?_;simp[go_sem,h5,hi];refine wY hK fun K hK=> ?_;refine hK _ ?_;refine aq ?_;refine wE ?_;refine gF [0,1,2,7,16] ?_;refine acn rfl ?_ ?_<;>intro c0 d0<;>try simp at d0
 ·refine aJ ?_;refine wE ?_;refine aq ?_;refine wE ?_;refine gF [0,1,2,7,8,22] ?_;refine fL ?_ ?_<;>intro c1 d1
  ·obtain rfl:n=i:=by omega
   refine wV fun K hK=> ?_;refine wG hK ?_;refine ax σ.length (fun q=>ej.enc (fe g n x q)) bj (by intro q hq;unfold aO fe;split;rfl;rw[if_pos (show q=n by omega),show q-n=0 by omega];simp[rowsOf,ej.enc]) aN ?_;refine pU σ.length bj aN aN ?_;refine af ?_;simp[go_sem,AJ];exact ic _
  ·have hlt:i<n:=aa;refine aJ ?_;refine aq ?_;refine YZ 0 (by simp[go_sem];first|exact⟨rfl,rfl,rfl,rfl⟩|rfl) fun q hq=> ?_;refine aj fun K hK=> ?_;simp[go_sem,c1];try simp(disch:=omega) only[aS]
   refine hK _ ?_;refine gF [0,1,2,7,8,31] ?_;refine fL ?_ ?_<;>intro c2 d2
   ·have vB:q=n:=aa;subst vB;refine aj fun K hK=> ?_;simp[go_sem,hi,d2];try simp(disch:=omega) only[aS]
    refine wG hK ?_;refine aj fun K hK=> ?_;simp[go_sem,h2,h3,h6];refine wG hK ?_;refine im 8 T.mixed aD fun K hK=> ?_;simp[go_sem,h5,h6,hi];try simp(disch:=omega) only[aS]
    refine wG hK ?_;refine aj fun K hK=> ?_;simp[go_sem,h1,h4];refine hK _ ?_;obtain⟨hp1,hp2⟩:=hwf.parts 0;simp only[List.length_append,List.length_cons,Nat.add_zero] at hp1 hp2;refine ax (σ.length+(τ.length+1)) (fun p=>ej.enc (fe g i x p)) bj (by
     intro p hp;simp only[setRows,aO,fe];rcases Nat.lt_trichotomy p i with h|h|h
     ·rw[if_neg aa,if_neg aa,if_pos h,if_pos h];rfl
     ·subst h;rw[if_neg aa,if_pos aa,if_neg aa,if_pos rfl,Nat.sub_self];simp[rowsOf,ej.enc]
     ·rw[if_pos aa,if_neg aa,if_neg aa,show i+(p-(i+1))=p-1 by omega];rfl) aN ?_
    refine pU (σ.length+(τ.length+1)) bj aN (by simp[go_sem,hp1,hp2];rfl) ?_;refine lY σ.length aN aN ?_;refine af ?_;simp[go_sem];exact ic _
   ·have vB:n+1<=q:=aa;refine aJ ?_;refine OY 0 Rc v7 aa fun row' hrow=> ?_;refine aj fun K hK=> ?_;simp[go_sem,c2];try simp(disch:=omega) only[aS]
    refine wG hK ?_;refine aq ?_;refine aj fun K hK=> ?_;simp[go_sem,h6,d2];try simp(disch:=omega) only[aS]
    repeat refine⟨aa,?_⟩
    refine az.ext (XS.HE f370 22 4 90 5 func370 rfl rfl rfl rfl rfl (fun w=>rfl) (b:=σ.length) v7 aa aa aa aa) ?_;simp[go_sem,h1,h4];refine hK _ ?_;refine gF [0,1,2,7,8,68] ?_;refine acn rfl ?_ ?_<;>intro c3 d3<;>try simp at d3
    ·refine im 8 T.mixed aD fun K hK=> ?_;simp[go_sem,h2,d2];try simp(disch:=omega) only[aS]
     simp only[h1,h4,h7];repeat refine⟨aa,?_⟩
     refine⟨fun p hp=>by rw[hrow _ aa];simp[go_sem],?_⟩;refine wG hK ?_;refine aj fun K hK=> ?_;simp[go_sem,h2,h3,d2];refine wG hK ?_;refine wE ?_;refine Ip 6 Rc ?_;refine lq σ.length (n+1) (fun p=>ej.enc (fe g i x p)) bj aa (by
      intro p hp;simp only[setRows,fe];rcases Nat.lt_trichotomy p i with h|h|h
      ·rw[if_neg aa,if_neg aa,if_pos h,hrow _ aa];rfl
      ·subst h;rw[if_pos aa,if_neg aa,if_pos rfl,Nat.sub_self];simp[rowsOf,ej.enc]
      ·rw[if_neg aa,if_pos aa,if_neg aa,if_neg aa,hrow _ aa,show i+(p-(i+1))=p-1 by omega];rfl) aN ?_
     refine pU σ.length bj aN aN ?_;refine af ?_;simp[go_sem];exact ic _
theorem yf(a):ak prog 345 [.d (I a)] σ (.d (B false)):=by
 refine ak.bt func345 ?_;exact af so
theorem FE(a b):ak prog 292 [.d (I a),.d (I b)] σ (.d (I (oI a b))):=by
 refine ak.bt func292 ?_;refine az.mk (yf _ a) (sm ?_);refine az.mk (yf _ b) (sm ?_);refine cn [0,1,6] rfl ?_ ?_<;>intro c0 d0<;>try simp at d0
 ·simp[go_sem];refine cn [0,1] rfl ?_ ?_<;>intro c1 d1<;>try simp at d1
  ·refine gc [0,1] ?_ ?_<;>intro d2
   ·have hz:oI a b= -1:=by unfold oI;rw[if_pos d2]
    exact sx hz
   ·refine gc [] ?_ ?_<;>intro d3
    ·have hz:oI a b=1:=by unfold oI;rw[if_neg aa,if_pos d3]
     exact sx hz
    ·have hz:oI a b=0:=by unfold oI;rw[if_neg aa,if_neg aa]
     exact sx hz
theorem Pu(x:ej)(k):ak prog 304 [.agg (x.enc.map .d),.d (I k)] σ (.d (I (oI x.Unit k))):=by
 refine ak.bt func304 ?_;refine az.mk (FE _ x.Unit k) (sm ?_);exact af so
theorem wu(u c m rg e)(hu:br u)(hs:u.P.ns<=999)(hn:4<=e.nn)(hb:e.nn<=1000)(h1:σ[1]? =some (.loc 1))(bc:gJ σ):CS prog 213 [.ptr σ.length 0] (σ++[.var (bm (u.cells u.aX) c m rg e)]) (fun r σ' X'=>X'=[]/\r= .d (I (Wz u e))/\∃cs,σ'=σ++[.var cs]/\(Wz u e=0->cs=bm ((VI u e).cells (VI u e).aX) c m rg e)):=by
 have b1:=hu.P.ns;have h4:((e.nn:Int)-4).toNat=e.nn-4:=aa;have hcs:(fun i=>oI (u.P.gs i).Unit (e.gn 0))=PI u e:=rfl;have hI:rC u e<=u.P.ns:=KG _ _;have hIe:FU u.P.ns (PI u e)=rC u e:=rfl;have hpo:=PH hu.P hs hb;refine CS.Gc true [] func213 fun hwf=> ?_;simp[go_sem];apply cU 18 17 19 T.mixed aD
 ·intro τ K hK;simp[go_sem,h4];repeat refine⟨aa,?_⟩
  refine bK.mk (mL _ (e.cn.map fun x=>x-4) (e.nn-4) (fun i=>e.gn (4+i)) aa) ?_;simp[go_sem];exact hK _ _
 intro K hK;refine wg hK ?_;refine T.dr 13 fun K hK=> ?_;simp[go_sem];refine bK.mk (YO _ none u.P.ns u.P.gs (e.gn 0) _ [] (PI u e) aa (fun i hi=>Pu _ (u.P.gs i) (e.gn 0))) ?_;refine wg hK ?_;refine az.gen (yi _ none u.P.ns u.P.gs aa) ?_;rintro r σ' X ⟨rfl,rfl,rfl⟩;refine gc [0,4,5,7] ?_ ?_<;>intro d0
 ·have hh:FT u.P.ns (PI u e)=true:=l5;have hp:Gp u e= { u.P with gs:=cJ u.P.gs (rC u e) (eF e) } :=if_pos hh;have hlt:rC u e<u.P.ns:=by unfold FT at hh;simp only[Bool.and_eq_true,decide_eq_true_eq] at hh;exact hh.1
  rw[hp] at hpo;simp[go_sem,hlt,hIe];refine ax (σ.length+3) (fun q=>ej.enc (cJ u.P.gs (rC u e) (eF e) q)) bj (by intro q hq;unfold cJ;by_cases h:q=rC u e<;>simp[h,ej.enc,eF]) aN ?_;refine aF bc (σ.length+3) ?_;refine T.dr 7 fun K hK=> ?_;simp[go_sem];refine bK.mk (iN _ { u.P with gs:=cJ u.P.gs (rC u e) (eF e) } hpo (ay h1)) ?_;simp[go_sem];refine az.gen (LK σ _ u c m rg e { u.P with gs:=cJ u.P.gs (rC u e) (eF e) } (bL { u.P with gs:=cJ u.P.gs (rC u e) (eF e) })) ?_;rintro r σ' X ⟨rfl,rfl,rfl⟩;refine wQ hK ?_;unfold Wz VI;rw[hp];by_cases hk:bL { u.P with gs:=cJ u.P.gs (rC u e) (eF e) } =0
  ·simp[go_sem,hk];exact ae bf
  ·simp[go_sem,hk];refine cF ?_;exact .refl _
 ·have hh: ¬FT u.P.ns (PI u e)=true:=l5;have hp:Gp u e= { u.P with ns:=u.P.ns+1,gs:=fe u.P.gs (rC u e) (eF e) } :=if_neg hh;rw[hp] at hpo;simp[go_sem,hIe];have h:=nA (JW (σ++[.var (bm (u.cells u.aX) c m rg e),.var ((eF e).enc.map .d),.var [.ms (σ.length+3) 5 0 u.P.ns,.d (SL none 6 Rule.enc u.P.nc u.P.gc),.d (SL none 6 dF.enc u.P.np u.P.gp),.d (I u.P.dE),.d (SL none 6 fM.enc u.P.na u.P.ga),.d (SL none 6 fu.enc u.P.nm u.P.gm)]]) [] u.P.ns u.P.gs (eF e) (rC u e) hI aa);refine az.gen h ?_;rintro r σ' X ⟨rfl,rfl,rfl⟩;simp[go_sem,bc.one];refine T.dr 7 fun K hK=> ?_;simp[go_sem];refine bK.mk (iN _ { u.P with ns:=u.P.ns+1,gs:=fe u.P.gs (rC u e) (eF e) } hpo (ay h1)) ?_;simp[go_sem];refine az.gen (LK σ _ u c m rg e { u.P with ns:=u.P.ns+1,gs:=fe u.P.gs (rC u e) (eF e) } (bL { u.P with ns:=u.P.ns+1,gs:=fe u.P.gs (rC u e) (eF e) })) ?_;rintro r σ' X ⟨rfl,rfl,rfl⟩;refine wQ hK ?_;unfold Wz VI;rw[hp];by_cases hk:bL { u.P with ns:=u.P.ns+1,gs:=fe u.P.gs (rC u e) (eF e) } =0
  ·simp[go_sem,hk];exact ae bf
  ·simp[go_sem,hk];refine cF ?_;exact .refl _
end Go.Proofs.YthpplckmbbachaaGreatDoor
