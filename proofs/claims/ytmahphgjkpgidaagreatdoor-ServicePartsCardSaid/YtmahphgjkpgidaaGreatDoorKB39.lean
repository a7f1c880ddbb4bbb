/- Contracts and lemmas, joined out of smaller texts by a program; no conditions. -/
import Derived.Test.YtmahphgjkpgidaaGreatDoorKB38
set_option linter.unusedVariables false
set_option linter.unusedSimpArgs false
set_option maxHeartbeats 2000000
set_option maxRecDepth 100000
namespace Go.Proofs.YtmahphgjkpgidaaGreatDoor
open Go.aU Go.dh Go.Proofs.Tryz
variable (σ : List aG)
def Fz(a b:Int):Int:=if a<b then-1 else if b<a then 1 else 0
def nU(e:Ev):kP:=⟨e.gn 0,⟨e.gn 1,e.gn 2⟩,e.gn 3,e.nn-4,fun i=>e.gn (4+i)⟩
def ssC(u:Use)(e:Ev):Nat->Int:=fun i=>Fz (u.P.gs i).Unit (e.gn 0)
def TJ(u:Use)(e:Ev):Nat:=Ur u.P.ns (ssC u e)
def ssP(u:Use)(e:Ev):oC:=if bsIs u.P.ns (ssC u e)=true then { u.P with gs:=iD u.P.gs (TJ u e) (nU e) } else { u.P with ns:=u.P.ns+1,gs:=lU u.P.gs (TJ u e) (nU e) }
def ssE(u:Use)(e:Ev):Int:=eP (ssP u e)
def ssU(u:Use)(e:Ev):Use:= { u with P:=ssP u e }
theorem ssP_ok{u:Use}{e:Ev}(hp:kF u.P)(hs:u.P.ns<=999)(hb:e.nn<=1000):kF (ssP u e):=by
 unfold ssP;split
 ·refine⟨hp.ns,hp.nc,hp.np,hp.na,hp.nm,fun i hi=> ?_,hp.nn⟩;show(iD u.P.gs (TJ u e) (nU e) i).np<=1000
  unfold iD;split
  ·simp[nU];omega
  ·exact hp.ps i hi
 ·refine⟨by show u.P.ns+1<=1000;omega,hp.nc,hp.np,hp.na,hp.nm,fun i hi=> ?_,hp.nn⟩;have hi':i<u.P.ns+1:=hi;show(lU u.P.gs (TJ u e) (nU e) i).np<=1000
  have hI:TJ u e<=u.P.ns:=bsAt_le _ _;unfold lU;split
  ·exact hp.ps i (by omega)
  ·split
   ·simp[nU];omega
   ·exact hp.ps (i-1) (by omega)
theorem YV(σ τ:List aG)(u:Use)(c:Option Nat)(m:Nat)(rg:Nat->Row)(e:Ev)(p:oC)(k:Int):CS prog 247 [.ptr σ.length 0,.agg (p.enc.map .d),.d (I k)] (σ++ .var (bg (u.cells u.bG) c m rg e)::τ) (fun r σ' X'=>X'=[]/\r= .d (I k)/\σ'=σ++ .var (if k=0 then bg ({ u with P:=p }.cells u.bG) c m rg e else bg (u.cells u.bG) c m rg e)::τ):=by
 by_cases hk:k=0
 ·subst hk;exact(setPo1_cs σ τ u c m rg e p).mono (by rintro r σ' X ⟨h1,h2,h3⟩;exact⟨h1,h2,by rw[if_pos rfl];exact h3⟩)
 ·exact(setPo0_cs σ τ u c m rg e p k hk).cs ⟨rfl,rfl,by rw[if_neg hk]⟩
theorem bsSbj_cs(c:Option Nat)(n:Nat)(g:Nat->kP)(u:Int)(f:FuncId)(cap:List AV)(p:Nat->Int)(hn:n<1000000000)(hf: ∀i,i<n->aA prog f (.agg ((g i).enc.map .d):: .d (I u)::cap) σ (.d (I (p i)))):aA prog 244 [.d (SL c 5 kP.enc n g),.d (I u),.clo (.func f) [] cap] σ (.eU [.d (I (Ur n p)),.d (B (bsIs n p))]):=by
 refine aA.bs true func244 fun hwf=> ?_;refine kQ (α:=Nat×Nat) true [0,1,2,8,9,10] (fun x=>[(9,.d (I x.1)),(10,.d (I x.2))]) (fun x=>_) (fun x=>x.1<=x.2/\x.2<=n/\Ur n p=lV p x.1 x.2) (fun x=>x.2-x.1) (0,n) ?_ (hx:=⟨Nat.zero_le _,Nat.le_refl _,rfl⟩);rintro⟨l,h⟩ ⟨hl,hh,hx⟩;dsimp only at hl hh hx;simp[go_sem];refine aJ [0,1,2,8,9,10] ?_ ?_<;>intro c0 d0
 ·rw[NR d0] at hx;obtain⟨k,hk⟩: ∃k,k=(l+h)/2:=⟨_,rfl⟩;have Z7:=half_eq (lo:=l) (hi:=h) (by omega);rw[←hk] at hx Z7;have hkb:l<=k/\k<h:=by omega
  have hwk:=wS k;simp(disch:=first|omega|simp) [go_sem,Z7,aH];repeat refine⟨by omega,?_⟩
  refine aO.mk (hf k (by omega)) ?_;simp(disch:=first|omega|simp) [go_sem];refine aJ [0,1,2,8,9,10,11] ?_ ?_<;>intro c1 d1
  ·simp(disch:=first|omega|simp) [go_sem,hwk];refine gB ((k+1,h)) ⟨by dsimp only;omega,by dsimp only;omega,by rw[hx,if_pos (by simpa using d1)]⟩ (h:=by simp[go_sem]<;>omega)
  ·simp[go_sem];refine gB ((l,k)) ⟨by dsimp only;omega,by dsimp only;omega,by rw[hx,if_neg (by simpa using d1)]⟩ (h:=by simp[go_sem]<;>omega)
 ·rw[NS (by omega)] at hx;simp[go_sem];refine go true (sm ?_);refine fM.mk' (.d (I (p l))) (fun hg=>hf l (by simpa using hg)) (sm ?_);refine aj ?_;simp[go_sem,bsIs,hx]
theorem Xj(τ:List aG)(n:Nat)(g:Nat->kP)(x:kP)(i:Nat)(hi:i<=n)(hn:n<1000000000):CS prog 246 [.ms σ.length 5 0 n,.d (I i),.d (.sl (some 1) 5 1 (rowsOf 5 (kP.enc x)))] (σ++ .arr 5 n (fun i=>kP.enc (g i))::τ) (fun r σ' X'=>X'=[σ.length]/\r= .d (SL none 5 kP.enc (n+1) (lU g i x))/\σ'=σ.map (bQ [σ.length])++ .dead::τ.map (bQ [σ.length])):=by
 have h1:((i:Int)+1).toNat=i+1:=by omega
 have h2:((n:Int)+1-(i:Int)).toNat=n+1-i:=by omega
 have h3:i+(n+1-i)=n+1:=by omega
 have h4:((n:Int)+1-((i:Int)+1)).toNat=n-i:=by omega
 have h5:((n:Int)-(i:Int)).toNat=n-i:=by omega
 have h6:((n:Int)+1).toNat=n+1:=by omega
 have h7:min (n+1-i) (n-i)=n-i:=by omega
 refine CS.beD [σ.length] func246 fun hwf=> ?_;refine ak fun K hK=> ?_;simp[go_sem];refine hK _ ?_;refine ak fun K hK=> ?_;simp[go_sem,h5,hi];refine hK _ ?_;refine ak fun K hK=> ?_;simp[go_sem];refine hK _ ?_;refine aK ?_;refine ak fun K hK=> ?_;simp[go_sem];refine hK _ ?_;refine tq [0,1,2,7,16] ?_;refine acn rfl ?_ ?_<;>intro c0 d0<;>try simp at d0
 ·refine aX ?_;refine ak fun K hK=> ?_;simp[go_sem];refine hK _ ?_;refine aK ?_;refine ak fun K hK=> ?_;simp[go_sem];refine hK _ ?_;refine tq [0,1,2,7,8,22] ?_;refine jr ?_ ?_<;>intro c1 d1
  ·obtain rfl:n=i:=by omega
   refine ak fun K hK=> ?_;simp[go_sem];repeat refine⟨by omega,?_⟩
   refine hK _ ?_;refine aY σ.length (fun q=>kP.enc (lU g n x q)) (by simp[go_sem];exact⟨rfl,rfl,rfl⟩) (by intro q hq;unfold bf lU;split;rfl;rw[if_pos (show q=n by omega),show q-n=0 by omega];simp[rowsOf,kP.enc]) (by simp[go_sem];rfl) ?_;refine yA σ.length (by simp[go_sem];exact⟨rfl,rfl,rfl⟩) (by simp[go_sem];rfl) (by simp[go_sem];rfl) ?_;refine aj ?_;simp[go_sem,L6];exact lF _
  ·have hlt:i<n:=by omega
   refine aX ?_;refine aK ?_;refine awp_mc 0 (by simp[go_sem];first|exact⟨rfl,rfl,rfl,rfl⟩|rfl) fun q hq=> ?_;refine ak fun K hK=> ?_;simp[go_sem,c1];try simp(disch:=omega) only[aH]
   refine hK _ ?_;refine tq [0,1,2,7,8,31] ?_;refine jr ?_ ?_<;>intro c2 d2
   ·have CU:q=n:=by omega
    subst CU;refine ak fun K hK=> ?_;simp[go_sem,hi,d2];try simp(disch:=omega) only[aH]
    repeat refine⟨by omega,?_⟩
    refine hK _ ?_;refine ak fun K hK=> ?_;simp[go_sem,h2,h3,h6];repeat refine⟨by omega,?_⟩
    refine hK _ ?_;refine jT 8 T.mixed (by kernel_rfl) fun K hK=> ?_;simp[go_sem,h5,h6,hi];try simp(disch:=omega) only[aH]
    repeat refine⟨by omega,?_⟩
    refine hK _ ?_;refine ak fun K hK=> ?_;simp[go_sem,h1,h4];refine hK _ ?_;obtain⟨hp1,hp2⟩:=hwf.parts 0;simp only[List.length_append,List.length_cons,Nat.add_zero] at hp1 hp2;refine aY (σ.length+(τ.length+1)) (fun p=>kP.enc (lU g i x p)) (by simp[go_sem];exact⟨rfl,rfl,rfl⟩) (by
     intro p hp;simp only[setRows,bf,lU];rcases Nat.lt_trichotomy p i with h|h|h
     ·rw[if_neg (by omega),if_neg (by omega),if_pos h,if_pos h];rfl
     ·subst h;rw[if_neg (by omega),if_pos (by omega),if_neg (by omega),if_pos rfl,Nat.sub_self];simp[rowsOf,kP.enc]
     ·rw[if_pos (by omega),if_neg (by omega),if_neg (by omega),show i+(p-(i+1))=p-1 by omega];rfl) (by simp[go_sem];rfl) ?_
    refine yA (σ.length+(τ.length+1)) (by simp[go_sem];exact⟨rfl,rfl,rfl⟩) (by simp[go_sem];rfl) (by simp[go_sem,hp1,hp2];rfl) ?_;refine yx σ.length (by simp[go_sem];rfl) (by simp[go_sem];rfl) ?_;refine aj ?_;simp[go_sem];exact lF _
   ·have CU:n+1<=q:=by omega
    refine aX ?_;refine awp_room 0 (by simp[go_sem];first|exact⟨rfl,rfl,rfl,rfl,rfl⟩|rfl) (by simp[go_sem];exact⟨rfl,rfl⟩) (by omega) fun row' hrow=> ?_;refine ak fun K hK=> ?_;simp[go_sem,c2];try simp(disch:=omega) only[aH]
    repeat refine⟨by omega,?_⟩
    refine hK _ ?_;refine aK ?_;refine ak fun K hK=> ?_;simp[go_sem,h6,d2];try simp(disch:=omega) only[aH]
    repeat refine⟨by omega,?_⟩
    refine aO.ext (XS.UZ f316 22 4 113 5 func316 rfl rfl rfl rfl rfl (fun w=>rfl) (b:=σ.length) (by simp[go_sem];exact⟨rfl,rfl⟩) (by omega) (by omega) (by omega) (by omega)) ?_;simp[go_sem,h1,h4];refine hK _ ?_;refine tq [0,1,2,7,8,68] ?_;refine acn rfl ?_ ?_<;>intro c3 d3<;>try simp at d3
    ·refine jT 8 T.mixed (by kernel_rfl) fun K hK=> ?_;simp[go_sem,h2,d2];try simp(disch:=omega) only[aH]
     simp only[h1,h4,h7];repeat refine⟨by omega,?_⟩
     refine⟨fun p hp=>by rw[hrow _ (by omega)];simp[go_sem],?_⟩;repeat refine⟨by omega,?_⟩
     refine hK _ ?_;refine ak fun K hK=> ?_;simp[go_sem,h2,h3,d2];repeat refine⟨by omega,?_⟩
     refine hK _ ?_;refine ak fun K hK=> ?_;simp[go_sem];refine hK _ ?_;refine VI 6 (by simp[go_sem];first|exact⟨rfl,rfl,rfl,rfl,rfl⟩|rfl) ?_;refine qN σ.length (n+1) (fun p=>kP.enc (lU g i x p)) (by simp[go_sem];exact⟨rfl,rfl,rfl⟩) (by omega) (by
      intro p hp;simp only[setRows,lU];rcases Nat.lt_trichotomy p i with h|h|h
      ·rw[if_neg (by omega),if_neg (by omega),if_pos h,hrow _ (by omega)];rfl
      ·subst h;rw[if_pos (by omega),if_neg (by omega),if_pos rfl,Nat.sub_self];simp[rowsOf,kP.enc]
      ·rw[if_neg (by omega),if_pos (by omega),if_neg (by omega),if_neg (by omega),hrow _ (by omega),show i+(p-(i+1))=p-1 by omega];rfl) (by simp[go_sem];rfl) ?_
     refine yA σ.length (by simp[go_sem];exact⟨rfl,rfl,rfl⟩) (by simp[go_sem];rfl) (by simp[go_sem];rfl) ?_;refine aj ?_;simp[go_sem];exact lF _
theorem Jy(a:Int):aA prog 280 [.d (I a)] σ (.d (B false)):=by
 refine aA.bs true func280 fun hwf=> ?_;exact aj so
theorem SI(a b:Int):aA prog 233 [.d (I a),.d (I b)] σ (.d (I (Fz a b))):=by
 refine aA.bs true func233 fun hwf=> ?_;refine aO.mk (Jy _ a) (sm ?_);refine aO.mk (Jy _ b) (sm ?_);refine cn [0,1,6] rfl ?_ ?_<;>intro c0 d0<;>try simp at d0
 ·simp[go_sem];refine cn [0,1] rfl ?_ ?_<;>intro c1 d1<;>try simp at d1
  ·simp[go_sem];refine aJ [0,1] ?_ ?_<;>intro c2 d2
   ·have hz:Fz a b= -1:=by unfold Fz;rw[if_pos d2]
    simp[go_sem];rw[hz];exact aj sc
   ·simp[go_sem];refine aJ [] ?_ ?_<;>intro c3 d3
    ·have hz:Fz a b=1:=by unfold Fz;rw[if_neg (by omega),if_pos d3]
     simp[go_sem];rw[hz];exact aj sc
    ·have hz:Fz a b=0:=by unfold Fz;rw[if_neg (by omega),if_neg (by omega)]
     simp[go_sem];rw[hz];exact aj sc
theorem svc_ss1_cs(x:kP)(k:Int):aA prog 245 [.agg (x.enc.map .d),.d (I k)] σ (.d (I (Fz x.Unit k))):=by
 refine aA.bs true func245 fun hwf=> ?_;refine aO.mk (SI _ x.Unit k) (sm ?_);exact aj so
theorem GY(u:Use)(c:Option Nat)(m:Nat)(rg:Nat->Row)(e:Ev)(hu:dB u)(hs:u.P.ns<=999)(hn:4<=e.nn)(hb:e.nn<=1000)(h1:σ[1]? =some (.loc 1))(gy:lS σ):CS prog 159 [.ptr σ.length 0] (σ++[.var (bg (u.cells u.bG) c m rg e)]) (fun r σ' X'=>X'=[]/\r= .d (I (ssE u e))/\∃cs,σ'=σ++[.var cs]/\(ssE u e=0->cs=bg ((ssU u e).cells (ssU u e).bG) c m rg e)):=by
 have b1:=hu.P.ns;have h4:((e.nn:Int)-4).toNat=e.nn-4:=by omega
 have hcs:(fun i=>Fz (u.P.gs i).Unit (e.gn 0))=ssC u e:=rfl;have hI:TJ u e<=u.P.ns:=bsAt_le _ _;have hIe:Ur u.P.ns (ssC u e)=TJ u e:=rfl;have hpo:=ssP_ok hu.P hs hb;refine CS.bdD true [] func159 fun hwf=> ?_;simp[go_sem];apply bW 18 17 19 T.mixed (by kernel_rfl)
 ·intro τ K hK;simp[go_sem,h4];repeat refine⟨by omega,?_⟩
  refine dF.mk (uf _ (e.cn.map fun x=>x-4) (e.nn-4) (fun i=>e.gn (4+i)) (by omega)) ?_;simp[go_sem];exact hK _ _
 intro K hK;simp[go_sem];refine hK _ ?_;refine go true ?_;simp[go_sem];refine T.dr 13 fun K hK=> ?_;simp[go_sem];refine dF.mk (bsSbj_cs _ none u.P.ns u.P.gs (e.gn 0) _ [] (ssC u e) (by omega) (fun i hi=>svc_ss1_cs _ (u.P.gs i) (e.gn 0))) ?_;simp[go_sem];refine hK _ ?_;refine go true ?_;simp[go_sem];refine aO.gen (JB _ none u.P.ns u.P.gs (by omega)) ?_;rintro r σ' X ⟨rfl,rfl,rfl⟩;simp[go_sem];refine aJ [0,4,5,7] ?_ ?_<;>intro c0 d0
 ·have hh:bsIs u.P.ns (ssC u e)=true:=by simpa using d0
  have hp:ssP u e= { u.P with gs:=iD u.P.gs (TJ u e) (nU e) } :=if_pos hh;have hlt:TJ u e<u.P.ns:=by unfold bsIs at hh;simp only[Bool.and_eq_true,decide_eq_true_eq] at hh;exact hh.1
  rw[hp] at hpo;simp[go_sem,hlt,hIe];refine aY (σ.length+3) (fun q=>kP.enc (iD u.P.gs (TJ u e) (nU e) q)) (by simp[go_sem];exact⟨rfl,rfl,rfl⟩) (by intro q hq;unfold iD;by_cases h:q=TJ u e<;>simp[h,kP.enc,nU]) (by simp[go_sem];rfl) ?_;refine aF gy (σ.length+3) ?_;refine T.dr 7 fun K hK=> ?_;simp[go_sem];refine dF.mk (mP _ { u.P with gs:=iD u.P.gs (TJ u e) (nU e) } hpo (aC h1)) ?_;simp[go_sem];refine aO.gen (YV σ _ u c m rg e { u.P with gs:=iD u.P.gs (TJ u e) (nU e) } (eP { u.P with gs:=iD u.P.gs (TJ u e) (nU e) })) ?_;rintro r σ' X ⟨rfl,rfl,rfl⟩;simp[go_sem];refine hK _ ?_;refine go true ?_;simp[go_sem];refine aj ?_;unfold ssE ssU;rw[hp];by_cases hk:eP { u.P with gs:=iD u.P.gs (TJ u e) (nU e) } =0
  ·simp[go_sem,hk];exact au (by simp[go_sem,ay])
  ·simp[go_sem,hk];refine dP ?_;exact .refl _
 ·have hh: ¬bsIs u.P.ns (ssC u e)=true:=by simpa using d0
  have hp:ssP u e= { u.P with ns:=u.P.ns+1,gs:=lU u.P.gs (TJ u e) (nU e) } :=if_neg hh;rw[hp] at hpo;simp[go_sem,hIe];have h:=nA (Xj (σ++[.var (bg (u.cells u.bG) c m rg e),.var ((nU e).enc.map .d),.var [.ms (σ.length+3) 5 0 u.P.ns,.d (SL none 6 Rule.enc u.P.nc u.P.gc),.d (SL none 6 iq.enc u.P.np u.P.gp),.d (I u.P.jI),.d (SL none 6 jW.enc u.P.na u.P.ga),.d (SL none 6 jG.enc u.P.nm u.P.gm)]]) [] u.P.ns u.P.gs (nU e) (TJ u e) hI (by omega));refine aO.gen h ?_;rintro r σ' X ⟨rfl,rfl,rfl⟩;simp[go_sem,gy.one];refine T.dr 7 fun K hK=> ?_;simp[go_sem];refine dF.mk (mP _ { u.P with ns:=u.P.ns+1,gs:=lU u.P.gs (TJ u e) (nU e) } hpo (aC h1)) ?_;simp[go_sem];refine aO.gen (YV σ _ u c m rg e { u.P with ns:=u.P.ns+1,gs:=lU u.P.gs (TJ u e) (nU e) } (eP { u.P with ns:=u.P.ns+1,gs:=lU u.P.gs (TJ u e) (nU e) })) ?_;rintro r σ' X ⟨rfl,rfl,rfl⟩;simp[go_sem];refine hK _ ?_;refine go true ?_;simp[go_sem];refine aj ?_;unfold ssE ssU;rw[hp];by_cases hk:eP { u.P with ns:=u.P.ns+1,gs:=lU u.P.gs (TJ u e) (nU e) } =0
  ·simp[go_sem,hk];exact au (by simp[go_sem,ay])
  ·simp[go_sem,hk];refine dP ?_;exact .refl _
end Go.Proofs.YtmahphgjkpgidaaGreatDoor
