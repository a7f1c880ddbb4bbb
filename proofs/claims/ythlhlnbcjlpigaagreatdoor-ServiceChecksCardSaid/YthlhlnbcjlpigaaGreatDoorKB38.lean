/- Contracts and lemmas, joined out of smaller texts by a program; no conditions. -/
import Derived.Test.YthlhlnbcjlpigaaGreatDoorKB37
set_option linter.unusedVariables false
set_option linter.unusedSimpArgs false
set_option maxHeartbeats 2000000
set_option maxRecDepth 100000
namespace Go.Proofs.YthlhlnbcjlpigaaGreatDoor
open Go.aU Go.bY Go.Proofs.Tryz
variable (σ : List aC)
theorem Rq{c c':Option Nat}{sz n:Nat}{row row':Nat->List D}(hc:c'=none\/c'=c)(hr: ∀i,i<n->(row' i).length=(row i).length/\∀k,k<sz->∀w j v,RD w j ((row i).getD k default) v->RD w j ((row' i).getD k default) v):Same (.d (.sl c sz n row)) (.d (.sl c' sz n row')):=by
 refine .d fun w j v h=> ?_;have hcap: ∀q:Nat,(c=none\/c=some q)->(c'=none\/c'=some q):=fun q hq=>by
  rcases hc with rfl|rfl
  ·exact .inl rfl
  ·exact hq
 cases h with
 |sl a q val h1 h2 h3 h4 h5 h6 h7 h8=>exact .sl a q val (hcap q h1) h2 h3 h4 h5 (fun i hi=>by rw[(hr i hi).1];exact h6 i hi) h7 (fun i hi k hk=>(hr i hi).2 k hk _ _ _ (h8 i hi k hk))
 |zero p q h1 h2=>exact .zero p q (hcap q h1) h2
theorem same_res{P:Program}{f:FuncId}{args:List AV}{σ:List aC}{r r':AV}(h:ay P f args σ r)(hs:Same r r'):ay P f args σ r':=
 ⟨h.1,fun j w vs h1 h2=>(h.2 j w vs h1 h2).mono (by
  rintro e w' ⟨v,r1,σ1,j1,X,h5,h6,h7,h8,h9,h10,h11⟩;obtain⟨rfl,h12⟩:=h11;exact⟨v,r',σ1,j1,X,h5,h6,hs _ _ _ h7,h8,h9,h10,rfl,h12⟩)⟩
def kH(id k:Int)(l:List Int):Ev:=⟨id,0,k,none,l.length,nth l,none,0,fun _=> .empty⟩
def HY:List Ev:=[kH 1 48 [1,100,90,0],kH 2 51 [5,1,150,0],kH 3 49 [1,0,7,20],kH 4 52 [1,1,5],kH 5 56 [1,3,0,10],kH 6 53 [1,3,7]]
def exD:List D:=[I 1,I 0,I 48,.sl (some 4) 1 4 (rowsOf 1 [I 1,I 100,I 90,I 0]),.v (.slice none 0 0),I 2,I 0,I 51,.sl (some 4) 1 4 (rowsOf 1 [I 5,I 1,I 150,I 0]),.v (.slice none 0 0),I 3,I 0,I 49,.sl (some 4) 1 4 (rowsOf 1 [I 1,I 0,I 7,I 20]),.v (.slice none 0 0),I 4,I 0,I 52,.sl (some 3) 1 3 (rowsOf 1 [I 1,I 1,I 5]),.v (.slice none 0 0),I 5,I 0,I 56,.sl (some 4) 1 4 (rowsOf 1 [I 1,I 3,I 0,I 10]),.v (.slice none 0 0),I 6,I 0,I 53,.sl (some 3) 1 3 (rowsOf 1 [I 1,I 3,I 7]),.v (.slice none 0 0)]
theorem UY:ay prog 19 [] σ (.d (.sl (some 6) 5 6 (rowsOf 5 exD))):=by
 refine ay.bs true func19 fun hwf=> ?_;refine aj ?_;simp[go_sem,exD]
theorem DC(c c':Option Nat)(n m:Nat)(f g:Nat->Std)(hnm:n=m)(hn:n<1000000000)(h: ∀i,i<n->(f i).Shelf=(g i).Shelf/\(f i).n=(g i).n/\(f i).n<1000000000/\∀k,k<(f i).n->(f i).g k=(g i).g k):ay prog 12 [.d (SL c 2 Std.enc n f),.d (SL c' 2 Std.enc m g)] σ (.d (B true)):=by
 refine ay.bs true func12 fun hwf=> ?_;refine aH [0,1] ?_ ?_<;>intro c0 d0
 ·exact absurd hnm (by omega)
 ·simp[go_sem];refine gy (α:=Nat) true [0,1,13,14] (fun i=>[(14,.d (I i))]) (fun i=>_) (fun i=>i<=n) (fun i=>n-i) 0 ?_;rintro i hi;simp[go_sem];refine aH [0,1,13,14] ?_ ?_<;>intro c1 d1
  ·have hi0:i<n:=by omega
   have him:i<m:=by omega
   have hh:=h i hi0;have hh1:=hh.1;have hh2:=hh.2.1;have hh3:=hh.2.2.1;simp[go_sem];refine T.dr 26 fun K hK=> ?_;simp[go_sem,hi0,him];refine hK _ ?_;refine go true ?_;simp[go_sem];refine aH [0,1,5,13,14] ?_ ?_<;>intro c2 d2
   ·exfalso;omega
   ·simp[go_sem,hi0];refine gy (α:=Nat) true [0,1,5,13,14,48,49] (fun k=>[(49,.d (I k))]) (fun k=>_) (fun k=>k<=(f i).n) (fun k=>(f i).n-k) 0 ?_;rintro k hk;simp[go_sem];refine aH [0,1,5,13,14,48,49] ?_ ?_<;>intro c3 d3
    ·have hk0:k<(f i).n:=by omega
     have hk1:k<(g i).n:=by omega
     simp[go_sem];refine T.dr 17 fun K hK=> ?_;simp[go_sem,hi0,him,hk0,hk1];refine hK _ ?_;refine go true ?_;simp[go_sem];refine aH [0,1,5,13,14,48,49] ?_ ?_<;>intro c4 d4
     ·have:=hh.2.2.2 k hk0;exfalso;omega
     ·simp(disch:=first|omega|simp) [go_sem,aA];refine dB (k+1) (by omega) (h:=by simp[go_sem]<;>omega)
    ·simp[go_sem];refine go true ?_;simp(disch:=first|omega|simp) [go_sem,aA];refine dB (i+1) (by omega) (h:=by simp[go_sem]<;>omega)
  ·simp[go_sem];refine go true (sm ?_);exact aj so
theorem ex_same:Same (.d (.sl (some 6) 5 6 (rowsOf 5 exD))) (.d (SL none 5 Ev.enc 6 (nth HY))):=by
 refine Rq (.inl rfl) fun i hi=> ?_;have hi6:i=0\/i=1\/i=2\/i=3\/i=4\/i=5:=by omega
 refine⟨by rcases hi6 with rfl|rfl|rfl|rfl|rfl|rfl<;>rfl,fun k hk w j v h=> ?_⟩;have hk5:k=0\/k=1\/k=2\/k=3\/k=4:=by omega
 rcases hk5 with rfl|rfl|rfl|rfl|rfl
 ·rcases hi6 with rfl|rfl|rfl|rfl|rfl|rfl<;>exact h
 ·rcases hi6 with rfl|rfl|rfl|rfl|rfl|rfl<;>exact h
 ·rcases hi6 with rfl|rfl|rfl|rfl|rfl|rfl<;>exact h
 ·rcases hi6 with rfl|rfl|rfl|rfl|rfl|rfl;all_goals
   refine RD.rows (.inl rfl) (fun q hq=> ?_) h;have hlt:q<4:=Nat.lt_of_lt_of_le hq (by decide);have hq4:q=0\/q=1\/q=2\/q=3:=by omega
   rcases hq4 with rfl|rfl|rfl|rfl<;>first|rfl|exact absurd hq (by decide)
 ·rcases hi6 with rfl|rfl|rfl|rfl|rfl|rfl<;>exact RD.nil h
theorem XW(σ:List aC):ay prog 19 [] σ (.d (SL none 5 Ev.enc 6 (nth HY))):=same_res (UY σ) ex_same
def lF:Nat->Row:=fun _=>⟨7,0,0⟩
def iO:Use:= { jk with P:= { jk.P with jg:=30 },nI:=2 }
def exU1:Use:= { abU iO (kH 1 48 [1,100,90,0]) with Changed:=0 }
def exU2:Use:= { asU exU1 (kH 2 51 [5,1,150,0]) with Changed:=0 }
def exU3:Use:= { puU exU2 (kH 3 49 [1,0,7,20]) with Changed:=0 }
def exU4:Use:= { I4 exU3 (kH 4 52 [1,1,5]) 1 ⟨1,5⟩ with Changed:=0 }
def IV:Use:= { boU exU4 (kH 5 56 [1,3,0,10]) with Changed:=0 }
def gZ:Use:= { akU IV (kH 6 53 [1,3,7]) with Changed:=0 }
theorem ex_e1:abE iO (kH 1 48 [1,100,90,0])=0:=by decide+kernel
theorem ex_e2:asE exU1 (kH 2 51 [5,1,150,0])=0:=by decide+kernel
theorem ex_e3:puE exU2 (kH 3 49 [1,0,7,20])=0:=by decide+kernel
theorem ex_e4:ZC exU3 (kH 4 52 [1,1,5])=0:=by decide+kernel
theorem ex_e5:boE exU4 (kH 5 56 [1,3,0,10])=0:=by decide+kernel
theorem ex_ok1:okB (kH 1 48 [1,100,90,0])=true:=by decide+kernel
theorem ex_ok2:okB (kH 2 51 [5,1,150,0])=true:=by decide+kernel
theorem ex_ok3:okB (kH 3 49 [1,0,7,20])=true:=by decide+kernel
theorem ex_ok4:okB (kH 4 52 [1,1,5])=true:=by decide+kernel
theorem ex_ok5:okB (kH 5 56 [1,3,0,10])=true:=by decide+kernel
theorem ex_ok6:okB (kH 6 53 [1,3,7])=true:=by decide+kernel
theorem ex_held6:vJ gZ=true:=by decide+kernel
theorem ex_moves6:iC gZ=true:=by decide+kernel
theorem ex_prt6: ∀i,i<6->NW gZ i=0:=by decide+kernel
theorem ex_e6:(qP IV.nb IV.gb 7).2.2=true/\nR IV.nr IV.gr (TF IV (kH 6 53 [1,3,7]))=0:=by decide+kernel
theorem ex_prt0: ∀i,i<6->NW iO i=0:=by decide+kernel
def exV:Use:= { ldU gZ (kH 7 54 [1]) with Changed:=0 }
def U8:Use:= { abU gZ (kH 7 48 [2,60,50,0]) with Changed:=0 }
theorem ex_okV:okB (kH 7 54 [1])=true:=by decide+kernel
theorem ex_okW:okB (kH 7 48 [2,60,50,0])=true:=by decide+kernel
theorem ex_okX:okB (kH 8 52 [2,1,5])=true:=by decide+kernel
theorem ex_eW:abE gZ (kH 7 48 [2,60,50,0])=0:=by decide+kernel
theorem ex_eX:ZC U8 (kH 8 52 [2,1,5])=12:=by decide+kernel
theorem ex_heldV:vJ exV=true:=by decide+kernel
theorem ex_heldW:vJ U8=true:=by decide+kernel
theorem ex_heldU0:vJ iO=true:=by decide+kernel
theorem ex_movesV:iC exV=true:=by decide+kernel
theorem ex_movesW:iC U8=true:=by decide+kernel
theorem ex_moves0:iC iO=true:=by decide+kernel
theorem ex_prtV: ∀i,i<6->NW exV i=0:=by decide+kernel
theorem ex_prtW: ∀i,i<6->NW U8 i=0:=by decide+kernel
theorem ex_place:aY exV 1=⟨3,3⟩/\0<=qc exV.nb exV.gb 1:=by decide+kernel
theorem ex_shown:exV.nw=1/\(exV.gw 0).Reader=3/\(exV.gw 0).Unit=7/\(exV.gw 0).Day=0:=by decide+kernel
end Go.Proofs.YthlhlnbcjlpigaaGreatDoor
namespace Go.Proofs.YthlhlnbcjlpigaaGreatDoor
open Go.aU Go.bY
theorem JM{β:Type}{f:Nat->List β}(h: ∀i,f i=[]): ∀k,gather f k=[]
 |0=>rfl
 |k+1=>by rw[gather,h,JM h k];rfl
theorem Gs:dH 1 lF=0:=by
 unfold dH;rw[if_neg (by decide),if_neg (by decide+kernel),if_neg (by decide+kernel),if_neg];rintro⟨i,hi,h⟩;exact h 0 (by omega) rfl
theorem ex_acc(u:Use)(e:Ev)(hd:e.Day=0)(hp:fP u.P=0)(hg:uV u.P 0 ⟨7,0,0⟩=[]):EO u 1 lF e 3 7=true:=by
 have ha:Dp 1 lF u.P 3 7 0=0:=by
  unfold Dp;rw[if_neg (by rw[Gs];simpa using hp),if_neg (by decide+kernel),if_neg (by decide+kernel)]
 have hw:mG 1 lF u.P 7 0=[]:=JM (fun i=>hg) _;unfold EO qC;rw[hd,if_neg (by simp[ha])];unfold decW;rw[hw];rfl
theorem ex_P5:fP IV.P=0/\uV IV.P 0 ⟨7,0,0⟩=[]:=by
 constructor
 ·decide+kernel
 ·rfl
theorem ex_a6:akE IV 1 lF (kH 6 53 [1,3,7])=0:=by
 unfold akE;have h7:=ex_e6.1;have h8:=ex_e6.2;rw[if_neg (by rw[show(kH 6 53 [1,3,7]).gn 2=7 from rfl,h7];decide),if_neg,h8];have h:=ex_acc IV (kH 6 53 [1,3,7]) rfl ex_P5.1 ex_P5.2;rw[show(kH 6 53 [1,3,7]).gn 1=3 from rfl,show(kH 6 53 [1,3,7]).gn 2=7 from rfl,h];decide
theorem LH(u:Use)(h1: ∀i,i<6->NW u i=0)(h2:u.nt=0)(h3:u.nl=0)(h4: ∀i,i<u.nw->Q8 u i)(h5:jy u.Changed 0 1048575=true)(h6:u.nw<=1024):pU u=true:=
 lK.2 ⟨h1,fun i hi=>by omega,fun i hi=>by omega,h4,h5,by omega,by omega,h6⟩
theorem ex_lent(u:Use)(h1: ∀i,i<u.nr->(u.gr i).Changed<=u.Changed)(h2: ∀k∈(fQ u u.nr).1,∀x,k=Key.i x->aY u x=⟨3,(fQ u u.nr).2 x⟩)(h3: ∀i,i<u.nb->(aY u (u.gb i).ID).Kind=3->(fQ u u.nr).2 (u.gb i).ID=(aY u (u.gb i).ID).Of):F6 u=true:=
 zL.2 ⟨h1,fun x hx=>h2 _ hx x rfl,h3⟩
theorem O5(u:Use)(h1: ∀i,i<u.nr->(u.gr i).Changed<=u.Changed)(h2:(fQ u u.nr).1=[])(h3: ∀i,i<u.nb->(aY u (u.gb i).ID).Kind=3->(fQ u u.nr).2 (u.gb i).ID=(aY u (u.gb i).ID).Of):F6 u=true:=
 ex_lent u h1 (fun k hk=>by rw[h2] at hk;cases hk) h3
theorem ex_l0:F6 iO=true:=O5 iO (fun i hi=>absurd hi (Nat.not_lt_zero i)) rfl (fun i hi=>absurd hi (Nat.not_lt_zero i))
theorem ex_l6:F6 gZ=true:=O5 gZ (by decide+kernel) (by decide+kernel) (by decide+kernel)
theorem ex_lW:F6 U8=true:=O5 U8 (by decide+kernel) (by decide+kernel) (by decide+kernel)
theorem ex_right0:bT iO=true:=by
 unfold bT;rw[LH iO ex_prt0 rfl rfl (fun i hi=>absurd hi (Nat.not_lt_zero i)) (by decide) (by decide),ex_moves0,ex_heldU0,ex_l0];rfl
theorem Cm:bT gZ=true:=by
 unfold bT;rw[LH gZ ex_prt6 rfl rfl (fun i hi=>absurd hi (Nat.not_lt_zero i)) (by decide) (by decide),ex_moves6,ex_held6,ex_l6];rfl
theorem ex_rightW:bT U8=true:=by
 unfold bT;rw[LH U8 ex_prtW rfl rfl (fun i hi=>absurd hi (Nat.not_lt_zero i)) (by decide) (by decide),ex_movesW,ex_heldW,ex_lW];rfl
theorem ex_shwV: ∀i,i<exV.nw->jS (exV.gw i).Reader=true/\jS (exV.gw i).Unit=true/\jy (exV.gw i).Day 0 exV.Changed=true/\i=0:=by decide+kernel
theorem SI:bT exV=true:=by
 unfold bT;rw[LH exV ex_prtV rfl rfl (fun i hi=>by obtain⟨a,b,c,d⟩:=ex_shwV i hi;exact⟨a,b,c,fun h=>by omega⟩) (by decide) (by decide+kernel),ex_movesV,ex_heldV,ex_lent exV (by decide+kernel) (fun k hk x hx=>by
  have h:(fQ exV exV.nr).1=[Key.i 1]:=by decide+kernel
  rw[h] at hk;obtain rfl:k=Key.i 1:=by simpa using hk
  cases hx
  decide+kernel) (by decide+kernel)]
 rfl
theorem ex_acc6:EO gZ 1 lF (kH 7 54 [1]) 3 7=true:=ex_acc gZ _ rfl (by decide+kernel) rfl
theorem wI{u:Use}{m:Nat}{rg:Nat->Row}{e:Ev}(h1:okB e=true)(h2: ¬e.Day<u.Changed)(h3: ¬1048575<e.Day):sK u m rg e=evE u m rg e:=by
 unfold sK;rw[if_neg (by rw[h1];decide),if_neg h2,if_neg h3]
theorem ex_s1:sK iO 1 lF (kH 1 48 [1,100,90,0])=0:=(wI ex_ok1 (by decide) (by decide)).trans ex_e1
theorem ex_s2:sK exU1 1 lF (kH 2 51 [5,1,150,0])=0:=(wI ex_ok2 (by decide) (by decide)).trans ex_e2
theorem ex_s3:sK exU2 1 lF (kH 3 49 [1,0,7,20])=0:=(wI ex_ok3 (by decide) (by decide)).trans ex_e3
theorem ex_s4:sK exU3 1 lF (kH 4 52 [1,1,5])=0:=(wI ex_ok4 (by decide) (by decide)).trans ex_e4
theorem ex_s5:sK exU4 1 lF (kH 5 56 [1,3,0,10])=0:=(wI ex_ok5 (by decide) (by decide)).trans ex_e5
theorem ex_s6:sK IV 1 lF (kH 6 53 [1,3,7])=0:=(wI ex_ok6 (by decide) (by decide)).trans ex_a6
theorem ex_sW:sK gZ 1 lF (kH 7 48 [2,60,50,0])=0:=(wI ex_okW (by decide) (by decide)).trans ex_eW
theorem ex_sX:sK U8 1 lF (kH 8 52 [2,1,5])=12:=(wI ex_okX (by decide) (by decide)).trans ex_eX
theorem jO{u:Use}{m:Nat}{rg:Nat->Row}{e:Ev}(h:sK u m rg e=0):jq u m rg e=(stpU u e,0):=by
 unfold jq;rw[if_neg (by rw[h];decide)]
theorem ex_r1:oV 1 lF (nth HY) iO 1=exU1:=by
 show(jq iO 1 lF (kH 1 48 [1,100,90,0])).1=_
 rw[jO ex_s1];rfl
theorem ex_r2:oV 1 lF (nth HY) iO 2=exU2:=by
 show(jq (oV 1 lF (nth HY) iO 1) 1 lF (kH 2 51 [5,1,150,0])).1=_
 rw[ex_r1,jO ex_s2];rfl
theorem ex_r3:oV 1 lF (nth HY) iO 3=exU3:=by
 show(jq (oV 1 lF (nth HY) iO 2) 1 lF (kH 3 49 [1,0,7,20])).1=_
 rw[ex_r2,jO ex_s3];rfl
theorem ex_r4:oV 1 lF (nth HY) iO 4=exU4:=by
 show(jq (oV 1 lF (nth HY) iO 3) 1 lF (kH 4 52 [1,1,5])).1=_
 rw[ex_r3,jO ex_s4];rfl
theorem ex_r5:oV 1 lF (nth HY) iO 5=IV:=by
 show(jq (oV 1 lF (nth HY) iO 4) 1 lF (kH 5 56 [1,3,0,10])).1=_
 rw[ex_r4,jO ex_s5];rfl
theorem ex_r6:oV 1 lF (nth HY) iO 6=gZ:=by
 show(jq (oV 1 lF (nth HY) iO 5) 1 lF (kH 6 53 [1,3,7])).1=_
 rw[ex_r5,jO ex_s6];rfl
theorem ex_run:Qb iO 1 lF 6 (nth HY)=(gZ,-1,0):=by
 have e0:wM 1 lF (nth HY) iO 0=0:=by show(jq iO 1 lF (kH 1 48 [1,100,90,0])).2=0;rw[jO ex_s1]
 have e1:wM 1 lF (nth HY) iO 1=0:=by show(jq (oV 1 lF (nth HY) iO 1) 1 lF (kH 2 51 [5,1,150,0])).2=0;rw[ex_r1,jO ex_s2]
 have e2:wM 1 lF (nth HY) iO 2=0:=by show(jq (oV 1 lF (nth HY) iO 2) 1 lF (kH 3 49 [1,0,7,20])).2=0;rw[ex_r2,jO ex_s3]
 have e3:wM 1 lF (nth HY) iO 3=0:=by show(jq (oV 1 lF (nth HY) iO 3) 1 lF (kH 4 52 [1,1,5])).2=0;rw[ex_r3,jO ex_s4]
 have e4:wM 1 lF (nth HY) iO 4=0:=by show(jq (oV 1 lF (nth HY) iO 4) 1 lF (kH 5 56 [1,3,0,10])).2=0;rw[ex_r4,jO ex_s5]
 have e5:wM 1 lF (nth HY) iO 5=0:=by show(jq (oV 1 lF (nth HY) iO 5) 1 lF (kH 6 53 [1,3,7])).2=0;rw[ex_r5,jO ex_s6]
 have hg:nO 1 lF (nth HY) iO 0 6=(-1,0):=by
  rw[nO,if_neg (by rw[e0];decide),nO,if_neg (by rw[e1];decide),nO,if_neg (by rw[e2];decide),nO,if_neg (by rw[e3];decide),nO,if_neg (by rw[e4];decide),nO,if_neg (by rw[e5];decide),nO]
 unfold Qb;rw[if_neg (by rw[ex_right0,Gs];decide),if_neg (by rw[hg];decide),ex_r6]
theorem ex_stepV_E:JE gZ 1 lF (kH 7 54 [1])=0:=by
 have hf:(uD gZ 1).2=true/\(uD gZ 1).1.Reader=3/\(uD gZ 1).1.Box=1:=by decide+kernel
 have hb:(ldB gZ 1).1=1/\((ldB gZ 1).2 0).Unit=7:=by decide+kernel
 unfold JE;rw[show(kH 7 54 [1]).gn 0=1 from rfl,if_neg (by rw[hf.1];decide),hf.2.2];unfold yI;have h1:((lst (ldB gZ 1).1 (ldB gZ 1).2).any fun x=> !EO gZ 1 lF (kH 7 54 [1]) (uD gZ 1).1.Reader x.Unit)=false:=by
  rw[hb.1,hf.2.1];simp[lst,hb.2,ex_acc6]
 rw[if_neg (by rw[h1];decide)];decide+kernel
theorem ex_sV:sK gZ 1 lF (kH 7 54 [1])=0:=(wI ex_okV (by decide) (by decide)).trans ex_stepV_E
theorem Wj{u:Use}{m:Nat}{rg:Nat->Row}{e:Ev}(h1:bT u=true)(h2:dH m rg=0):Le u m rg e=jq u m rg e:=by
 unfold Le;rw[if_neg (by rw[h1,h2];decide)]
theorem ex_V:Le gZ 1 lF (kH 7 54 [1])=(exV,0):=by rw[Wj Cm Gs,jO ex_sV];rfl
theorem ex_W:Le gZ 1 lF (kH 7 48 [2,60,50,0])=(U8,0):=by rw[Wj Cm Gs,jO ex_sW];rfl
theorem ex_X:(Le U8 1 lF (kH 8 52 [2,1,5])).2=12:=by
 rw[Wj ex_rightW Gs];unfold jq;rw[if_pos (by rw[ex_sX];decide),ex_sX]
open Go.Proofs.Tryz
variable (σ : List aC)
theorem row1{f g:Nat->List D}(h:f 0=g 0): ∀i,i<1->f i=g i:=fun i hi=>by
 obtain rfl:i=0:=by omega
 exact h
theorem ex_pol:jJ iO.P:=⟨by decide,by decide,by decide,by decide,by decide,fun i hi=>absurd hi (Nat.not_lt_zero i),fun i hi=>absurd hi (Nat.not_lt_zero i)⟩
theorem xG(u:Use)(hp:u.P=iO.P)(h1:u.nb<=100/\u.nf<=100/\u.nv<=100/\u.nr<=100/\u.nk<=100/\u.nt=0/\u.nl<=100/\u.nw<=100)(h2: ∀i,i<u.nb->(u.gb i).nc<=100):dR u:=
 ⟨by rw[hp];exact ex_pol,by omega,fun i hi=>by have:=h2 i hi;omega,by omega,by omega,by omega,by omega,by omega,fun i hi=>by omega,fun i hi=>by omega,by omega,by omega⟩
theorem ex_use0:dR iO:=xG _ rfl (by decide) (fun i hi=>absurd hi (Nat.not_lt_zero i))
theorem ex_use1:dR exU1:=xG _ rfl (by decide) (by decide+kernel)
theorem ex_use2:dR exU2:=xG _ rfl (by decide) (by decide+kernel)
theorem ex_use3:dR exU3:=xG _ rfl (by decide) (by decide+kernel)
theorem ex_use4:dR exU4:=xG _ rfl (by decide) (by decide+kernel)
theorem ex_use5:dR IV:=xG _ rfl (by decide) (by decide+kernel)
theorem U6:dR gZ:=xG _ rfl (by decide) (by decide+kernel)
theorem ex_useV:dR exV:=xG _ rfl (by decide+kernel) (by decide+kernel)
theorem ex_useW:dR U8:=xG _ rfl (by decide+kernel) (by decide+kernel)
theorem xH{u:Use}(hu:dR u)(e:Ev)(h1:e.nn<=1000)(h2:e.nt=0)(h3:u.P.ns=0:=by rfl)(h4:kX e:=by unfold kX;decide):TL u 1 e:=
 ⟨hu,by omega,h1,by omega,fun i hi=>by omega,by omega,h4⟩
theorem Yw: ∀l:List AV,jr l l
 |[]=>trivial
 |x::xs=>⟨by unfold dD;split<;>first|rfl|exact⟨.inr rfl,rfl,rfl,fun _ _=>rfl⟩|simp_all,Yw xs⟩
theorem vT(u:Use)(w:AV):uT (.agg (u.cells w)) (.agg (u.cells w)):=Yw _
theorem ex_New_cs:ay prog 13 [.d (I 2),.d (I 30)] σ (.eX [.agg (iO.cells iO.dw),.d (I 0)]):=by
 have h:=MH σ 2 30;rw[if_pos (by decide),if_pos (by decide)] at h;exact h
theorem ex_Run_cs(h0:σ[0]? =some (.tab 0 iR))(h1:σ[1]? =some (.loc 1)):ay prog 18 [.agg (iO.cells iO.dw),.d (.sl (some 1) 3 1 (rowsOf 3 [I 7,I 0,I 0])),.d (SL none 5 Ev.enc 6 (nth HY))] σ (.eX [.agg (gZ.cells gZ.dw),.d (I (-1)),.d (I 0)]):=by
 have h:=ZV σ iO (some 1) 1 lF none 6 (nth HY) ex_use0 (by decide) (by decide) (fun _ i hi _=>by
  have hi6:i=0\/i=1\/i=2\/i=3\/i=4\/i=5:=by omega
  rcases hi6 with rfl|rfl|rfl|rfl|rfl|rfl
  ·exact xH ex_use0 _ (by decide) (by decide)
  ·rw[ex_r1];exact xH ex_use1 _ (by decide) (by decide)
  ·rw[ex_r2];exact xH ex_use2 _ (by decide) (by decide)
  ·rw[ex_r3];exact xH ex_use3 _ (by decide) (by decide)
  ·rw[ex_r4];exact xH ex_use4 _ (by decide) (by decide)
  ·rw[ex_r5];exact xH ex_use5 _ (by decide) (by decide)) h0 h1
 rw[ex_run] at h;refine ay.sub h ?_;exact⟨vT _ _,⟨.inr rfl,rfl,rfl,row1 rfl⟩,⟨.inl rfl,rfl,rfl,fun _ _=>rfl⟩,trivial⟩
def exS:Nat->Std:=nth (gather (mM gZ) gZ.nf)
theorem ex_std:(gather (mM gZ) gZ.nf).length=1/\(exS 0).Shelf=5/\(exS 0).n=1/\(exS 0).g 0=1:=by decide+kernel
theorem U7(h0:σ[0]? =some (.tab 0 iR))(h1:σ[1]? =some (.loc 1)):ay prog 10 [.agg (gZ.cells gZ.dw)] σ (.eX [.d (SL none 2 Std.enc 1 exS),.d (I 0)]):=by
 have h:=Dw σ gZ U6 h0 h1;rw[if_pos Cm,if_pos Cm,ex_std.1] at h;exact h
theorem YA(h0:σ[0]? =some (.tab 0 iR))(h1:σ[1]? =some (.loc 1)):ay prog 7 [.agg (exV.cells exV.dw),.d (I 1)] σ (.eX [.agg [.d (I 3),.d (I 3)],.d (I 0)]):=by
 have h:=E5 σ exV 1 ex_useV h0 h1;have h2:=ex_place;rw[if_neg (by rw[SI];have:=h2.2;simp;omega),if_neg (by rw[SI];decide),if_neg (by have:=h2.2;omega),h2.1] at h;exact h
theorem Yz(h0:σ[0]? =some (.tab 0 iR))(h1:σ[1]? =some (.loc 1)):ay prog 20 [.agg (gZ.cells gZ.dw),.d (.sl (some 1) 3 1 (rowsOf 3 [I 7,I 0,I 0])),.agg [.d (I 7),.d (I 0),.d (I 54),.d (.sl (some 1) 1 1 (rowsOf 1 [I 1])),.d (.v (.slice none 0 0))]] σ (.eX [.agg (exV.cells exV.dw),.d (I 0)]):=by
 have h:=yU σ gZ (some 1) 1 lF (kH 7 54 [1]) (xH U6 _ (by decide) (by decide)) h0 h1;rw[ex_V] at h;refine ay.sub h ?_;refine⟨vT _ _,⟨.inr rfl,rfl,rfl,row1 rfl⟩,⟨rfl,rfl,rfl,⟨.inl rfl,rfl,rfl,fun q hq=>by
  have hq4:q=0\/q=1\/q=2\/q=3:=by omega
  rcases hq4 with rfl|rfl|rfl|rfl<;>first|rfl|omega⟩,⟨.inl rfl,rfl⟩,trivial⟩,trivial⟩
theorem Yy(h0:σ[0]? =some (.tab 0 iR))(h1:σ[1]? =some (.loc 1)):ay prog 20 [.agg (gZ.cells gZ.dw),.d (.sl (some 1) 3 1 (rowsOf 3 [I 7,I 0,I 0])),.agg [.d (I 7),.d (I 0),.d (I 48),.d (.sl (some 4) 1 4 (rowsOf 1 [I 2,I 60,I 50,I 0])),.d (.v (.slice none 0 0))]] σ (.eX [.agg (U8.cells U8.dw),.d (I 0)]):=by
 have h:=yU σ gZ (some 1) 1 lF (kH 7 48 [2,60,50,0]) (xH U6 _ (by decide) (by decide)) h0 h1;rw[ex_W] at h;refine ay.sub h ?_;refine⟨vT _ _,⟨.inr rfl,rfl,rfl,row1 rfl⟩,⟨rfl,rfl,rfl,⟨.inl rfl,rfl,rfl,fun q hq=>by
  have hq4:q=0\/q=1\/q=2\/q=3:=by omega
  rcases hq4 with rfl|rfl|rfl|rfl<;>first|rfl|omega⟩,⟨.inl rfl,rfl⟩,trivial⟩,trivial⟩
theorem Yx(h0:σ[0]? =some (.tab 0 iR))(h1:σ[1]? =some (.loc 1)):ay prog 20 [.agg (U8.cells U8.dw),.d (.sl (some 1) 3 1 (rowsOf 3 [I 7,I 0,I 0])),.agg [.d (I 8),.d (I 0),.d (I 52),.d (.sl (some 3) 1 3 (rowsOf 1 [I 2,I 1,I 5])),.d (.v (.slice none 0 0))]] σ (.eX [.agg ((Le U8 1 lF (kH 8 52 [2,1,5])).1.cells (Le U8 1 lF (kH 8 52 [2,1,5])).1.dw),.d (I 12)]):=by
 have h:=yU σ U8 (some 1) 1 lF (kH 8 52 [2,1,5]) (xH ex_useW _ (by decide) (by decide)) h0 h1;rw[ex_X] at h;refine ay.sub h ?_;refine⟨vT _ _,⟨.inr rfl,rfl,rfl,row1 rfl⟩,⟨rfl,rfl,rfl,⟨.inl rfl,rfl,rfl,fun q hq=>by
  have hq4:q=0\/q=1\/q=2\/q=3:=by omega
  rcases hq4 with rfl|rfl|rfl|rfl<;>first|rfl|omega⟩,⟨.inl rfl,rfl⟩,trivial⟩,trivial⟩
theorem ex_same_cs:ay prog 12 [.d (SL none 2 Std.enc 1 exS),.d (.sl (some 1) 2 1 (rowsOf 2 [I 5,.sl (some 1) 1 1 (rowsOf 1 [I 1])]))] σ (.d (B true)):=by
 have h:=DC σ none (some 1) 1 1 exS (fun _=>⟨5,1,fun _=>1⟩) rfl (by decide) (fun i hi=>by
  obtain rfl:i=0:=by omega
  have hs:=ex_std;exact⟨hs.2.1,hs.2.2.1,by rw[hs.2.2.1];decide,fun k hk=>by
   rw[hs.2.2.1] at hk;obtain rfl:k=0:=by omega
   exact hs.2.2.2⟩)
 have hsm:Same (.d (.sl (some 1) 2 1 (rowsOf 2 [I 5,.sl (some 1) 1 1 (rowsOf 1 [I 1])]))) (.d (SL (some 1) 2 Std.enc 1 (fun _=>⟨5,1,fun _=>1⟩))):=Rq (.inr rfl) fun i hi=>by
  obtain rfl:i=0:=by omega
  refine⟨rfl,fun k hk w j v hr=> ?_⟩;have hk2:k=0\/k=1:=by omega
  rcases hk2 with rfl|rfl
  ·exact hr
  ·exact RD.rows (.inl rfl) (row1 rfl) hr
 refine⟨h.1,fun j w vs h1 h2=>h.2 j w vs h1 ⟨h2.1,fun k hk=> ?_⟩⟩;have hk2:k=0\/k=1:=by simp at hk;omega
 rcases hk2 with rfl|rfl
 ·exact h2.2 0 (by simp)
 ·exact hsm _ _ _ (h2.2 1 (by simp))
theorem Yv:ay prog 21 [.d (SL none 3 sG.enc exV.nw exV.gw),.d (.sl (some 1) 3 1 (rowsOf 3 [I 3,I 7,I 0]))] σ (.d (B true)):=by
 have h:=JU σ none (some 1) exV.nw 1 exV.gw (fun _=>⟨3,7,0⟩) (by have:=ex_useV.nw;omega) (by decide);have hs:=ex_shown;have he:xI (lst exV.nw exV.gw) (lst 1 fun _=>(⟨3,7,0⟩:sG))=true:=by
  rw[hs.1];have:exV.gw 0=⟨3,7,0⟩:=by
   rcases hv:exV.gw 0 with⟨a,b,c⟩;rw[hv] at hs;obtain⟨_,rfl,rfl,rfl⟩:=hs;rfl
  simp[xI,lst,this]
 rw[he] at h;refine ay.sub h ⟨⟨.inr rfl,rfl,rfl,fun _ _=>rfl⟩,⟨.inr rfl,rfl,rfl,row1 rfl⟩,trivial⟩
theorem zN(h0:σ[0]? =some (.tab 0 iR))(h1:σ[1]? =some (.loc 1)):ay prog 5 [] σ (.d (B true)):=by
 refine ay.be func5 fun hwf=> ?_;refine ak fun K hK=>sm ?_;refine hK _ ?_;refine ak fun K hK=>sm ?_;refine aW.mk (ex_New_cs _) (sm ?_);refine hK _ ?_;refine ak fun K hK=>sm ?_;refine hK _ ?_;apply Mix.gJ 10 [(8,none)] [[0,1,2,3,4,5]] [(.undef,(σ++[.var (gZ.cells gZ.dw)]))] T.mixed (by kernel_rfl)
 ·intro K hK;simp[go_sem];refine dS.mk (XW _) (sm ?_);refine dS.mk (ex_Run_cs _ (aO h0) (aO h1)) (sm ?_);exact hK _ _
 ·refine Mix.bM ?_ (Mix.iY)
  ·intro K hK;simp[go_sem];exact hK _ _
 ·refine Mix.cu ?_ (Mix.kC)
  ·simp[go_sem];all_goals first|rfl|skip
 intro K hK;simp[go_sem];refine hK _ ?_;refine ak fun K hK=>sm ?_;refine aW.mk (U7 _ (aO h0) (aO h1)) (sm ?_);refine hK _ ?_;refine ak fun K hK=>sm ?_;refine aW.mk (Yz _ (aO h0) (aO h1)) (sm ?_);refine hK _ ?_;refine ak fun K hK=>sm ?_;refine aW.mk (YA _ (aO h0) (aO h1)) (sm ?_);refine hK _ ?_;refine ak fun K hK=>sm ?_;refine aW.mk (Yy _ (aO h0) (aO h1)) (sm ?_);refine hK _ ?_;refine ak fun K hK=>sm ?_;refine aW.mk (Yx _ (aO h0) (aO h1)) (sm ?_);refine hK _ ?_;refine ak fun K hK=>sm ?_;refine fA.mk (ex_same_cs _) (sm ?_);refine fA.mk (Yv _) (sm ?_);try simp(disch:=omega) only[aA]
 refine hK _ ?_;exact aj so
end Go.Proofs.YthlhlnbcjlpigaaGreatDoor
namespace Go.Proofs.YthlhlnbcjlpigaaGreatDoor
open Go.aU Go.bY
theorem OM{α:Type}{p:α->Bool}{n:Nat}{g:Nat->α}(h:0<=idxFrom p (lst n g) 0): ∃i,i<n/\idxFrom p (lst n g) 0=(i:Int)/\p (g i)=true/\∀j,j<i->p (g j)=false:=by
 rcases o7 p (lst n g) 0 with⟨h1,_⟩|⟨q,h1,h2,x,h3,h4,h5⟩
 ·omega
 ·rw[bP] at h1;rw[xg h1] at h3;cases h3
  exact⟨q,h1,by rw[h2];simp,h4,fun j hj=>h5 j _ hj (xg (by omega))⟩
theorem ix_none{α:Type}{p:α->Bool}{n:Nat}{g:Nat->α}(h:idxFrom p (lst n g) 0<0): ∀i,i<n->p (g i)=false:=by
 rcases o7 p (lst n g) 0 with⟨_,h2⟩|⟨q,h1,h2,_⟩
 ·exact fun i hi=>h2 _ (by simp only[lst,List.mem_map,List.mem_range];exact⟨i,hi,rfl⟩)
 ·omega
theorem ix_of{α:Type}{p:α->Bool}{n:Nat}{g:Nat->α}{i:Nat}(hi:i<n)(hp:p (g i)=true)(hf: ∀j,j<i->p (g j)=false):idxFrom p (lst n g) 0=(i:Int):=by
 have h0:0<=idxFrom p (lst n g) 0:=by
  apply Classical.byContradiction;intro h;rw[ix_none (p:=p) (n:=n) (g:=g) (by omega) i hi] at hp;cases hp
 obtain⟨q,h1,h2,h3,h4⟩:=OM h0;rw[h2];rcases Nat.lt_trichotomy q i with h|h|h
 ·rw[hf q h] at h3;cases h3
 ·rw[h]
 ·rw[h4 i h] at hp;cases hp
theorem jC{α:Type}{p:α->Bool}{n:Nat}{g:Nat->α} :(lst n g).any p=true↔∃i,i<n/\p (g i)=true:=by
 simp only[lst,List.any_map,List.any_eq_true,List.mem_range,Function.comp]
theorem any_no{α:Type}{p:α->Bool}{n:Nat}{g:Nat->α} :(lst n g).any p=false↔∀i,i<n->p (g i)=false:=by
 simp only[lst,List.any_map,List.any_eq_false,List.mem_range,Function.comp,Bool.not_eq_true]
theorem Gp{e:Nat->Int}{n:Nat} :aI e 0 n=0↔∀i,i<n->e i=0:=
 ⟨fun h i hi=>iM h i (Nat.zero_le _) (by omega),fun h=>IU fun q _ h2=>h q (by omega)⟩
theorem RU{g:Nat->fJ}(x:Int): ∀{k i:Nat} {s:EP},(dP g i s k).2.pl x=s.pl x\/∃q,i<=q/\q<i+k/\(g q).Box=x
 |0,i,s=> .inl rfl
 |k+1,i,s=>by
  rw[dP];split
  ·exact .inl rfl
  ·rename_i h0;rcases RU x (k:=k) (i:=i+1) (s:=oz s (g i)) (g:=g) with h|⟨q,h1,h2,h3⟩
   ·rw[h];unfold oz;rw[if_pos (Classical.byContradiction h0)];show D9 s.pl (g i).Box (g i).To x=s.pl x\/_
    by_cases hx:x=(g i).Box
    ·exact .inr ⟨i,Nat.le_refl _,by omega,hx.symm⟩
    ·exact .inl (if_neg hx)
   ·exact .inr ⟨q,by omega,by omega,h3⟩
theorem aat{g:Nat->fJ} : ∀{k i:Nat} {s:EP},(dP g i s k).1=0->dP g i s (k+1)=if oC (dP g i s k).2 (g (i+k))≠0 then(oC (dP g i s k).2 (g (i+k)),(dP g i s k).2) else(0,oz (dP g i s k).2 (g (i+k)))
 |0,i,s,_=>by
  rw[dP];simp only[dP,Nat.add_zero]
 |k+1,i,s,h=>by
  rw[dP] at h⊢;split at h
  ·rename_i h0;exact absurd h h0
  ·rename_i h0;rw[if_neg h0,aat h];rw[dP.eq_2 g i s k,if_neg h0];rw[show i+1+k=i+(k+1) by omega]
theorem BR{n:Nat}{g:Nat->fJ}(h:dL n g=0):n<=1024:=by
 unfold dL bD at h;split at h
 ·cases h
 ·omega
theorem UD{u:Use}(h:dL u.nv u.gv=0)(x:Int):aY u x=if jS x=true then(bD u.nv u.gv).2.pl x else⟨0,0⟩:=by
 unfold aY nX;rw[if_neg (by simp[h])];cases jS x<;>rfl
theorem plc_none{u:Use}{x:Int}(h: ∀q,q<u.nv->(u.gv q).Box≠x):aY u x=⟨0,0⟩:=by
 unfold aY nX;split
 ·rfl
 ·split
  ·rfl
  ·rename_i h1 _;have hn:=BR (Classical.byContradiction h1);show(bD u.nv u.gv).2.pl x=_
   unfold bD;rw[if_neg (by omega)];rcases RU x (g:=u.gv) (k:=u.nv) (i:=0) (s:=xq) with h2|⟨q,_,h2,h3⟩
   ·rw[h2];rfl
   ·exact absurd h3 (h q (by omega))
theorem plc_moved{u:Use}{x:Int}(h:(aY u x).Kind≠0): ∃q,q<u.nv/\(u.gv q).Box=x:=by
 apply Classical.byContradiction;intro h1;exact h (by rw[plc_none fun q hq he=>h1 ⟨q,hq,he⟩])
theorem RP{g:Nat->fJ} : ∀{k i:Nat} {s:EP},(dP g i s k).1=0->∀q,i<=q->q<i+k->dI (g q).To=true/\dI (g q).From=true
 |0,i,s,_=>fun q h1 h2=>by omega
 |k+1,i,s,h=>by
  rw[dP] at h;split at h
  ·rename_i h0;exact absurd h h0
  ·rename_i h0;intro q h1 h2;by_cases hq:q=i
   ·subst hq;have:=BU (Classical.byContradiction h0);exact⟨this.2.2.2.1,this.2.2.1⟩
   ·exact RP h q (by omega) (by omega)
theorem plc_ok{u:Use}(h:dL u.nv u.gv=0)(x:Int):dI (aY u x)=true:=by
 rcases plc_to u x with h1|⟨q,h1,h2⟩
 ·rw[h1];rfl
 ·rw[h2];have hn:=BR h;unfold dL bD at h;rw[if_neg (by omega)] at h;exact(RP h q (by omega) (by omega)).1
def iq(u:Use)(s:Int):Nat->Int
 |0=>0
 |k+1=>iq u s k+if aY u (u.gb k).ID=⟨1,s⟩ then(u.gb k).Width else 0
def Ql(u:Use)(s:Int):nU:=u.gf (uU u.nf u.gf s).toNat
structure HeldR(u:Use):Prop where
 cli: ∀i,i<u.nb->(aY u (u.gb i).ID).Kind=1->(Ql u (aY u (u.gb i).ID).Of).dU=(u.gb i).dU
 sum: ∀i,i<u.nb->(aY u (u.gb i).ID).Kind=1->iq u (aY u (u.gb i).ID).Of u.nb<=(Ql u (aY u (u.gb i).ID).Of).Length
theorem sIx_at{n:Nat}{g:Nat->nU}{s:Int}(h:0<=uU n g s):(uU n g s).toNat<n/\(g (uU n g s).toNat).ID=s:=by
 obtain⟨q,h1,h2,h3,_⟩:=OM h;have:(uU n g s).toNat=q:=by unfold uU;omega
 rw[this];exact⟨h1,by simpa using h3⟩
theorem bIx_at{n:Nat}{g:Nat->Bx}{s:Int}(h:0<=qc n g s):(qc n g s).toNat<n/\(g (qc n g s).toNat).ID=s:=by
 obtain⟨q,h1,h2,h3,_⟩:=OM h;have:(qc n g s).toNat=q:=by unfold qc;omega
 rw[this];exact⟨h1,by simpa using h3⟩
theorem plc_ext{p:sH}{k o:Int}(h1:p.Kind=k)(h2:p.Of=o):p=⟨k,o⟩:=by cases p;simp_all
theorem Ez{u:Use}(hk: ∀i,i<u.nb->(aY u (u.gb i).ID).Kind=1->0<=uU u.nf u.gf (aY u (u.gb i).ID).Of): ∀{k i:Nat} {f:Int->Int},i+k=u.nb->(∀s,f s=iq u s i)->
  (rM u i f k=true↔∀j,i<=j->j<u.nb->(aY u (u.gb j).ID).Kind=1->iq u (aY u (u.gb j).ID).Of (j+1)<=(Ql u (aY u (u.gb j).ID).Of).Length/\(Ql u (aY u (u.gb j).ID).Of).dU=(u.gb j).dU)
 |0,i,f,hi,hf=>by
  simp only[rM,true_iff];intro j h1 h2;omega
 |k+1,i,f,hi,hf=>by
  rw[rM];by_cases h1:(aY u (u.gb i).ID).Kind≠1
  ·rw[if_pos h1,Ez hk (by omega) (fun s=>by
    rw[hf s,iq,if_neg (by intro e;rw[e] at h1;exact h1 rfl)];omega)]
   constructor
   ·intro H j h2 h3 h4;by_cases hj:j=i
    ·subst hj;exact absurd h4 h1
    ·exact H j (by omega) h3 h4
   ·intro H j h2 h3 h4;exact H j (by omega) h3 h4
  ·rw[if_neg h1];have h1:(aY u (u.gb i).ID).Kind=1:=Classical.byContradiction h1;have hs:=sIx_at (hk i (by omega) h1);have hp:aY u (u.gb i).ID=⟨1,(aY u (u.gb i).ID).Of⟩:=plc_ext h1 rfl;have hsum:iq u (aY u (u.gb i).ID).Of (i+1)=iq u (aY u (u.gb i).ID).Of i+(u.gb i).Width:=by rw[iq,if_pos hp]
   rw[hs.2,hf];by_cases h5:(u.gf (uU u.nf u.gf (aY u (u.gb i).ID).Of).toNat).Length<iq u (aY u (u.gb i).ID).Of i+(u.gb i).Width\/(u.gf (uU u.nf u.gf (aY u (u.gb i).ID).Of).toNat).dU≠(u.gb i).dU
   ·rw[if_pos h5];constructor
    ·intro H;cases H
    ·intro H;obtain⟨h6,h7⟩:=H i (Nat.le_refl _) (by omega) h1;rw[hsum] at h6;unfold Ql at h6 h7;rcases h5 with h5|h5
     ·omega
     ·exact absurd h7 h5
   ·rw[if_neg h5,Ez hk (by omega) (fun s=>by
     unfold Ea;rw[iq];by_cases hs1:s=(aY u (u.gb i).ID).Of
     ·rw[if_pos hs1,hs1,if_pos hp]
     ·rw[if_neg hs1,hf s,if_neg (by intro e;rw[e] at hs1;exact hs1 rfl)];omega)]
    constructor
    ·intro H j h2 h3 h4;by_cases hj:j=i
     ·subst hj;rw[hsum];unfold Ql;exact⟨by omega,Classical.byContradiction fun h=>h5 (.inr h)⟩
     ·exact H j (by omega) h3 h4
    ·intro H j h2 h3 h4;exact H j (by omega) h3 h4
theorem ZW{u:Use}{s:Int}{n:Nat}(hw: ∀i,i<n->0<=(u.gb i).Width): ∀{a b:Nat},a<=b->b<=n->iq u s a<=iq u s b:=by
 intro a b hab;induction b with
 |zero=>
  intro _;obtain rfl:a=0:=by omega
  exact Int.le_refl _
 |succ b ih=>
  intro hb;by_cases h:a=b+1
  ·rw[h];exact Int.le_refl _
  ·have h1:=ih (by omega) (by omega);have h2:=hw b (by omega);rw[iq];split<;>omega
theorem Ye{u:Use}(hk: ∀i,i<u.nb->(aY u (u.gb i).ID).Kind=1->0<=uU u.nf u.gf (aY u (u.gb i).ID).Of)(hw: ∀i,i<u.nb->0<=(u.gb i).Width):vJ u=true↔HeldR u:=by
 unfold vJ;rw[Ez hk (f:=fun _=>0) (Nat.zero_add _) (fun s=>rfl)];constructor
 ·intro H;refine⟨fun i hi h1=>(H i (Nat.zero_le _) hi h1).2,?_⟩;have key: ∀k,k<=u.nb->∀i,i<k->(aY u (u.gb i).ID).Kind=1->iq u (aY u (u.gb i).ID).Of k<=(Ql u (aY u (u.gb i).ID).Of).Length:=by
   intro k;induction k with
   |zero=>intro _ i hi;omega
   |succ k ih=>
    intro hk1 i hi h1;by_cases hik:i=k
    ·subst hik;exact(H i (Nat.zero_le _) (by omega) h1).1
    ·by_cases hp:aY u (u.gb k).ID=⟨1,(aY u (u.gb i).ID).Of⟩
     ·have:=(H k (Nat.zero_le _) (by omega) (by rw[hp])).1;rw[hp] at this;exact this
     ·rw[iq,if_neg hp];have:=ih (by omega) i (by omega) h1;omega
  exact fun i hi h1=>key u.nb (Nat.le_refl _) i hi h1
 ·intro H j _ h2 h3;refine⟨Int.le_trans (ZW hw (by omega) (Nat.le_refl _)) (H.sum j h2 h3),H.cli j h2 h3⟩
theorem zG(u:Use)(x:Int): ∀n,Key.i x∈(fQ u n).1↔∃i,i<n/\(u.gr i).State=2/\(u.gr i).Box=x
 |0=>by simp[fQ]
 |n+1=>by
  rw[fQ];split
  ·rename_i h;rw[fC,zG u x n];constructor
   ·rintro(h1|⟨i,h1,h2⟩)
    ·cases h1;exact⟨n,by omega,h,rfl⟩
    ·exact⟨i,by omega,h2⟩
   ·rintro⟨i,h1,h2,h3⟩;by_cases hi:i=n
    ·subst hi;exact .inl (by rw[h3])
    ·exact .inr ⟨i,by omega,h2,h3⟩
  ·rename_i h;rw[zG u x n];constructor
   ·rintro⟨i,h1,h2⟩;exact⟨i,by omega,h2⟩
   ·rintro⟨i,h1,h2⟩;by_cases hi:i=n
    ·subst hi;exact absurd h2.1 h
    ·exact⟨i,by omega,h2⟩
theorem Oe(u:Use){i:Nat} : ∀{n:Nat},i<n->(u.gr i).State=2->(∀j,j<n->(u.gr j).State=2->(u.gr j).Box=(u.gr i).Box->j=i)->(fQ u n).2 (u.gr i).Box=(u.gr i).Reader
 |0,h,_,_=>by omega
 |n+1,h,hs,hu=>by
  rw[fQ];split
  ·rename_i h1;show Ea (fQ u n).2 (u.gr n).Box (u.gr n).Reader (u.gr i).Box=_
   unfold Ea;split
   ·rename_i h2;rw[hu n (by omega) h1 h2.symm]
   ·rename_i h2;have hi:i≠n:=fun e=>h2 (by rw[e]);exact Oe u (by omega) hs fun j hj=>hu j (by omega)
  ·rename_i h1;have hi:i≠n:=fun e=>h1 (by rw[←e];exact hs);exact Oe u (by omega) hs fun j hj=>hu j (by omega)
structure LentS(u:Use):Prop where
 day: ∀i,i<u.nr->(u.gr i).Changed<=u.Changed
 out: ∀i,i<u.nr->(u.gr i).State=2->aY u (u.gr i).Box=⟨3,(u.gr i).Reader⟩
 box: ∀i,i<u.nb->(aY u (u.gb i).ID).Kind=3->∃j,j<u.nr/\(u.gr j).State=2/\(u.gr j).Box=(u.gb i).ID
theorem req_all{n:Nat}{g:Nat->eU}(h:fO n g=0):n<=256/\∀i,i<n->mD g i=0:=by
 unfold fO at h;split at h
 ·cases h
 ·exact⟨by omega,Gp.1 h⟩
theorem Rx{g:Nat->eU}{i:Nat} :mD g i=0↔wP (g i)=true/\(0<i->(g (i-1)).ID<(g i).ID/\(g (i-1)).Day<=(g i).Day)/\((g i).State=2->∀j,j<i->(g j).State=2->(g j).Box≠(g i).Box)/\(mQ (g i)=true->∀j,j<i->mQ (g j)=true->(g j).Reader=(g i).Reader->(g j).Unit≠(g i).Unit):=by
 unfold mD Sj dblB;have ha:((lst i g).any (F7 (g i).Box)=true)↔∃j,j<i/\(g j).State=2/\(g j).Box=(g i).Box:=by
  rw[jC];simp[F7]
 have hb:((lst i g).any (Vq (g i).Reader (g i).Unit)=true)↔∃j,j<i/\(mQ (g j)=true/\(g j).Reader=(g i).Reader)/\(g j).Unit=(g i).Unit:=by
  rw[jC];simp[Vq]
 simp only[ha,hb];constructor
 ·intro h;split at h
  ·cases h
  ·rename_i h1;split at h
   ·cases h
   ·rename_i h2;split at h
    ·cases h
    ·rename_i h3;split at h
     ·cases h
     ·rename_i h4;exact⟨by simpa using h1,fun h0=>by constructor<;>(apply Classical.byContradiction;intro h9;exact h2 ⟨h0,by omega⟩),fun h5 j hj h6 h7=>h3 ⟨h5,j,hj,h6,h7⟩,fun h5 j hj h6 h7 h8=>h4 ⟨h5,j,hj,⟨h6,h7⟩,h8⟩⟩
 ·rintro⟨h1,h2,h3,h4⟩;rw[if_neg (by simp[h1]),if_neg (by rintro⟨h0,h5⟩;have:=h2 h0;omega),if_neg (by rintro⟨h5,j,hj,h6,h7⟩;exact h3 h5 j hj h6 h7),if_neg (by rintro⟨h5,j,hj,⟨h6,h7⟩,h8⟩;exact h4 h5 j hj h6 h7 h8)]
theorem lent_uni{n:Nat}{g:Nat->eU}(h:fO n g=0){i j:Nat}(hi:i<n)(hj:j<n)(h1:(g i).State=2)(h2:(g j).State=2)(h3:(g i).Box=(g j).Box):i=j:=by
 have ha:=(req_all h).2;rcases Nat.lt_trichotomy i j with h4|h4|h4
 ·exact absurd h3 ((Rx.1 (ha j hj)).2.2.1 h2 i h4 h1)
 ·exact h4
 ·exact absurd h3.symm ((Rx.1 (ha i hi)).2.2.1 h1 j h4 h2)
theorem XR{u:Use}(hr:fO u.nr u.gr=0)(hm:dL u.nv u.gv=0):LentR u↔LentS u:=by
 have hg: ∀i,i<u.nr->(u.gr i).State=2->(fQ u u.nr).2 (u.gr i).Box=(u.gr i).Reader:=fun i hi h=>Oe u hi h fun j hj h1 h2=>lent_uni hr hj hi h1 h h2;constructor
 ·rintro⟨h1,h2,h3⟩;refine⟨h1,fun i hi h=> ?_,fun i hi h=> ?_⟩
  ·rw[h2 _ ((zG u _ _).2 ⟨i,hi,h,rfl⟩),hg i hi h]
  ·apply Classical.byContradiction;intro h4;have h5:(fQ u u.nr).2 (u.gb i).ID=0:=FT u _ _ fun h6=>h4 ((zG u _ _).1 h6);have h6:=h3 i hi h;rw[h5] at h6;have h7:=plc_ok hm (u.gb i).ID;unfold dI at h7;rw[if_neg (by omega),if_pos (by omega),←h6] at h7;cases h7
 ·rintro⟨h1,h2,h3⟩;refine⟨h1,fun x hx=> ?_,fun i hi h=> ?_⟩
  ·obtain⟨i,hi,h4,rfl⟩:=(zG u _ _).1 hx;rw[h2 i hi h4,hg i hi h4]
  ·obtain⟨j,hj,h4,h5⟩:=h3 i hi h;rw[←h5,hg j hj h4,h2 j hj h4]
structure BA(u:Use):Prop where
 pol:fP u.P=0
 box:dQ u.nb u.gb=0
 shf:eF u.nf u.gf=0
 mov:dL u.nv u.gv=0
 req:fO u.nr u.gr=0
 bkg:je u.nI u.nk u.gk=0
 ZG: ∀i,i<u.nt->BatR u i
 lnk: ∀i,i<u.nl->LnkS u i
 shw: ∀i,i<u.nw->Q8 u i
 day:jy u.Changed 0 1048575=true
 nt:u.nt<=64
 nl:u.nl<=1024
 nw:u.nw<=1024
 mvs: ∀q,q<u.nv->yG u (u.gv q)=false
 hld:HeldR u
 lnt:LentS u
theorem lM{u:Use} :iC u=true↔∀q,q<u.nv->yG u (u.gv q)=false:=by
 unfold iC;rw[Bool.not_eq_true',any_no]
theorem Y7{n:Nat}{g:Nat->Bx}(h:dQ n g=0){i:Nat}(hi:i<n):0<=(g i).Width:=by
 have:=(G6 ((xM h).2 i hi)).1;unfold yM at this;simp only[Bool.and_eq_true,eH] at this;omega
theorem qK{u:Use} :bT u=true↔BA u:=by
 unfold bT;simp only[Bool.and_eq_true];constructor
 ·rintro⟨⟨⟨h1,h2⟩,h3⟩,h4⟩;have hp:=lK.1 h1;have hb:dQ u.nb u.gb=0:=hp.chk 1 (by omega);have hm:dL u.nv u.gv=0:=hp.chk 3 (by omega);have hr:fO u.nr u.gr=0:=hp.chk 4 (by omega);exact⟨hp.chk 0 (by omega),hb,hp.chk 2 (by omega),hm,hr,hp.chk 5 (by omega),hp.ZG,hp.lnk,hp.shw,hp.day,hp.nt,hp.nl,hp.nw,lM.1 h2,(Ye (fun i hi h=>vC h2 h) fun i hi=>Y7 hb hi).1 h3,(XR hr hm).1 (zL.1 h4)⟩
 ·intro h;have h2:=lM.2 h.mvs;refine⟨⟨⟨lK.2 ⟨fun i hi=> ?_,h.ZG,h.lnk,h.shw,h.day,h.nt,h.nl,h.nw⟩,h2⟩,(Ye (fun i hi h=>vC h2 h) fun i hi=>Y7 h.box hi).2 h.hld⟩,zL.2 ((XR h.req h.mov).2 h.lnt)⟩;have:i=0\/i=1\/i=2\/i=3\/i=4\/i=5:=by omega
  rcases this with rfl|rfl|rfl|rfl|rfl|rfl
  ·exact h.pol
  ·exact h.box
  ·exact h.shf
  ·exact h.mov
  ·exact h.req
  ·exact h.bkg
def oD(g:Nat->Cnt)(u:Int):Nat->Nat
 |0=>0
 |n+1=>if(g n).Unit=u then oD g u n+1 else oD g u n
theorem insN_le(g:Nat->Cnt)(u:Int): ∀n,oD g u n<=n
 |0=>Nat.le_refl _
 |n+1=>by rw[oD];have:=insN_le g u n;split<;>omega
theorem Gi{g:Nat->Cnt}{u:Int} : ∀{n:Nat},0<oD g u n↔∃k,k<n/\(g k).Unit=u
 |0=>by simp[oD]
 |n+1=>by
  rw[oD];split
  ·rename_i h;exact⟨fun _=>⟨n,by omega,h⟩,fun _=>by omega⟩
  ·rename_i h;rw[Gi (n:=n)];refine⟨fun⟨k,h1,h2⟩=>⟨k,by omega,h2⟩,fun⟨k,h1,h2⟩=>⟨k,?_,h2⟩⟩;rcases Nat.lt_or_eq_of_le (Nat.le_of_lt_succ h1) with h3|h3
   ·exact h3
   ·subst h3;exact absurd h2 h
theorem OW{g:Nat->Cnt}{u:Int} : ∀{n:Nat},1<oD g u n↔∃p q,p<q/\q<n/\(g p).Unit=u/\(g q).Unit=u
 |0=>by simp[oD]
 |n+1=>by
  rw[oD];split
  ·rename_i h;have hp:=Gi (g:=g) (u:=u) (n:=n);constructor
   ·intro h1;obtain⟨k,h2,h3⟩:=hp.1 (by omega);exact⟨k,n,h2,by omega,h3,h⟩
   ·rintro⟨p,q,h1,h2,h3,h4⟩;have:=hp.2 ⟨p,by omega,h3⟩;omega
  ·rename_i h;rw[OW (n:=n)];constructor
   ·rintro⟨p,q,h1,h2,h3⟩;exact⟨p,q,h1,by omega,h3⟩
   ·rintro⟨p,q,h1,h2,h3,h4⟩;refine⟨p,q,h1,?_,h3,h4⟩;rcases Nat.lt_or_eq_of_le (Nat.le_of_lt_succ h2) with h5|h5
    ·exact h5
    ·subst h5;exact absurd h4 h
theorem Vz{g:Nat->Cnt} : ∀{k i:Nat} {ks XZ:List Key},jI g i ks k=some XZ->(∀q,i<=q->q<i+k->Key.i (g q).Unit∉ks/\∀p,i<=p->p<q->(g p).Unit≠(g q).Unit)/\∀u,Key.i u∈XZ↔(Key.i u∈ks\/∃q,i<=q/\q<i+k/\(g q).Unit=u)
 |0,i,ks,XZ,h=>by
  rw[jI] at h;cases h
  refine⟨fun q h1 h2=>by omega,fun u=>⟨.inl,fun h=> ?_⟩⟩;rcases h with h|⟨q,h1,h2,_⟩
  ·exact h
  ·omega
 |k+1,i,ks,XZ,h=>by
  rw[jI] at h;split at h
  ·cases h
  ·rename_i h0;obtain⟨h1,h2⟩:=Vz (k:=k) h;constructor
   ·intro q h3 h4;by_cases hq:q=i
    ·subst hq;exact⟨h0,fun p h5 h6=>by omega⟩
    ·obtain⟨h5,h6⟩:=h1 q (by omega) (by omega);rw[fC] at h5;refine⟨fun h7=>h5 (.inr h7),fun p h7 h8=> ?_⟩;by_cases hp:p=i
     ·subst hp;exact fun h9=>h5 (.inl (by rw[h9]))
     ·exact h6 p (by omega) h8
   ·intro u;rw[h2 u,fC];constructor
    ·rintro((h3|h3)|⟨q,h3,h4,h5⟩)
     ·cases h3;exact .inr ⟨i,Nat.le_refl _,by omega,rfl⟩
     ·exact .inl h3
     ·exact .inr ⟨q,by omega,by omega,h5⟩
    ·rintro(h3|⟨q,h3,h4,h5⟩)
     ·exact .inl (.inr h3)
     ·by_cases hq:q=i
      ·subst hq;exact .inl (.inl (by rw[h5]))
      ·exact .inr ⟨q,by omega,by omega,h5⟩
theorem cntNone{g:Nat->Cnt} : ∀{k i:Nat} {ks:List Key},jI g i ks k=none->∃q,i<=q/\q<i+k/\(Key.i (g q).Unit∈ks\/∃p,i<=p/\p<q/\(g p).Unit=(g q).Unit)
 |0,i,ks,h=>by rw[jI] at h;cases h
 |k+1,i,ks,h=>by
  rw[jI] at h;split at h
  ·rename_i h0;exact⟨i,Nat.le_refl _,by omega,.inl h0⟩
  ·rename_i h0;obtain⟨q,h1,h2,h3⟩:=cntNone (k:=k) h;refine⟨q,by omega,by omega,?_⟩;rcases h3 with h3|⟨p,h4,h5,h6⟩
   ·rw[fC] at h3;rcases h3 with h3|h3
    ·injection h3 with h3
     exact .inr ⟨i,Nat.le_refl _,by omega,h3.symm⟩
    ·exact .inl h3
   ·exact .inr ⟨p,by omega,h5,h6⟩
def Seen(g:Nat->Bx)(i:Nat)(ks:List Key):Prop:= ∀u,Key.i u∈ks↔∃x,x<i/\∃k,k<(g x).nc/\((g x).gc k).Unit=u
theorem seen_0(g:Nat->Bx):Seen g 0 []:=fun u=>⟨fun h=>(by cases h),fun⟨x,h,_⟩=>(by omega)⟩
theorem twice_no{g:Nat->Bx}{i:Nat}{ks:List Key}(hS:Seen g i ks)(H: ∀q,q<(g i).nc->oD (g i).gc ((g i).gc q).Unit (g i).nc<=1/\∀x,x<i->oD (g x).gc ((g i).gc q).Unit (g x).nc=0): ∃XZ,jI (g i).gc 0 ks (g i).nc=some XZ/\Seen g (i+1) XZ:=by
 cases h:jI (g i).gc 0 ks (g i).nc with
 |none=>
  obtain⟨q,_,h2,h3⟩:=cntNone h;rw[Nat.zero_add] at h2;obtain⟨h4,h5⟩:=H q h2;rcases h3 with h3|⟨p,_,h6,h7⟩
  ·obtain⟨x,h8,k,h9,h10⟩:=(hS _).1 h3;have h11:=h5 x h8;have h12:=Gi.2 ⟨k,h9,h10⟩;omega
  ·have h12:=OW.2 ⟨p,q,h6,h2,h7,rfl⟩;omega
 |some XZ=>
  refine⟨XZ,rfl,fun u=> ?_⟩;rw[(Vz h).2 u,hS u];constructor
  ·rintro(⟨x,h1,h2⟩|⟨q,_,h1,h2⟩)
   ·exact⟨x,by omega,h2⟩
   ·exact⟨i,by omega,q,by omega,h2⟩
  ·rintro⟨x,h1,k,h2,h3⟩;by_cases hx:x=i
   ·subst hx;exact .inr ⟨k,Nat.zero_le _,by omega,h3⟩
   ·exact .inl ⟨x,by omega,k,h2,h3⟩
theorem Rh{g:Nat->Bx}{i:Nat}{ks:List Key}(hS:Seen g i ks){q:Nat}(hq:q<(g i).nc)(h:1<oD (g i).gc ((g i).gc q).Unit (g i).nc\/∃x,x<i/\0<oD (g x).gc ((g i).gc q).Unit (g x).nc):jI (g i).gc 0 ks (g i).nc=none:=by
 cases h0:jI (g i).gc 0 ks (g i).nc with
 |none=>rfl
 |some XZ=>
  exfalso;have h1:=(Vz h0).1;rcases h with h|⟨x,hx,h⟩
  ·obtain⟨p,r,h2,h3,h4,h5⟩:=OW.1 h;exact(h1 r (Nat.zero_le _) (by omega)).2 p (Nat.zero_le _) h2 (by rw[h4,h5])
  ·obtain⟨k,h2,h3⟩:=Gi.1 h;exact(h1 q (Nat.zero_le _) (by omega)).1 ((hS _).2 ⟨x,hx,k,h2,h3⟩)
def iw(g:Nat->fJ)(b:Int):Nat->sH
 |0=>⟨0,0⟩
 |n+1=>if(g n).Box=b then(g n).To else iw g b n
def tu(n:Nat)(g:Nat->fJ)(m:fJ):Int:=if(kJ m.Day&&jS m.Box&&dI m.From&&dI m.To)=false then 2 else if m.From=m.To then 1 else if 0<n/\m.Day<(g (n-1)).Day then 5 else if iw g m.Box n≠m.From then 10 else 0
structure J7(g:Nat->fJ)(i:Nat)(s:EP):Prop where
 pl: ∀b,s.pl b=iw g b i
 day:s.day=if i=0 then 0 else(g (i-1)).Day
theorem ledAt_0(g:Nat->fJ):J7 g 0 xq:=⟨fun _=>rfl,rfl⟩
theorem Lp{g:Nat->fJ}{i:Nat}{s:EP}(h:J7 g i s)(m:fJ):oC s m=tu i g m:=by
 unfold oC tu;rw[h.pl,h.day];by_cases h1:(kJ m.Day&&jS m.Box&&dI m.From&&dI m.To)=false
 ·rw[if_pos h1,if_pos h1]
 ·rw[if_neg h1,if_neg h1];have hd:0<=m.Day:=by
   simp only[Bool.not_eq_false,Bool.and_eq_true] at h1;have:=h1.1.1.1;unfold kJ at this;rw[eH] at this;exact this.1
  have e:(m.Day<if i=0 then 0 else(g (i-1)).Day)↔(0<i/\m.Day<(g (i-1)).Day):=by split<;>omega
  simp only[e]
theorem OD{g:Nat->fJ}{i:Nat}{s:EP}(h:J7 g i s)(h0:oC s (g i)=0):J7 g (i+1) (oz s (g i)):=by
 unfold oz;rw[if_pos h0];refine⟨fun b=> ?_,by simp⟩;show D9 s.pl (g i).Box (g i).To b=iw g b (i+1)
 rw[iw];unfold D9;by_cases hb:b=(g i).Box
 ·rw[if_pos hb,if_pos hb.symm]
 ·rw[if_neg hb,if_neg (fun e=>hb e.symm),h.pl]
theorem XE{g:Nat->fJ} : ∀{k i:Nat} {s:EP},J7 g i s->(dP g i s k).1=0->J7 g (i+k) (dP g i s k).2
 |0,_,_,h,_=>h
 |k+1,i,s,h,h0=>by
  rw[dP] at h0⊢;split at h0
  ·rename_i h1;exact absurd h0 h1
  ·rename_i h1;rw[if_neg h1,show i+(k+1)=i+1+k by omega];exact XE (OD h (Classical.byContradiction h1)) h0
theorem led_at{n:Nat}{g:Nat->fJ}(h:dL n g=0):J7 g n (bD n g).2:=by
 have hn:=BR h;unfold dL at h;unfold bD at h⊢;rw[if_neg (by omega)] at h⊢;have:=XE (ledAt_0 g) h;rwa [Nat.zero_add] at this
theorem XD{g:Nat->fJ} : ∀{k i:Nat} {s:EP},(dP g i s k).1=0->∀q,i<=q->q<i+k->jS (g q).Box=true
 |0,i,_,_=>by intro q h1 h2;omega
 |k+1,i,s,h=>by
  rw[dP] at h;split at h
  ·rename_i h1;exact absurd h h1
  ·rename_i h1;intro q h2 h3;by_cases hq:q=i
   ·subst hq;exact(BU (Classical.byContradiction fun h9=>h1 h9)).2.1
   ·exact XD h q (by omega) (by omega)
theorem OJ{g:Nat->fJ}{b:Int} : ∀{n:Nat},(∀q,q<n->(g q).Box≠b)->iw g b n=⟨0,0⟩
 |0,_=>rfl
 |n+1,h=>by rw[iw,if_neg (h n (by omega))];exact OJ fun q hq=>h q (by omega)
theorem FK{u:Use}(h:dL u.nv u.gv=0)(x:Int):aY u x=iw u.gv x u.nv:=by
 rw[UD h];split
 ·exact(led_at h).pl x
 ·rename_i h1;have hn:=BR h;unfold dL bD at h;rw[if_neg (by omega)] at h;exact(OJ fun q hq e=>h1 (by rw[←e];exact XD h q (Nat.zero_le _) (by omega))).symm
def Xl(k:Int)(n:Nat)(g:Nat->iy)(s:Span):Bool:=decide (k<=(gq g s.From n:Int))||(lst n g).any fun x=>decide (s.From<=x.In.From)&&decide (x.In.From<s.Until)&&decide (k<=(gq g x.In.From n:Int))
theorem uP{g:Nat->iy}{s:Span}{d:Int} : ∀{n:Nat},d∈BJ g s n↔d=s.From\/∃x,x<n/\stP s (g x)=true/\d=(g x).In.From
 |0=>by simp[BJ]
 |n+1=>by
  rw[BJ];split
  ·rename_i h;rw[List.mem_append,uP (n:=n),List.mem_singleton];constructor
   ·rintro((h1|⟨x,h1,h2⟩)|h1)
    ·exact .inl h1
    ·exact .inr ⟨x,by omega,h2⟩
    ·exact .inr ⟨n,by omega,h,h1⟩
   ·rintro(h1|⟨x,h1,h2⟩)
    ·exact .inl (.inl h1)
    ·by_cases hx:x=n
     ·subst hx;exact .inr h2.2
     ·exact .inl (.inr ⟨x,by omega,h2⟩)
  ·rename_i h;rw[uP (n:=n)];constructor
   ·rintro(h1|⟨x,h1,h2⟩)
    ·exact .inl h1
    ·exact .inr ⟨x,by omega,h2⟩
   ·rintro(h1|⟨x,h1,h2⟩)
    ·exact .inl h1
    ·by_cases hx:x=n
     ·subst hx;exact absurd h2.1 h
     ·exact .inr ⟨x,by omega,h2⟩
theorem full_eq{k:Int}{n:Nat}{g:Nat->iy}{s:Span}(h: ∀i,i<n->nN (g i).In=true):Yi k n g s=Xl k n g s:=by
 unfold Yi Xl;rw[Bool.eq_iff_iff,List.any_eq_true,Bool.or_eq_true,jC];simp only[decide_eq_true_eq,Bool.and_eq_true];constructor
 ·rintro⟨d,h1,h2⟩;rcases uP.1 h1 with rfl|⟨x,h3,h4,rfl⟩
  ·exact .inl h2
  ·unfold stP at h4;simp only[Bool.and_eq_true,decide_eq_true_eq] at h4;exact .inr ⟨x,h3,⟨by omega,h4.2⟩,h2⟩
 ·rintro(h1|⟨x,h1,⟨h2,h3⟩,h4⟩)
  ·exact⟨_,uP.2 (.inl rfl),h1⟩
  ·by_cases he:s.From=(g x).In.From
   ·exact⟨_,uP.2 (.inl rfl),by rw[he];exact h4⟩
   ·refine⟨(g x).In.From,uP.2 (.inr ⟨x,h1,?_,rfl⟩),h4⟩;unfold stP;simp only[Bool.and_eq_true,decide_eq_true_eq];exact⟨⟨h x h1,by omega⟩,h3⟩
theorem bkE_spn{k:Int}{n:Nat}{g:Nat->iy}{b:iy}(h:yN k n g b=0):nN b.In=true:=by
 unfold yN at h;split at h
 ·cases h
 ·rename_i h1;cases h2:nN b.In with
  |true=>rfl
  |false=>exact absurd (.inr (.inr h2)) h1
theorem asc_lt{α:Type}{f:α->Int}{g:Nat->α}{n:Nat}(h: ∀i,i<n->0<i->f (g (i-1))<f (g i)){a b:Nat}(hab:a<b)(hb:b<n):f (g a)<f (g b):=by
 induction b with
 |zero=>omega
 |succ b ih=>
  have h1:=h (b+1) hb (by omega);rw[Nat.add_sub_cancel] at h1;by_cases h2:a=b
  ·rw[h2];exact h1
  ·exact Int.lt_trans (ih (by omega) (by omega)) h1
theorem EH{g:Nat->Cnt} : ∀{k i:Nat} {ks ks':List Key},jI g i ks k=some ks'->(∀p,i<=p->p<i+k->Key.i (g p).Unit∉ks)/\(∀p q,i<=p->p<q->q<i+k->(g p).Unit≠(g q).Unit)/\∀x,Key.i x∈ks'↔Key.i x∈ks\/∃p,i<=p/\p<i+k/\(g p).Unit=x
 |0,i,ks,ks',h=>by
  rw[jI] at h;cases h
  refine⟨fun p h1 h2=>by omega,fun p q h1 h2 h3=>by omega,fun x=>⟨.inl,?_⟩⟩;rintro(h|⟨p,h1,h2,_⟩)
  ·exact h
  ·omega
 |k+1,i,ks,ks',h=>by
  rw[jI] at h;split at h
  ·cases h
  ·rename_i h0;obtain⟨h1,h2,h3⟩:=EH h;refine⟨fun p a b=> ?_,fun p q a b c=> ?_,fun x=> ?_⟩
   ·by_cases hp:p=i
    ·rw[hp];exact h0
    ·exact fun h9=>h1 p (by omega) (by omega) (fC.2 (.inr h9))
   ·by_cases hp:p=i
    ·subst hp;exact fun h9=>h1 q (by omega) (by omega) (fC.2 (.inl (by rw[h9])))
    ·exact h2 p q (by omega) b (by omega)
   ·rw[h3 x,fC];constructor
    ·rintro((h9|h9)|⟨p,a,b,c⟩)
     ·cases h9;exact .inr ⟨i,Nat.le_refl _,by omega,rfl⟩
     ·exact .inl h9
     ·exact .inr ⟨p,by omega,by omega,c⟩
    ·rintro(h9|⟨p,a,b,c⟩)
     ·exact .inl (.inr h9)
     ·by_cases hp:p=i
      ·subst hp;exact .inl (.inl (by rw[c]))
      ·exact .inr ⟨p,by omega,by omega,c⟩
theorem YX{g:Nat->Cnt} : ∀{k i:Nat} {ks:List Key},(∀p,i<=p->p<i+k->Key.i (g p).Unit∉ks)->(∀p q,i<=p->p<q->q<i+k->(g p).Unit≠(g q).Unit)->∃ks',jI g i ks k=some ks'
 |0,i,ks,_,_=>⟨ks,rfl⟩
 |k+1,i,ks,h1,h2=>by
  rw[jI,if_neg (h1 i (Nat.le_refl _) (by omega))];refine YX (fun p a b h9=> ?_) fun p q a b c=>h2 p q (by omega) b (by omega);rcases fC.1 h9 with h9|h9
  ·injection h9 with h9
   exact h2 i p (Nat.le_refl _) (by omega) (by omega) h9.symm
  ·exact h1 p (by omega) (by omega) h9
structure BxsR(g:Nat->Bx)(i n:Nat)(ks:List Key):Prop where
 f: ∀q,i<=q->q<n->Dn (g q)=0
 asc: ∀q,i<=q->q<n->0<q->(g (q-1)).ID<(g q).ID
 ks: ∀q p,i<=q->q<n->p<(g q).nc->Key.i ((g q).gc p).Unit∉ks
 uni: ∀q q' p p',i<=q->q<n->i<=q'->q'<n->p<(g q).nc->p'<(g q').nc->((g q).gc p).Unit=((g q').gc p').Unit->q=q'/\p=p'
theorem PI{g:Nat->Bx} : ∀{k i:Nat} {ks:List Key},Dl g i ks k=0↔BxsR g i (i+k) ks
 |0,i,ks=>by
  simp only[Dl,true_iff];exact⟨fun q _ _=>by omega,fun q _ _=>by omega,fun q p _ _=>by omega,fun q q' p p' _ _=>by omega⟩
 |k+1,i,ks=>by
  rw[Dl];constructor
  ·intro h;split at h
   ·rename_i h1;exact absurd h h1
   ·rename_i h1;split at h
    ·cases h
    ·rename_i h2;split at h
     ·cases h
     ·rename_i ks' h3;obtain⟨a,b,c⟩:=EH h3;have hr:=PI.1 h;rw[show i+1+k=i+(k+1) by omega] at hr;refine⟨fun q x y=> ?_,fun q x y z=> ?_,fun q p x y z=> ?_,fun q q' p p' x y x' y' z z' hu=> ?_⟩
      ·by_cases hq:q=i
       ·rw[hq];exact Classical.byContradiction h1
       ·exact hr.f q (by omega) y
      ·by_cases hq:q=i
       ·subst hq;omega
       ·exact hr.asc q (by omega) y z
      ·by_cases hq:q=i
       ·subst hq;exact a p (Nat.zero_le _) (by omega)
       ·exact fun h9=>hr.ks q p (by omega) y z ((c _).2 (.inl h9))
      ·by_cases hq:q=i
       ·subst hq;by_cases hq':q'=q
        ·subst hq';refine⟨rfl,?_⟩;rcases Nat.lt_trichotomy p p' with h4|h4|h4
         ·exact absurd hu (b p p' (Nat.zero_le _) h4 (by omega))
         ·exact h4
         ·exact absurd hu.symm (b p' p (Nat.zero_le _) h4 (by omega))
        ·exact absurd ((c _).2 (.inr ⟨p,Nat.zero_le _,by omega,hu⟩)) (hr.ks q' p' (by omega) y' z')
       ·by_cases hq':q'=i
        ·subst hq';exact absurd ((c _).2 (.inr ⟨p',Nat.zero_le _,by omega,hu.symm⟩)) (hr.ks q p (by omega) y z)
        ·exact hr.uni q q' p p' (by omega) y (by omega) y' z z' hu
  ·intro h;rw[if_neg (by simp[h.f i (Nat.le_refl _) (by omega)]),if_neg (by rintro⟨a,b⟩;have:=h.asc i (Nat.le_refl _) (by omega) a;omega)];obtain⟨ks',hk⟩:=YX (g:=(g i).gc) (k:=(g i).nc) (i:=0) (ks:=ks) (fun p _ hp=>h.ks i p (Nat.le_refl _) (by omega) (by omega)) fun p q _ hpq hq hu=>by
    have:=(h.uni i i p q (Nat.le_refl _) (by omega) (Nat.le_refl _) (by omega) (by omega) (by omega) hu).2;omega
   rw[hk];obtain⟨a,b,c⟩:=EH hk;refine PI.2 ⟨fun q x y=>h.f q (by omega) (by omega),fun q x y z=>h.asc q (by omega) (by omega) z,fun q p x y z h9=> ?_,fun q q' p p' x y x' y'=>h.uni q q' p p' (by omega) (by omega) (by omega) (by omega)⟩;rcases(c _).1 h9 with h9|⟨p',h10,h11,h12⟩
   ·exact h.ks q p (by omega) (by omega) z h9
   ·have:=(h.uni i q p' p (Nat.le_refl _) (by omega) (by omega) (by omega) (by omega) z h12).1;omega
theorem movB_iff{u:Use}{m:fJ} :yG u m=false↔m.Day<=u.Changed/\0<=qc u.nb u.gb m.Box/\Ew u m.From=true/\Ew u m.To=true:=by
 unfold yG;simp only[Bool.or_eq_false_iff,decide_eq_false_iff_not,Bool.not_eq_false'];constructor
 ·rintro⟨⟨⟨a,b⟩,c⟩,d⟩;exact⟨by omega,by omega,c,d⟩
 ·rintro⟨a,b,c,d⟩;exact⟨⟨⟨by omega,by omega⟩,c⟩,d⟩
theorem plc_bix{u:Use}(hr:BA u){x:Int}(h:(aY u x).Kind≠0):0<=qc u.nb u.gb x:=by
 obtain⟨q,h1,h2⟩:=plc_moved h;have:=(movB_iff.1 (hr.mvs q h1)).2.1;rwa [h2] at this
theorem shf_asc{n:Nat}{g:Nat->nU}(h:eF n g=0): ∀i,i<n->0<i->(g (i-1)).ID<(g i).ID:=fun i hi h0=>by
 unfold eF at h;split at h
 ·cases h
 ·have:=Gp.1 h i hi;unfold qx at this;split at this
  ·cases this
  ·split at this
   ·cases this
   ·omega
theorem Ot{g:Nat->fJ}{x:Int} : ∀{k i:Nat} {s:EP},Key.i x∈(dP g i s k).2.ks->Key.i x∈s.ks\/jS x=true
 |0,i,s,h=> .inl h
 |k+1,i,s,h=>by
  rw[dP] at h;split at h
  ·exact .inl h
  ·rename_i h0;have h0:=Classical.byContradiction h0;rcases Ot h with h1|h1
   ·unfold oz at h1;rw[if_pos h0] at h1;rcases fC.1 h1 with h2|h2
    ·injection h2 with h2
     rw[h2];exact .inr (BU h0).2.1
    ·exact .inl h2
   ·exact .inr h1
theorem insK_nd{k:Key}{ks:List Key}(h:ks.Nodup):(kQ k ks).Nodup:=by
 unfold kQ;split
 ·exact h
 ·rename_i h1;rw[List.nodup_append];exact⟨h,by simp,fun a ha b hb=>by simp at hb;subst hb;exact fun h2=>h1 (h2▸ha)⟩
theorem XC{g:Nat->fJ} : ∀{k i:Nat} {s:EP},s.ks.Nodup->(dP g i s k).2.ks.Nodup
 |0,i,s,h=>h
 |k+1,i,s,h=>by
  rw[dP];split
  ·exact h
  ·apply XC;unfold oz;split
   ·exact insK_nd h
   ·exact h
theorem Zq{pl:Int->sH}{p:sH}{ks:List Key}(hk: ∀k∈ks,k.str=false){x:Int}(h:x∈lg pl p ks):Key.i x∈ks/\pl x=p:=by
 unfold lg at h;obtain⟨k,h1,h2⟩:=List.mem_map.1 h;obtain⟨h3,h4⟩:=List.mem_filter.1 h1;have h5:=hk k h3;cases k with
 |s b=>cases h5
 |i y=>
  have h2:y=x:=h2;subst h2;exact⟨h3,(show p=pl y from of_decide_eq_true h4).symm⟩
theorem atOf_nd{pl:Int->sH}{p:sH} : ∀{ks:List Key},(∀k∈ks,k.str=false)->ks.Nodup->(lg pl p ks).Nodup
 |[],_,_=>List.nodup_nil
 |k::ks,hk,h=>by
  have h1:=List.nodup_cons.1 h;have ih:=atOf_nd (pl:=pl) (p:=p) (ks:=ks) (fun k' h'=>hk k' (List.mem_cons_of_mem _ h')) h1.2;unfold lg at ih⊢;rw[List.filter_cons];split
  ·rw[List.map_cons,List.nodup_cons];refine⟨fun hm=> ?_,ih⟩;have hm:kI k∈lg pl p ks:=hm;have h2:=(Zq (fun k' h'=>hk k' (List.mem_cons_of_mem _ h')) hm).1;have h5:=hk k (List.mem_cons_self);cases k with
   |s b=>cases h5
   |i y=>exact h1.1 h2
  ·exact ih
theorem atL_mem{u:Use}(hm:dL u.nv u.gv=0){p:sH}{x:Int}(h:x∈atL u.nv u.gv p):aY u x=p/\jS x=true:=by
 have hn:=BR hm;have hr:bD u.nv u.gv=dP u.gv 0 xq u.nv:=if_neg (by omega);unfold atL at h;have h:=(List.mergeSort_perm _ _).mem_iff.1 h;obtain⟨h1,h2⟩:=Zq (uZ u.nv u.gv).kind h;have h3:jS x=true:=by
  rw[hr] at h1;rcases Ot h1 with h3|h3
  ·exact absurd h3 (by simp[xq])
  ·exact h3
 rw[UD hm,if_pos h3];exact⟨h2,h3⟩
theorem sIx_self{n:Nat}{g:Nat->nU}(h:eF n g=0){f:Nat}(hf:f<n):uU n g (g f).ID=(f:Int):=
 ix_of hf (by simp) fun j hj=>by
  have:=asc_lt (f:=nU.ID) (shf_asc h) hj hf;simp;omega
theorem shf_pos{n:Nat}{g:Nat->nU}(h:eF n g=0){i:Nat}(hi:i<n):1<=(g i).Length:=by
 have hn:aI (qx g) 0 n=0:=by
  unfold eF at h;split at h
  ·cases h
  ·exact h
 have h1:=Gp.1 hn i hi;unfold qx at h1;split at h1
 ·cases h1
 ·rename_i h2;have h2:sW (g i)=true:=by simpa using h2
  unfold sW at h2;simp only[Bool.and_eq_true,eH] at h2;omega
def StdF(u:Use)(f:Nat):Prop:=(∀i,i<u.nb->aY u (u.gb i).ID=⟨1,(u.gf f).ID⟩->(u.gb i).dU=(u.gf f).dU)/\iq u (u.gf f).ID u.nb<=(u.gf f).Length
def StdR(u:Use):Prop:= ∀f,f<u.nf->StdF u f
theorem MI{u:Use}{s:Int} : ∀{n:Nat},(∀i,i<n->aY u (u.gb i).ID≠⟨1,s⟩)->iq u s n=0
 |0,_=>rfl
 |n+1,h=>by rw[iq,if_neg (h n (by omega)),MI fun i hi=>h i (by omega)];rfl
theorem std_iff{u:Use}(hs:eF u.nf u.gf=0)(hk: ∀i,i<u.nb->(aY u (u.gb i).ID).Kind=1->0<=uU u.nf u.gf (aY u (u.gb i).ID).Of):StdR u↔HeldR u:=by
 have key: ∀i,i<u.nb->(aY u (u.gb i).ID).Kind=1->∃f,f<u.nf/\aY u (u.gb i).ID=⟨1,(u.gf f).ID⟩/\Ql u (aY u (u.gb i).ID).Of=u.gf f:=by
  intro i hi h1;obtain⟨h2,h3⟩:=sIx_at (hk i hi h1);refine⟨_,h2,?_,rfl⟩;rcases h4:aY u (u.gb i).ID with⟨a,b⟩;rw[h4] at h1 h3;simp only at h1 h3;rw[h1,h3]
 have self: ∀f,f<u.nf->Ql u (u.gf f).ID=u.gf f:=by
  intro f hf;unfold Ql;rw[sIx_self hs hf];rfl
 constructor
 ·intro H;refine⟨fun i hi h1=> ?_,fun i hi h1=> ?_⟩
  ·obtain⟨f,hf,h2,h3⟩:=key i hi h1;rw[h3];exact((H f hf).1 i hi h2).symm
  ·obtain⟨f,hf,h2,h3⟩:=key i hi h1;rw[h3,h2];exact(H f hf).2
 ·intro H f hf;refine⟨fun i hi h1=> ?_,?_⟩
  ·have:=H.cli i hi (by rw[h1]);rw[h1,self f hf] at this;exact this.symm
  ·by_cases h1: ∃i,i<u.nb/\aY u (u.gb i).ID=⟨1,(u.gf f).ID⟩
   ·obtain⟨i,hi,h2⟩:=h1;have:=H.sum i hi (by rw[h2]);rw[h2,self f hf] at this;exact this
   ·rw[MI fun i hi h2=>h1 ⟨i,hi,h2⟩];have:=shf_pos hs hf;omega
structure LntR(u:Use):Prop where
 req: ∀i,i<u.nr->(u.gr i).Changed<=u.Changed/\((u.gr i).State=2->aY u (u.gr i).Box=⟨3,(u.gr i).Reader⟩)
 box: ∀i,i<u.nb->(aY u (u.gb i).ID).Kind=3->∃j,j<u.nr/\(u.gr j).State=2/\(u.gr j).Box=(u.gb i).ID/\(u.gr j).Reader=(aY u (u.gb i).ID).Of
theorem lnt_iff{u:Use} :LntR u↔LentS u:=by
 constructor
 ·rintro⟨h1,h2⟩;refine⟨fun i hi=>(h1 i hi).1,fun i hi=>(h1 i hi).2,fun i hi h=> ?_⟩;obtain⟨j,h3,h4,h5,_⟩:=h2 i hi h;exact⟨j,h3,h4,h5⟩
 ·rintro⟨h1,h2,h3⟩;refine⟨fun i hi=>⟨h1 i hi,h2 i hi⟩,fun i hi h=> ?_⟩;obtain⟨j,h4,h5,h6⟩:=h3 i hi h;refine⟨j,h4,h5,h6,?_⟩;have:=h2 j h4 h5;rw[h6] at this;rw[this]
structure BatS(u:Use):Prop where
 ZG: ∀i,i<u.nt->BatR u i
 shw: ∀i,i<u.nw->Q8 u i
 nt:u.nt<=64
 lnk: ∀i,i<u.nl->LnkS u i
 nl:u.nl<=1024
 nw:u.nw<=1024
structure RefR(u:Use):Prop where
 day:jy u.Changed 0 1048575=true
 pol:fP u.P=0
 box:dQ u.nb u.gb=0
 shf:eF u.nf u.gf=0
 mov:dL u.nv u.gv=0
 req:fO u.nr u.gr=0
 bkg:je u.nI u.nk u.gk=0
 ZG:BatS u
 mvs: ∀q,q<u.nv->yG u (u.gv q)=false
 std:StdR u
 lnt:LntR u
theorem ref_iff{u:Use} :RefR u↔BA u:=by
 constructor
 ·intro h;have hk: ∀i,i<u.nb->(aY u (u.gb i).ID).Kind=1->0<=uU u.nf u.gf (aY u (u.gb i).ID).Of:=fun i hi h1=>vC (lM.2 h.mvs) h1;exact⟨h.pol,h.box,h.shf,h.mov,h.req,h.bkg,h.ZG.ZG,h.ZG.lnk,h.ZG.shw,h.day,h.ZG.nt,h.ZG.nl,h.ZG.nw,h.mvs,(std_iff h.shf hk).1 h.std,lnt_iff.1 h.lnt⟩
 ·intro h;have hk: ∀i,i<u.nb->(aY u (u.gb i).ID).Kind=1->0<=uU u.nf u.gf (aY u (u.gb i).ID).Of:=fun i hi h1=>vC (lM.2 h.mvs) h1;exact⟨h.day,h.pol,h.box,h.shf,h.mov,h.req,h.bkg,⟨h.ZG,h.shw,h.nt,h.lnk,h.nl,h.nw⟩,h.mvs,(std_iff h.shf hk).2 h.hld,lnt_iff.2 h.lnt⟩
theorem xE{β:Type}{f:Nat->List β}{x:β} : ∀{n:Nat},x∈gather f n↔∃i,i<n/\x∈f i
 |0=>by simp[gather]
 |n+1=>by
  rw[gather,List.mem_append,xE (n:=n)];constructor
  ·rintro(⟨i,h1,h2⟩|h)
   ·exact⟨i,by omega,h2⟩
   ·exact⟨n,by omega,h⟩
  ·rintro⟨i,h1,h2⟩;by_cases hi:i=n
   ·subst hi;exact .inr h2
   ·exact .inl ⟨i,by omega,h2⟩
theorem SE{β:Type}{R:β->β->Prop}{f:Nat->List β} : ∀{n:Nat},(∀i,i<n->(f i).Pairwise R)->(∀i j,i<j->j<n->∀x∈f i,∀y∈f j,R x y)->(gather f n).Pairwise R
 |0,_,_=>by simp[gather]
 |n+1,h1,h2=>by
  rw[gather,List.pairwise_append];refine⟨SE (n:=n) (fun i hi=>h1 i (by omega)) (fun i j hi hj=>h2 i j hi (by omega)),h1 n (by omega),fun x hx y hy=> ?_⟩;obtain⟨i,hi,hx⟩:=xE.1 hx;exact h2 i n hi (by omega) x hx y hy
def Iq(u:Use)(s:Int)(i:Nat):List Int:=if aY u (u.gb i).ID=⟨1,s⟩ then[(u.gb i).ID] else[]
theorem Lm{u:Use}{s:Int}{i:Nat}{x:Int} :x∈Iq u s i↔aY u (u.gb i).ID=⟨1,s⟩/\x=(u.gb i).ID:=by
 unfold Iq;split
 ·rename_i h;simp[h]
 ·rename_i h;simp[h]
theorem bx_asc{n:Nat}{g:Nat->Bx}(h:dQ n g=0): ∀i,i<n->0<i->(g (i-1)).ID<(g i).ID:=fun i hi h0=>by
 unfold dQ at h;split at h
 ·cases h
 ·exact(PI.1 h).asc i (Nat.zero_le _) (by omega) h0
theorem rOn_pw{u:Use}(hb:dQ u.nb u.gb=0){s:Int} :(gather (Iq u s) u.nb).Pairwise (·< ·):=by
 refine SE (fun i _=> ?_) (fun i j hi hj x hx y hy=> ?_)
 ·unfold Iq;split<;>simp
 ·rw[(Lm.1 hx).2,(Lm.1 hy).2];exact asc_lt (f:=Bx.ID) (bx_asc hb) hi hj
theorem rOn_eq{u:Use}(hr:BA u){s:Int} :gather (Iq u s) u.nb=atL u.nv u.gv ⟨1,s⟩:=by
 have hp:=rOn_pw hr.box (s:=s);show _=yY (lg (bD u.nv u.gv).2.pl ⟨1,s⟩ (bD u.nv u.gv).2.ks)
 refine uQ ?_ (hp.imp fun h=>Int.le_of_lt h);have hn:=BR hr.mov;have hnd:(lg (bD u.nv u.gv).2.pl ⟨1,s⟩ (bD u.nv u.gv).2.ks).Nodup:=atOf_nd (uZ u.nv u.gv).kind (by
  unfold bD;split
  ·exact List.nodup_nil
  ·exact XC List.nodup_nil)
 refine(List.perm_ext_iff_of_nodup (List.nodup_iff_pairwise_ne.2 (hp.imp fun h=>by omega)) hnd).2 fun x=> ?_;rw[xE];constructor
 ·rintro⟨i,hi,h⟩;obtain⟨h1,h2⟩:=Lm.1 h;rw[←h2] at h1;rw[UD hr.mov] at h1;split at h1
  ·refine List.mem_map.2 ⟨.i x,List.mem_filter.2 ⟨?_,by simp[kI,h1]⟩,rfl⟩;apply Classical.byContradiction;intro h3;rw[(uZ u.nv u.gv).out x h3] at h1;cases h1
  ·cases h1
 ·intro h;have h1:aY u x=⟨1,s⟩:=(atL_mem hr.mov (p:=⟨1,s⟩) ((List.mergeSort_perm _ _).mem_iff.2 h)).1;have h2:=plc_bix hr (x:=x) (by rw[h1];show(1:Int)≠0;decide);obtain⟨h3,h4⟩:=bIx_at h2;exact⟨_,h3,Lm.2 ⟨by rw[h4];exact h1,h4.symm⟩⟩
def zA(u:Use)(f:Nat):List Std:=if 0<(gather (Iq u (u.gf f).ID) u.nb).length then[⟨(u.gf f).ID,(gather (Iq u (u.gf f).ID) u.nb).length,nth (gather (Iq u (u.gf f).ID) u.nb)⟩] else[]
theorem shf_id{n:Nat}{g:Nat->nU}(h:eF n g=0){i:Nat}(hi:i<n):jS (g i).ID=true:=by
 have hn:aI (qx g) 0 n=0:=by
  unfold eF at h;split at h
  ·cases h
  ·exact h
 have h1:=Gp.1 hn i hi;unfold qx at h1;split at h1
 ·cases h1
 ·rename_i h2;have h2:sW (g i)=true:=by simpa using h2
  unfold sW at h2;simp only[Bool.and_eq_true] at h2;exact h2.1.1.1
theorem rStd_eq{u:Use}(hr:BA u){f:Nat}(hf:f<u.nf):zA u f=mM u f:=by
 have he:atE u.nv u.gv ⟨1,(u.gf f).ID⟩=0:=by
  unfold atE;rw[if_neg (by simp[hr.mov]),if_neg];rintro(h|h)
  ·unfold dI at h;rw[if_neg (show ¬((1:Int)=0\/(1:Int)=2\/(1:Int)=4) by decide),if_pos (show(1:Int)=1\/(1:Int)=3 by decide),shf_id hr.shf hf] at h;cases h
  ·exact absurd h (show ¬(1:Int)=0 by decide)
 unfold zA mM onS;rw[rOn_eq hr,he];simp
theorem SG{β:Type}{f g:Nat->List β} : ∀{n:Nat},(∀i,i<n->f i=g i)->gather f n=gather g n
 |0,_=>rfl
 |n+1,h=>by rw[gather,gather,h n (by omega),SG fun i hi=>h i (by omega)]
theorem rStds_eq{u:Use}(hr:BA u):gather (zA u) u.nf=gather (mM u) u.nf:=SG fun f hf=>rStd_eq hr hf
end Go.Proofs.YthlhlnbcjlpigaaGreatDoor
