/- Contracts and lemmas, joined out of smaller texts by a program; no conditions. -/
import Derived.Test.YthlhlnbcjlpigaaGreatDoorKB36
set_option linter.unusedVariables false
set_option linter.unusedSimpArgs false
set_option maxHeartbeats 1000000
set_option maxRecDepth 100000
namespace Go.Proofs.YthlhlnbcjlpigaaGreatDoor
open Go.aU Go.bY Go.Proofs.Tryz
variable (σ : List aC)
theorem awp_thawE{P:Program}{c:Code}{Q:Exit->St->Prop}{N:Nat}{t t':List (Nat×AV)}{σ:List aC}{mv:List Nat}(k sz:Nat)(row:Nat->List D){sz0:Nat}{row0:Nat->List D}(hk:get t k=some (.d (.sl (some 0) sz0 0 row0)))(ht:put t k (.ms σ.length sz 0 0)=t')
  (h:dY P c Q ⟨N,t',σ++[.arr sz 0 row],mv⟩):dY P c Q ⟨N,t,σ,mv⟩:=by
 refine iW (s':=⟨N,t',σ++[.arr sz 0 row],mv⟩) ?_ h;intro j0 j a w hr;subst ht;have hval: ∃p,a.tmps.getD k Go.undef= .slice p 0 0:=by
  have hx:=(hr.tmp k _ hk).2;generalize a.tmps.getD k Go.undef=v at hx
  cases hx with|d hx=>
  cases hx with
  |sl a c' val hcap _ _ _ _ _ _ _=>rcases hcap with h|h<;>simp at h;subst h;exact⟨_,rfl⟩
  |zero p c' hcap _=>rcases hcap with h|h<;>simp at h;subst h;exact⟨_,rfl⟩
 obtain⟨p,hp⟩:=hval;obtain⟨h1,h2,h3⟩:=hr.cZ.H8 (sz:=sz) (rows:=row) (p:=p);refine⟨j++[none],⟨hr.defers.mono h3,hr.jw,hr.size,fun q av hq=> ?_,h1,by have:=hr.len0;simp;omega,fun c hc hn=> ?_⟩,h3⟩
 ·simp only at hq;rw[get_put] at hq;split at hq
  ·rename_i e;subst e;simp only[Option.some.injEq] at hq;subst hq;exact⟨(hr.tmp k _ hk).1,by rw[hp];exact h2⟩
  ·exact⟨(hr.tmp q av hq).1,(hr.tmp q av hq).2.kM h3 hr.cZ.lt (bZ _ _)⟩
 ·have hcj:c<j.length:=by have:=hr.len0;omega
  rw[List.getElem?_append_left hcj];exact hr.ag c hc hn
theorem bad_no{x:nJ}(h: ∀q,q<x.nb->Eu (jl x x.Round).length (nth (jl x x.Round)) (x.b q)=true):VY x=false:=by
 unfold VY;rw[(WS _ _ _ _).2 h];simp
theorem bad_yes{x:nJ}{q:Nat}(hq:q<x.nb)(h:Eu (jl x x.Round).length (nth (jl x x.Round)) (x.b q)=false):VY x=true:=by
 unfold VY;have:subB (jl x x.Round).length (nth (jl x x.Round)) x.nb x.b=false:=by
  rw[←Bool.not_eq_true,WS];intro hs;rw[hs q hq] at h;cases h
 rw[this];simp;omega
def bkS(ID rd m:Nat):ByteArray:=if m=0 then⟨#[]⟩ else keyS ID rd m
theorem VW{ID rd m:Nat}(h:m≠0):bkS ID rd m=keyS ID rd m:=if_neg h
theorem bkS_zero(ID rd:Nat):bkS ID rd 0=⟨#[]⟩:=rfl
theorem XJ{L:List Int}{v:Int} :Eu L.length (nth L) v=decide (v∈L):=by
 rw[Bool.eq_iff_iff,Oy,decide_eq_true_eq,List.mem_iff_getElem];constructor
 ·rintro⟨i,h1,h2⟩;exact⟨i,h1,by rw[←h2,zI h1]⟩
 ·rintro⟨i,h1,h2⟩;exact⟨i,h1,by rw[zI h1];exact h2⟩
theorem pad0_more{p:ByteArray}{i q:Nat}(hq:q<p.size+1+i+1):aX (p.size+1+i) (uO (vG p)) (rowsOf 1 [.v (.int .u8 0)]) q=uO (vG p) q:=by
 unfold aX;split
 ·rfl
 ·rw[show q=p.size+1+i by omega];simp only[rowsOf,uO,vG];rw[if_neg (by omega),if_neg (by omega)];simp
theorem pad0_row{p:ByteArray}{q:Nat}(hq:q<p.size+1):aX p.size (strRow p) (rowsOf 1 [.v (.int .u8 6)]) q=uO (vG p) q:=by
 unfold aX;split
 ·rename_i h;simp only[uO,vG,h,if_true,strRow,qo]
 ·rw[show q=p.size by omega];simp[rowsOf,uO,vG]
def wV(L:List Nat)(j:Nat):List Int:=(L.take j).map fun n:Nat=>(n:Int)
theorem pkI_cat{L:List Nat}{j:Nat}(h:j<L.length){q:Nat}(hq:q<j+1):aX j (fun q=>encI (nth (wV L j) q)) (rowsOf 1 [I ((L[j]:Nat):Int)]) q=encI (nth (wV L (j+1)) q):=by
 unfold aX wV;split
 ·rename_i h1;show encI (nth ((L.take j).map fun n:Nat=>(n:Int)) q)=encI (nth ((L.take (j+1)).map fun n:Nat=>(n:Int)) q)
  rw[UN _ (by simp;omega),UN _ (by simp;omega),zI (show q<(L.take j).length by simp;omega),zI (show q<(L.take (j+1)).length by simp;omega)];simp
 ·rw[show q=j by omega,UN _ (by simp;omega),zI (show j<(L.take (j+1)).length by simp;omega)];simp[rowsOf,encI]
theorem pkI_len{L:List Nat}{j:Nat}(h:j<=L.length):(wV L j).length=j:=by simp[wV];omega
theorem Ui{x:nJ}(h: ¬Rng x):CQ x=false:=by
 cases hr:CQ x with
 |false=>rfl
 |true=>exact absurd ((Nr x).1 hr) h
theorem Dx(b:nJ)(hn:b.nu<1000000000)(hm:b.nb<1000000000):ay prog 150 [.agg (b.enc.map .d)] σ (.d (B (jF b))):=by
 refine ay.bs true func150 fun hwf=> ?_;refine aH [1,4] ?_ ?_<;>intro c0 d0
 ·simp[go_sem];refine aj ?_;have e:jF b=(b.Round==0&&(b.nb:Int)==0):=by
   rw[Bool.eq_iff_iff];simp[jF,d0]<;>omega
  rw[e];simp[go_sem]
 ·simp[go_sem];refine aH [1,4] ?_ ?_<;>intro c1 d1
  ·simp[go_sem];refine aj ?_;have e:jF b=(decide (0<b.Round)&&(b.nb:Int)==0):=by
    rw[Bool.eq_iff_iff];simp[jF,d1]<;>omega
   rw[e];simp[go_sem]
  ·simp[go_sem];refine aH [1,4] ?_ ?_<;>intro c2 d2
   ·simp[go_sem];refine aj ?_;have e:jF b=(decide (0<b.Round)&&decide ((b.nb:Int)<=b.Accept)):=by
     rw[Bool.eq_iff_iff];simp[jF,d2]<;>omega
    rw[e];simp[go_sem]
   ·simp[go_sem];refine aH [1] ?_ ?_<;>intro c3 d3
    ·simp[go_sem];refine aj ?_;have e:jF b=(decide (0<b.Round)&&decide (b.Accept<(b.nb:Int))):=by
      rw[Bool.eq_iff_iff];simp[jF,d3]<;>omega
     rw[e];simp[go_sem]
    ·simp[go_sem];refine aj ?_;have e:jF b=false:=by
      rw[Bool.eq_iff_iff];simp[jF,d0,d1,d2,d3]<;>omega
     rw[e];simp[go_sem]
theorem yh(c:Option Nat)(n:Nat)(g:Nat->Int)(hn:n<1000000000):ay prog 147 [.d (SL c 1 encI n g)] σ (.d (B (lV g n))):=by
 refine ay.bs true func147 fun hwf=> ?_;refine gy (α:=Nat) true [0,5,6] (fun i=>[(6,.d (I i))]) (fun i=>_) (fun i=>i<=n/\∀q,0<q->q<i->g (q-1)<g q) (fun i=>n-i) 0 ?_;rintro i ⟨hi,hx⟩;simp[go_sem];refine aH [0,5,6] ?_ ?_<;>intro c0 d0
 ·simp[go_sem];refine T.dr 14 fun K hK=> ?_;simp[go_sem,aZ (i:=i) (by omega)];repeat refine⟨by omega,?_⟩
  refine hK _ ?_;refine go true ?_;simp[go_sem];refine aH [0,5,6] ?_ ?_<;>intro c1 d1
  ·simp[go_sem];rw[P6 d0 d1.1 d1.2];exact aj sc
  ·simp(disch:=first|omega|simp) [go_sem,aA];refine dB (i+1) ⟨by omega,AY hx d1⟩ (h:=by simp[go_sem]<;>omega)
 ·obtain rfl:i=n:=by omega
  simp[go_sem];refine go true ?_;simp[go_sem];rw[Hf hx];exact aj sc
theorem U1(c:Option Nat)(n:Nat)(g:Nat->Int)(k:Int)(hn:n<1000000000):ay prog 149 [.d (SL c 1 encI n g),.d (I k)] σ (.d (B (Eu n g k))):=by
 refine ay.bs true func149 fun hwf=> ?_;refine gy (α:=Nat) true [1,7,8,9] (fun i=>[(9,.d (I i))]) (fun i=>_) (fun i=>i<=n/\∀q,q<i->g q≠k) (fun i=>n-i) 0 ?_;rintro i ⟨hi,hx⟩;simp[go_sem];refine aH [1,7,8,9] ?_ ?_<;>intro c0 d0
 ·simp[go_sem];repeat refine⟨by omega,?_⟩
  refine aH [1,7,8,9] ?_ ?_<;>intro c1 d1
  ·simp[go_sem];rw[(Oy n g k).2 ⟨i,d0,d1⟩];exact aj sc
  ·simp(disch:=first|omega|simp) [go_sem,aA];refine dB (i+1) ⟨by omega,fun q hq=>by rcases Nat.lt_or_eq_of_le (Nat.le_of_lt_succ hq) with h|h;exact hx q h;rw[h];exact d1⟩ (h:=by simp[go_sem]<;>omega)
 ·obtain rfl:i=n:=by omega
  simp[go_sem];refine go true (sm ?_);refine aj ?_;have hz:Eu i g k=false:=by
   rw[←Bool.not_eq_true,Oy];rintro⟨q,h1,h2⟩;exact hx q h1 h2
  rw[hz];simp[go_sem]
theorem yu(x:Int)(k:Nat)(hk:k<64):ay prog 369 [.d (U x),.d (I k)] σ (.d (U (Ig x k))):=by
 have hs:IntKind.i64.wrap (64-(k:Int))=64-(k:Int):=aA (by omega) (by omega);refine ay.bd true func369 fun hwf=> ?_;simp[go_sem];refine T.dr 8 fun K hK=> ?_;simp[go_sem,hs];repeat refine⟨by omega,?_⟩
 refine hK _ ?_;refine go true ?_;simp[go_sem];refine aj ?_;simp[go_sem,Ig]<;>omega
theorem Eh:ay prog 319 [] σ (.agg (bg .i64 25 wO)):=by
 refine ay.bs true func319 fun hwf=> ?_;refine aj ?_;simp[go_sem];exact kL (k:= .i64) (n:=25) (f:=wO)
theorem Ei:ay prog 318 [] σ (.agg (bg .u64 24 rcF)):=by
 refine ay.bs true func318 fun hwf=> ?_;refine aj ?_;simp[go_sem];exact kL (k:= .u64) (n:=24) (f:=rcF)
theorem NS(a:Nat->Int)(c:Int):ay prog 320 [.agg (bg .u64 25 a),.d (U c),.agg (bg .i64 25 wO)] σ (.agg (bg .u64 25 (zk a c))):=by
 refine ay.bd true func320 fun hwf=> ?_;simp[go_sem];refine zJ (α:=Nat) true [1,3,5,6,7,8] (fun i=>[(8,.d (I i))]) (fun i=>σ++[.var (bg .u64 25 a),.var (bg .i64 25 wO),.var (bg .u64 25 fun _=>0),.var (bg .u64 5 (aT a i))]) (fun i=>i<=25) (fun i=>25-i) 0 (by simp[go_sem]) (rfl) (by simp) ?_;rintro i hi;simp[go_sem];refine aH [1,3,5,6,7,8] ?_ ?_<;>intro c0 d0
 ·have hi5:i<25:=by omega
  have hi4:i<=24:=by omega
  have ht:(i:Int).tmod 5=(i:Int)%5:=sU (by omega);have hsu:aT a (i+1)=upd (aT a i) (i%5) (pJ .u64 (aT a i (i%5)) (a i)):=rfl;simp[go_sem];refine T.dr 10 fun K hK=> ?_;simp[go_sem,tn_mod5,JB,le_m5,hi5,hi4,ht];repeat refine⟨by omega,?_⟩
  refine hK _ ?_;refine go true ?_;simp(disch:=first|omega|simp) [go_sem,aA];refine dB (i+1) (by omega) (h:=by simp[go_sem]<;>omega) (hσ:=by simp[go_sem,hsu]) (hb:=au (by simp[go_sem]))
 ·obtain rfl:i=25:=by omega
  simp[go_sem];refine go true ?_;simp[go_sem];refine zJ (α:=Nat) true [1,3,5,6,7,9] (fun i=>[(9,.d (I i))]) (fun i=>σ++[.var (bg .u64 25 (bJ a (aT a 25) i)),.var (bg .i64 25 wO),.var (bg .u64 25 fun _=>0),.var (bg .u64 5 (aT a 25))]) (fun i=>i<=25) (fun i=>25-i) 0 (by simp[go_sem]) (rfl) (by simp) ?_;rintro i hi;simp[go_sem];refine aH [1,3,5,6,7,9] ?_ ?_<;>intro c1 d1
  ·have hi5:i<25:=by omega
   have hi4:i<=24:=by omega
   have hw4:IntKind.i64.wrap ((i:Int)+4)=(i:Int)+4:=aA (by omega) (by omega);have hw1:IntKind.i64.wrap ((i:Int)+1)=(i:Int)+1:=aA (by omega) (by omega);have hth:bJ a (aT a 25) (i+1)=upd (bJ a (aT a 25) i) i (pJ .u64 (pJ .u64 (bJ a (aT a 25) i i) (aT a 25 ((i+4)%5))) (Ig (aT a 25 ((i+1)%5)) 1)):=rfl;simp[go_sem];refine T.dr 17 fun K hK=> ?_;simp[go_sem,tn_x4,tn_x1,JB,le_m5,hi5,hi4,hw4,hw1,md_x4,md_x1];repeat refine⟨by omega,?_⟩
   refine dS.mk (yu _ (aT a 25 ((i+1)%5)) 1 (by decide)) ?_;simp[go_sem,hi5,hi4];repeat refine⟨by omega,?_⟩
   refine hK _ ?_;refine go true ?_;simp(disch:=first|omega|simp) [go_sem,hw1];refine dB (i+1) (by omega) (h:=by simp[go_sem]<;>omega) (hσ:=by simp[go_sem,hth]) (hb:=au (by simp[go_sem]))
  ·obtain rfl:i=25:=by omega
   simp[go_sem];refine go true ?_;simp[go_sem];refine zJ (α:=Nat) true [1,3,5,6,10,11] (fun x=>[(11,.d (I x))]) (fun x=>σ++[.var (bg .u64 25 (bJ a (aT a 25) 25)),.var (bg .i64 25 wO),.var (bg .u64 25 fun _=>0),.var (bg .u64 5 (aT a 25)),.var (bg .u64 25 (iJ (bJ a (aT a 25) 25) x))]) (fun x=>x<=5) (fun x=>5-x) 0 (by simp[go_sem]) (rfl) (by simp) ?_;rintro x hx;simp[go_sem];refine aH [1,3,5,6,10,11] ?_ ?_<;>intro c2 d2
   ·have hx5:x<5:=by omega
    simp[go_sem];refine zJ (α:=Nat) true [1,3,5,6,10,11,12] (fun y=>[(12,.d (I y))]) (fun y=>σ++[.var (bg .u64 25 (bJ a (aT a 25) 25)),.var (bg .i64 25 wO),.var (bg .u64 25 fun _=>0),.var (bg .u64 5 (aT a 25)),.var (bg .u64 25 (aah (bJ a (aT a 25) 25) x (iJ (bJ a (aT a 25) 25) x) y))]) (fun y=>y<=5) (fun y=>5-y) 0 (by simp[go_sem]) (rfl) (by simp) ?_;rintro y hy;simp[go_sem];refine aH [1,3,5,6,10,11,12] ?_ ?_<;>intro c3 d3
    ·have hy5:y<5:=by omega
     have hbu:aah (bJ a (aT a 25) 25) x (iJ (bJ a (aT a 25) 25) x) (y+1)=upd (aah (bJ a (aT a 25) 25) x (iJ (bJ a (aT a 25) 25) x) y) (y+5*((2*x+3*y)%5)) (Ig ((bJ a (aT a 25) 25) (x+5*y)) (Uh (x+5*y))):=rfl;simp[go_sem];refine T.dr 22 fun K hK=> ?_;simp[go_sem,WC,hx5,hy5,wk_5,wk_2,wk_3,wk_xy,wk_23,md_23,wk_m5,wk_b,RX,OG];repeat refine⟨by omega,?_⟩
     refine dS.mk (yu _ ((bJ a (aT a 25) 25) (x+5*y)) (Uh (x+5*y)) (rotN_lt _)) ?_;simp[go_sem,tn_b,JB,hy5,RX,OG];repeat refine⟨by omega,?_⟩
     refine hK _ ?_;refine go true ?_;simp(disch:=first|omega|simp) [go_sem,aA];refine dB (y+1) (by omega) (h:=by simp[go_sem]<;>omega) (hσ:=by simp[go_sem,hbu]) (hb:=au (by simp[go_sem]))
    ·obtain rfl:y=5:=by omega
     have hbo:iJ (bJ a (aT a 25) 25) (x+1)=aah (bJ a (aT a 25) 25) x (iJ (bJ a (aT a 25) 25) x) 5:=rfl;simp[go_sem];refine go true ?_;simp(disch:=first|omega|simp) [go_sem,aA];refine dB (x+1) (by omega) (h:=by simp[go_sem]<;>omega) (hσ:=by simp[go_sem,hbo]) (hb:=au (by simp[go_sem]))
   ·obtain rfl:x=5:=by omega
    simp[go_sem];refine go true ?_;simp[go_sem];refine zJ (α:=Nat) true [1,3,6,10,13] (fun x=>[(13,.d (I x))]) (fun x=>σ++[.var (bg .u64 25 (zl (iJ (bJ a (aT a 25) 25) 5) (bJ a (aT a 25) 25) x)),.var (bg .i64 25 wO),.var (bg .u64 25 fun _=>0),.var (bg .u64 5 (aT a 25)),.var (bg .u64 25 (iJ (bJ a (aT a 25) 25) 5))]) (fun x=>x<=5) (fun x=>5-x) 0 (by simp[go_sem]) (rfl) (by simp) ?_;rintro x hx;simp[go_sem];refine aH [1,3,6,10,13] ?_ ?_<;>intro c4 d4
    ·have hx5:x<5:=by omega
     simp[go_sem];refine zJ (α:=Nat) true [1,3,6,10,13,14] (fun y=>[(14,.d (I y))]) (fun y=>σ++[.var (bg .u64 25 (roIn (iJ (bJ a (aT a 25) 25) 5) x (zl (iJ (bJ a (aT a 25) 25) 5) (bJ a (aT a 25) 25) x) y)),.var (bg .i64 25 wO),.var (bg .u64 25 fun _=>0),.var (bg .u64 5 (aT a 25)),.var (bg .u64 25 (iJ (bJ a (aT a 25) 25) 5))]) (fun y=>y<=5) (fun y=>5-y) 0 (by simp[go_sem]) (rfl) (by simp) ?_;rintro y hy;simp[go_sem];refine aH [1,3,6,10,13,14] ?_ ?_<;>intro c5 d5
     ·have hy5:y<5:=by omega
      have hou:roIn (iJ (bJ a (aT a 25) 25) 5) x (zl (iJ (bJ a (aT a 25) 25) 5) (bJ a (aT a 25) 25) x) (y+1)=upd (roIn (iJ (bJ a (aT a 25) 25) 5) x (zl (iJ (bJ a (aT a 25) 25) 5) (bJ a (aT a 25) 25) x) y) (x+5*y) (Pz (iJ (bJ a (aT a 25) 25) 5) x y):=rfl;have hch:pJ .u64 ((iJ (bJ a (aT a 25) 25) 5) (x+5*y)) (andI .u64 (comI .u64 ((iJ (bJ a (aT a 25) 25) 5) ((x+1)%5+5*y))) ((iJ (bJ a (aT a 25) 25) 5) ((x+2)%5+5*y)))=Pz (iJ (bJ a (aT a 25) 25) 5) x y:=rfl;simp[go_sem];refine T.dr 29 fun K hK=> ?_;simp[go_sem,WC,tn_c1,tn_c2,JB,hx5,hy5,wk_5,wk_xy,wk_x1,wk_x2,md_x1,md_x2,wk_c1,wk_c2,RX,OG,hch];repeat refine⟨by omega,?_⟩
      refine hK _ ?_;refine go true ?_;simp(disch:=first|omega|simp) [go_sem,aA];refine dB (y+1) (by omega) (h:=by simp[go_sem]<;>omega) (hσ:=by simp[go_sem,hou]) (hb:=au (by simp[go_sem]))
     ·obtain rfl:y=5:=by omega
      have hoo:zl (iJ (bJ a (aT a 25) 25) 5) (bJ a (aT a 25) 25) (x+1)=roIn (iJ (bJ a (aT a 25) 25) 5) x (zl (iJ (bJ a (aT a 25) 25) 5) (bJ a (aT a 25) 25) x) 5:=rfl;simp[go_sem];refine go true ?_;simp(disch:=first|omega|simp) [go_sem,aA];refine dB (x+1) (by omega) (h:=by simp[go_sem]<;>omega) (hσ:=by simp[go_sem,hoo]) (hb:=au (by simp[go_sem]))
    ·obtain rfl:x=5:=by omega
     simp[go_sem];refine go true ?_;simp[go_sem];refine aj (sm ?_);rw[←arrV_ext (fun q hq=>round_eq a c hq)];exact kL (k:= .u64) (n:=25) (f:=aac a c)
theorem Io(a:Nat->Int):ay prog 255 [.agg (bg .u64 25 a)] σ (.agg (bg .u64 25 (nS a 24))):=by
 refine ay.bs true func255 fun hwf=> ?_;refine aW.mk (Ei _) (sm ?_);refine aW.mk (Eh _) (sm ?_);refine gy (α:=Nat) true [1,2,3,4,5] (fun i=>[(5,.d (I i))]) (fun i=>σ++[.var (bg .u64 25 (nS a i)),.var (bg .u64 25 fun _=>0),.var (bg .u64 24 rcF),.var (bg .i64 25 wO)]) (fun i=>i<=24) (fun i=>24-i) 0 ?_;rintro i hi;simp[go_sem];refine aH [1,2,3,4,5] ?_ ?_<;>intro c0 d0
 ·have hi5:i<24:=by omega
  have hi4:i<=23:=by omega
  have hpu:nS a (i+1)=zk (nS a i) (rcF i):=rfl;simp[go_sem];refine T.dr 6 fun K hK=> ?_;simp[go_sem,hi5,hi4];repeat refine⟨by omega,?_⟩
  refine dS.mk (NS _ (nS a i) (rcF i)) ?_;simp[go_sem];refine hK _ ?_;refine go true ?_;simp(disch:=first|omega|simp) [go_sem,aA];refine dB (i+1) (by omega) (h:=by simp[go_sem]<;>omega) (hσ:=by simp[go_sem,hpu]) (hb:=au (by simp[go_sem]))
 ·obtain rfl:i=24:=by omega
  simp[go_sem];refine go true (sm ?_);refine aj ?_;simp[go_sem];exact kL (k:= .u64) (n:=25) (f:=nS a 24)
theorem Uy(p:ByteArray)(hp:p.size<=100):ay prog 193 [.d (Sb p)] σ (.d (Sb (digS p))):=by
 refine ay.be func193 fun hwf=> ?_;refine ak fun K hK=>sm ?_;refine hK _ ?_;refine ak fun K hK=> ?_;simp[go_sem,hwf.zero];repeat refine⟨by omega,?_⟩
 refine hK _ ?_;refine aK ?_;refine aN ?_;refine bF [3] (by simp[go_sem,bf];rfl) ?_;refine qg [σ.length] (by simp) ?_;refine bU (α:=Nat×(Nat->List D)) (fun z=>[(3,.ms σ.length 1 0 (p.size+1+z.1))]) (fun z=>σ++[.arr 1 (p.size+1+z.1) z.2]) (fun z=>p.size+1+z.1<=136/\∀q,q<p.size+1+z.1->z.2 q=uO (vG p) q) (fun z=>136-z.1) (0,aX p.size (strRow p) (rowsOf 1 [.v (.int .u8 6)])) (by simp[go_sem]) (rfl) (⟨by show p.size+1+0<=136;omega,fun q hq=>pad0_row hq⟩) ?_;rintro⟨i,row⟩ ⟨hi,hrow⟩;replace hi:p.size+1+i<=136:=hi;refine bC σ.length (uO (vG p)) (by simp[go_sem];rfl) hrow (by simp[go_sem];rfl) ?_
 refine aK ?_;refine ak fun K hK=>sm ?_;try simp(disch:=omega) only[sU]
 refine hK _ ?_;refine pW [3,16] ?_;refine ig ?_ ?_<;>intro c0 d0
 ·have hlt:p.size+1+i<136:=by omega
  refine aV ?_;refine aN ?_;refine aQ fun K hK=> ?_;simp[go_sem,c0,hwf.zero];repeat refine⟨by omega,?_⟩
  refine hK _ ?_;refine⟨(i+1,aX (p.size+1+i) (uO (vG p)) (rowsOf 1 [.v (.int .u8 0)])),bK (by simp[go_sem,(Nat.add_assoc (p.size+1) i 1)]) ((au (by simp[go_sem]))) (by(simp[go_sem,(Nat.add_assoc (p.size+1) i 1)]<;>omega)),⟨by show p.size+1+(i+1)<=136;omega,fun q hq=>pad0_more hq⟩,by first|omega|(dsimp only;omega)⟩
 ·have hk6:p.size+1+i=136:=by omega
  have h135:uO (vG p) 135=[.v (.int .u8 (vG p 135))]:=rfl;have hw5:IntKind.i64.wrap 135=135:=rfl;rw[hk6];refine dh ?_;refine ak fun K hK=> ?_;simp[go_sem,d0,h135,hw5];refine hK _ ?_;refine bC σ.length (uO (nK p)) (by simp[go_sem];exact⟨rfl,rfl,rfl⟩) (by
   intro q hq;by_cases hq5:q=135
   ·subst hq5;simp[go_sem,uO,nK]
   ·simp[go_sem,hq5,uO,nK]) (by simp[go_sem];rfl) ?_
  refine ak fun K hK=> ?_;simp[go_sem];refine hK _ ?_;refine aK ?_;refine ak fun K hK=> ?_;simp[go_sem];refine hK _ ?_;refine aN ?_;refine bF [3,4,5] (by simp[go_sem,bf];rfl) ?_;refine bU (α:=Nat) (fun q=>[(5,.d (I ((136*q:Nat):Int)))]) (fun q=>σ++[.arr 1 136 (uO (nK p)),.var (bg .u64 25 (if q=0 then fun _=>0 else stS p))]) (fun q=>q<=1) (fun q=>1-q) 0 (by simp[go_sem]) (rfl) (by simp) ?_;rintro q hq1;refine aK ?_;refine ak fun K hK=> ?_;simp[go_sem];refine hK _ ?_;refine pW [3,4,5,36] ?_;refine ig ?_ ?_<;>intro c1 d1
  ·have hq0:q=0:=by omega
   subst hq0;refine aV ?_;refine aK ?_;refine aN ?_;refine aK ?_;refine ak fun K hK=> ?_;simp[go_sem];refine hK _ ?_;refine aN ?_;refine bF [3,4,5,6] (by simp[go_sem,bf];rfl) ?_;refine bU (α:=Nat) (fun r=>[(6,.d (I r))]) (fun r=>σ++[.arr 1 136 (uO (nK p)),.var (bg .u64 25 (sS (fun _=>0) (nK p) r))]) (fun r=>r<=136) (fun r=>136-r) 0 (by simp[go_sem]) (rfl) (by simp) ?_;rintro r hr;refine aK ?_;refine ak fun K hK=> ?_;simp[go_sem];refine hK _ ?_;refine pW [3,4,5,6,40] ?_;refine ig ?_ ?_<;>intro c2 d2
   ·have hr5:r<136:=by omega
    have hd:r/8<25:=by omega
    have hd4:r/8<=24:=by omega
    have h1:(r:Int).tdiv 8=(r:Int)/8:=Rj (by omega);have h2:IntKind.i64.wrap ((r:Int)/8)=(r:Int)/8:=aA (by omega) (by omega);have h3:(r:Int).tmod 8=(r:Int)%8:=sU (by omega);have h4:IntKind.i64.wrap (8*((r:Int)%8))=8*((r:Int)%8):=aA (by omega) (by omega);have hau:sS (fun _=>0) (nK p) (r+1)=upd (sS (fun _=>0) (nK p) r) (r/8) (pJ .u64 (sS (fun _=>0) (nK p) r (r/8)) (shlI .u64 (IntKind.u64.wrap (nK p r)) (8*((r:Int)%8)))):=rfl;have hur:uO (nK p) r=[.v (.int .u8 (nK p r))]:=rfl;have hwr:IntKind.i64.wrap (r:Int)=r:=aA (by omega) (by omega);have hrn:((r:Int)).toNat=r:=rfl;refine aV ?_;refine aK ?_;refine aN ?_;refine T.dr 18 fun K hK=> ?_;simp[go_sem,d2,hr5,hd,hd4,h1,h2,h3,h4,hur,tn_d8,hwr,hrn];repeat refine⟨by omega,?_⟩
    refine hK _ ?_;refine aQ fun K hK=> ?_;simp[go_sem];try simp(disch:=omega) only[aA]
    refine hK _ ?_;refine⟨r+1,bK (by simp[go_sem,hau]) ((au (by simp[go_sem]))) (by(simp[go_sem]<;>omega)),by omega,by first|omega|(dsimp only;omega)⟩
   ·obtain rfl:r=136:=by omega
    have hst:nS (sS (fun _=>0) (nK p) 136) 24=stS p:=rfl;have hdr:List.drop 25 (bg .u64 25 (sS (fun _=>0) (nK p) 136))=[]:=arrV_drop (Nat.le_refl _);refine dh ?_;refine aQ fun K hK=> ?_;simp[go_sem];refine aW.mk (Io _ (sS (fun _=>0) (nK p) 136)) ?_;simp[go_sem,hst,hdr];refine hK _ ?_;refine aQ fun K hK=> ?_;simp[go_sem];try simp(disch:=omega) only[aA]
    refine hK _ ?_;refine⟨1,bK (by simp[go_sem]) ((au (by simp[go_sem]))) (by(simp[go_sem]<;>omega)),by omega,by first|omega|(dsimp only;omega)⟩
  ·obtain rfl:q=1:=by omega
   refine dh ?_;refine ak fun K hK=> ?_;simp[go_sem];refine hK _ ?_;refine aK ?_;refine awp_thawE 7 1 (uO (UG p)) (by simp[go_sem];exact⟨rfl,rfl⟩) (by simp[go_sem];rfl) ?_;refine ak fun K hK=> ?_;simp[go_sem];refine hK _ ?_;refine aN ?_;refine bF [4,7,8] (by simp[go_sem,bf];rfl) ?_;refine qg [σ.length,σ.length+2] (by simp) ?_;refine bU (α:=Nat) (fun i=>[(7,.ms (σ.length+2) 1 0 i),(8,.d (I i))]) (fun i=>σ++[.arr 1 136 (uO (nK p)),.var (bg .u64 25 (stS p)),.arr 1 i (uO (UG p))]) (fun i=>i<=32) (fun i=>32-i) 0 (by simp[go_sem]) (rfl) (by simp) ?_;rintro i hi;refine aK ?_;refine ak fun K hK=> ?_;simp[go_sem];refine hK _ ?_;refine pW [4,7,8,66] ?_;refine ig ?_ ?_<;>intro c3 d3
   ·have hi5:i<32:=by omega
    have hd:i/8<25:=by omega
    have hd4:i/8<=24:=by omega
    have h1:(i:Int).tdiv 8=(i:Int)/8:=Rj (by omega);have h2:IntKind.i64.wrap ((i:Int)/8)=(i:Int)/8:=aA (by omega) (by omega);have h3:(i:Int).tmod 8=(i:Int)%8:=sU (by omega);have h4:IntKind.i64.wrap (8*((i:Int)%8))=8*((i:Int)%8):=aA (by omega) (by omega);refine aV ?_;refine aK ?_;refine aN ?_;refine aQ fun K hK=> ?_;simp[go_sem,d3,hd,hd4,h1,h2,h3,h4,tn_d8,hwf.one];repeat refine⟨by omega,?_⟩
    refine hK _ ?_;refine bC (σ.length+2) (uO (UG p)) (by simp[go_sem];exact⟨rfl,rfl,rfl⟩) (by intro q hq;unfold aX;split;rfl;rw[show q=i by omega];simp[rowsOf,uO,UG]) (by simp[go_sem];rfl) ?_;refine aQ fun K hK=> ?_;simp[go_sem];try simp(disch:=omega) only[aA]
    refine hK _ ?_;refine⟨i+1,bK (by simp[go_sem]) ((au (by simp[go_sem]))) (by(simp[go_sem]<;>omega)),by omega,by first|omega|(dsimp only;omega)⟩
   ·obtain rfl:i=32:=by omega
    refine dh ?_;refine ak fun K hK=> ?_;simp[go_sem,OT];refine hK _ ?_;refine aj ?_;simp[go_sem];rfl
theorem Qo(x:nJ)(rd:Int)(hx:Rng x)(ha:lV x.u x.nu=true)(h0:0<=rd)(h1:rd<=1024)(hσ:σ[0]? =some (.tab 0 iR)):ay prog 148 [.agg (x.enc.map .d),.d (I rd)] σ (.d (SL none 1 encI (jl x rd).length (nth (jl x rd)))):=by
 have hdp:=draw_pick hx ha rd;obtain⟨ID,O1⟩: ∃ID:Nat,x.ID=ID:=⟨x.ID.toNat,by have:=hx.id1;omega⟩;obtain⟨r,rfl⟩: ∃r:Nat,rd=r:=⟨rd.toNat,by omega⟩;obtain⟨k,hk⟩: ∃k:Nat,x.kS=k:=⟨x.kS.toNat,by have:=hx.s1;omega⟩;have g1:=hx.id1;have g2:=hx.id2;have g3:=hx.n1;have g4:=hx.n2;have g5:=hx.s1;have g6:=hx.s2;obtain⟨L,hLd⟩: ∃L,L=Xt ID r (lst x.nu (uj x)):=⟨_,rfl⟩;have hO:Q9 ID r (lst x.nu (uj x)) L:=by rw[hLd];exact IE _ _ _
 rw[O1,hk,Int.toNat_natCast,Int.toNat_natCast,Int.toNat_natCast,←hLd] at hdp;replace hdp:jW (fun i=>decide (x.u i∈wV L k)) x.u x.nu=jl x r:=hdp
 have hLn:L.length=x.nu:=by rw[hO.1.length_eq,bP]
 have hkL:k<=L.length:=by omega
 have hu1: ∀i,i<x.nu->1<=uj x i:=fun i hi=>by have:=hx.u1 i hi;unfold uj;omega
 have hu2: ∀i,i<x.nu->uj x i<=1073741824:=fun i hi=>by have:=hx.u1 i hi;unfold uj;omega
 have hu3: ∀i,i<x.nu->x.u i=((uj x i:Nat):Int):=fun i hi=>by have:=hx.u1 i hi;unfold uj;omega
 have hu4: ∀i j,i<j->j<x.nu->uj x i<uj x j:=fun i j h1 h2=>by
  have:=LQ ha h1 h2;have:=hu3 i (by omega);have:=hu3 j h2;omega
 have hnd:=Jy hx ha;have s1:=kF (n:=ID) (by omega);have s2:=kF (n:=r) (by omega);refine ay.be func148 fun hwf=> ?_;refine ak fun K hK=> ?_;simp[go_sem,O1,hk];refine hK _ ?_;refine ak fun K hK=> ?_;simp[go_sem];refine aW.mk (BX _ ID (by omega) (aO hσ)) ?_;simp[go_sem,wJ];repeat refine⟨by omega,?_⟩
 refine aW.mk (BX _ r (by omega) (aO hσ)) ?_;simp[go_sem,ByteArray.size_append,wJ];repeat refine⟨by omega,?_⟩
 refine hK _ ?_;refine ak fun K hK=> ?_;simp[go_sem];refine hK _ ?_;refine aK ?_;refine aN ?_;refine dn 6 1 (fun q=>encI (nth (wV L 0) q)) (by simp[go_sem]) (by simp[go_sem];rfl) ?_;refine bF [2,5,6] (by simp[go_sem,bf];rfl) ?_;refine qg [σ.length+1,σ.length+2] (by simp) ?_;refine bU (α:=Nat×(Nat->List D)) (fun z=>[(6,.ms (σ.length+1) 1 0 z.1)]) (fun z=>σ++[.var (x.enc.map .d),.arr 1 z.1 z.2]) (fun z=>z.1<=k/\∀q,q<z.1->z.2 q=encI (nth (wV L z.1) q)) (fun z=>k-z.1) (0,fun q=>encI (nth (wV L 0) q)) (by simp[go_sem]) (by simp[go_sem,O1,hk]) (⟨Nat.zero_le _,fun q hq=>rfl⟩) ?_;rintro⟨j,row⟩ ⟨hj,hrow⟩;replace hj:j<=k:=hj;refine bC (σ.length+1) (fun q=>encI (nth (wV L j) q)) (by simp[go_sem];rfl) hrow (by simp[go_sem];rfl) ?_
 refine aK ?_;refine ak fun K hK=> ?_;simp[go_sem,O1,hk];refine hK _ ?_;refine pW [2,5,6,27] ?_;refine ig ?_ ?_<;>intro c0 d0
 ·have hj5:j<k:=by omega
  have hpl:=pkI_len (L:=L) (j:=j) (by omega);refine aV ?_;refine aN ?_;refine ak fun K hK=> ?_;simp[go_sem,d0];refine hK _ ?_;refine aK ?_;refine ak fun K hK=> ?_;simp[go_sem];refine hK _ ?_;refine aN ?_;refine bF [2,5,6,7,8,29,30,31] (by simp[go_sem,bf];rfl) ?_;refine bU (α:=Nat) (fun i=>[(31,.d (I i)),(7,.d (I ((jf ID r (wV L j) (uj x) i:Nat):Int))),(8,.d (Sb (bkS ID r (jf ID r (wV L j) (uj x) i))))]) (fun i=>σ++[.var (x.enc.map .d),.arr 1 j (fun q=>encI (nth (wV L j) q))]) (fun i=>i<=x.nu) (fun i=>x.nu-i) 0 (by simp[go_sem,jf,bkS_zero]) (by simp[go_sem,O1,hk]) (by simp) ?_;rintro i hi;refine ak fun K hK=> ?_;simp[go_sem,O1,hk];refine hK _ ?_;refine aK ?_;refine pW [2,5,6,7,8,29,30,31,32] ?_;refine ig ?_ ?_<;>intro c1 d1
  ·have hi5:i<x.nu:=by omega
   have e3:=hu3 i hi5;have hin:Eu j (nth (wV L j)) ((uj x i:Nat):Int)=decide (((uj x i:Nat):Int)∈wV L j):=by
    have:=XJ (L:=wV L j) (v:=((uj x i:Nat):Int));rwa [hpl] at this
   refine aV ?_;refine aK ?_;refine aN ?_;refine ak fun K hK=> ?_;simp[go_sem,d1,e3];refine hK _ ?_;refine aK ?_;refine ak fun K hK=> ?_;simp[go_sem];refine aW.mk ((U1 [] none j (nth (wV L j)) ((uj x i:Nat):Int) (by omega)).view1 rfl (by simp[go_sem])) ?_;simp[go_sem,hin];refine hK _ ?_;refine pW [2,5,6,7,8,10,29,30,31,37] ?_;refine ig ?_ ?_<;>intro c2 d2
   ·have hb:=Ze (ID:=ID) (rd:=r) (P:=wV L j) (u:=uj x) (i:=i) (by simpa using d2);refine dh ?_;refine aQ fun K hK=> ?_;simp[go_sem,d2];try simp(disch:=omega) only[aA]
    refine hK _ ?_;refine⟨i+1,bK (by simp[go_sem,O1,hk]) ((au (by simp[go_sem]))) (by(simp[go_sem,O1,hk,hb]<;>omega)),by omega,by first|omega|(dsimp only;omega)⟩
   ·have hnin: ¬((uj x i:Nat):Int)∈wV L j:=by simpa using d2
    have s3:=kF (n:=uj x i) (hu2 i hi5);have ht:OO ID++⟨#[32]⟩++OO r++⟨#[32]⟩++OO (uj x i)=textS ID r (uj x i):=rfl;have hks:digS (textS ID r (uj x i))=keyS ID r (uj x i):=rfl;refine aV ?_;refine ak fun K hK=> ?_;simp[go_sem,d2];refine aW.mk (BX _ (uj x i) (hu2 i hi5) (aO hσ)) ?_;simp[go_sem,ByteArray.size_append,wJ,ht];repeat refine⟨by omega,?_⟩
    refine aW.mk (Uy _ (textS ID r (uj x i)) (L8 (by omega) (by omega) (hu2 i hi5))) ?_;simp[go_sem,hks];refine hK _ ?_;refine ak fun K hK=> ?_;simp[go_sem];refine hK _ ?_;refine pW [2,5,6,7,8,10,11,29,30,31,49] ?_;refine ig ?_ ?_<;>intro c3 d3
    ·have hb:=Tn (ID:=ID) (rd:=r) (P:=wV L j) (u:=uj x) (i:=i) hnin (by
      by_cases hz:jf ID r (wV L j) (uj x) i=0
      ·exact .inl hz
      ·right;rw[←VW hz];unfold Qd;simpa[hz] using d3)
     have hp:=hu1 i hi5;have hkp:=VW (ID:=ID) (rd:=r) (m:=uj x i) (by omega);refine aQ fun K hK=> ?_;simp[go_sem,c3];refine hK _ ?_;refine aQ fun K hK=> ?_;simp[go_sem];try simp(disch:=omega) only[aA]
     refine hK _ ?_;refine⟨i+1,bK (by simp[go_sem,O1,hk]) ((au (by simp[go_sem]))) (by(simp[go_sem,O1,hk,hb,hkp]<;>omega)),by omega,by first|omega|(dsimp only;omega)⟩
    ·have hb:=Tm (ID:=ID) (rd:=r) (P:=wV L j) (u:=uj x) (i:=i) hnin (by
      intro hz;rcases hz with hz|hz
      ·simp[hz] at d3
      ·by_cases hz0:jf ID r (wV L j) (uj x) i=0
       ·simp[hz0] at d3
       ·rw[←VW hz0] at hz;unfold Qd at hz;simp[hz] at d3)
     refine aV ?_;refine aQ fun K hK=> ?_;simp[go_sem,d3];try simp(disch:=omega) only[aA]
     refine hK _ ?_;refine⟨i+1,bK (by simp[go_sem,O1,hk]) ((au (by simp[go_sem]))) (by(simp[go_sem,O1,hk,hb]<;>omega)),by omega,by first|omega|(dsimp only;omega)⟩
  ·obtain rfl:i=x.nu:=by omega
   have hnx:=bestU_next (ID:=ID) (rd:=r) (k:=j) hu1 hu4 hnd hO (by omega);replace hnx:jf ID r (wV L j) (uj x) x.nu=L[j]'(by omega):=hnx
   refine dh ?_;refine aQ fun K hK=> ?_;simp[go_sem,hnx,hwf.one];repeat refine⟨by omega,?_⟩
   refine hK _ ?_;refine⟨(j+1,aX j (fun q=>encI (nth (wV L j) q)) (rowsOf 1 [I ((L[j]'(by omega):Nat):Int)])),bK (by simp[go_sem,O1,hk]) ((au (by simp[go_sem]))) (by(simp[go_sem,O1,hk]<;>omega)),⟨by show j+1<=k;omega,fun q hq=>pkI_cat (by omega) hq⟩,by first|omega|(dsimp only;omega)⟩
 ·obtain rfl:j=k:=by omega
  have hpl:=pkI_len (L:=L) (j:=j) (by omega);refine dh ?_;refine ak fun K hK=> ?_;simp[go_sem];refine hK _ ?_;refine aK ?_;refine ak fun K hK=> ?_;simp[go_sem];refine hK _ ?_;refine aN ?_;refine dn 12 1 (fun q=>encI (nth ([]:List Int) q)) (by simp[go_sem]) (by simp[go_sem];rfl) ?_;refine bF [6,12,58,59,60] (by simp[go_sem,bf];rfl) ?_;refine bU (α:=Nat) (fun i=>[(60,.d (I i)),(12,.ms (σ.length+2) 1 0 (jW (fun i=>decide (x.u i∈wV L j)) x.u i).length)]) (fun i=>σ++[.var (x.enc.map .d),.arr 1 j (fun q=>encI (nth (wV L j) q)),.arr 1 (jW (fun i=>decide (x.u i∈wV L j)) x.u i).length (fun q=>encI (nth (jW (fun i=>decide (x.u i∈wV L j)) x.u i) q))]) (fun i=>i<=x.nu) (fun i=>x.nu-i) 0 (by simp[go_sem,jW]) (by simp[go_sem,O1,hk,jW]) (by simp) ?_;rintro i hi;refine ak fun K hK=> ?_;simp[go_sem,O1,hk];refine hK _ ?_;refine aK ?_;refine pW [6,12,58,59,60,61] ?_;refine ig ?_ ?_<;>intro c4 d4
  ·have hi5:i<x.nu:=by omega
   have hin:Eu j (nth (wV L j)) (x.u i)=decide (x.u i∈wV L j):=by
    have:=XJ (L:=wV L j) (v:=x.u i);rwa [hpl] at this
   have hll:=RH (fun i=>decide (x.u i∈wV L j)) x.u i;refine aV ?_;refine aK ?_;refine aN ?_;refine ak fun K hK=> ?_;simp[go_sem,d4];refine hK _ ?_;refine ak fun K hK=> ?_;simp[go_sem];refine aW.mk ((U1 [] none j (nth (wV L j)) (x.u i) (by omega)).view1 rfl (by simp[go_sem])) ?_;simp[go_sem,hin];refine hK _ ?_;refine pW [6,12,14,58,59,60,66] ?_;refine ig ?_ ?_<;>intro c5 d5
   ·have hp:jW (fun i=>decide (x.u i∈wV L j)) x.u (i+1)=jW (fun i=>decide (x.u i∈wV L j)) x.u i++[x.u i]:=by rw[jW,if_pos (by simpa using d5)]
    refine aQ fun K hK=> ?_;simp[go_sem,d5,hwf.one];repeat refine⟨by omega,?_⟩
    refine hK _ ?_;refine bC (σ.length+2) (fun q=>encI (nth (jW (fun i=>decide (x.u i∈wV L j)) x.u i++[x.u i]) q)) (by simp[go_sem];exact⟨rfl,rfl,rfl⟩) (by exact fun q hq=>qF (enc:=encI) (x:=x.u i) rfl hq) (by simp[go_sem];rfl) ?_;refine aQ fun K hK=> ?_;simp[go_sem];try simp(disch:=omega) only[aA]
    refine hK _ ?_;refine⟨i+1,bK (by simp[go_sem,O1,hk,hp]) ((au (by simp[go_sem]))) (by(simp[go_sem,O1,hk,hp]<;>omega)),by omega,by first|omega|(dsimp only;omega)⟩
   ·have hp:jW (fun i=>decide (x.u i∈wV L j)) x.u (i+1)=jW (fun i=>decide (x.u i∈wV L j)) x.u i:=by rw[jW,if_neg (by simpa using d5)]
    refine aV ?_;refine aQ fun K hK=> ?_;simp[go_sem,d5];try simp(disch:=omega) only[aA]
    refine hK _ ?_;refine⟨i+1,bK (by simp[go_sem,O1,hk,hp]) ((au (by simp[go_sem]))) (by(simp[go_sem,O1,hk,hp]<;>omega)),by omega,by first|omega|(dsimp only;omega)⟩
  ·obtain rfl:i=x.nu:=by omega
   refine dh ?_;refine ak fun K hK=> ?_;simp[go_sem,hdp];refine hK _ ?_;refine aF hwf (σ.length+2) ?_;refine aj ?_;simp[go_sem]<;>omega
theorem NC(x:nJ)(hn:x.nu<1000000000)(hm:x.nb<1000000000)(hσ:σ[0]? =some (.tab 0 iR)):ay prog 84 [.agg (x.enc.map .d)] σ (.d (I (G5 x))):=by
 refine ay.bs true func84 fun hwf=> ?_;refine aH [1] ?_ ?_<;>intro c0 d0
 ·have hz:CQ x=false:=Ui fun h=>by have:=h.id1;have:=h.id2;have:=h.d1;have:=h.d2;have:=h.r1;have:=h.r2;have:=h.n1;have:=h.n2;omega
  simp[go_sem];rw[chk_2 hz];exact aj sc
 ·simp[go_sem];refine gy (α:=Nat) true [1,49,50,51] (fun i=>[(51,.d (I i))]) (fun i=>σ++[.var (x.enc.map .d)]) (fun i=>i<=x.nu/\∀q,q<i->1<=x.u q/\x.u q<=1073741824) (fun i=>x.nu-i) 0 ?_;rintro i ⟨hi,hx⟩;simp[go_sem];refine aH [1,49,50,51] ?_ ?_<;>intro c1 d1
  ·have hi5:i<x.nu:=by omega
   simp[go_sem,hi5];refine aH [1,49,50,51] ?_ ?_<;>intro c2 d2
   ·have hz:CQ x=false:=Ui fun h=>by have:=h.u1 i hi5;omega
    simp[go_sem];rw[chk_2 hz];exact aj sc
   ·simp(disch:=first|omega|simp) [go_sem,aA];refine dB (i+1) ⟨by omega,fun q hq=>by rcases Nat.lt_or_eq_of_le (Nat.le_of_lt_succ hq) with h|h;exact hx q h;rw[h];omega⟩ (h:=by simp[go_sem]<;>omega) (hσ:=by simp[go_sem]) (hb:=au (by simp[go_sem]))
  ·obtain rfl:i=x.nu:=by omega
   simp[go_sem];refine go true (sm ?_);refine aH [1] ?_ ?_<;>intro c3 d3
   ·have hz:CQ x=false:=Ui fun h=>by have:=h.s1;have:=h.s2;have:=h.a1;have:=h.a2;omega
    simp[go_sem];rw[chk_2 hz];exact aj sc
   ·have hx:Rng x:=⟨by omega,by omega,by omega,by omega,by omega,by omega,by omega,by omega,hx,by omega,by omega,by omega,by omega⟩;have hz:CQ x=true:=(Nr x).2 hx;simp[go_sem];refine aW.mk (yh _ none x.nu x.u hn) (sm ?_);refine fA.mk (yh _ none x.nb x.b hm) (sm ?_);refine aH [1] ?_ ?_<;>intro c4 d4
    ·simp[go_sem];rw[chk_5 hz c4];exact aj sc
    ·have hasc:lV x.u x.nu=true:=by cases h:lV x.u x.nu with|true=>rfl|false=>rw[h] at c4;cases c4
     have hr1:=hx.r1;have hr2:=hx.r2;have hdl:=YL x x.Round;simp[go_sem];refine aH [1] ?_ ?_<;>intro c5 d5
     ·simp[go_sem];refine aW.mk (Qo _ x x.Round hx hasc hr1 hr2 (aO hσ)) (sm ?_);refine gy (α:=Nat) true [1,5,104,105,106] (fun i=>[(106,.d (I i))]) (fun i=>σ++[.var (x.enc.map .d)]) (fun i=>i<=x.nb/\∀q,q<i->Eu (jl x x.Round).length (nth (jl x x.Round)) (x.b q)=true) (fun i=>x.nb-i) 0 ?_;rintro i ⟨hi,hy⟩;simp[go_sem];refine aH [1,5,104,105,106] ?_ ?_<;>intro c6 d6
      ·have hi5:i<x.nb:=by omega
       simp[go_sem,hi5];refine aW.mk (U1 _ none (jl x x.Round).length (nth (jl x x.Round)) (x.b i) (by omega)) ?_;simp[go_sem];refine aH [1,5,104,105,106] ?_ ?_<;>intro c7 d7
       ·have hb:=bad_yes hi5 (by simpa using d7);simp[go_sem];rw[chk_7 hz c4 hb];exact aj sc
       ·simp(disch:=first|omega|simp) [go_sem,aA];refine dB (i+1) ⟨by omega,fun q hq=>by rcases Nat.lt_or_eq_of_le (Nat.le_of_lt_succ hq) with h|h;exact hy q h;rw[h];simpa using d7⟩ (h:=by simp[go_sem]<;>omega) (hσ:=by simp[go_sem]) (hb:=au (by simp[go_sem]))
      ·obtain rfl:i=x.nb:=by omega
       have hb:=bad_no hy;simp[go_sem];refine go true (sm ?_);refine aW.mk (Dx _ x hn hm) (sm ?_);refine aH [] ?_ ?_<;>intro c8 d8
       ·simp[go_sem];rw[chk_11 hz c4 hb (by simpa using c8)];exact aj sc
       ·simp[go_sem];rw[chk_0 hz c4 hb (by simpa using c8)];exact aj sc
     ·have hb:VY x=false:=bad_no fun q hq=>by omega
      clear c5 d5;have c5:True:=trivial;have d5:True:=trivial;simp[go_sem];refine aW.mk (Dx _ x hn hm) (sm ?_);refine aH [] ?_ ?_<;>intro c9 d9
      ·simp[go_sem];rw[chk_11 hz c4 hb (by simpa using c9)];exact aj sc
      ·simp[go_sem];rw[chk_0 hz c4 hb (by simpa using c9)];exact aj sc
theorem Nz(c:Option Nat)(n:Nat)(g:Nat->H6)(hn:n<1000000000):ay prog 85 [.d (SL c 2 H6.enc n g)] σ (.d (B (yC g n))):=by
 refine ay.bs true func85 fun hwf=> ?_;refine gy (α:=Nat) true [0,5,6,7] (fun i=>[(7,.d (I i))]) (fun i=>_) (fun i=>i<=n/\∀q,q<i->Lh g q) (fun i=>n-i) 0 ?_;rintro i ⟨hi,hx⟩;simp[go_sem];refine aH [0,5,6,7] ?_ ?_<;>intro c0 d0
 ·have hi5:i<n:=by omega
  simp[go_sem,hi5];refine T.dr 33 fun K hK=> ?_;simp[go_sem,aZ (i:=i) (by omega)];repeat refine⟨by omega,?_⟩
  refine hK _ ?_;refine go true ?_;simp[go_sem];refine aH [0,5,6,7] ?_ ?_<;>intro c1 d1
  ·have hz:yC g n=false:=XQ hi5 fun hr=>by
    have h1:=hr.1;have h2:=hr.2.1;have h3:=hr.2.2;omega
   simp[go_sem];rw[hz];exact aj sc
  ·have hr:Lh g i:=⟨d1.1.1.1,⟨d1.1.1.2,d1.1.2⟩,d1.2⟩;simp(disch:=first|omega|simp) [go_sem,aA];refine dB (i+1) ⟨by omega,XP hx hr⟩ (h:=by simp[go_sem]<;>omega)
 ·obtain rfl:i=n:=by omega
  have hz:=Si hx;simp[go_sem];refine go true ?_;simp[go_sem];rw[hz];exact aj so
end Go.Proofs.YthlhlnbcjlpigaaGreatDoor
