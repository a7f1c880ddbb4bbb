/- Lemmas, no conditions. -/
import Derived.Test.YthpplckmbbachaaGreatDoorKB23
import Derived.Shelf.SlSortCmp.Insertion
import Derived.Shelf.SlSortCmp.Whole1
set_option linter.unusedSimpArgs false
set_option linter.unusedVariables false
set_option maxHeartbeats 1000000
set_option maxRecDepth 100000
namespace Go.Proofs.YthpplckmbbachaaGreatDoor
open Go.aI Go.Shelf Go.RowKit Go.Lib Go.Sort Go.Proofs.Tryz
theorem tG: ∀x,Op.bytesLess x x=false
 |[]=>rfl
 |a::x=>by
  simp only[Op.bytesLess,tG x,Bool.and_false,Bool.or_false,decide_eq_false_iff_not,UInt8.lt_iff_toNat_lt];omega
theorem OO: ∀{x y z},Op.bytesLess x y=true->Op.bytesLess y z=true->Op.bytesLess x z=true
 |_,[],_,h,_=>by grind [Op.bytesLess]
 |_,_::_,[],_,h=>by grind [Op.bytesLess]
 |[],_::_,_::_,_,_=>rfl
 |a::x,b::y,c::z,h1,h2=>by
  simp only[Op.bytesLess,Bool.or_eq_true,Bool.and_eq_true,decide_eq_true_eq,beq_iff_eq,UInt8.lt_iff_toNat_lt] at*;rcases h1 with h1|⟨rfl,h1⟩<;>rcases h2 with h2|⟨rfl,h2⟩
  ·grind
  ·grind
  ·grind
  ·right;exact⟨rfl,OO h1 h2⟩
theorem OP: ∀{x y},Op.bytesLess x y=false->Op.bytesLess y x=false->x=y
 |[],[],_,_=>rfl
 |[],_::_,h,_=>by grind [Op.bytesLess]
 |_::_,[],_,h=>by grind [Op.bytesLess]
 |a::x,b::y,h1,h2=>by
  simp only[Op.bytesLess,Bool.or_eq_false_iff,Bool.and_eq_false_iff,decide_eq_false_iff_not,UInt8.lt_iff_toNat_lt] at*;have hab:a=b:=UInt8.toNat_inj.1 aa;subst hab;have e1:Op.bytesLess x y=false:=ai;have e2:Op.bytesLess y x=false:=ai;rw[OP e1 e2]
theorem YI(a b):vJ a b<0↔JP a b=true:=by
 grind [vJ]
theorem UX(a b):vJ a b=0↔a.toList=b.toList:=by
 grind [vJ,JP,tG]
def ug(ID rd x y:Nat):Prop:=JP (keyS ID rd x) (keyS ID rd y)=true\/((keyS ID rd x).toList=(keyS ID rd y).toList/\x<y)
theorem YJ(x y:Nat):CG x y<0↔x<y:=by grind [CG]
theorem xG(ID rd x y):T9 ID rd x y<0↔ug ID rd x y:=by
 grind [T9,ug,YJ,UX,JP,tG,YI]
theorem s4(ID rd x): ¬ug ID rd x x:=by
 grind [ug,JP,tG]
theorem qM{ID rd x y z}(h1:ug ID rd x y)(h2:ug ID rd y z):ug ID rd x z:=by
 grind [ug,JP,OO]
theorem qN{ID rd x y}(h1: ¬ug ID rd x y)(h2: ¬ug ID rd y x):x=y:=by
 grind [ug,JP,OP]
abbrev Uno:= { n:Nat//n<=1073741824 }
instance:Inhabited Uno:=⟨⟨0,aH⟩⟩
def Ol(x:Uno):Value:= .int .i64 x.1
def cfU(ID rd:Nat)(x y:Uno):Int:=T9 ID rd x.1 y.1
theorem abc(ID rd):SWO (ltOf (cfU ID rd)) where
 irrefl x:=by
  grind [ltOf,cfU,xG,s4]
 trans x y z h1 h2:=by
  grind [ltOf,cfU,xG,qM]
 ntrans x y z h1 h2:=by
  grind [ltOf,cfU,xG,qM,qN]
theorem ak.conv{P f args args' σ r}(h:ak P f args' σ r)(hc: ∀j w vs,aQ w j σ->Rs w j args vs->Rs w j args' vs):ak P f args σ r:=
 ⟨h.1,fun j w vs hS hr=>h.2 j w vs hS (hc j w vs hS hr)⟩
theorem adX{w j σ}(hS:aQ w j σ){i c:Nat}{C}(h:σ[i]? =some (.tab c C)){x}(hx:C[0]? =some x):R w j (.el [.v x]) (.pointer (some ⟨c,0,none⟩)):=by
 obtain⟨o,_,hB⟩:=hS.blk i _ h;have hB':c<w.heap.size/\some c∉j/\∃e,w.shape? c=some (e,C.size)/\∀i,w.cell? ⟨c,i,none⟩=C[i]? :=by
  cases o<;>exact⟨hB.2.1,hB.2.2.1,hB.2.2.2⟩
 obtain⟨h1,h2,e,h3,h4⟩:=hB';refine .el _ (fun _=>x) rfl h1 h2 (fun k hk=> ?_) (fun k hk=> ?_)
 ·grind
 ·obtain rfl:k=0:=by grind
  exact .v x
theorem XE{σ}{ID rd u cB cR:Nat}{CB CR}(h1:ID<=1073741824)(h2:rd<=1073741824)(h3:u<=1073741824)(hσ:σ[0]? =some (.tab 0 dG))(hB:σ[1]? =some (.tab cB CB))(hR:σ[2]? =some (.tab cR CR))(b0:CB[0]? =some (.int .i64 ID))(r0:CR[0]? =some (.int .i64 rd)):
  ak prog 286 [.d (I u),.d (.v (.pointer (some ⟨cB,0,none⟩))),.d (.v (.pointer (some ⟨cR,0,none⟩)))] σ (.d (Sb (keyS ID rd u))):=by
 refine ak.conv (Kd σ ID rd u h1 h2 h3 hσ) fun j w vs hS hr=>⟨hr.1,fun k hk=> ?_⟩;have hk':k<3:=hk;have:=hr.2 k hk;grind [iu,adX]
structure Asks(w:World)(cB cR cK ID rd:Nat):Prop where
 pow: ∃e,(0<w.heap.size)/\w.shape? 0=some (e,dG.size)/\∀i,w.cell? ⟨0,i,none⟩=dG[i]?
 b: ∃CB e f,w.heap[cB]? =some (.cells CB e f)/\CB[0]? =some (.int .i64 ID)
 r: ∃CR e f,w.heap[cR]? =some (.cells CR e f)/\CR[0]? =some (.int .i64 rd)
 k:w.cell? ⟨cK,0,none⟩=some (.func (.func 286) #[] #[.pointer (some ⟨cB,0,none⟩),.pointer (some ⟨cR,0,none⟩)])
theorem afR{w cB cR cK ID rd}(h:Asks w cB cR cK ID rd)(h1:ID<=1073741824)(h2:rd<=1073741824)(x y):
  Calls prog 289 #[Ol x,Ol y,.pointer (some ⟨cK,0,none⟩)] w fun e w'=>e= .returned (.int .i64 (cfU ID rd x y))/\∃q os,w'=grow (w.drewN q) os:=by
 obtain⟨⟨ep,hp0,hp1,hp2⟩,⟨CB,eB,fB,hB1,hB2⟩,⟨CR,eR,fR,hR1,hR2⟩,hk⟩:=h;have hj: ∀b:Nat,some b∉([none,none,none]:Js):=ai;have hlt: ∀{c:Nat} {o:Obj},w.heap[c]? =some o->c<w.heap.size:=fun h=>(Array.getElem?_eq_some_iff.1 h).1;have hS:aQ w [none,none,none] [.tab 0 dG,.tab cB CB,.tab cR CR]:=by
  refine⟨rfl,fun b cb hb=> ?_,fun b b' cb hb _=> ?_,fun b y hy=> ?_⟩
  ·grind
  ·grind
  ·have hb:b<3:=(List.getElem?_eq_some_iff.1 hy).1;refine⟨none,by all_goals grind,?_⟩;rcases(by omega:b=0\/b=1\/b=2) with rfl|rfl|rfl
   ·simp only[List.getElem?_cons_zero,Option.some.injEq] at hy;subst hy;exact⟨rfl,hp0,hj _,ep,hp1,hp2⟩
   ·simp only[List.getElem?_cons_succ,List.getElem?_cons_zero,Option.some.injEq] at hy;subst hy;exact⟨rfl,hlt hB1,hj _,eB,K3,fun i=>cell_of hB1 i⟩
   ·simp only[List.getElem?_cons_succ,List.getElem?_cons_zero,Option.some.injEq] at hy;subst hy;exact⟨rfl,hlt hR1,hj _,eR,K3,fun i=>cell_of hR1 i⟩
 have kx:=fun u (hu:u<=1073741824)=>XE (σ:=[.tab 0 dG,.tab cB CB,.tab cR CR]) h1 h2 hu rfl rfl rfl hB2 hR2;have hc:=Ke [.tab 0 dG,.tab cB CB,.tab cR CR] ID rd x.1 y.1 _ _ (kx x.1 x.2) (kx y.1 y.2);refine hc.grows hj hS ⟨rfl,fun k hk'=> ?_⟩;have hk3:k<3:=hk';rcases(by omega:k=0\/k=1\/k=2) with rfl|rfl|rfl
 ·exact .d (.v _)
 ·exact .d (.v _)
 ·refine .el _ (fun _=> .func (.func 286) #[] #[.pointer (some ⟨cB,0,none⟩),.pointer (some ⟨cR,0,none⟩)]) rfl (block_lt_of_cell hk) (hj _) (fun q hq=> ?_) (fun q hq=> ?_)
  ·grind
  ·obtain rfl:q=0:=by grind
   exact .v _
theorem abq{w j S}(hS:aQ w j S){i cB cR cK ID rd l}(h0:S[0]? =some (.tab 0 dG))(hB:S[i]? =some (.var (.d (I ID)::l)))(hR:S[i+1]? =some (.var [.d (I rd)]))(hK:S[i+2]? =some (.var [.clo (.func 286) [] [.ptr i 0,.ptr (i+1) 0]]))
  (jB:j[i]? =some (some cB)) (jR:j[i+1]? =some (some cR)) (jK:j[i+2]? =some (some cK)):Asks w cB cR cK ID rd:=by
 refine⟨?_,?_,?_,?_⟩
 ·obtain⟨o,_,hb⟩:=hS.blk 0 _ h0;cases o<;>(obtain⟨_,g1,_,e,g2,g3⟩:=hb;grind)
 ·obtain⟨o,ho,hb⟩:=hS.blk i _ hB;rw[jB] at ho;cases ho;obtain⟨C,e,hC,hs,hr⟩:=hb;have h1:=iu (show R w j (.d (I ID)) (C.getD 0 Go.undef) from hr 0 an);simp_all
 ·obtain⟨o,ho,hb⟩:=hS.blk (i+1) _ hR;rw[jR] at ho;cases ho;obtain⟨C,e,hC,hs,hr⟩:=hb;have h1:=iu (show R w j (.d (I rd)) (C.getD 0 Go.undef) from hr 0 an);simp_all
 ·obtain⟨o,ho,hb⟩:=hS.blk (i+2) _ hK;rw[jK] at ho;cases ho;obtain⟨C,e,hC,hs,hr⟩:=hb;have h1:R w j (.clo (.func 286) [] [.ptr i 0,.ptr (i+1) 0]) (C.getD 0 Go.undef):=hr 0 an;have hlt:0<C.size:=ai;rw[cell_of hC,Array.getElem?_eq_getElem hlt];rw[Array.getD_eq_getD_getElem?,Array.getElem?_eq_getElem hlt,Option.getD_some] at h1;generalize C[0]=v at h1
  cases h1 with
  |clo ff cc g1 g2 g3 g4=>
   have e1:ff= #[]:=Array.eq_empty_of_size_eq_zero ai;subst e1;have p0:R w j (.ptr i 0) (cc.getD 0 Go.undef):=g4 0 an;have p1:R w j (.ptr (i+1) 0) (cc.getD 1 Go.undef):=g4 1 an;have hcc:cc= #[cc.getD 0 Go.undef,cc.getD 1 Go.undef]:=by
    have hs2:cc.size=2:=ai;apply Array.ext
    ·grind
    ·intro q hq1 hq2;rcases(by omega:q=0\/q=1) with rfl|rfl;all_goals simp_all
   rw[hcc];generalize cc.getD 0 Go.undef=v0 at p0
   generalize cc.getD 1 Go.undef=v1 at p1
   cases p0 with|ptr q0=>
   cases p1<;>grind
theorem PJ{α:Type}[Inhabited α]{n:Nat}{x:Nat->α}{d:Array α}(h:PermIn 0 n (lst n x).toArray d):d.size=n/\d.toList.Perm (lst n x):=by
 obtain⟨h1,_,h3⟩:=h;simp_all [lst,List.take_of_length_le]
def vU(v:Nat->Nat)(i:Nat):Uno:=if h:v i<=1073741824 then⟨v i,h⟩ else default
theorem V7{v i}(h:v i<=1073741824):(vU v i).1=v i:=by grind [vU]
set_option maxHeartbeats 1000000 in
theorem WA(σ)(ID rd n:Nat)(l v)(h1:ID<=1073741824)(h2:rd<=1073741824)(hv: ∀i,i<n->v i<=1073741824)(hn0:0<n)(hn:n<1000000000)(hσ:σ[0]? =some (.tab 0 dG)):
  CS prog 288 [.ms (σ.length+3) 1 0 n,.clo (.func 289) [] [.ptr (σ.length+2) 0]] (σ++[.var (.d (I ID)::l),.var [.d (I rd)],.var [.clo (.func 286) [] [.ptr σ.length 0,.ptr (σ.length+1) 0]],.arr 1 n (fun i=>encI (v i))])
   (fun r σ' X=>r= .cj []/\X=[]/\∃L,L.Perm (lst n v)/\L.Pairwise (fun a b=> ¬ug ID rd b a)/\σ'=σ++[.var (.d (I ID)::l),.var [.d (I rd)],.var [.clo (.func 286) [] [.ptr σ.length 0,.ptr (σ.length+1) 0]],.arr 1 n (fun i=>encI ((nth L i:Nat):Int))]):=by
 refine⟨T.afK,fun j w vs hS hR=> ?_⟩;obtain⟨hsz,hrel⟩:=hR;have r0:R w j (.ms (σ.length+3) 1 0 n) (vs.getD 0 Go.undef):=hrel 0 an;have r1:R w j (.clo (.func 289) [] [.ptr (σ.length+2) 0]) (vs.getD 1 Go.undef):=hrel 1 an;have hsz:vs.size=2:=ai;have hvs:vs= #[vs.getD 0 Go.undef,vs.getD 1 Go.undef]:=by
  apply Array.ext
  ·grind
  ·intro i h1 h2;have hi:i=0\/i=1:=ai;rcases hi with rfl|rfl;all_goals simp_all
 rw[hvs];generalize vs.getD 0 Go.undef=v0 at r0
 generalize vs.getD 1 Go.undef=v1 at r1
 cases r1 with
 |clo ff cc g1 g2 g3 g4=>
 have e1:ff= #[]:=Array.eq_empty_of_size_eq_zero ai;subst e1;have p0:R w j (.ptr (σ.length+2) 0) (cc.getD 0 Go.undef):=g4 0 an;have hcc:cc= #[cc.getD 0 Go.undef]:=by
  have hs2:cc.size=1:=ai;apply Array.ext
  ·grind
  ·intro q hq1 hq2;obtain rfl:q=0:=by omega
   rw[←(yC hq1).2];rfl
 rw[hcc];generalize cc.getD 0 Go.undef=vK at p0
 cases p0 with| @ptr _ _ cK jK=>
 cases r0 with
 |ms0 p h=>omega
 |oY p e m h hs hlo hm=>omega
 | @ms _ _ _ _ cb c e m hj hs hc hm=>
 have hb:(σ++[aZ.var (.d (I ID)::l),.var [.d (I rd)],.var [.clo (.func 286) [] [.ptr σ.length 0,.ptr (σ.length+1) 0]],.arr 1 n (fun i=>encI (v i))])[σ.length+3]? =some (.arr 1 n fun i=>encI (v i)):=an;obtain⟨oB,jB0,hBB⟩:=hS.blk σ.length (.var (.d (I ID)::l)) an;obtain⟨oR,jR0,hBR⟩:=hS.blk (σ.length+1) (.var [.d (I rd)]) an;cases oB with
 |none=>exact hBB.elim
 |some cB=>
 cases oR with
 |none=>exact hBR.elim
 |some cR=>
 have h0:(σ++[aZ.var (.d (I ID)::l),.var [.d (I rd)],.var [.clo (.func 286) [] [.ptr σ.length 0,.ptr (σ.length+1) 0]],.arr 1 n (fun i=>encI (v i))])[0]? =some (.tab 0 dG):=ay hσ;have hnl: ∀(q:Nat),q≠σ.length+3->∀y:aZ,((σ++[aZ.var (.d (I ID)::l),.var [.d (I rd)],.var [.clo (.func 286) [] [.ptr σ.length 0,.ptr (σ.length+1) 0]],.arr 1 n (fun i=>encI (v i))]).set (σ.length+3) y)[q]? =(σ++[aZ.var (.d (I ID)::l),.var [.d (I rd)],.var [.clo (.func 286) [] [.ptr σ.length 0,.ptr (σ.length+1) 0]],.arr 1 n (fun i=>encI (v i))])[q]? :=fun q hq y=>by grind
 have hds:(lst n (vU v)).toArray.size=n:=by simp[cd]
 have hget: ∀i,i<n->(lst n (vU v)).toArray[i]! =vU v i:=fun i hi=>by
  grind [lst]
 have hH:Holds Ol w cb 0 (lst n (vU v)).toArray:=HZ hS hj hb _ ai (fun i hi=>by
  grind [encI,Ol,V7])
 have eg: ∀args w,(callFunc 289 args).run prog w= .ok (.enter 289 args) w:=enters_of func289 aD rfl;have hcmp:CmpLays1 prog 289 #[.pointer (some ⟨cK,0,none⟩)] Ol (cfU ID rd) cb 0 (lst n (vU v)).toArray.size w:=fun m os dk hsd x y=>by
  rw[hds] at hsd;have hrl:=(yQ (enc:=Ol) hS hj hb dk aa m os _ (fun i hi=>rfl)).1;have hA:=abq hrl (i:=σ.length) (ID:=ID) (rd:=rd) (l:=l) ai ai ai ai jB0 jR0 jK;exact afR hA h1 h2 x y
 have hcon:=Any.slices_SortFunc aez Ol (fun x=>rfl) (cfU ID rd) (abc ID rd) 289 #[.pointer (some ⟨cK,0,none⟩)] cb 0 c (lst n (vU v)).toArray w eg hcmp hH (hS.lt _ _ hj) ai;rw[hds] at hcon;change Calls prog 288 _ _ _ at hcon
 simp only[Nat.zero_mul];refine hcon.mono ?_;rintro e' w' ⟨rfl,d',q,os,hp,hso,rfl⟩;obtain⟨hd,hperm⟩:=PJ hp;have agX: ∀i,i<n->nth (d'.toList.map (·.1)) i=(d'[i]!).1:=fun i hi=>by
  grind [nth]
 obtain⟨k1,k2⟩:=yQ (enc:=Ol) hS hj hb d' aa q os (fun i=>encI ((nth (d'.toList.map (·.1)) i:Nat):Int)) (fun i hi=>by
  rw[if_pos aa,agX i hi];rfl)
 refine⟨_,.cj [],_,j,[],rfl,k1,.cj #[] (Nat.le_refl _) an,k2,Nat.le_refl _,.refl _ _,rfl,rfl,d'.toList.map (·.1),?_,?_,?_⟩
 ·have h3:=hperm.map (fun x:Uno=>x.1);have h4:(lst n (vU v)).map (fun x:Uno=>x.1)=lst n v:=by
   unfold lst;rw[List.map_map];grind [List.map_congr_left,V7]
  grind
 ·rw[List.pairwise_map,List.pairwise_iff_getElem];intro i k hi hk' hik;simp only[Array.length_toList] at hi hk';have:=hso i k (Nat.zero_le _) hik aa;grind [ltOf,cfU,xG]
 ·rw[List.set_append_right _ _ aa];simp
set_option maxHeartbeats 1000000 in
theorem DL(σ τ:List aZ)(n k:Nat)(g:Nat->Int)(hk0:0<k)(hkn:k<=n)(hn:n<1000000000):
  CS prog 124 [.ms σ.length 1 0 k] (σ++ .arr 1 n (fun i=>encI (g i))::τ)
   (fun r σ' X=>r= .cj []/\X=[]/\∃L:List Int,L.Perm (lst k g)/\L.Pairwise (·<=·)/\∃row,σ'=σ++ .arr 1 n row::τ/\∀i,i<k->row i=encI (nth L i)):=by
 refine⟨T.afN,fun j w vs hS hR=> ?_⟩;obtain⟨hsz,hrel⟩:=hR;have r0:R w j (.ms σ.length 1 0 k) (vs.getD 0 Go.undef):=hrel 0 an;have hsz:vs.size=1:=ai;have hvs:vs= #[vs.getD 0 Go.undef]:=by
  apply Array.ext;all_goals simp_all
 rw[hvs];generalize vs.getD 0 Go.undef=v0 at r0
 cases r0 with
 |ms0 p h=>omega
 |oY p e m h hs hlo hm=>omega
 | @ms _ _ _ _ cb c e m hj hs hc hm=>
 have hb:(σ++aZ.arr 1 n (fun i=>encI (g i))::τ)[σ.length]? =some (.arr 1 n fun i=>encI (g i)):=an;have hds:(lst k g).toArray.size=k:=by simp[cd]
 have hH:Holds (Value.int .i64) w cb 0 (lst k g).toArray:=HZ hS hj hb _ ai (fun i hi=>by
  grind [encI,lst])
 have hcon:=Any.slices_Sort_int sortInt cb 0 c (lst k g) w hH (hS.lt _ _ hj) ai;rw[cd] at hcon;change Calls prog 124 _ _ _ at hcon
 simp only[Nat.zero_mul];refine hcon.mono ?_;rintro e' w' ⟨rfl,q,os,rfl⟩;have hperm:=List.mergeSort_perm (lst k g) (fun x y=>decide (x<=y));have hsort:=List.pairwise_mergeSort (le:=fun x y:Int=>decide (x<=y)) ai ai (lst k g);generalize(lst k g).mergeSort (fun x y=>decide (x<=y))=L at*
 have hL:L.length=k:=by rw[hperm.length_eq,cd]
 obtain⟨k1,k2⟩:=yQ (enc:=Value.int .i64) hS hj hb L.toArray ai q os (fun i=>if i<k then encI (nth L i) else encI (g i)) (fun i hi=>by
  grind [EE,encI])
 refine⟨_,.cj [],_,j,[],rfl,k1,.cj #[] (Nat.le_refl _) an,k2,Nat.le_refl _,.refl _ _,rfl,rfl,L,hperm,hsort.imp fun h=>ai,fun i=>if i<k then encI (nth L i) else encI (g i),an,fun i hi=>ai⟩
end Go.Proofs.YthpplckmbbachaaGreatDoor
namespace Go.Proofs.YthpplckmbbachaaGreatDoor
open Go.aI Go.Proofs.Tryz
theorem nz{α:Type}{r}(ha: ∀a b,r a b->r b a->a=b): ∀{l1 l2:List α},l1.Perm l2->l1.Pairwise r->l2.Pairwise r->l1=l2
 |[],l2,h,_,_=>by simp_all
 |x::l1,[],h,_,_=>by simp_all
 |x::l1,y::l2,h,p1,p2=>by
  rw[List.pairwise_cons] at p1 p2;have hxy:x=y:=by
   have hx:x∈y::l2:=h.subset an;have hy:y∈x::l1:=h.symm.subset an;grind
  subst hxy;rw[nz ha (List.Perm.cons_inv h) p1.2 p2.2]
def G8(ID rd:Nat)(l L:List Nat):Prop:=L.Perm l/\L.Pairwise (fun a b=> ¬ug ID rd b a)
theorem G8.uniq{ID rd l L L'}(h:G8 ID rd l L)(h':G8 ID rd l L'):L=L':=
 nz (fun a b h1 h2=>qN h2 h1) (h.1.trans h'.1.symm) h.2 h'.2
open Classical in
noncomputable def MH(ID rd:Nat)(l:List Nat):List Nat:=if h: ∃L,G8 ID rd l L then Classical.choose h else[]
theorem RR{ID rd l L}(h:G8 ID rd l L):MH ID rd l=L:=by
 unfold MH;rw[dif_pos ⟨L,h⟩];exact(Classical.choose_spec (⟨L,h⟩: ∃L,G8 ID rd l L)).uniq h
def ux(l:List Int):List Int:=l.mergeSort fun x y=>decide (x<=y)
theorem kM(l):(ux l).Perm l:=List.mergeSort_perm _ _
theorem LD(l:List Int):(ux l).Pairwise (·<=·):=
 (List.pairwise_mergeSort (le:=fun x y:Int=>decide (x<=y)) ai ai l).imp fun h=>by grind
theorem rT{l L:List Int}(h:L.Perm l)(hs:L.Pairwise (·<=·)):L=ux l:=
 nz (fun a b h1 h2=>Int.le_antisymm h1 h2) (h.trans (kM l).symm) hs (LD l)
def pY(x:ek)(i:Nat):Nat:=(x.u i).toNat
noncomputable def de(x:ek)(rd:Int):List Int:=ux (((MH x.ID.toNat rd.toNat (lst x.nu (pY x))).take x.iB.toNat).map fun n:Nat=>(n:Int))
def r4(x:ek):Bool:=idB x.ID&&GQ x.Day 0 1048575&&GQ x.Round 0 1024&&GQ x.nu 1 60&& !((lst x.nu x.u).any fun n=> !idB n)&&GQ x.iB 1 x.nu&&GQ x.Accept 0 (IntKind.i64.wrap (x.iB-1))
structure Rng(x:ek):Prop where
 id1:1<=x.ID
 id2:x.ID<=1073741824
 d1:0<=x.Day
 d2:x.Day<=1048575
 r1:0<=x.Round
 r2:x.Round<=1024
 n1:1<=x.nu
 n2:x.nu<=60
 u1: ∀i,i<x.nu->1<=x.u i/\x.u i<=1073741824
 s1:1<=x.iB
 s2:x.iB<=x.nu
 a1:0<=x.Accept
 a2:x.Accept<=x.iB-1
theorem pj(x):r4 x=true↔Rng x:=by
 unfold r4 idB GQ;simp only[Bool.and_eq_true,decide_eq_true_eq,Bool.not_eq_true',lst,List.any_map,List.any_eq_false,List.mem_range,Function.comp,Bool.not_eq_true'];constructor
 ·rintro⟨⟨⟨⟨⟨⟨⟨a,b⟩,c,d⟩,e,f⟩,g,h⟩,k⟩,l,m⟩,n,o⟩;rw[aS aa aa] at o;exact⟨a,b,c,d,e,f,aa,aa,fun i hi=>ai,l,m,n,o⟩
 ·intro h;have h1:=h.s1;have h2:=h.s2;have h3:=h.n2;rw[aS aa aa];exact⟨⟨⟨⟨⟨⟨⟨h.id1,h.id2⟩,h.d1,h.d2⟩,h.r1,h.r2⟩,ai,ai⟩,fun i hi=>by simpa using h.u1 i hi⟩,h.s1,h.s2⟩,h.a1,h.a2⟩
theorem N0(ID rd l): ∃L,G8 ID rd l L:=by
 classical
 refine⟨l.mergeSort (fun x y=>decide (¬ug ID rd y x)),List.mergeSort_perm _ _,?_⟩;grind [List.pairwise_mergeSort,qM,qN,s4]
theorem zu(ID rd l):G8 ID rd l (MH ID rd l):=by
 grind [N0,RR]
theorem UL(x rd):(de x rd).length=min x.iB.toNat x.nu:=by
 unfold de;rw[(kM _).length_eq,List.length_map,List.length_take,(zu _ _ _).1.length_eq,cd]
theorem sO(x rd):(de x rd).length<=x.nu:=by grind [UL]
theorem oE(σ x rd)(hx:Rng x)(h0:0<=rd)(h1:rd<=1024)(hσ:σ[0]? =some (.tab 0 dG)):ak prog 201 [.agg (x.enc.map .d),.d (I rd)] σ (.d (SL none 1 encI (de x rd).length (nth (de x rd)))):=by
 obtain⟨ID,KZ⟩: ∃ID:Nat,x.ID=ID:=⟨x.ID.toNat,by have:=hx.id1;omega⟩;obtain⟨r,rfl⟩: ∃r:Nat,rd=r:=⟨rd.toNat,aa⟩;obtain⟨k,hk⟩: ∃k:Nat,x.iB=k:=⟨x.iB.toNat,by have:=hx.s1;omega⟩;have g1:=hx.id1;have g2:=hx.id2;have g3:=hx.n1;have g4:=hx.n2;have g5:=hx.s1;have g6:=hx.s2;refine ak.bd false func201 fun hwf=> ?_;simp[go_sem,KZ,hk];refine wM ?_;refine wM ?_;refine az.gen (Kw _ none x.nu x.u aa) ?_;rintro r' σ' X ⟨rfl,rfl,rfl⟩;simp[go_sem];refine ax (σ.length+3) (fun i=>encI ((pY x i:Nat):Int)) bj (by
  intro q hq;have:=hx.u1 q hq;grind [encI,pY]) aN ?_
 refine wM ?_;refine az.gen (WA σ ID r x.nu _ (pY x) aa aa (fun i hi=>by have:=hx.u1 i hi;grind [pY]) aa aa hσ) ?_;rintro r' σ' X ⟨rfl,rfl,L,hp,hs,rfl⟩;have hL:MH ID r (lst x.nu (pY x))=L:=RR ⟨hp,hs⟩;have hLn:L.length=x.nu:=by rw[hp.length_eq,cd]
 refine wL ?_;repeat refine⟨aa,?_⟩
 have hso:=nP (fun B1 B2 B3:aZ=>DL (σ++[B1,B2,B3]) [] x.nu k (fun i=>((nth L i:Nat):Int)) aa aa aa);refine az.gen (hso _ _ _) ?_;rintro r' σ' X ⟨rfl,rfl,L2,hp2,hs2,row,rfl,hrow⟩;have hD:de x r=L2:=by
  unfold de;rw[KZ,Int.toNat_natCast,Int.toNat_natCast,hL,hk,Int.toNat_natCast];refine(rT (hp2.trans ?_) hs2).symm;have:lst k (fun i=>((nth L i:Nat):Int))=(L.take k).map fun n:Nat=>(n:Int):=by
   apply List.ext_getElem;all_goals grind [lst,nth]
  grind
 have hDn:L2.length=k:=by rw[hp2.length_eq,cd]
 simp[go_sem];refine lq (σ.length+3) k (fun i=>encI (nth L2 i)) v7 aa (fun i hi=>hrow i hi) aN ?_;refine aF hwf (σ.length+3) ?_;rw[hD,hDn];exact af sc
end Go.Proofs.YthpplckmbbachaaGreatDoor
