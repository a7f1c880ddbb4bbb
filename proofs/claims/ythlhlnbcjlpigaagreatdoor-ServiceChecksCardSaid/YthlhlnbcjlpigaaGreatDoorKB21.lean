/- Contracts and lemmas, joined out of smaller texts by a program; no conditions. -/
import Derived.Test.YthlhlnbcjlpigaaGreatDoorKB19
import Derived.Test.YthlhlnbcjlpigaaGreatDoorKB20
import Derived.Shelf.SlSortCmp.Insertion
import Derived.Shelf.SlSortCmp.Whole1
set_option linter.unusedSimpArgs false
set_option linter.unusedVariables false
set_option maxHeartbeats 1000000
set_option maxRecDepth 100000
namespace Go.Proofs.YthlhlnbcjlpigaaGreatDoor
open Go.aU Go.Shelf Go.RowKit Go.Lib Go.Sort Go.Proofs.Tryz
theorem CG: ∀x:List UInt8,Op.bytesLess x x=false
 |[]=>rfl
 |a::x=>by
  simp only[Op.bytesLess,CG x,Bool.and_false,Bool.or_false,decide_eq_false_iff_not,UInt8.lt_iff_toNat_lt];omega
theorem Zb: ∀{x y z:List UInt8},Op.bytesLess x y=true->Op.bytesLess y z=true->Op.bytesLess x z=true
 |_,[],_,h,_=>by simp[Op.bytesLess] at h
 |_,_::_,[],_,h=>by simp[Op.bytesLess] at h
 |[],_::_,_::_,_,_=>rfl
 |a::x,b::y,c::z,h1,h2=>by
  simp only[Op.bytesLess,Bool.or_eq_true,Bool.and_eq_true,decide_eq_true_eq,beq_iff_eq,UInt8.lt_iff_toNat_lt] at*;rcases h1 with h1|⟨rfl,h1⟩<;>rcases h2 with h2|⟨rfl,h2⟩
  ·left;omega
  ·left;exact h1
  ·left;exact h2
  ·right;exact⟨rfl,Zb h1 h2⟩
theorem Zc: ∀{x y:List UInt8},Op.bytesLess x y=false->Op.bytesLess y x=false->x=y
 |[],[],_,_=>rfl
 |[],_::_,h,_=>by simp[Op.bytesLess] at h
 |_::_,[],_,h=>by simp[Op.bytesLess] at h
 |a::x,b::y,h1,h2=>by
  simp only[Op.bytesLess,Bool.or_eq_false_iff,Bool.and_eq_false_iff,decide_eq_false_iff_not,UInt8.lt_iff_toNat_lt] at*;have hab:a=b:=UInt8.toNat_inj.1 (by omega);subst hab;have e1:Op.bytesLess x y=false:=by rcases h1.2 with h|h;(simp at h);exact h
  have e2:Op.bytesLess y x=false:=by rcases h2.2 with h|h;(simp at h);exact h
  rw[Zc e1 e2]
theorem cmpS_neg(a b:ByteArray):AA a b<0↔Qd a b=true:=by
 unfold AA;split
 ·rename_i h;simp[h]
 ·rename_i h;split<;>simp[h]
theorem Tc(a b:ByteArray):AA a b=0↔a.toList=b.toList:=by
 unfold AA;by_cases h:Qd a b=true
 ·rw[if_pos h];constructor
  ·intro h;cases h
  ·intro he;unfold Qd at h;rw[he,CG] at h;cases h
 ·rw[if_neg h];have h':Qd a b=false:=by simpa using h
  by_cases he:a.toList=b.toList<;>simp[h',he]
def su(ID rd x y:Nat):Prop:=Qd (keyS ID rd x) (keyS ID rd y)=true\/((keyS ID rd x).toList=(keyS ID rd y).toList/\x<y)
theorem cmpI_neg(x y:Nat):IY x y<0↔x<y:=by unfold IY;split<;>(try split)<;>omega
theorem FU(ID rd x y:Nat):ordU ID rd x y<0↔su ID rd x y:=by
 unfold ordU su;by_cases h:AA (keyS ID rd x) (keyS ID rd y)=0
 ·rw[if_neg (by simpa using h),cmpI_neg];have he:=(Tc _ _).1 h;have hl:Qd (keyS ID rd x) (keyS ID rd y)=false:=by unfold Qd;rw[he,CG]
  simp[hl,he]
 ·rw[if_pos h,cmpS_neg];have he: ¬(keyS ID rd x).toList=(keyS ID rd y).toList:=fun e=>h ((Tc _ _).2 e);simp[he]
theorem AQ(ID rd x:Nat): ¬su ID rd x x:=by
 unfold su Qd;rw[CG];simp
theorem rZ{ID rd x y z:Nat}(h1:su ID rd x y)(h2:su ID rd y z):su ID rd x z:=by
 unfold su Qd at*;rcases h1 with h1|⟨e1,h1⟩<;>rcases h2 with h2|⟨e2,h2⟩
 ·exact .inl (Zb h1 h2)
 ·exact .inl (by rw[←e2];exact h1)
 ·exact .inl (by rw[e1];exact h2)
 ·exact .inr ⟨e1.trans e2,by omega⟩
theorem xP{ID rd x y:Nat}(h1: ¬su ID rd x y)(h2: ¬su ID rd y x):x=y:=by
 unfold su Qd at*;simp only[not_or,Bool.not_eq_true,not_and] at h1 h2;have e:=Zc h1.1 h2.1;have:=h1.2 e;have:=h2.2 e.symm;omega
abbrev Uno:= { n:Nat//n<=1073741824 }
instance:Inhabited Uno:=⟨⟨0,by decide⟩⟩
def YK(x:Uno):Value:= .int .i64 x.1
def cfU(ID rd:Nat)(x y:Uno):Int:=ordU ID rd x.1 y.1
theorem cfU_swo(ID rd:Nat):SWO (ltOf (cfU ID rd)) where
 irrefl x:=by
  unfold ltOf cfU;rw[decide_eq_false_iff_not,FU];exact AQ _ _ _
 trans x y z h1 h2:=by
  unfold ltOf cfU at*;rw[decide_eq_true_iff,FU] at*;exact rZ h1 h2
 ntrans x y z h1 h2:=by
  unfold ltOf cfU at*;rw[decide_eq_false_iff_not,FU] at*;intro h3;by_cases h4:su ID rd y x.1
  ·exact h2 (rZ h4 h3)
  ·have e:=xP h1 h4;rw[e] at h3;exact h2 h3
theorem ay.conv{P:Program}{f:FuncId}{args args':List AV}{σ:List aC}{r:AV}(h:ay P f args' σ r)(hc: ∀j w vs,aS w j σ->Rs w j args vs->Rs w j args' vs):ay P f args σ r:=
 ⟨h.1,fun j w vs hS hr=>h.2 j w vs hS (hc j w vs hS hr)⟩
theorem el_tab{w:World}{j:Js}{σ:List aC}(hS:aS w j σ){i c:Nat}{C:Array Value}(h:σ[i]? =some (.tab c C)){x:Value}(hx:C[0]? =some x):R w j (.el [.v x]) (.pointer (some ⟨c,0,none⟩)):=by
 obtain⟨o,_,hB⟩:=hS.blk i _ h;have hB':c<w.heap.size/\some c∉j/\∃e,w.shape? c=some (e,C.size)/\∀i,w.cell? ⟨c,i,none⟩=C[i]? :=by
  cases o<;>exact⟨hB.2.1,hB.2.2.1,hB.2.2.2⟩
 obtain⟨h1,h2,e,h3,h4⟩:=hB';refine .el _ (fun _=>x) rfl h1 h2 (fun k hk=> ?_) (fun k hk=> ?_)
 ·obtain rfl:k=0:=by simpa using hk
  exact(h4 0).trans hx
 ·obtain rfl:k=0:=by simpa using hk
  exact .v x
theorem key_conv{σ:List aC}{ID rd u cB cR:Nat}{CB CR:Array Value}(h1:ID<=1073741824)(h2:rd<=1073741824)(h3:u<=1073741824)(hσ:σ[0]? =some (.tab 0 iR))(hB:σ[1]? =some (.tab cB CB))(hR:σ[2]? =some (.tab cR CR))(b0:CB[0]? =some (.int .i64 ID))(r0:CR[0]? =some (.int .i64 rd)):
  ay prog 241 [.d (I u),.d (.v (.pointer (some ⟨cB,0,none⟩))),.d (.v (.pointer (some ⟨cR,0,none⟩)))] σ (.d (Sb (keyS ID rd u))):=by
 refine ay.conv (Vm σ ID rd u h1 h2 h3 hσ) fun j w vs hS hr=>⟨hr.1,fun k hk=> ?_⟩;have hk':k<3:=hk;have:=hr.2 k hk;rcases(by omega:k=0\/k=1\/k=2) with rfl|rfl|rfl
 ·exact this
 ·have e:=kD (show R w j (.d (.v (.pointer (some ⟨cB,0,none⟩)))) (vs.getD 1 Go.undef) from this);show R w j (.el [I ID]) (vs.getD 1 Go.undef)
  rw[e];exact el_tab hS hB b0
 ·have e:=kD (show R w j (.d (.v (.pointer (some ⟨cR,0,none⟩)))) (vs.getD 2 Go.undef) from this);show R w j (.el [I rd]) (vs.getD 2 Go.undef)
  rw[e];exact el_tab hS hR r0
structure Asks(w:World)(cB cR cK ID rd:Nat):Prop where
 pow: ∃e,(0<w.heap.size)/\w.shape? 0=some (e,iR.size)/\∀i,w.cell? ⟨0,i,none⟩=iR[i]?
 b: ∃CB e f,w.heap[cB]? =some (.cells CB e f)/\CB[0]? =some (.int .i64 ID)
 r: ∃CR e f,w.heap[cR]? =some (.cells CR e f)/\CR[0]? =some (.int .i64 rd)
 k:w.cell? ⟨cK,0,none⟩=some (.func (.func 241) #[] #[.pointer (some ⟨cB,0,none⟩),.pointer (some ⟨cR,0,none⟩)])
theorem cmp_w{w:World}{cB cR cK ID rd:Nat}(h:Asks w cB cR cK ID rd)(h1:ID<=1073741824)(h2:rd<=1073741824)(x y:Uno):
  Calls prog 244 #[YK x,YK y,.pointer (some ⟨cK,0,none⟩)] w fun e w'=>e= .returned (.int .i64 (cfU ID rd x y))/\∃q os,w'=grow (w.drewN q) os:=by
 obtain⟨⟨ep,hp0,hp1,hp2⟩,⟨CB,eB,fB,hB1,hB2⟩,⟨CR,eR,fR,hR1,hR2⟩,hk⟩:=h;have hj: ∀b:Nat,some b∉([none,none,none]:Js):=by intro b;simp
 have hlt: ∀{c:Nat} {o:Obj},w.heap[c]? =some o->c<w.heap.size:=fun h=>(Array.getElem?_eq_some_iff.1 h).1;have hS:aS w [none,none,none] [.tab 0 iR,.tab cB CB,.tab cR CR]:=by
  refine⟨rfl,fun b cb hb=> ?_,fun b b' cb hb _=> ?_,fun b y hy=> ?_⟩
  ·have:=List.mem_of_getElem? hb;simp at this
  ·have:=List.mem_of_getElem? hb;simp at this
  ·have hb:b<3:=(List.getElem?_eq_some_iff.1 hy).1;refine⟨none,by rcases(by omega:b=0\/b=1\/b=2) with rfl|rfl|rfl<;>rfl,?_⟩;rcases(by omega:b=0\/b=1\/b=2) with rfl|rfl|rfl
   ·simp only[List.getElem?_cons_zero,Option.some.injEq] at hy;subst hy;exact⟨rfl,hp0,hj _,ep,hp1,hp2⟩
   ·simp only[List.getElem?_cons_succ,List.getElem?_cons_zero,Option.some.injEq] at hy;subst hy;exact⟨rfl,hlt hB1,hj _,eB,by simp[World.shape?,hB1],fun i=>cell_of hB1 i⟩
   ·simp only[List.getElem?_cons_succ,List.getElem?_cons_zero,Option.some.injEq] at hy;subst hy;exact⟨rfl,hlt hR1,hj _,eR,by simp[World.shape?,hR1],fun i=>cell_of hR1 i⟩
 have kx:=fun u (hu:u<=1073741824)=>key_conv (σ:=[.tab 0 iR,.tab cB CB,.tab cR CR]) h1 h2 hu rfl rfl rfl hB2 hR2;have hc:=Vo [.tab 0 iR,.tab cB CB,.tab cR CR] ID rd x.1 y.1 _ _ (kx x.1 x.2) (kx y.1 y.2);refine hc.grows hj hS ⟨rfl,fun k hk'=> ?_⟩;have hk3:k<3:=hk';rcases(by omega:k=0\/k=1\/k=2) with rfl|rfl|rfl
 ·exact .d (.v _)
 ·exact .d (.v _)
 ·refine .el _ (fun _=> .func (.func 241) #[] #[.pointer (some ⟨cB,0,none⟩),.pointer (some ⟨cR,0,none⟩)]) rfl (block_lt_of_cell hk) (hj _) (fun q hq=> ?_) (fun q hq=> ?_)
  ·obtain rfl:q=0:=by simpa using hq
   exact hk
  ·obtain rfl:q=0:=by simpa using hq
   exact .v _
theorem asks_of{w:World}{j:Js}{S:List aC}(hS:aS w j S){i cB cR cK ID rd:Nat}{l:List AV}(h0:S[0]? =some (.tab 0 iR))(hB:S[i]? =some (.var (.d (I ID)::l)))(hR:S[i+1]? =some (.var [.d (I rd)]))(hK:S[i+2]? =some (.var [.clo (.func 241) [] [.ptr i 0,.ptr (i+1) 0]]))
  (jB:j[i]? =some (some cB)) (jR:j[i+1]? =some (some cR)) (jK:j[i+2]? =some (some cK)):Asks w cB cR cK ID rd:=by
 refine⟨?_,?_,?_,?_⟩
 ·obtain⟨o,_,hb⟩:=hS.blk 0 _ h0;cases o<;>(obtain⟨_,g1,_,e,g2,g3⟩:=hb;exact⟨e,g1,g2,g3⟩)
 ·obtain⟨o,ho,hb⟩:=hS.blk i _ hB;rw[jB] at ho;cases ho;obtain⟨C,e,hC,hs,hr⟩:=hb;have h1:=kD (show R w j (.d (I ID)) (C.getD 0 Go.undef) from hr 0 (by simp));have hlt:0<C.size:=by rw[hs];simp
  exact⟨C,e,_,hC,by rw[Array.getElem?_eq_getElem hlt];rw[Array.getD_eq_getD_getElem?,Array.getElem?_eq_getElem hlt] at h1;simpa using h1⟩
 ·obtain⟨o,ho,hb⟩:=hS.blk (i+1) _ hR;rw[jR] at ho;cases ho;obtain⟨C,e,hC,hs,hr⟩:=hb;have h1:=kD (show R w j (.d (I rd)) (C.getD 0 Go.undef) from hr 0 (by simp));have hlt:0<C.size:=by rw[hs];simp
  exact⟨C,e,_,hC,by rw[Array.getElem?_eq_getElem hlt];rw[Array.getD_eq_getD_getElem?,Array.getElem?_eq_getElem hlt] at h1;simpa using h1⟩
 ·obtain⟨o,ho,hb⟩:=hS.blk (i+2) _ hK;rw[jK] at ho;cases ho;obtain⟨C,e,hC,hs,hr⟩:=hb;have h1:R w j (.clo (.func 241) [] [.ptr i 0,.ptr (i+1) 0]) (C.getD 0 Go.undef):=hr 0 (by simp);have hlt:0<C.size:=by rw[hs];simp
  rw[cell_of hC,Array.getElem?_eq_getElem hlt];rw[Array.getD_eq_getD_getElem?,Array.getElem?_eq_getElem hlt,Option.getD_some] at h1;generalize C[0]=v at h1
  cases h1 with
  |clo ff cc g1 g2 g3 g4=>
   have e1:ff= #[]:=Array.eq_empty_of_size_eq_zero (by simpa using g1);subst e1;have p0:R w j (.ptr i 0) (cc.getD 0 Go.undef):=g4 0 (by simp);have p1:R w j (.ptr (i+1) 0) (cc.getD 1 Go.undef):=g4 1 (by simp);have hcc:cc= #[cc.getD 0 Go.undef,cc.getD 1 Go.undef]:=by
    have hs2:cc.size=2:=by simpa using g2
    apply Array.ext
    ·simp[hs2]
    ·intro q hq1 hq2;rcases(by omega:q=0\/q=1) with rfl|rfl
     ·rw[←(nG hq1).2];rfl
     ·rw[←(nG hq1).2];rfl
   rw[hcc];generalize cc.getD 0 Go.undef=v0 at p0
   generalize cc.getD 1 Go.undef=v1 at p1
   cases p0 with|ptr q0=>
   cases p1 with|ptr q1=>
   rw[jB] at q0;cases q0;rw[jR] at q1;cases q1;rfl
theorem Z5{α:Type}[Inhabited α]{n:Nat}{x:Nat->α}{d:Array α}(h:PermIn 0 n (lst n x).toArray d):d.size=n/\d.toList.Perm (lst n x):=by
 obtain⟨h1,_,h3⟩:=h;have hs:d.size=n:=by simpa[bP] using h1
 refine⟨hs,?_⟩;have e1:(d.extract 0 n).toList=d.toList:=by rw[←hs];simp
 have e2:((lst n x).toArray.extract 0 n).toList=lst n x:=by
  simp only[List.extract_toArray,List.extract_eq_take_drop,List.drop_zero,Nat.sub_zero];exact List.take_of_length_le (by rw[bP];exact Nat.le_refl _)
 rw[e1,e2] at h3;exact h3
def vU(v:Nat->Nat)(i:Nat):Uno:=if h:v i<=1073741824 then⟨v i,h⟩ else default
theorem vU_val{v:Nat->Nat}{i:Nat}(h:v i<=1073741824):(vU v i).1=v i:=by unfold vU;rw[dif_pos h]
set_option maxHeartbeats 1000000 in
theorem sortU_cs(σ:List aC)(ID rd n:Nat)(l:List AV)(v:Nat->Nat)(h1:ID<=1073741824)(h2:rd<=1073741824)(hv: ∀i,i<n->v i<=1073741824)(hn0:0<n)(hn:n<1000000000)(hσ:σ[0]? =some (.tab 0 iR)):
  CS prog 243 [.ms (σ.length+3) 1 0 n,.clo (.func 244) [] [.ptr (σ.length+2) 0]] (σ++[.var (.d (I ID)::l),.var [.d (I rd)],.var [.clo (.func 241) [] [.ptr σ.length 0,.ptr (σ.length+1) 0]],.arr 1 n (fun i=>encI (v i))])
   (fun r σ' X=>r= .eX []/\X=[]/\∃L:List Nat,L.Perm (lst n v)/\L.Pairwise (fun a b=> ¬su ID rd b a)/\σ'=σ++[.var (.d (I ID)::l),.var [.d (I rd)],.var [.clo (.func 241) [] [.ptr σ.length 0,.ptr (σ.length+1) 0]],.arr 1 n (fun i=>encI ((nth L i:Nat):Int))]):=by
 refine⟨T.en243,fun j w vs hS hR=> ?_⟩;obtain⟨hsz,hrel⟩:=hR;have r0:R w j (.ms (σ.length+3) 1 0 n) (vs.getD 0 Go.undef):=hrel 0 (by simp);have r1:R w j (.clo (.func 244) [] [.ptr (σ.length+2) 0]) (vs.getD 1 Go.undef):=hrel 1 (by simp);have hsz:vs.size=2:=by simpa using hsz
 have hvs:vs= #[vs.getD 0 Go.undef,vs.getD 1 Go.undef]:=by
  apply Array.ext
  ·simp[hsz]
  ·intro i h1 h2;have hi:i=0\/i=1:=by simp at h2;omega
   rcases hi with rfl|rfl
   ·rw[←(nG h1).2];rfl
   ·rw[←(nG h1).2];rfl
 rw[hvs];generalize vs.getD 0 Go.undef=v0 at r0
 generalize vs.getD 1 Go.undef=v1 at r1
 cases r1 with
 |clo ff cc g1 g2 g3 g4=>
 have e1:ff= #[]:=Array.eq_empty_of_size_eq_zero (by simpa using g1);subst e1;have p0:R w j (.ptr (σ.length+2) 0) (cc.getD 0 Go.undef):=g4 0 (by simp);have hcc:cc= #[cc.getD 0 Go.undef]:=by
  have hs2:cc.size=1:=by simpa using g2
  apply Array.ext
  ·simp[hs2]
  ·intro q hq1 hq2;obtain rfl:q=0:=by omega
   rw[←(nG hq1).2];rfl
 rw[hcc];generalize cc.getD 0 Go.undef=vK at p0
 cases p0 with| @ptr _ _ cK jK=>
 cases r0 with
 |ms0 p h=>omega
 |sN p e m h hs hlo hm=>omega
 | @ms _ _ _ _ cb c e m hj hs hc hm=>
 have hb:(σ++[aC.var (.d (I ID)::l),.var [.d (I rd)],.var [.clo (.func 241) [] [.ptr σ.length 0,.ptr (σ.length+1) 0]],.arr 1 n (fun i=>encI (v i))])[σ.length+3]? =some (.arr 1 n fun i=>encI (v i)):=by simp
 obtain⟨oB,jB0,hBB⟩:=hS.blk σ.length (.var (.d (I ID)::l)) (by simp);obtain⟨oR,jR0,hBR⟩:=hS.blk (σ.length+1) (.var [.d (I rd)]) (by simp);cases oB with
 |none=>exact hBB.elim
 |some cB=>
 cases oR with
 |none=>exact hBR.elim
 |some cR=>
 have h0:(σ++[aC.var (.d (I ID)::l),.var [.d (I rd)],.var [.clo (.func 241) [] [.ptr σ.length 0,.ptr (σ.length+1) 0]],.arr 1 n (fun i=>encI (v i))])[0]? =some (.tab 0 iR):=aO hσ;have hnl: ∀(q:Nat),q≠σ.length+3->∀y:aC,((σ++[aC.var (.d (I ID)::l),.var [.d (I rd)],.var [.clo (.func 241) [] [.ptr σ.length 0,.ptr (σ.length+1) 0]],.arr 1 n (fun i=>encI (v i))]).set (σ.length+3) y)[q]? =(σ++[aC.var (.d (I ID)::l),.var [.d (I rd)],.var [.clo (.func 241) [] [.ptr σ.length 0,.ptr (σ.length+1) 0]],.arr 1 n (fun i=>encI (v i))])[q]? :=fun q hq y=>by rw[List.getElem?_set_ne (Ne.symm hq)]
 have hds:(lst n (vU v)).toArray.size=n:=by simp[bP]
 have hget: ∀i,i<n->(lst n (vU v)).toArray[i]! =vU v i:=fun i hi=>by
  rw[getElem!_pos _ i (by rw[hds];exact hi)];simp[lst]
 have hH:Holds YK w cb 0 (lst n (vU v)).toArray:=SB hS hj hb _ (by rw[hds];exact Nat.le_refl _) (fun i hi=>by
  rw[hds] at hi;rw[hget i hi];show encI (v i)=_
  unfold YK;rw[vU_val (hv i hi)];rfl)
 have eg: ∀args w,(callFunc 244 args).run prog w= .ok (.enter 244 args) w:=enters_of func244 (by kernel_rfl) rfl;have hcmp:CmpLays1 prog 244 #[.pointer (some ⟨cK,0,none⟩)] YK (cfU ID rd) cb 0 (lst n (vU v)).toArray.size w:=fun m os dk hsd x y=>by
  rw[hds] at hsd;have hrl:=(Ib (enc:=YK) hS hj hb dk (by omega) m os _ (fun i hi=>rfl)).1;have hA:=asks_of hrl (i:=σ.length) (ID:=ID) (rd:=rd) (l:=l) (by rw[hnl _ (by omega)];exact h0) (by rw[hnl _ (by omega)];simp) (by rw[hnl _ (by omega)];simp) (by rw[hnl _ (by omega)];simp) jB0 jR0 jK;exact cmp_w hA h1 h2 x y
 have hcon:=Any.slices_SortFunc sortU YK (fun x=>rfl) (cfU ID rd) (cfU_swo ID rd) 244 #[.pointer (some ⟨cK,0,none⟩)] cb 0 c (lst n (vU v)).toArray w eg hcmp hH (hS.lt _ _ hj) (by rw[hds];omega);rw[hds] at hcon;change Calls prog 243 _ _ _ at hcon
 simp only[Nat.zero_mul];refine hcon.mono ?_;rintro e' w' ⟨rfl,d',q,os,hp,hso,rfl⟩;obtain⟨hd,hperm⟩:=Z5 hp;have hnth: ∀i,i<n->nth (d'.toList.map (·.1)) i=(d'[i]!).1:=fun i hi=>by
  rw[getElem!_pos d' i (by omega)];simp[nth,show i<d'.size by omega]
 obtain⟨k1,k2⟩:=Ib (enc:=YK) hS hj hb d' (by omega) q os (fun i=>encI ((nth (d'.toList.map (·.1)) i:Nat):Int)) (fun i hi=>by
  rw[if_pos (by omega),hnth i hi];rfl)
 refine⟨_,.eX [],_,j,[],rfl,k1,.eX #[] (Nat.le_refl _) (by simp),k2,Nat.le_refl _,.refl _ _,rfl,rfl,d'.toList.map (·.1),?_,?_,?_⟩
 ·have h3:=hperm.map (fun x:Uno=>x.1);have h4:(lst n (vU v)).map (fun x:Uno=>x.1)=lst n v:=by
   unfold lst;rw[List.map_map];exact List.map_congr_left fun i hi=>vU_val (hv i (List.mem_range.1 hi))
  rwa [h4] at h3
 ·rw[List.pairwise_map,List.pairwise_iff_getElem];intro i k hi hk' hik;simp only[Array.length_toList] at hi hk';have:=hso i k (Nat.zero_le _) hik (by omega);rw[getElem!_pos d' i hi,getElem!_pos d' k hk'] at this;unfold ltOf cfU at this;rw[decide_eq_false_iff_not,FU] at this;simp only[Array.getElem_toList];exact this
 ·rw[List.set_append_right _ _ (by omega)];simp
set_option maxHeartbeats 1000000 in
theorem MO(σ τ:List aC)(n k:Nat)(g:Nat->Int)(hk0:0<k)(hkn:k<=n)(hn:n<1000000000):
  CS prog 72 [.ms σ.length 1 0 k] (σ++ .arr 1 n (fun i=>encI (g i))::τ)
   (fun r σ' X=>r= .eX []/\X=[]/\∃L:List Int,L.Perm (lst k g)/\L.Pairwise (·<=·)/\∃row,σ'=σ++ .arr 1 n row::τ/\∀i,i<k->row i=encI (nth L i)):=by
 refine⟨T.en72,fun j w vs hS hR=> ?_⟩;obtain⟨hsz,hrel⟩:=hR;have r0:R w j (.ms σ.length 1 0 k) (vs.getD 0 Go.undef):=hrel 0 (by simp);have hsz:vs.size=1:=by simpa using hsz
 have hvs:vs= #[vs.getD 0 Go.undef]:=by
  apply Array.ext
  ·simp[hsz]
  ·intro i h1 h2;obtain rfl:i=0:=by simp at h2;omega
   rw[←(nG h1).2];rfl
 rw[hvs];generalize vs.getD 0 Go.undef=v0 at r0
 cases r0 with
 |ms0 p h=>omega
 |sN p e m h hs hlo hm=>omega
 | @ms _ _ _ _ cb c e m hj hs hc hm=>
 have hb:(σ++aC.arr 1 n (fun i=>encI (g i))::τ)[σ.length]? =some (.arr 1 n fun i=>encI (g i)):=by simp
 have hds:(lst k g).toArray.size=k:=by simp[bP]
 have hH:Holds (Value.int .i64) w cb 0 (lst k g).toArray:=SB hS hj hb _ (by rw[hds];exact hkn) (fun i hi=>by
  rw[hds] at hi;rw[getElem!_pos _ i (by rw[hds];exact hi)];show encI (g i)=_
  simp[lst,encI])
 have hcon:=Any.slices_Sort_int sortInt cb 0 c (lst k g) w hH (hS.lt _ _ hj) (by rw[bP];omega);rw[bP] at hcon;change Calls prog 72 _ _ _ at hcon
 simp only[Nat.zero_mul];refine hcon.mono ?_;rintro e' w' ⟨rfl,q,os,rfl⟩;have hperm:=List.mergeSort_perm (lst k g) (fun x y=>decide (x<=y));have hsort:=List.pairwise_mergeSort (le:=fun x y:Int=>decide (x<=y)) (by intro a b c h1 h2;simp at*;omega) (by intro a b;simp;omega) (lst k g);generalize(lst k g).mergeSort (fun x y=>decide (x<=y))=L at*
 have hL:L.length=k:=by rw[hperm.length_eq,bP]
 obtain⟨k1,k2⟩:=Ib (enc:=Value.int .i64) hS hj hb L.toArray (by simp[hL];exact hkn) q os (fun i=>if i<k then encI (nth L i) else encI (g i)) (fun i hi=>by
  by_cases hik:i<k
  ·rw[if_pos hik,if_pos (by simp[hL];exact hik),getElem!_pos _ i (by simp[hL];exact hik),zI (by omega)];simp[encI]
  ·rw[if_neg hik,if_neg (by simp[hL];omega)])
 refine⟨_,.eX [],_,j,[],rfl,k1,.eX #[] (Nat.le_refl _) (by simp),k2,Nat.le_refl _,.refl _ _,rfl,rfl,L,hperm,hsort.imp fun h=>by simpa using h,fun i=>if i<k then encI (nth L i) else encI (g i),by simp,fun i hi=>by simp[hi]⟩
end Go.Proofs.YthlhlnbcjlpigaaGreatDoor
namespace Go.Proofs.YthlhlnbcjlpigaaGreatDoor
open Go.aU Go.Proofs.Tryz
theorem rE{α:Type}{r:α->α->Prop}(ha: ∀a b,r a b->r b a->a=b): ∀{l1 l2:List α},l1.Perm l2->l1.Pairwise r->l2.Pairwise r->l1=l2
 |[],l2,h,_,_=>by rw[List.Perm.nil_eq h]
 |x::l1,[],h,_,_=>by have:=h.length_eq;simp at this
 |x::l1,y::l2,h,p1,p2=>by
  rw[List.pairwise_cons] at p1 p2;have hxy:x=y:=by
   have hx:x∈y::l2:=h.subset (by simp);have hy:y∈x::l1:=h.symm.subset (by simp);rcases List.mem_cons.1 hx with rfl|hx
   ·rfl
   ·rcases List.mem_cons.1 hy with rfl|hy
    ·rfl
    ·exact ha x y (p1.1 y hy) (p2.1 x hx)
  subst hxy;rw[rE ha (List.Perm.cons_inv h) p1.2 p2.2]
def Q9(ID rd:Nat)(l L:List Nat):Prop:=L.Perm l/\L.Pairwise (fun a b=> ¬su ID rd b a)
theorem Q9.uniq{ID rd:Nat}{l L L':List Nat}(h:Q9 ID rd l L)(h':Q9 ID rd l L'):L=L':=
 rE (fun a b h1 h2=>xP h2 h1) (h.1.trans h'.1.symm) h.2 h'.2
open Classical in
noncomputable def Xt(ID rd:Nat)(l:List Nat):List Nat:=if h: ∃L,Q9 ID rd l L then Classical.choose h else[]
theorem ordL_eq{ID rd:Nat}{l L:List Nat}(h:Q9 ID rd l L):Xt ID rd l=L:=by
 unfold Xt;rw[dif_pos ⟨L,h⟩];exact(Classical.choose_spec (⟨L,h⟩: ∃L,Q9 ID rd l L)).uniq h
def yY(l:List Int):List Int:=l.mergeSort fun x y=>decide (x<=y)
theorem nZ(l:List Int):(yY l).Perm l:=List.mergeSort_perm _ _
theorem WZ(l:List Int):(yY l).Pairwise (·<=·):=
 (List.pairwise_mergeSort (le:=fun x y:Int=>decide (x<=y)) (by intro a b c h1 h2;simp at*;omega) (by intro a b;simp;omega) l).imp fun h=>by simpa using h
theorem uQ{l L:List Int}(h:L.Perm l)(hs:L.Pairwise (·<=·)):L=yY l:=
 rE (fun a b h1 h2=>Int.le_antisymm h1 h2) (h.trans (nZ l).symm) hs (WZ l)
def uj(x:nJ)(i:Nat):Nat:=(x.u i).toNat
noncomputable def jl(x:nJ)(rd:Int):List Int:=yY (((Xt x.ID.toNat rd.toNat (lst x.nu (uj x))).take x.kS.toNat).map fun n:Nat=>(n:Int))
def CQ(x:nJ):Bool:=idB x.ID&&QL x.Day 0 1048575&&QL x.Round 0 1024&&QL x.nu 1 60&& !((lst x.nu x.u).any fun n=> !idB n)&&QL x.kS 1 x.nu&&QL x.Accept 0 (IntKind.i64.wrap (x.kS-1))
structure Rng(x:nJ):Prop where
 id1:1<=x.ID
 id2:x.ID<=1073741824
 d1:0<=x.Day
 d2:x.Day<=1048575
 r1:0<=x.Round
 r2:x.Round<=1024
 n1:1<=x.nu
 n2:x.nu<=60
 u1: ∀i,i<x.nu->1<=x.u i/\x.u i<=1073741824
 s1:1<=x.kS
 s2:x.kS<=x.nu
 a1:0<=x.Accept
 a2:x.Accept<=x.kS-1
theorem Nr(x:nJ):CQ x=true↔Rng x:=by
 unfold CQ idB QL;simp only[Bool.and_eq_true,decide_eq_true_eq,Bool.not_eq_true',lst,List.any_map,List.any_eq_false,List.mem_range,Function.comp,Bool.not_eq_true'];constructor
 ·rintro⟨⟨⟨⟨⟨⟨⟨a,b⟩,c,d⟩,e,f⟩,g,h⟩,k⟩,l,m⟩,n,o⟩;rw[aA (by omega) (by omega)] at o;exact⟨a,b,c,d,e,f,by omega,by omega,fun i hi=>by simpa using k i hi,l,m,n,o⟩
 ·intro h;have h1:=h.s1;have h2:=h.s2;have h3:=h.n2;rw[aA (by omega) (by omega)];exact⟨⟨⟨⟨⟨⟨⟨h.id1,h.id2⟩,h.d1,h.d2⟩,h.r1,h.r2⟩,by have:=h.n1;omega,by have:=h.n2;omega⟩,fun i hi=>by simpa using h.u1 i hi⟩,h.s1,h.s2⟩,h.a1,h.a2⟩
theorem Yu(ID rd:Nat)(l:List Nat): ∃L,Q9 ID rd l L:=by
 classical
 refine⟨l.mergeSort (fun x y=>decide (¬su ID rd y x)),List.mergeSort_perm _ _,?_⟩;refine(List.pairwise_mergeSort (le:=fun x y=>decide (¬su ID rd y x)) ?_ ?_ l).imp fun h=>by simpa using h
 ·intro a b c h1 h2;simp only[decide_eq_true_eq] at*;intro h3;by_cases h4:su ID rd b a
  ·exact h1 h4
  ·by_cases h5:su ID rd a b
   ·exact h2 (rZ h3 h5)
   ·have e:=xP h4 h5;subst e;exact h2 h3
 ·intro a b;by_cases h:su ID rd b a
  ·have: ¬su ID rd a b:=fun h2=>AQ _ _ _ (rZ h h2);simp[this]
  ·simp[h]
theorem IE(ID rd:Nat)(l:List Nat):Q9 ID rd l (Xt ID rd l):=by
 obtain⟨L,h⟩:=Yu ID rd l;rw[ordL_eq h];exact h
theorem drawL_len(x:nJ)(rd:Int):(jl x rd).length=min x.kS.toNat x.nu:=by
 unfold jl;rw[(nZ _).length_eq,List.length_map,List.length_take,(IE _ _ _).1.length_eq,bP]
theorem YL(x:nJ)(rd:Int):(jl x rd).length<=x.nu:=by rw[drawL_len];omega
theorem Gu(σ:List aC)(x:nJ)(rd:Int)(hx:Rng x)(h0:0<=rd)(h1:rd<=1024)(hσ:σ[0]? =some (.tab 0 iR)):ay prog 173 [.agg (x.enc.map .d),.d (I rd)] σ (.d (SL none 1 encI (jl x rd).length (nth (jl x rd)))):=by
 obtain⟨ID,O1⟩: ∃ID:Nat,x.ID=ID:=⟨x.ID.toNat,by have:=hx.id1;omega⟩;obtain⟨r,rfl⟩: ∃r:Nat,rd=r:=⟨rd.toNat,by omega⟩;obtain⟨k,hk⟩: ∃k:Nat,x.kS=k:=⟨x.kS.toNat,by have:=hx.s1;omega⟩;have g1:=hx.id1;have g2:=hx.id2;have g3:=hx.n1;have g4:=hx.n2;have g5:=hx.s1;have g6:=hx.s2;refine ay.bd false func173 fun hwf=> ?_;simp[go_sem,O1,hk];refine go false ?_;simp[go_sem];refine go false ?_;simp[go_sem];refine aW.gen (VH _ none x.nu x.u (by omega)) ?_;rintro r' σ' X ⟨rfl,rfl,rfl⟩;simp[go_sem];refine bC (σ.length+3) (fun i=>encI ((uj x i:Nat):Int)) (by simp[go_sem];exact⟨rfl,rfl,rfl⟩) (by
  intro q hq;have:=hx.u1 q hq;simp only[encI,uj];rw[Int.toNat_of_nonneg (by omega)]) (by simp[go_sem];rfl) ?_
 refine go false ?_;simp[go_sem];refine aW.gen (sortU_cs σ ID r x.nu _ (uj x) (by omega) (by omega) (fun i hi=>by have:=hx.u1 i hi;unfold uj;omega) (by omega) (by omega) hσ) ?_;rintro r' σ' X ⟨rfl,rfl,L,hp,hs,rfl⟩;have hL:Xt ID r (lst x.nu (uj x))=L:=ordL_eq ⟨hp,hs⟩;have hLn:L.length=x.nu:=by rw[hp.length_eq,bP]
 simp[go_sem];refine go true ?_;simp[go_sem];repeat refine⟨by omega,?_⟩
 have hso:=nP (fun B1 B2 B3:aC=>MO (σ++[B1,B2,B3]) [] x.nu k (fun i=>((nth L i:Nat):Int)) (by omega) (by omega) (by omega));refine aW.gen (hso _ _ _) ?_;rintro r' σ' X ⟨rfl,rfl,L2,hp2,hs2,row,rfl,hrow⟩;have hD:jl x r=L2:=by
  unfold jl;rw[O1,Int.toNat_natCast,Int.toNat_natCast,hL,hk,Int.toNat_natCast];refine(uQ (hp2.trans ?_) hs2).symm;have:lst k (fun i=>((nth L i:Nat):Int))=(L.take k).map fun n:Nat=>(n:Int):=by
   apply List.ext_getElem
   ·rw[bP];simp;omega
   ·intro i a1 a2;rw[bP] at a1;simp[lst,nth,show i<L.length by omega]
  rw[this]
 have hDn:L2.length=k:=by rw[hp2.length_eq,bP]
 simp[go_sem];refine xQ (σ.length+3) k (fun i=>encI (nth L2 i)) (by simp[go_sem];exact⟨rfl,rfl⟩) (by omega) (fun i hi=>hrow i hi) (by simp[go_sem];rfl) ?_;refine aF hwf (σ.length+3) ?_;rw[hD,hDn];exact aj sc
end Go.Proofs.YthlhlnbcjlpigaaGreatDoor
