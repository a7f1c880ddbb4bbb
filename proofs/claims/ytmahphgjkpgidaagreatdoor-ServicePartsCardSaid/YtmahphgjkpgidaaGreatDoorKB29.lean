/- Contracts and lemmas, joined out of smaller texts by a program; no conditions. -/
import Derived.Test.YtmahphgjkpgidaaGreatDoorKB26
import Derived.Test.YtmahphgjkpgidaaGreatDoorKB28
import Derived.Shelf.SlSortCmp.Insertion
import Derived.Shelf.SlSortCmp.Whole1
import Derived.Test.YtmahphgjkpgidaaGreatDoorKB18
import Derived.ProofKit
import Derived.OpenShut
import Derived.ShutString
import Derived.ChangeOld
import Derived.Below
import Derived.Carry
import Derived.Deep.Slices
set_option linter.unusedSimpArgs false
set_option linter.unusedVariables false
set_option maxHeartbeats 1000000
set_option maxRecDepth 100000
namespace Go.Proofs.YtmahphgjkpgidaaGreatDoor
open Go.aU Go.Shelf Go.RowKit Go.Lib Go.Sort Go.Proofs.Tryz
theorem Em: ∀x:List UInt8,Op.bytesLess x x=false
 |[]=>rfl
 |a::x=>by
  simp only[Op.bytesLess,Em x,Bool.and_false,Bool.or_false,decide_eq_false_iff_not,UInt8.lt_iff_toNat_lt];omega
theorem bl_trans: ∀{x y z:List UInt8},Op.bytesLess x y=true->Op.bytesLess y z=true->Op.bytesLess x z=true
 |_,[],_,h,_=>by simp[Op.bytesLess] at h
 |_,_::_,[],_,h=>by simp[Op.bytesLess] at h
 |[],_::_,_::_,_,_=>rfl
 |a::x,b::y,c::z,h1,h2=>by
  simp only[Op.bytesLess,Bool.or_eq_true,Bool.and_eq_true,decide_eq_true_eq,beq_iff_eq,UInt8.lt_iff_toNat_lt] at*;rcases h1 with h1|⟨rfl,h1⟩<;>rcases h2 with h2|⟨rfl,h2⟩
  ·left;omega
  ·left;exact h1
  ·left;exact h2
  ·right;exact⟨rfl,bl_trans h1 h2⟩
theorem bl_total: ∀{x y:List UInt8},Op.bytesLess x y=false->Op.bytesLess y x=false->x=y
 |[],[],_,_=>rfl
 |[],_::_,h,_=>by simp[Op.bytesLess] at h
 |_::_,[],_,h=>by simp[Op.bytesLess] at h
 |a::x,b::y,h1,h2=>by
  simp only[Op.bytesLess,Bool.or_eq_false_iff,Bool.and_eq_false_iff,decide_eq_false_iff_not,UInt8.lt_iff_toNat_lt] at*;have hab:a=b:=UInt8.toNat_inj.1 (by omega);subst hab;have e1:Op.bytesLess x y=false:=by rcases h1.2 with h|h;(simp at h);exact h
  have e2:Op.bytesLess y x=false:=by rcases h2.2 with h|h;(simp at h);exact h
  rw[bl_total e1 e2]
theorem cmpS_neg(a b:ByteArray):Dt a b<0↔ltS a b=true:=by
 unfold Dt;split
 ·rename_i h;simp[h]
 ·rename_i h;split<;>simp[h]
theorem Vz(a b:ByteArray):Dt a b=0↔a.toList=b.toList:=by
 unfold Dt;by_cases h:ltS a b=true
 ·rw[if_pos h];constructor
  ·intro h;cases h
  ·intro he;unfold ltS at h;rw[he,Em] at h;cases h
 ·rw[if_neg h];have h':ltS a b=false:=by simpa using h
  by_cases he:a.toList=b.toList<;>simp[h',he]
def yu(ID rd x y:Nat):Prop:=ltS (keyS ID rd x) (keyS ID rd y)=true\/((keyS ID rd x).toList=(keyS ID rd y).toList/\x<y)
theorem cmpI_neg(x y:Nat):Lu x y<0↔x<y:=by unfold Lu;split<;>(try split)<;>omega
theorem Iq(ID rd x y:Nat):ordU ID rd x y<0↔yu ID rd x y:=by
 unfold ordU yu;by_cases h:Dt (keyS ID rd x) (keyS ID rd y)=0
 ·rw[if_neg (by simpa using h),cmpI_neg];have he:=(Vz _ _).1 h;have hl:ltS (keyS ID rd x) (keyS ID rd y)=false:=by unfold ltS;rw[he,Em]
  simp[hl,he]
 ·rw[if_pos h,cmpS_neg];have he: ¬(keyS ID rd x).toList=(keyS ID rd y).toList:=fun e=>h ((Vz _ _).2 e);simp[he]
theorem NU(ID rd x:Nat): ¬yu ID rd x x:=by
 unfold yu ltS;rw[Em];simp
theorem zD{ID rd x y z:Nat}(h1:yu ID rd x y)(h2:yu ID rd y z):yu ID rd x z:=by
 unfold yu ltS at*;rcases h1 with h1|⟨e1,h1⟩<;>rcases h2 with h2|⟨e2,h2⟩
 ·exact .inl (bl_trans h1 h2)
 ·exact .inl (by rw[←e2];exact h1)
 ·exact .inl (by rw[e1];exact h2)
 ·exact .inr ⟨e1.trans e2,by omega⟩
theorem Gy{ID rd x y:Nat}(h1: ¬yu ID rd x y)(h2: ¬yu ID rd y x):x=y:=by
 unfold yu ltS at*;simp only[not_or,Bool.not_eq_true,not_and] at h1 h2;have e:=bl_total h1.1 h2.1;have:=h1.2 e;have:=h2.2 e.symm;omega
abbrev Uno:= { n:Nat//n<=1073741824 }
instance:Inhabited Uno:=⟨⟨0,by decide⟩⟩
def aaC(x:Uno):Value:= .int .i64 x.1
def cfU(ID rd:Nat)(x y:Uno):Int:=ordU ID rd x.1 y.1
theorem cfU_swo(ID rd:Nat):SWO (ltOf (cfU ID rd)) where
 irrefl x:=by
  unfold ltOf cfU;rw[decide_eq_false_iff_not,Iq];exact NU _ _ _
 trans x y z h1 h2:=by
  unfold ltOf cfU at*;rw[decide_eq_true_iff,Iq] at*;exact zD h1 h2
 ntrans x y z h1 h2:=by
  unfold ltOf cfU at*;rw[decide_eq_false_iff_not,Iq] at*;intro h3;by_cases h4:yu ID rd y x.1
  ·exact h2 (zD h4 h3)
  ·have e:=Gy h1 h4;rw[e] at h3;exact h2 h3
theorem aA.conv{P:Program}{f:FuncId}{args args':List AV}{σ:List aG}{r:AV}(h:aA P f args' σ r)(hc: ∀j w vs,aT w j σ->Rs w j args vs->Rs w j args' vs):aA P f args σ r:=
 ⟨h.1,fun j w vs hS hr=>h.2 j w vs hS (hc j w vs hS hr)⟩
theorem el_tab{w:World}{j:Js}{σ:List aG}(hS:aT w j σ){i c:Nat}{C:Array Value}(h:σ[i]? =some (.tab c C)){x:Value}(hx:C[0]? =some x):R w j (.el [.v x]) (.pointer (some ⟨c,0,none⟩)):=by
 obtain⟨o,_,hB⟩:=hS.blk i _ h;have hB':c<w.heap.size/\some c∉j/\∃e,w.shape? c=some (e,C.size)/\∀i,w.cell? ⟨c,i,none⟩=C[i]? :=by
  cases o<;>exact⟨hB.2.1,hB.2.2.1,hB.2.2.2⟩
 obtain⟨h1,h2,e,h3,h4⟩:=hB';refine .el _ (fun _=>x) rfl h1 h2 (fun k hk=> ?_) (fun k hk=> ?_)
 ·obtain rfl:k=0:=by simpa using hk
  exact(h4 0).trans hx
 ·obtain rfl:k=0:=by simpa using hk
  exact .v x
theorem key_conv{σ:List aG}{ID rd u cB cR:Nat}{CB CR:Array Value}(h1:ID<=1073741824)(h2:rd<=1073741824)(h3:u<=1073741824)(hσ:σ[0]? =some (.tab 0 gK))(hB:σ[1]? =some (.tab cB CB))(hR:σ[2]? =some (.tab cR CR))(b0:CB[0]? =some (.int .i64 ID))(r0:CR[0]? =some (.int .i64 rd)):
  aA prog 226 [.d (I u),.d (.v (.pointer (some ⟨cB,0,none⟩))),.d (.v (.pointer (some ⟨cR,0,none⟩)))] σ (.d (Sb (keyS ID rd u))):=by
 refine aA.conv (Xx σ ID rd u h1 h2 h3 hσ) fun j w vs hS hr=>⟨hr.1,fun k hk=> ?_⟩;have hk':k<3:=hk;have:=hr.2 k hk;rcases(by omega:k=0\/k=1\/k=2) with rfl|rfl|rfl
 ·exact this
 ·have e:=lM (show R w j (.d (.v (.pointer (some ⟨cB,0,none⟩)))) (vs.getD 1 Go.undef) from this);show R w j (.el [I ID]) (vs.getD 1 Go.undef)
  rw[e];exact el_tab hS hB b0
 ·have e:=lM (show R w j (.d (.v (.pointer (some ⟨cR,0,none⟩)))) (vs.getD 2 Go.undef) from this);show R w j (.el [I rd]) (vs.getD 2 Go.undef)
  rw[e];exact el_tab hS hR r0
structure Asks(w:World)(cB cR cK ID rd:Nat):Prop where
 pow: ∃e,(0<w.heap.size)/\w.shape? 0=some (e,gK.size)/\∀i,w.cell? ⟨0,i,none⟩=gK[i]?
 b: ∃CB e f,w.heap[cB]? =some (.cells CB e f)/\CB[0]? =some (.int .i64 ID)
 r: ∃CR e f,w.heap[cR]? =some (.cells CR e f)/\CR[0]? =some (.int .i64 rd)
 k:w.cell? ⟨cK,0,none⟩=some (.func (.func 226) #[] #[.pointer (some ⟨cB,0,none⟩),.pointer (some ⟨cR,0,none⟩)])
theorem cmp_w{w:World}{cB cR cK ID rd:Nat}(h:Asks w cB cR cK ID rd)(h1:ID<=1073741824)(h2:rd<=1073741824)(x y:Uno):
  Calls prog 230 #[aaC x,aaC y,.pointer (some ⟨cK,0,none⟩)] w fun e w'=>e= .returned (.int .i64 (cfU ID rd x y))/\∃q os,w'=grow (w.drewN q) os:=by
 obtain⟨⟨ep,hp0,hp1,hp2⟩,⟨CB,eB,fB,hB1,hB2⟩,⟨CR,eR,fR,hR1,hR2⟩,hk⟩:=h;have hj: ∀b:Nat,some b∉([none,none,none]:Js):=by intro b;simp
 have hlt: ∀{c:Nat} {o:Obj},w.heap[c]? =some o->c<w.heap.size:=fun h=>(Array.getElem?_eq_some_iff.1 h).1;have hS:aT w [none,none,none] [.tab 0 gK,.tab cB CB,.tab cR CR]:=by
  refine⟨rfl,fun b cb hb=> ?_,fun b b' cb hb _=> ?_,fun b y hy=> ?_⟩
  ·have:=List.mem_of_getElem? hb;simp at this
  ·have:=List.mem_of_getElem? hb;simp at this
  ·have hb:b<3:=(List.getElem?_eq_some_iff.1 hy).1;refine⟨none,by rcases(by omega:b=0\/b=1\/b=2) with rfl|rfl|rfl<;>rfl,?_⟩;rcases(by omega:b=0\/b=1\/b=2) with rfl|rfl|rfl
   ·simp only[List.getElem?_cons_zero,Option.some.injEq] at hy;subst hy;exact⟨rfl,hp0,hj _,ep,hp1,hp2⟩
   ·simp only[List.getElem?_cons_succ,List.getElem?_cons_zero,Option.some.injEq] at hy;subst hy;exact⟨rfl,hlt hB1,hj _,eB,by simp[World.shape?,hB1],fun i=>cell_of hB1 i⟩
   ·simp only[List.getElem?_cons_succ,List.getElem?_cons_zero,Option.some.injEq] at hy;subst hy;exact⟨rfl,hlt hR1,hj _,eR,by simp[World.shape?,hR1],fun i=>cell_of hR1 i⟩
 have kx:=fun u (hu:u<=1073741824)=>key_conv (σ:=[.tab 0 gK,.tab cB CB,.tab cR CR]) h1 h2 hu rfl rfl rfl hB2 hR2;have hc:=Xy [.tab 0 gK,.tab cB CB,.tab cR CR] ID rd x.1 y.1 _ _ (kx x.1 x.2) (kx y.1 y.2);refine hc.grows hj hS ⟨rfl,fun k hk'=> ?_⟩;have hk3:k<3:=hk';rcases(by omega:k=0\/k=1\/k=2) with rfl|rfl|rfl
 ·exact .d (.v _)
 ·exact .d (.v _)
 ·refine .el _ (fun _=> .func (.func 226) #[] #[.pointer (some ⟨cB,0,none⟩),.pointer (some ⟨cR,0,none⟩)]) rfl (block_lt_of_cell hk) (hj _) (fun q hq=> ?_) (fun q hq=> ?_)
  ·obtain rfl:q=0:=by simpa using hq
   exact hk
  ·obtain rfl:q=0:=by simpa using hq
   exact .v _
theorem asks_of{w:World}{j:Js}{S:List aG}(hS:aT w j S){i cB cR cK ID rd:Nat}{l:List AV}(h0:S[0]? =some (.tab 0 gK))(hB:S[i]? =some (.var (.d (I ID)::l)))(hR:S[i+1]? =some (.var [.d (I rd)]))(hK:S[i+2]? =some (.var [.clo (.func 226) [] [.ptr i 0,.ptr (i+1) 0]]))
  (jB:j[i]? =some (some cB)) (jR:j[i+1]? =some (some cR)) (jK:j[i+2]? =some (some cK)):Asks w cB cR cK ID rd:=by
 refine⟨?_,?_,?_,?_⟩
 ·obtain⟨o,_,hb⟩:=hS.blk 0 _ h0;cases o<;>(obtain⟨_,g1,_,e,g2,g3⟩:=hb;exact⟨e,g1,g2,g3⟩)
 ·obtain⟨o,ho,hb⟩:=hS.blk i _ hB;rw[jB] at ho;cases ho;obtain⟨C,e,hC,hs,hr⟩:=hb;have h1:=lM (show R w j (.d (I ID)) (C.getD 0 Go.undef) from hr 0 (by simp));have hlt:0<C.size:=by rw[hs];simp
  exact⟨C,e,_,hC,by rw[Array.getElem?_eq_getElem hlt];rw[Array.getD_eq_getD_getElem?,Array.getElem?_eq_getElem hlt] at h1;simpa using h1⟩
 ·obtain⟨o,ho,hb⟩:=hS.blk (i+1) _ hR;rw[jR] at ho;cases ho;obtain⟨C,e,hC,hs,hr⟩:=hb;have h1:=lM (show R w j (.d (I rd)) (C.getD 0 Go.undef) from hr 0 (by simp));have hlt:0<C.size:=by rw[hs];simp
  exact⟨C,e,_,hC,by rw[Array.getElem?_eq_getElem hlt];rw[Array.getD_eq_getD_getElem?,Array.getElem?_eq_getElem hlt] at h1;simpa using h1⟩
 ·obtain⟨o,ho,hb⟩:=hS.blk (i+2) _ hK;rw[jK] at ho;cases ho;obtain⟨C,e,hC,hs,hr⟩:=hb;have h1:R w j (.clo (.func 226) [] [.ptr i 0,.ptr (i+1) 0]) (C.getD 0 Go.undef):=hr 0 (by simp);have hlt:0<C.size:=by rw[hs];simp
  rw[cell_of hC,Array.getElem?_eq_getElem hlt];rw[Array.getD_eq_getD_getElem?,Array.getElem?_eq_getElem hlt,Option.getD_some] at h1;generalize C[0]=v at h1
  cases h1 with
  |clo ff cc g1 g2 g3 g4=>
   have e1:ff= #[]:=Array.eq_empty_of_size_eq_zero (by simpa using g1);subst e1;have p0:R w j (.ptr i 0) (cc.getD 0 Go.undef):=g4 0 (by simp);have p1:R w j (.ptr (i+1) 0) (cc.getD 1 Go.undef):=g4 1 (by simp);have hcc:cc= #[cc.getD 0 Go.undef,cc.getD 1 Go.undef]:=by
    have hs2:cc.size=2:=by simpa using g2
    apply Array.ext
    ·simp[hs2]
    ·intro q hq1 hq2;rcases(by omega:q=0\/q=1) with rfl|rfl
     ·rw[←(pW hq1).2];rfl
     ·rw[←(pW hq1).2];rfl
   rw[hcc];generalize cc.getD 0 Go.undef=v0 at p0
   generalize cc.getD 1 Go.undef=v1 at p1
   cases p0 with|ptr q0=>
   cases p1 with|ptr q1=>
   rw[jB] at q0;cases q0;rw[jR] at q1;cases q1;rfl
theorem sort_permU{α:Type}[Inhabited α]{n:Nat}{x:Nat->α}{d:Array α}(h:PermIn 0 n (lst n x).toArray d):d.size=n/\d.toList.Perm (lst n x):=by
 obtain⟨h1,_,h3⟩:=h;have hs:d.size=n:=by simpa[bT] using h1
 refine⟨hs,?_⟩;have e1:(d.extract 0 n).toList=d.toList:=by rw[←hs];simp
 have e2:((lst n x).toArray.extract 0 n).toList=lst n x:=by
  simp only[List.extract_toArray,List.extract_eq_take_drop,List.drop_zero,Nat.sub_zero];exact List.take_of_length_le (by rw[bT];exact Nat.le_refl _)
 rw[e1,e2] at h3;exact h3
def vU(v:Nat->Nat)(i:Nat):Uno:=if h:v i<=1073741824 then⟨v i,h⟩ else default
theorem vU_val{v:Nat->Nat}{i:Nat}(h:v i<=1073741824):(vU v i).1=v i:=by unfold vU;rw[dif_pos h]
set_option maxHeartbeats 1000000 in
theorem sortU_cs(σ:List aG)(ID rd n:Nat)(l:List AV)(v:Nat->Nat)(h1:ID<=1073741824)(h2:rd<=1073741824)(hv: ∀i,i<n->v i<=1073741824)(hn0:0<n)(hn:n<1000000000)(hσ:σ[0]? =some (.tab 0 gK)):
  CS prog 229 [.ms (σ.length+3) 1 0 n,.clo (.func 230) [] [.ptr (σ.length+2) 0]] (σ++[.var (.d (I ID)::l),.var [.d (I rd)],.var [.clo (.func 226) [] [.ptr σ.length 0,.ptr (σ.length+1) 0]],.arr 1 n (fun i=>encI (v i))])
   (fun r σ' X=>r= .eU []/\X=[]/\∃L:List Nat,L.Perm (lst n v)/\L.Pairwise (fun a b=> ¬yu ID rd b a)/\σ'=σ++[.var (.d (I ID)::l),.var [.d (I rd)],.var [.clo (.func 226) [] [.ptr σ.length 0,.ptr (σ.length+1) 0]],.arr 1 n (fun i=>encI ((nth L i:Nat):Int))]):=by
 refine⟨T.en229,fun j w vs hS hR=> ?_⟩;obtain⟨hsz,hrel⟩:=hR;have r0:R w j (.ms (σ.length+3) 1 0 n) (vs.getD 0 Go.undef):=hrel 0 (by simp);have r1:R w j (.clo (.func 230) [] [.ptr (σ.length+2) 0]) (vs.getD 1 Go.undef):=hrel 1 (by simp);have hsz:vs.size=2:=by simpa using hsz
 have hvs:vs= #[vs.getD 0 Go.undef,vs.getD 1 Go.undef]:=by
  apply Array.ext
  ·simp[hsz]
  ·intro i h1 h2;have hi:i=0\/i=1:=by simp at h2;omega
   rcases hi with rfl|rfl
   ·rw[←(pW h1).2];rfl
   ·rw[←(pW h1).2];rfl
 rw[hvs];generalize vs.getD 0 Go.undef=v0 at r0
 generalize vs.getD 1 Go.undef=v1 at r1
 cases r1 with
 |clo ff cc g1 g2 g3 g4=>
 have e1:ff= #[]:=Array.eq_empty_of_size_eq_zero (by simpa using g1);subst e1;have p0:R w j (.ptr (σ.length+2) 0) (cc.getD 0 Go.undef):=g4 0 (by simp);have hcc:cc= #[cc.getD 0 Go.undef]:=by
  have hs2:cc.size=1:=by simpa using g2
  apply Array.ext
  ·simp[hs2]
  ·intro q hq1 hq2;obtain rfl:q=0:=by omega
   rw[←(pW hq1).2];rfl
 rw[hcc];generalize cc.getD 0 Go.undef=vK at p0
 cases p0 with| @ptr _ _ cK jK=>
 cases r0 with
 |ms0 p h=>omega
 |vJ p e m h hs hlo hm=>omega
 | @ms _ _ _ _ cb c e m hj hs hc hm=>
 have hb:(σ++[aG.var (.d (I ID)::l),.var [.d (I rd)],.var [.clo (.func 226) [] [.ptr σ.length 0,.ptr (σ.length+1) 0]],.arr 1 n (fun i=>encI (v i))])[σ.length+3]? =some (.arr 1 n fun i=>encI (v i)):=by simp
 obtain⟨oB,jB0,hBB⟩:=hS.blk σ.length (.var (.d (I ID)::l)) (by simp);obtain⟨oR,jR0,hBR⟩:=hS.blk (σ.length+1) (.var [.d (I rd)]) (by simp);cases oB with
 |none=>exact hBB.elim
 |some cB=>
 cases oR with
 |none=>exact hBR.elim
 |some cR=>
 have h0:(σ++[aG.var (.d (I ID)::l),.var [.d (I rd)],.var [.clo (.func 226) [] [.ptr σ.length 0,.ptr (σ.length+1) 0]],.arr 1 n (fun i=>encI (v i))])[0]? =some (.tab 0 gK):=aC hσ;have hnl: ∀(q:Nat),q≠σ.length+3->∀y:aG,((σ++[aG.var (.d (I ID)::l),.var [.d (I rd)],.var [.clo (.func 226) [] [.ptr σ.length 0,.ptr (σ.length+1) 0]],.arr 1 n (fun i=>encI (v i))]).set (σ.length+3) y)[q]? =(σ++[aG.var (.d (I ID)::l),.var [.d (I rd)],.var [.clo (.func 226) [] [.ptr σ.length 0,.ptr (σ.length+1) 0]],.arr 1 n (fun i=>encI (v i))])[q]? :=fun q hq y=>by rw[List.getElem?_set_ne (Ne.symm hq)]
 have hds:(lst n (vU v)).toArray.size=n:=by simp[bT]
 have hget: ∀i,i<n->(lst n (vU v)).toArray[i]! =vU v i:=fun i hi=>by
  rw[getElem!_pos _ i (by rw[hds];exact hi)];simp[lst]
 have hH:Holds aaC w cb 0 (lst n (vU v)).toArray:=Vh hS hj hb _ (by rw[hds];exact Nat.le_refl _) (fun i hi=>by
  rw[hds] at hi;rw[hget i hi];show encI (v i)=_
  unfold aaC;rw[vU_val (hv i hi)];rfl)
 have eg: ∀args w,(callFunc 230 args).run prog w= .ok (.enter 230 args) w:=enters_of func230 (by kernel_rfl) rfl;have hcmp:CmpLays1 prog 230 #[.pointer (some ⟨cK,0,none⟩)] aaC (cfU ID rd) cb 0 (lst n (vU v)).toArray.size w:=fun m os dk hsd x y=>by
  rw[hds] at hsd;have hrl:=(Ky (enc:=aaC) hS hj hb dk (by omega) m os _ (fun i hi=>rfl)).1;have hA:=asks_of hrl (i:=σ.length) (ID:=ID) (rd:=rd) (l:=l) (by rw[hnl _ (by omega)];exact h0) (by rw[hnl _ (by omega)];simp) (by rw[hnl _ (by omega)];simp) (by rw[hnl _ (by omega)];simp) jB0 jR0 jK;exact cmp_w hA h1 h2 x y
 have hcon:=Any.slices_SortFunc sortU aaC (fun x=>rfl) (cfU ID rd) (cfU_swo ID rd) 230 #[.pointer (some ⟨cK,0,none⟩)] cb 0 c (lst n (vU v)).toArray w eg hcmp hH (hS.lt _ _ hj) (by rw[hds];omega);rw[hds] at hcon;change Calls prog 229 _ _ _ at hcon
 simp only[Nat.zero_mul];refine hcon.mono ?_;rintro e' w' ⟨rfl,d',q,os,hp,hso,rfl⟩;obtain⟨hd,hperm⟩:=sort_permU hp;have hnth: ∀i,i<n->nth (d'.toList.map (·.1)) i=(d'[i]!).1:=fun i hi=>by
  rw[getElem!_pos d' i (by omega)];simp[nth,show i<d'.size by omega]
 obtain⟨k1,k2⟩:=Ky (enc:=aaC) hS hj hb d' (by omega) q os (fun i=>encI ((nth (d'.toList.map (·.1)) i:Nat):Int)) (fun i hi=>by
  rw[if_pos (by omega),hnth i hi];rfl)
 refine⟨_,.eU [],_,j,[],rfl,k1,.eU #[] (Nat.le_refl _) (by simp),k2,Nat.le_refl _,.refl _ _,rfl,rfl,d'.toList.map (·.1),?_,?_,?_⟩
 ·have h3:=hperm.map (fun x:Uno=>x.1);have h4:(lst n (vU v)).map (fun x:Uno=>x.1)=lst n v:=by
   unfold lst;rw[List.map_map];exact List.map_congr_left fun i hi=>vU_val (hv i (List.mem_range.1 hi))
  rwa [h4] at h3
 ·rw[List.pairwise_map,List.pairwise_iff_getElem];intro i k hi hk' hik;simp only[Array.length_toList] at hi hk';have:=hso i k (Nat.zero_le _) hik (by omega);rw[getElem!_pos d' i hi,getElem!_pos d' k hk'] at this;unfold ltOf cfU at this;rw[decide_eq_false_iff_not,Iq] at this;simp only[Array.getElem_toList];exact this
 ·rw[List.set_append_right _ _ (by omega)];simp
set_option maxHeartbeats 1000000 in
theorem Qn(σ τ:List aG)(n k:Nat)(g:Nat->Int)(hk0:0<k)(hkn:k<=n)(hn:n<1000000000):
  CS prog 94 [.ms σ.length 1 0 k] (σ++ .arr 1 n (fun i=>encI (g i))::τ)
   (fun r σ' X=>r= .eU []/\X=[]/\∃L:List Int,L.Perm (lst k g)/\L.Pairwise (·<=·)/\∃row,σ'=σ++ .arr 1 n row::τ/\∀i,i<k->row i=encI (nth L i)):=by
 refine⟨T.en94,fun j w vs hS hR=> ?_⟩;obtain⟨hsz,hrel⟩:=hR;have r0:R w j (.ms σ.length 1 0 k) (vs.getD 0 Go.undef):=hrel 0 (by simp);have hsz:vs.size=1:=by simpa using hsz
 have hvs:vs= #[vs.getD 0 Go.undef]:=by
  apply Array.ext
  ·simp[hsz]
  ·intro i h1 h2;obtain rfl:i=0:=by simp at h2;omega
   rw[←(pW h1).2];rfl
 rw[hvs];generalize vs.getD 0 Go.undef=v0 at r0
 cases r0 with
 |ms0 p h=>omega
 |vJ p e m h hs hlo hm=>omega
 | @ms _ _ _ _ cb c e m hj hs hc hm=>
 have hb:(σ++aG.arr 1 n (fun i=>encI (g i))::τ)[σ.length]? =some (.arr 1 n fun i=>encI (g i)):=by simp
 have hds:(lst k g).toArray.size=k:=by simp[bT]
 have hH:Holds (Value.int .i64) w cb 0 (lst k g).toArray:=Vh hS hj hb _ (by rw[hds];exact hkn) (fun i hi=>by
  rw[hds] at hi;rw[getElem!_pos _ i (by rw[hds];exact hi)];show encI (g i)=_
  simp[lst,encI])
 have hcon:=Any.slices_Sort_int sortInt cb 0 c (lst k g) w hH (hS.lt _ _ hj) (by rw[bT];omega);rw[bT] at hcon;change Calls prog 94 _ _ _ at hcon
 simp only[Nat.zero_mul];refine hcon.mono ?_;rintro e' w' ⟨rfl,q,os,rfl⟩;have hperm:=List.mergeSort_perm (lst k g) (fun x y=>decide (x<=y));have hsort:=List.pairwise_mergeSort (le:=fun x y:Int=>decide (x<=y)) (by intro a b c h1 h2;simp at*;omega) (by intro a b;simp;omega) (lst k g);generalize(lst k g).mergeSort (fun x y=>decide (x<=y))=L at*
 have hL:L.length=k:=by rw[hperm.length_eq,bT]
 obtain⟨k1,k2⟩:=Ky (enc:=Value.int .i64) hS hj hb L.toArray (by simp[hL];exact hkn) q os (fun i=>if i<k then encI (nth L i) else encI (g i)) (fun i hi=>by
  by_cases hik:i<k
  ·rw[if_pos hik,if_pos (by simp[hL];exact hik),getElem!_pos _ i (by simp[hL];exact hik),KX (by omega)];simp[encI]
  ·rw[if_neg hik,if_neg (by simp[hL];omega)])
 refine⟨_,.eU [],_,j,[],rfl,k1,.eU #[] (Nat.le_refl _) (by simp),k2,Nat.le_refl _,.refl _ _,rfl,rfl,L,hperm,hsort.imp fun h=>by simpa using h,fun i=>if i<k then encI (nth L i) else encI (g i),by simp,fun i hi=>by simp[hi]⟩
end Go.Proofs.YtmahphgjkpgidaaGreatDoor
namespace Go.Proofs.YtmahphgjkpgidaaGreatDoor
open Go.aU Go.Proofs.Tryz
theorem uK{α:Type}{r:α->α->Prop}(ha: ∀a b,r a b->r b a->a=b): ∀{l1 l2:List α},l1.Perm l2->l1.Pairwise r->l2.Pairwise r->l1=l2
 |[],l2,h,_,_=>by rw[List.Perm.nil_eq h]
 |x::l1,[],h,_,_=>by have:=h.length_eq;simp at this
 |x::l1,y::l2,h,p1,p2=>by
  rw[List.pairwise_cons] at p1 p2;have hxy:x=y:=by
   have hx:x∈y::l2:=h.subset (by simp);have hy:y∈x::l1:=h.symm.subset (by simp);rcases List.mem_cons.1 hx with rfl|hx
   ·rfl
   ·rcases List.mem_cons.1 hy with rfl|hy
    ·rfl
    ·exact ha x y (p1.1 y hy) (p2.1 x hx)
  subst hxy;rw[uK ha (List.Perm.cons_inv h) p1.2 p2.2]
def OrdL(ID rd:Nat)(l L:List Nat):Prop:=L.Perm l/\L.Pairwise (fun a b=> ¬yu ID rd b a)
theorem OrdL.uniq{ID rd:Nat}{l L L':List Nat}(h:OrdL ID rd l L)(h':OrdL ID rd l L'):L=L':=
 uK (fun a b h1 h2=>Gy h2 h1) (h.1.trans h'.1.symm) h.2 h'.2
open Classical in
noncomputable def ordL(ID rd:Nat)(l:List Nat):List Nat:=if h: ∃L,OrdL ID rd l L then Classical.choose h else[]
theorem ordL_eq{ID rd:Nat}{l L:List Nat}(h:OrdL ID rd l L):ordL ID rd l=L:=by
 unfold ordL;rw[dif_pos ⟨L,h⟩];exact(Classical.choose_spec (⟨L,h⟩: ∃L,OrdL ID rd l L)).uniq h
def EY(l:List Int):List Int:=l.mergeSort fun x y=>decide (x<=y)
theorem qp(l:List Int):(EY l).Perm l:=List.mergeSort_perm _ _
theorem YR(l:List Int):(EY l).Pairwise (·<=·):=
 (List.pairwise_mergeSort (le:=fun x y:Int=>decide (x<=y)) (by intro a b c h1 h2;simp at*;omega) (by intro a b;simp;omega) l).imp fun h=>by simpa using h
theorem Hr{l L:List Int}(h:L.Perm l)(hs:L.Pairwise (·<=·)):L=EY l:=
 uK (fun a b h1 h2=>Int.le_antisymm h1 h2) (h.trans (qp l).symm) hs (YR l)
def unN(x:fU)(i:Nat):Nat:=(x.u i).toNat
noncomputable def lN(x:fU)(rd:Int):List Int:=EY (((ordL x.ID.toNat rd.toNat (lst x.nu (unN x))).take x.sQ.toNat).map fun n:Nat=>(n:Int))
def Oz(x:fU):Bool:=idB x.ID&&TY x.Day 0 1048575&&TY x.Round 0 1024&&TY x.nu 1 60&& !((lst x.nu x.u).any fun n=> !idB n)&&TY x.sQ 1 x.nu&&TY x.Accept 0 (IntKind.i64.wrap (x.sQ-1))
structure Rng(x:fU):Prop where
 id1:1<=x.ID
 id2:x.ID<=1073741824
 d1:0<=x.Day
 d2:x.Day<=1048575
 r1:0<=x.Round
 r2:x.Round<=1024
 n1:1<=x.nu
 n2:x.nu<=60
 u1: ∀i,i<x.nu->1<=x.u i/\x.u i<=1073741824
 s1:1<=x.sQ
 s2:x.sQ<=x.nu
 a1:0<=x.Accept
 a2:x.Accept<=x.sQ-1
theorem Hy(x:fU):Oz x=true↔Rng x:=by
 unfold Oz idB TY;simp only[Bool.and_eq_true,decide_eq_true_eq,Bool.not_eq_true',lst,List.any_map,List.any_eq_false,List.mem_range,Function.comp,Bool.not_eq_true'];constructor
 ·rintro⟨⟨⟨⟨⟨⟨⟨a,b⟩,c,d⟩,e,f⟩,g,h⟩,k⟩,l,m⟩,n,o⟩;rw[aH (by omega) (by omega)] at o;exact⟨a,b,c,d,e,f,by omega,by omega,fun i hi=>by simpa using k i hi,l,m,n,o⟩
 ·intro h;have h1:=h.s1;have h2:=h.s2;have h3:=h.n2;rw[aH (by omega) (by omega)];exact⟨⟨⟨⟨⟨⟨⟨h.id1,h.id2⟩,h.d1,h.d2⟩,h.r1,h.r2⟩,by have:=h.n1;omega,by have:=h.n2;omega⟩,fun i hi=>by simpa using h.u1 i hi⟩,h.s1,h.s2⟩,h.a1,h.a2⟩
theorem aar(ID rd:Nat)(l:List Nat): ∃L,OrdL ID rd l L:=by
 classical
 refine⟨l.mergeSort (fun x y=>decide (¬yu ID rd y x)),List.mergeSort_perm _ _,?_⟩;refine(List.pairwise_mergeSort (le:=fun x y=>decide (¬yu ID rd y x)) ?_ ?_ l).imp fun h=>by simpa using h
 ·intro a b c h1 h2;simp only[decide_eq_true_eq] at*;intro h3;by_cases h4:yu ID rd b a
  ·exact h1 h4
  ·by_cases h5:yu ID rd a b
   ·exact h2 (zD h3 h5)
   ·have e:=Gy h4 h5;subst e;exact h2 h3
 ·intro a b;by_cases h:yu ID rd b a
  ·have: ¬yu ID rd a b:=fun h2=>NU _ _ _ (zD h h2);simp[this]
  ·simp[h]
theorem ordL_spec(ID rd:Nat)(l:List Nat):OrdL ID rd l (ordL ID rd l):=by
 obtain⟨L,h⟩:=aar ID rd l;rw[ordL_eq h];exact h
theorem drawL_len(x:fU)(rd:Int):(lN x rd).length=min x.sQ.toNat x.nu:=by
 unfold lN;rw[(qp _).length_eq,List.length_map,List.length_take,(ordL_spec _ _ _).1.length_eq,bT]
theorem Si(x:fU)(rd:Int):(lN x rd).length<=x.nu:=by rw[drawL_len];omega
theorem wE(σ:List aG)(x:fU)(rd:Int)(hx:Rng x)(h0:0<=rd)(h1:rd<=1024)(hσ:σ[0]? =some (.tab 0 gK)):aA prog 148 [.agg (x.enc.map .d),.d (I rd)] σ (.d (SL none 1 encI (lN x rd).length (nth (lN x rd)))):=by
 obtain⟨ID,hID⟩: ∃ID:Nat,x.ID=ID:=⟨x.ID.toNat,by have:=hx.id1;omega⟩;obtain⟨r,rfl⟩: ∃r:Nat,rd=r:=⟨rd.toNat,by omega⟩;obtain⟨k,hk⟩: ∃k:Nat,x.sQ=k:=⟨x.sQ.toNat,by have:=hx.s1;omega⟩;have g1:=hx.id1;have g2:=hx.id2;have g3:=hx.n1;have g4:=hx.n2;have g5:=hx.s1;have g6:=hx.s2;refine aA.bd false func148 fun hwf=> ?_;simp[go_sem,hID,hk];refine go false ?_;simp[go_sem];refine go false ?_;simp[go_sem];refine aO.gen (XP _ none x.nu x.u (by omega)) ?_;rintro r' σ' X ⟨rfl,rfl,rfl⟩;simp[go_sem];refine aY (σ.length+3) (fun i=>encI ((unN x i:Nat):Int)) (by simp[go_sem];exact⟨rfl,rfl,rfl⟩) (by
  intro q hq;have:=hx.u1 q hq;simp only[encI,unN];rw[Int.toNat_of_nonneg (by omega)]) (by simp[go_sem];rfl) ?_
 refine go false ?_;simp[go_sem];refine aO.gen (sortU_cs σ ID r x.nu _ (unN x) (by omega) (by omega) (fun i hi=>by have:=hx.u1 i hi;unfold unN;omega) (by omega) (by omega) hσ) ?_;rintro r' σ' X ⟨rfl,rfl,L,hp,hs,rfl⟩;have hL:ordL ID r (lst x.nu (unN x))=L:=ordL_eq ⟨hp,hs⟩;have hLn:L.length=x.nu:=by rw[hp.length_eq,bT]
 simp[go_sem];refine go true ?_;simp[go_sem];repeat refine⟨by omega,?_⟩
 have hso:=nP (fun B1 B2 B3:aG=>Qn (σ++[B1,B2,B3]) [] x.nu k (fun i=>((nth L i:Nat):Int)) (by omega) (by omega) (by omega));refine aO.gen (hso _ _ _) ?_;rintro r' σ' X ⟨rfl,rfl,L2,hp2,hs2,row,rfl,hrow⟩;have hD:lN x r=L2:=by
  unfold lN;rw[hID,Int.toNat_natCast,Int.toNat_natCast,hL,hk,Int.toNat_natCast];refine(Hr (hp2.trans ?_) hs2).symm;have:lst k (fun i=>((nth L i:Nat):Int))=(L.take k).map fun n:Nat=>(n:Int):=by
   apply List.ext_getElem
   ·rw[bT];simp;omega
   ·intro i a1 a2;rw[bT] at a1;simp[lst,nth,show i<L.length by omega]
  rw[this]
 have hDn:L2.length=k:=by rw[hp2.length_eq,bT]
 simp[go_sem];refine qN (σ.length+3) k (fun i=>encI (nth L2 i)) (by simp[go_sem];exact⟨rfl,rfl⟩) (by omega) (fun i hi=>hrow i hi) (by simp[go_sem];rfl) ?_;refine aF hwf (σ.length+3) ?_;rw[hD,hDn];exact aj sc
open Go.dh
theorem qB(σ:List aG)(c:Option Nat)(n:Nat)(g:Nat->Row)(p:oC)(r u d:Int)(hn:n<1000000000)(hp:kF p)(hσ:σ[1]? =some (.loc 1)):aA prog 25 [.d (SL c 3 Row.enc n g),.agg (p.enc.map .d),.d (I r),.d (I u),.d (I d)] σ (.eU [.agg ((qR n g p r u d).1.enc.map .d),.d (I (qR n g p r u d).2)]):=by
 refine aA.bs true func25 fun hwf=> ?_;refine aO.mk (OH _ c n g p r u d hn hp (aC hσ)) (sm ?_);refine aJ [0,2,3,4,6,10,12] ?_ ?_<;>intro c0 d0
 ·have hz:qR n g p r u d=(Acc.zero,EN n g p r u d):=by unfold qR;rw[if_pos d0]
  simp[go_sem];refine aj ?_;rw[hz];simp[go_sem,Acc.zero]
 ·have hz:qR n g p r u d=(decW n g p r u d,0):=by unfold qR;rw[if_neg (by simp[d0])]
  simp[go_sem];refine aO.mk (KP _ c n g p r u d hp (ask_zero d0).1 (aC hσ)) (sm ?_);rw[hz];exact aj sc
end Go.Proofs.YtmahphgjkpgidaaGreatDoor
namespace Go.aU.Vars
open Go.aU Go.aU.Mix
open Go.aU.Steps (rC dsB)
structure Own where
 ia:Nat
 d:Tmp
 cs:List D
 dJ:Nat
 cs1:List D
def Own.blk(o:Own)(b:Bool):aG:= .var ((if b then o.cs1 else o.cs).map .d)
def Own.now(o:Own)(listed:Array Bool):aG:=if listed.getD o.ia false then o.blk (listed.getD o.dJ false) else .dead
def uw(L:List Own)(listed:Array Bool):List aG:=L.map fun o=>o.now listed
def zY:Nat->List Own->List (Nat×AV)
 |_,[]=>[]
 |b,o::os=>(o.ia,.ptr b 0)::(o.dJ,.undef)::zY (b+1) os
theorem QT{i:Nat}{r:AV} : ∀{L:List Own} {b:Nat},get (zY b L) i=some r->∃(q:Nat) (o:Own),L[q]? =some o/\((o.ia=i/\r= .ptr (b+q) 0)\/(o.dJ=i/\r= .undef))
 |[],b,h=>by simp[zY,get] at h
 |o::os,b,h=>by
  simp only[zY,get] at h;split at h
  ·rename_i e;exact⟨0,o,rfl,.inl ⟨Nat.eq_of_beq_eq_true e,(Option.some.inj h).symm⟩⟩
  ·split at h
   ·rename_i e;exact⟨0,o,rfl,.inr ⟨Nat.eq_of_beq_eq_true e,(Option.some.inj h).symm⟩⟩
   ·obtain⟨q,o',h1,h2⟩:=QT h;exact⟨q+1,o',h1,by rw[show b+(q+1)=b+1+q by omega];exact h2⟩
theorem F7{i:Nat} : ∀{L:List Own} {b:Nat},get (zY b L) i=none->∀o∈L,o.ia≠i/\o.dJ≠i
 |[],b,h=>by simp
 |o::os,b,h=>by
  simp only[zY,get] at h;split at h
  ·cases h
  ·rename_i e;split at h
   ·cases h
   ·rename_i e2;intro o' ho';rcases List.mem_cons.1 ho' with rfl|ho'
    ·exact⟨fun he=>by rw[he] at e;simp at e,fun he=>by rw[he] at e2;simp at e2⟩
    ·exact F7 h o' ho'
def Apart(L:List Own):Prop:= ∀(p q:Nat) (o o':Own),L[p]? =some o->L[q]? =some o'->p≠q->∀i,o.ia=i\/o.dJ=i->o'.ia≠i/\o'.dJ≠i
theorem Yx{L:List Own}{listed:Array Bool}{i q:Nat}{o:Own}(hL:Apart L)(hq:L[q]? =some o)(hi:o.ia=i\/o.dJ=i):uw L (listed.setIfInBounds i true)=(uw L listed).set q (o.now (listed.setIfInBounds i true)):=by
 apply List.ext_getElem?;intro k;rw[List.getElem?_set];by_cases hk:q=k
 ·subst hk;obtain⟨hlt,rfl⟩:=List.getElem?_eq_some_iff.1 hq;rw[if_pos rfl];simp[uw,hlt]
 ·rw[if_neg hk];simp only[uw,List.getElem?_map];cases ho:L[k]? with
  |none=>rfl
  |some o'=>
   obtain⟨h1,h2⟩:=hL q k o o' hq ho hk i hi;simp only[Option.map_some,Own.now];rw[getD_set_ne false (fun e=>h1 e.symm),getD_set_ne false (fun e=>h2 e.symm)]
theorem tauK_keep{L:List Own}{listed:Array Bool}{i:Nat}(h: ∀o∈L,o.ia≠i/\o.dJ≠i):uw L (listed.setIfInBounds i true)=uw L listed:=by
 refine List.map_congr_left fun o ho=> ?_;unfold Own.now;rw[getD_set_ne false (fun e=>(h o ho).1 e.symm),getD_set_ne false (fun e=>(h o ho).2 e.symm)]
structure InvK(s:St)(ops:List Oper)(m:Nat)(L:List Own)(t1:List (Nat×AV))(j0:J0)(listed:Array Bool)(j:Js)(a:Act)(w:World):Prop extends Core s.N s.t t1 (fun av=>av.under s.σ.length) ops m j0 listed j a w where
 dA:aT w j (s.σ++uw L listed)
 len0:j0.js.length<=s.σ.length
 ag:Ag j0.js j s.mv
 free: ∀(q:Nat) o,L[q]? =some o->listed.getD o.ia false=false->j[s.σ.length+q]? =some none
theorem InvK.jlen{s:St}{ops:List Oper}{m:Nat}{L:List Own}{t1:List (Nat×AV)}{j0:J0}{listed:Array Bool}{j:Js}{a:Act}{w:World}(h:InvK s ops m L t1 j0 listed j a w):j.length=s.σ.length+L.length:=by
 rw[h.dA.len,List.length_append];simp[uw]
section
variable {P : Program} {ops : List Oper} {m : Nat} {L : List Own}
structure PureK(P:Program)(s:St)(ops:List Oper)(m:Nat)(t1:List (Nat×AV))(rs:List (Nat×AV)):Prop where
 at_: ∀τ:List aG,∃xs:Nat->AV,(dK s (ops.take m) xs m).t=t1/\(∀i r,get rs i=some r->xs i=r)/\
  ∀i o,i<m->ops[i]? =some o->get rs i=none->Local P ops o ⟨s.N,(dK s (ops.take m) xs i).t,s.σ++τ,s.mv⟩ (xs i)
structure OwnK(P:Program)(ops:List Oper)(m:Nat)(L:List Own)(s:St)(t1:List (Nat×AV))(q:Nat)(o:Own):Prop where
 al: ∃oa,ops[o.ia]? =some oa/\o.ia<m/\oa.guard=none/\oa.dst=some o.d/\(∀d,oa.dst=some d->d∉looks ops oa)/\(∀q oq d,o.ia<q->q<m->ops[q]? =some oq->oq.dst=some d->d∉looks ops oa)/\
  ∀τ:List aG,τ.length=L.length->J5 P oa ⟨s.N,t1,s.σ++τ,s.mv⟩ fun r' σ'=>r'= .ptr (s.σ++τ).length 0/\σ'=(s.σ++τ)++[o.blk false]
 st:o.dJ<m->∃os,ops[o.dJ]? =some os/\os.guard=none/\os.dst=none/\(∀q oq d,o.dJ<q->q<m->ops[q]? =some oq->oq.dst=some d->d∉looks ops os)/\Jm ops m 3 os o.ia=true/\
  ∀τ:List aG,τ[q]? =some (o.blk false)->J5 P os ⟨s.N,t1,s.σ++τ,s.mv⟩ fun r' σ'=>r'= .undef/\σ'=s.σ++τ.set q (o.blk true)
 hav: ∀k av,get t1 k=some av->k≠o.d->av.avoids [s.σ.length+q]=true
theorem Yq{w:World}{j j':Js}(hs: ∀o,o∈j->o∈j'){cs:List D}{o:Option Nat}(h:RB w j' (.var (cs.map .d)) o):RB w j (.var (cs.map .d)) o:=by
 cases o with
 |none=>exact h.elim
 |some cb=>
  obtain⟨C,e,h1,h2,h3⟩:=h;refine⟨C,e,h1,h2,fun k hk=> ?_⟩;have h4:=h3 k hk;have hk':k<cs.length:=by simpa using hk
  have e1:(cs.map AV.d).getD k .undef= .d cs[k]:=by simp[List.getD_eq_getElem?_getD,hk']
  rw[e1] at h4⊢;cases h4 with|d h5=>exact .d (h5.less hs)
theorem place_own{w w':World}{j j1 js:Js}{ws:World}{σ τ:List aG}{cs:List D}{q:Nat}{v:Value}(hS:aT ws js σ)(h0:aT w j (σ++τ))(hq:q<τ.length)(hdead:τ[q]? =some .dead)(hnone:j[σ.length+q]? =some none)
  (h1:aT w' j1 ((σ++τ)++[.var (cs.map .d)])) (hr:R w' j1 (.ptr (σ++τ).length 0) v) (he:Ev j w j1 w') (hag:Ag j j1 []) (hτ: ∀y∈τ,y= .dead\/∃cs:List D,y= .var (cs.map .d)):
  ∃j2:Js,aT w' j2 (σ++τ.set q (.var (cs.map .d)))/\R w' j2 (.ptr (σ.length+q) 0) v/\Ev j w j2 w'/\Ag j j2 [σ.length+q]/\j2.length=j.length:=by
 have hjl:j.length=σ.length+τ.length:=by rw[h0.len,List.length_append]
 have hj1:j1.length=σ.length+τ.length+1:=by rw[h1.len];simp;omega
 obtain⟨x,hx⟩: ∃x,j1[j.length]? =some x:=⟨j1[j.length]'(by omega),List.getElem?_eq_getElem (by omega)⟩;have hj2: ∀b:Nat,((j1.take j.length).set (σ.length+q) x)[b]? =if b=σ.length+q then some x else if b<j.length then j1[b]? else none:=by
  intro b;rw[List.getElem?_set,List.length_take,List.getElem?_take];by_cases hb:σ.length+q=b
  ·rw[if_pos hb,if_pos (by omega),if_pos hb.symm]
  ·have hb': ¬b=σ.length+q:=fun h=>hb h.symm;rw[if_neg hb];simp only[if_neg hb']
 have hsub: ∀y,y∈(j1.take j.length).set (σ.length+q) x->y∈j1:=by
  intro y hy;rcases List.mem_or_eq_of_mem_set hy with h|h
  ·exact List.mem_of_mem_take h
  ·rw[h];exact List.mem_of_getElem? hx
 have hpl: ∀y o2,y∈τ->RB w' j1 y o2->RB w' ((j1.take j.length).set (σ.length+q) x) y o2:=by
  intro y o2 hy hB;rcases hτ y hy with rfl|⟨o',rfl⟩
  ·trivial
  ·exact Yq hsub hB
 refine⟨(j1.take j.length).set (σ.length+q) x,⟨by simp;omega,fun b cb hb=> ?_,fun b b' cb hb hb'=> ?_,fun b y hy=> ?_⟩,?_,⟨he.size,he.keep,fun b hb hm=>he.sub b hb (hsub _ hm),he.shp,he.sZ,he.os,he.tape,he.output,he.lps⟩,fun b hb hn=> ?_,by simp;omega⟩
 ·rw[hj2] at hb;split at hb
  ·obtain rfl:x=some cb:=by simpa using hb
   exact h1.lt _ cb hx
  ·split at hb
   ·exact h1.lt b cb hb
   ·cases hb
 ·rw[hj2] at hb hb';split at hb
  ·rename_i e;obtain rfl:x=some cb:=by simpa using hb
   split at hb'
   ·rename_i e';omega
   ·split at hb'
    ·have:=h1.inj _ _ cb hx hb';omega
    ·cases hb'
  ·split at hb
   ·split at hb'
    ·obtain rfl:x=some cb:=by simpa using hb'
     have:=h1.inj _ _ cb hx hb;omega
    ·split at hb'
     ·exact h1.inj _ _ cb hb hb'
     ·cases hb'
   ·cases hb
 ·by_cases hb:b<σ.length
  ·rw[List.getElem?_append_left hb] at hy;obtain⟨o1,ho1,hB1⟩:=hS.blk b y hy;obtain⟨o2,ho2,hB2⟩:=h1.blk b y (by rw[List.append_assoc,List.getElem?_append_left hb];exact hy);refine⟨o2,by rw[hj2,if_neg (by omega),if_pos (by omega)];exact ho2,?_⟩;exact hB1.shrink hsub (fun b' hb'=>by
    rw[hS.len] at hb';rw[hj2,if_neg (by omega),if_pos (by omega)]) hB2
  ·rw[List.getElem?_append_right (by omega),List.getElem?_set] at hy;by_cases hbq:q=b-σ.length
   ·rw[if_pos hbq,if_pos (by omega)] at hy;obtain rfl:aG.var (cs.map .d)=y:=Option.some.inj hy;obtain⟨o2,ho2,hB2⟩:=h1.blk j.length (.var (cs.map .d)) (by rw[List.getElem?_append_right (by simp;omega)];simp[hjl]);rw[hx] at ho2;obtain rfl:x=o2:=Option.some.inj ho2;refine⟨x,by rw[hj2,if_pos (by omega)],?_⟩;exact Yq hsub hB2
   ·rw[if_neg hbq] at hy;obtain⟨o2,ho2,hB2⟩:=h1.blk b y (by
     have hlt:b-σ.length<τ.length:=(List.getElem?_eq_some_iff.1 hy).1;rw[List.append_assoc,List.getElem?_append_right (by omega),List.getElem?_append_left hlt];exact hy)
    have hlt:b-σ.length<τ.length:=(List.getElem?_eq_some_iff.1 hy).1;refine⟨o2,by rw[hj2,if_neg (by omega),if_pos (by omega)];exact ho2,?_⟩;exact hpl y o2 (List.mem_of_getElem? hy) hB2
 ·have hlen:(σ++τ).length=j.length:=by rw[List.length_append];omega
  rw[hlen] at hr;have hat:((j1.take j.length).set (σ.length+q) x)[σ.length+q]? =some x:=by rw[hj2,if_pos rfl]
  cases hr with
  |ptr h=>exact .ptr (by rw[hat,←hx];exact h)
 ·have h2:b≠σ.length+q:=by simpa using hn
  rw[hj2,if_neg h2,if_pos hb];exact hag b hb (by simp)
theorem phaseK(hok:dY ops m=true)(hmn:m<=ops.length){Q:Exit->St->Prop}{j0:J0}{j1:Js}{w1:World}{s:St}{t1:List (Nat×AV)}{js:Js}{ws:World}(hS:aT ws js s.σ)(hL:Apart L)(hne: ∀o∈L,o.ia≠o.dJ)
  (hW: ∀(q:Nat) o,L[q]? =some o->OwnK P ops m L s t1 q o) (hP:PureK P s ops m t1 (zY s.σ.length L))
  (hK:bH P false ops (ops.drop m) ⟨s.N,t1,s.σ++L.map (fun o=>o.blk (Nat.blt o.dJ m)),s.mv⟩ (Q .normal)):
  ∀(fuel:Nat) (j:Js) (a:Act) (w:World) (listed:Array Bool),left listed ops.length=fuel->InvK s ops m L t1 j0 listed j a w->Ev j1 w1 j w->wpAnyIn (FW j0.rd) 0 P .any ops.toArray (FD j0 j1 w1 Q) fuel listed a w:=by
 refine WV hok hmn (InvK s ops m L t1 j0) (fun hI=>⟨_,_,_,_,hI.toCore⟩) ?_ ?_
 ·intro listed j a w hI hdone;have htau:uw L listed=L.map fun o=>o.blk (Nat.blt o.dJ m):=List.map_congr_left fun o ho=>by
   obtain⟨q,hq,rfl⟩:=List.mem_iff_getElem.1 ho;obtain⟨oa,_,hlt,_⟩:=(hW q L[q] (List.getElem?_eq_getElem hq)).al;have e:listed.getD L[q].dJ false=Nat.blt L[q].dJ m:=by
    by_cases h1:L[q].dJ<m
    ·rw[jv hI.lsize (show L[q].dJ<ops.length by omega),hdone _ h1];exact(by simpa using h1:Nat.blt L[q].dJ m=true).symm
    ·have hb:Nat.blt L[q].dJ m=false:=by rw[←Bool.not_eq_true];simpa using h1
     rw[hb];by_cases h2:L[q].dJ<ops.length
     ·exact hI.lB _ (by omega) h2 _
     ·have: ¬L[q].dJ<listed.size:=by rw[hI.lsize];exact h2
      simp[this]
   unfold Own.now;rw[jv hI.lsize (show L[q].ia<ops.length by omega),hdone _ hlt,if_pos rfl,e]
  obtain⟨xs,hxs,_,_⟩:=hP.at_ [];exact⟨⟨s.N,t1,s.σ++L.map (fun o=>o.blk (Nat.blt o.dJ m)),s.mv⟩,⟨hI.defers,hI.jY,hI.size,fun k av hk=>hI.toCore.done hxs hdone hk,by have:=hI.dA;rw[htau] at this;exact this,by have:=hI.jlen;have:=hI.len0;omega,hI.ag⟩,hK⟩
 ·intro listed j a w i o next hI him ho h0 hall hn
  have hil:i<ops.length:=by omega
  have Xl:i<listed.size:=by rw[hI.lsize];exact hil
  have hseti:(listed.setIfInBounds i true).getD i false=true:=by simp[Xl]
  have hnl:listed.getD i false=false:=by rw[jv hI.lsize hil];exact h0
  have hj0:j0.js.length<=j.length:=by have:=hI.jlen;have:=hI.len0;omega
  have step: ∀(j':Js) (w':World) (v:Value),aT w' j' (s.σ++uw L (listed.setIfInBounds i true))->Ev j w j' w'->(∀b,b<s.σ.length->j'[b]? =j[b]?)->
    (∀(q:Nat) o,L[q]? =some o->(listed.setIfInBounds i true).getD o.ia false=false->j'[s.σ.length+q]? =some none)->
    (∀k av x,get t1 k=some av->o.dst≠some k->R w j av x->R w' j' av x)->(∀(av:AV) x,av.under s.σ.length->R w j av x->R w' j' av x)->
    (∀k av,o.dst=some k->get t1 k=some av->k<s.N/\R w' j' av v)->next (a.put o.dst v) w':=by
   intro j' w' v o9 hev hagj hN' tr tr2 hv;refine hn j' v w' ⟨hI.toCore.step hok hmn him ho hall hev (fun k av h hne=>⟨av,h,fun x=>tr k av x h hne⟩) (fun k av h=>⟨av,h,fun x h1 h2=>⟨h1,tr2 av x h1 h2⟩⟩) hv,o9,hI.len0,fun b hb hn=> ?_,hN'⟩ hev;rw[hagj b (by have:=hI.len0;omega)];exact hI.ag b hb hn
  have late: ∀{oa:Oper},o=oa->(∀d,oa.dst=some d->d∉looks ops oa)->(∀q oq d,i<q->q<m->ops[q]? =some oq->oq.dst=some d->d∉looks ops oa)->Rel j0 ((⟨s.N,t1,s.σ++uw L listed,s.mv⟩:St).bD (looks ops o)) j a w:=by
   rintro oa rfl hself wo;obtain⟨xs,hxs,_,_⟩:=hP.at_ [];refine⟨hI.defers,hI.jY,hI.size,fun k av hk=> ?_,hI.dA,hj0,hI.ag⟩;simp only[St.bD,iU] at hk;split at hk
   ·rename_i hkl;exact hI.toCore.late hok hmn hxs him ho hall hself wo (by simpa using hkl) hk
   ·simp at hk
  cases hia:get (zY s.σ.length L) i with
  |some r=>
   obtain⟨p,c,hp,hc⟩:=QT hia;have hw:=hW p c hp;have hpl:p<L.length:=(List.getElem?_eq_some_iff.1 hp).1;have hnec:=hne c (List.mem_of_getElem? hp);obtain⟨oa,hoa,hlt,hgd,hdst,hself,wo,hact⟩:=hw.al;rcases hc with⟨rfl,rfl⟩|⟨rfl,rfl⟩
   ·
    obtain rfl:o=oa:=by rw[ho] at hoa;exact Option.some.inj hoa
    have hwn:Region.wanted o (yielded ops.toArray a.tmps)=true:=by simp[Region.wanted,hgd]
    rw[if_pos hwn];refine GI (hact (uw L listed) (by simp[uw])) (late rfl hself wo) fun v w' r' σ' j' h6 h7 h8 h9 h10 h11=> ?_;obtain⟨rfl,rfl⟩:=h11;have hno:listed.getD c.dJ false=false:=by
     by_cases hb:listed.getD c.dJ false=true
     ·by_cases h1:c.dJ<m
      ·obtain⟨os,hos,_,_,_,hd,_⟩:=hw.st h1;have:=hI.toCore.far (fun e he1 he2=>hI.cl c.dJ os h1 hos (by rw[←jv hI.lsize (by omega)];exact hb) e he1 he2) hd;rw[hnl] at this;cases this
      ·by_cases h2:c.dJ<ops.length
       ·rw[hI.lB _ (by omega) h2] at hb;cases hb
       ·have: ¬c.dJ<listed.size:=by rw[hI.lsize];exact h2
        simp[this] at hb
     ·simpa using hb
    have hnow:c.now (listed.setIfInBounds c.ia true)=c.blk false:=by
     unfold Own.now;rw[hseti,if_pos rfl,getD_set_ne false hnec,hno]
    obtain⟨xs,hxs,hxa,hloc⟩:=hP.at_ [];obtain⟨j2,k1,k2,k3,k4,k5⟩:=place_own (q:=p) hS hI.dA (by simp[uw,hpl]) (by simp only[uw,List.getElem?_map,hp,Option.map_some,Own.now,hnl];rfl) (hI.free p c hp hnl) h6 h7 h8 h9 (by
     intro y hy;obtain⟨o',ho',rfl⟩:=List.mem_map.1 hy;unfold Own.now;split
     ·exact .inr ⟨_,rfl⟩
     ·exact .inl rfl)
    have hne': ∀b,b≠s.σ.length+p->b<j.length->j2[b]? =j[b]? :=fun b hb hlt=>k4 b hlt (by simpa using hb);refine step j2 w' v (by rw[Yx hL hp (.inl rfl),hnow];exact k1) k3 (fun b hb=>hne' b (by omega) (by rw[hI.jlen];omega)) (fun q' o' hq' hl'=> ?_) (fun k av x hk hd hx=> ?_) (fun av x hu hx=> ?_) (fun k av hk hgt=> ?_)
    ·have hqp:q'≠p:=fun h=>by
      subst h;rw[hp] at hq';cases hq';rw[hseti] at hl';cases hl'
     have hql:q'<L.length:=(List.getElem?_eq_some_iff.1 hq').1;rw[hne' _ (by omega) (by rw[hI.jlen];omega)];refine hI.free q' o' hq' ?_;rwa [getD_set_ne false (fun h=>(hL p q' c o' hp hq' (fun e=>hqp e.symm) c.ia (.inl rfl)).1 h.symm)] at hl'
    ·exact hx.mono k3 hI.dA.lt k4 (hw.hav k av hk fun h=>hd (by rw[h];exact hdst))
    ·exact hx.mono k3 hI.dA.lt k4 (yE (n:=s.σ.length) (by simp) av hu)
    ·rw[←hxs,mF hok hmn him ho hk him (Nat.le_refl _),hxa _ _ hia] at hgt;split at hgt
     ·rename_i hlt;obtain rfl:=Option.some.inj hgt;exact⟨hlt,k2⟩
     ·simp at hgt
   ·
    obtain⟨os,hos,hgs,hds,hls,hd,hacs⟩:=hw.st him;obtain rfl:o=os:=by rw[ho] at hos;exact Option.some.inj hos
    have hia1:listed.getD c.ia false=true:=hI.toCore.far hall hd;have hq0:(uw L listed)[p]? =some (c.blk false):=by simp only[uw,List.getElem?_map,hp,Option.map_some,Own.now,hia1,hnl,if_true]
    have hwn:Region.wanted o (yielded ops.toArray a.tmps)=true:=by simp[Region.wanted,hgs]
    rw[if_pos hwn];refine GI (hacs (uw L listed) hq0) (late rfl (fun d h=>by rw[hds] at h;cases h) hls) fun v w' r' σ' j' h6 h7 h8 h9 h10 h11=> ?_;obtain⟨rfl,rfl⟩:=h11;obtain rfl:j'=j:=by
     have hl:j'.length=j.length:=by rw[h6.len,hI.dA.len];simp
     apply List.ext_getElem?;intro b;rcases Nat.lt_or_ge b j.length with h|h
     ·exact h9 b h (by simp)
     ·rw[List.getElem?_eq_none h,List.getElem?_eq_none (by omega)]
    have hnow:c.now (listed.setIfInBounds c.dJ true)=c.blk true:=by
     unfold Own.now;rw[hseti,getD_set_ne false (fun h=>hnec h.symm),hia1,if_pos rfl]
    have mono: ∀{av:AV} {v:Value},R w j' av v->R w' j' av v:=fun hR=>hR.lZ h8 hI.dA.lt (.refl _ _);refine step j' w' v (by rw[Yx hL hp (.inr rfl),hnow];exact h6) h8 (fun _ _=>rfl) (fun q' o' hq' hl'=> ?_) (fun k av x _ _ hx=>mono hx) (fun av x _ hx=>mono hx) (fun k av hk=>by rw[hds] at hk;cases hk);refine hI.free q' o' hq' ?_;by_cases hqp:q'=p
    ·subst hqp;rw[hp] at hq';cases hq';rwa [getD_set_ne false (fun h=>hnec h.symm)] at hl'
    ·rwa [getD_set_ne false (fun h=>(hL p q' c o' hp hq' (fun e=>hqp e.symm) c.dJ (.inr rfl)).1 h.symm)] at hl'
  |none=>
   obtain⟨xs,hxs,hxa,hloc⟩:=hP.at_ (uw L listed);have hLc:=hloc i o him ho hia;have hrel:Rel j0 ((⟨s.N,(dK s (ops.take m) xs i).t,s.σ++uw L listed,s.mv⟩:St).bD (looks ops o)) j a w:=by
    refine⟨hI.defers,hI.jY,hI.size,fun k av hk=> ?_,hI.dA,hj0,hI.ag⟩;simp only[St.bD,iU] at hk;split at hk
    ·rename_i hkl;exact hI.toCore.looks hok hmn hxs him ho h0 hall (by simpa using hkl) hk
    ·simp at hk
   have htau:uw L (listed.setIfInBounds i true)=uw L listed:=tauK_keep (F7 hia);have hN2: ∀(q:Nat) o,L[q]? =some o->(listed.setIfInBounds i true).getD o.ia false=false->j[s.σ.length+q]? =some none:=fun q o hq hl=>hI.free q o hq (by
    rwa [getD_set_ne false (fun h=>(F7 hia o (List.mem_of_getElem? hq)).1 h.symm)] at hl)
   have hval: ∀(w':World) (v:Value),R w' j (xs i) v->∀k av,o.dst=some k->get t1 k=some av->k<s.N/\R w' j av v:=by
    intro w' v hr k av hk hgt;rw[←hxs,mF hok hmn him ho hk him (Nat.le_refl _)] at hgt;split at hgt
    ·rename_i hlt;obtain rfl:xs i=av:=Option.some.inj hgt;exact⟨hlt,hr⟩
    ·simp at hgt
   by_cases hw:Region.wanted o (yielded ops.toArray a.tmps)=true
   ·rw[if_pos hw];exact hLc.run j0 j a w _ _ hrel hw fun w' v h1 h2 h3=>step j w' v (by rw[htau];exact h1) h2 (fun _ _=>rfl) hN2 (fun _ _ _ _ _ h=>h.lZ h2 hI.dA.lt (.refl _ _)) (fun _ _ _ h=>h.lZ h2 hI.dA.lt (.refl _ _)) (hval w' v h3)
   ·rw[if_neg hw];exact step j w Go.undef (by rw[htau];exact hI.dA) (.refl _ _) (fun _ _=>rfl) hN2 (fun _ _ _ _ _ h=>h) (fun _ _ _ h=>h) (hval w _ (hLc.skip j0 j a w hrel (by simpa using hw)))
end
def F6(ops:List Oper)(m:Nat):List (Nat×Tmp×Nat)->Bool
 |[]=>true
 |(ia,d,dJ)::L=>decide (ia≠dJ)&&L.all (fun x=>decide (ia≠x.1)&&decide (ia≠x.2.2)&&decide (dJ≠x.1)&&decide (dJ≠x.2.2))&&fG ops m (if Nat.blt dJ m then[(ia,some d),(dJ,none)] else[(ia,some d)])&&F6 ops m L
theorem Io{ops:List Oper}{m:Nat} : ∀{L:List Own},F6 ops m (L.map fun(o:Own)=>(o.ia,o.d,o.dJ))=true->Apart L
 |[],_=>fun p q o o' h=>by simp at h
 |x::xs,h=>fun p q o o' hp hq hne i hi=>by
  simp only[List.map_cons,F6,Bool.and_eq_true,List.all_eq_true,List.mem_map,forall_exists_index,and_imp,forall_apply_eq_imp_iff₂,decide_eq_true_eq] at h;obtain⟨⟨⟨h1,h2⟩,h3⟩,h4⟩:=h;cases p with
  |zero=>
   cases q with
   |zero=>exact absurd rfl hne
   |succ q=>
    simp at hp hq;subst hp;obtain⟨⟨⟨a1,a2⟩,a3⟩,a4⟩:=h2 o' (List.mem_of_getElem? hq);rcases hi with rfl|rfl
    ·exact⟨fun e=>a1 e.symm,fun e=>a2 e.symm⟩
    ·exact⟨fun e=>a3 e.symm,fun e=>a4 e.symm⟩
  |succ p=>
   cases q with
   |zero=>
    simp at hp hq;subst hq;obtain⟨⟨⟨a1,a2⟩,a3⟩,a4⟩:=h2 o (List.mem_of_getElem? hp);rcases hi with rfl|rfl
    ·exact⟨a1,a3⟩
    ·exact⟨a2,a4⟩
   |succ q=>exact Io h4 p q o o' (by simpa using hp) (by simpa using hq) (fun e=>hne (by rw[e])) i hi
theorem F5{ops:List Oper}{m:Nat} : ∀{L:List Own},F6 ops m (L.map fun(o:Own)=>(o.ia,o.d,o.dJ))=true->∀o∈L,o.ia≠o.dJ/\fG ops m (if Nat.blt o.dJ m then[(o.ia,some o.d),(o.dJ,none)] else[(o.ia,some o.d)])=true
 |[],_,o,ho=>by simp at ho
 |x::xs,h,o,ho=>by
  simp only[List.map_cons,F6,Bool.and_eq_true,decide_eq_true_eq] at h;obtain⟨⟨⟨h1,h2⟩,h3⟩,h4⟩:=h;rcases List.mem_cons.1 ho with rfl|ho
  ·exact⟨h1,h3⟩
  ·exact F5 h4 o ho
def U0(P:Program)(ops:List Oper)(m N:Nat)(t1:List (Nat×AV))(σ:List aG)(mv:List Nat)(n:Nat):Nat->List Own->Prop
 |_,[]=>True
 |b,o::os=>((∀τ:List aG,τ.length=n->acA P ops o.ia ⟨N,t1,σ++τ,mv⟩ fun r' σ'=>r'= .ptr (σ++τ).length 0/\σ'=(σ++τ)++[.var (o.cs.map .d)])/\
  cZ [b] (del t1 o.d)=del t1 o.d/\
  (o.dJ<m->get t1 o.d=some (.ptr b 0)/\match sV ops o.dJ with
   |some os=>(match os.op with
    | .store t' p v=>p= .tmp o.d/\arg true ⟨N,t1,[],mv⟩ v fun av=>(match iM P t' with
     |some (_,k)=>jU (cellsOf av)=true/\(cellsOf av).length=k/\o.cs.length=k/\cellsOf av=o.cs1.map .d
     |none=>False)
    |_=>False)
   |none=>False))/\U0 P ops m N t1 σ mv n (b+1) os
theorem Zp{P:Program}{ops:List Oper}{m N:Nat}{t1:List (Nat×AV)}{σ:List aG}{mv:List Nat}{n:Nat} : ∀{L:List Own} {b q:Nat} {o:Own},U0 P ops m N t1 σ mv n b L->L[q]? =some o->U0 P ops m N t1 σ mv n (b+q) [o]
 |[],b,q,o,_,h=>by simp at h
 |x::xs,b,0,o,h,hq=>by simp at hq;subst hq;exact⟨h.1,trivial⟩
 |x::xs,b,q+1,o,h,hq=>by
  rw[show b+(q+1)=b+1+q by omega];exact Zp h.2 (by simpa using hq)
theorem store_at{P:Program}{tt:TypeId}{N:Nat}{t1:List (Nat×AV)}{σ τ:List aG}{mv:List Nat}{z:List AV}{av:AV}{b:Bool}{k q:Nat}(h1:iM P tt=some (b,k))(h2:jU (cellsOf av)=true)(h3:(cellsOf av).length=k)(h4:z.length=k)(hq:τ[q]? =some (.var z)):
  uy P tt ⟨N,t1,σ++τ,mv⟩ (.ptr (σ.length+q) 0) av fun s'=>(AV.undef= .undef)/\s'.σ=σ++τ.set q (.var (cellsOf av)):=by
 unfold uy;rw[h1];refine⟨h2,h3,?_⟩;have hs:lY (σ++τ) (.ptr (σ.length+q) 0) (cellsOf av)=some (True,σ++τ.set q (.var (cellsOf av))):=by
  unfold lY;have hd:z.drop k=[]:=List.drop_eq_nil_of_le (by omega);simp[List.getElem?_append_right,hq,h3,h4,jX,hd]
 show(match lY (σ++τ) (.ptr (σ.length+q) 0) (cellsOf av) with|some (side,σ')=>side/\_|none=>False)
 rw[hs];exact⟨trivial,rfl,rfl⟩
theorem arg_ptr{g:Bool}{s:St}{d:Tmp}{b off:Nat}{K:AV->Prop}(h:get s.t d=some (.ptr b off))(hk:K (.ptr b off)):arg g s (.tmp d) K:=by
 unfold arg;rw[show val s (.tmp d)=get s.t d from rfl,h];exact hk
theorem awp_vars{P:Program}{Q:Exit->St->Prop}{N:Nat}{t:List (Nat×AV)}{σ:List aG}{mv:List Nat}{id:Nat}{ops:List Oper}(m:Nat)(L:List Own)(hm:P.follows .mixedOrders=true)(hok:(dY ops m&&Nat.ble m ops.length&&F6 ops m (L.map fun(o:Own)=>(o.ia,o.d,o.dJ)))=true){t1:List (Nat×AV)}
  (h1: ∀(τ:List aG) (K:St->Prop),(∀σ' mv',K ⟨N,t1,σ',mv'⟩)->kC P ops (zY σ.length L) [] [] (ops.take m) 0 ⟨N,t,σ++τ,mv⟩ K)
  (h2:U0 P ops m N t1 σ mv L.length σ.length L)
  (h3:bH P false ops (ops.drop m) ⟨N,t1,σ++L.map (fun o=>o.blk (Nat.blt o.dJ m)),mv⟩ (Q .normal)):fA P (.region id ops.toArray true) Q ⟨N,t,σ,mv⟩:=by
 intro j0 j a w hr;simp only[Bool.and_eq_true,Nat.ble_eq] at hok;obtain⟨⟨hok,hmn⟩,hown⟩:=hok;have hP:PureK P ⟨N,t,σ,mv⟩ ops m t1 (zY σ.length L):=⟨fun τ=>by
  have h:=h1 τ (fun s'=>s'.t=t1) (fun _ _=>rfl);have hlen:(ops.take m).length=m:=by simp;omega
  obtain⟨xs,hK,hia,hloc⟩:=GU h;have hext:=Steps.uz ⟨N,t,σ,mv⟩ (σ++τ) (ops.take m) xs;refine⟨xs,?_,fun i r hi=>hia i r (by simpa using hi),fun i o him ho h3=> ?_⟩
  ·rw[hlen,hext] at hK;exact hK
  ·have:=hloc i o (by rw[kR him];exact ho) (by simpa using h3) rfl;rw[hext] at this;exact this⟩
 have hr':Rel j0 ⟨N,t,σ,mv⟩ j a w.drew:=hr.after (iO j w) hr.dA.drew (Nat.le_refl _) (.refl _ []);have hf: ∀k b,k<ops.length->(Array.replicate ops.toArray.size false).getD k b=false:=by
  intro k b hk;simp[hk]
 have hjl:j.length=σ.length:=hr'.dA.len;have hW: ∀(q:Nat) (o:Own),L[q]? =some o->OwnK P ops m L ⟨N,t,σ,mv⟩ t1 q o:=by
  intro q o hq;have hc:=(F5 hown o (List.mem_of_getElem? hq)).2;obtain⟨⟨g1,g2,g3⟩,_⟩:=Zp h2 hq;obtain⟨oa,hoa,hga,hda,hlt,hself,wo,_⟩:=bI hc (k:=0) (by split<;>simp);have e0: ∀c:Bool,rC (if c then[(o.ia,some o.d),(o.dJ,none)] else[(o.ia,some o.d)]) 0=o.ia/\dsB (if c then[(o.ia,some o.d),(o.dJ,none)] else[(o.ia,some o.d)]) 0=some o.d:=fun c=>by cases c<;>exact⟨rfl,rfl⟩
  rw[(e0 _).1] at hoa hlt wo;rw[(e0 _).2] at hda;refine⟨⟨oa,hoa,hlt,hga,hda,hself,wo,fun τ hτ=> ?_⟩,fun hl=> ?_,fun k av hk hne=> ?_⟩
  ·have:=g1 τ hτ;unfold acA at this;rw[jA,hoa] at this;exact this
  ·have hb:Nat.blt o.dJ m=true:=by simpa using hl
   rw[hb] at hc;obtain⟨os,hos,hgs,hds,_,_,hls,hd⟩:=bI hc (k:=1) (by simp);have hos:ops[o.dJ]? =some os:=hos;have hd:Jm ops m 3 os o.ia=true:=(hd (by omega)).1;refine⟨os,hos,hgs,hds,hls,hd,fun τ hτ=> ?_⟩;obtain⟨k1,k2⟩:=g3 hl;rw[jA,hos] at k2;unfold J5;split at k2
   ·rename_i os' he;cases he
    split at k2
    ·rename_i t' p v hop;obtain⟨rfl,k2⟩:=k2;obtain⟨av,k3,k4⟩:=arg_ex k2;rw[hop];refine arg_ptr k1 (k4 _ _ ?_);split at k3
     ·rename_i b k hk;obtain⟨a1,a2,a3,a4⟩:=k3;have:=store_at (N:=N) (t1:=t1) (σ:=σ) (mv:=mv) hk a1 a2 (by simpa[Own.blk] using a3) hτ;rw[a4] at this;exact this
     ·exact k3.elim
    ·exact k2.elim
   ·exact k2.elim
  ·have h9:get (del t1 o.d) k=some av:=by rw[Ef,if_neg (fun e=>hne e.symm)];exact hk
   exact DY g2 k av (get_mem h9)
 have hext:Ev j w.drew (j++List.replicate L.length none) w.drew:=⟨Nat.le_refl _,fun _ _ _=>rfl,fun b _ hm=>(by
  rcases List.mem_append.1 hm with h|h
  ·exact h
  ·have:=List.eq_of_mem_replicate h;cases this),fun _ _=>rfl,fun _ _=>rfl,rfl,rfl,rfl,fun _ r h=>⟨r,h⟩⟩
 have hagx:Ag j (j++List.replicate L.length none) []:=fun b hb _=>by rw[List.getElem?_append_left hb]
 have htau0:uw L (Array.replicate ops.toArray.size false)=L.map fun _=>aG.dead:=by
  refine List.map_congr_left fun o ho=> ?_;obtain⟨q,hq,rfl⟩:=List.mem_iff_getElem.1 ho;obtain⟨oa,_,hlt,_⟩:=(hW q L[q] (List.getElem?_eq_getElem hq)).al;unfold Own.now;rw[hf _ false (by omega)];rfl
 have o9:aT w.drew (j++List.replicate L.length none) (σ++L.map fun _=>aG.dead):=by
  refine⟨by simp[hjl],fun b cb hb=> ?_,fun b b' cb hb hb'=> ?_,fun b x hx=> ?_⟩
  ·rw[List.getElem?_append] at hb;split at hb
   ·exact hr'.dA.lt b cb hb
   ·rw[List.getElem?_replicate] at hb;split at hb<;>simp at hb
  ·rw[List.getElem?_append] at hb hb';split at hb
   ·split at hb'
    ·exact hr'.dA.inj b b' cb hb hb'
    ·rw[List.getElem?_replicate] at hb';split at hb'<;>simp at hb'
   ·rw[List.getElem?_replicate] at hb;split at hb<;>simp at hb
  ·rw[List.getElem?_append] at hx;split at hx
   ·rename_i hb;obtain⟨o,ho,hB⟩:=hr'.dA.blk b x hx;exact⟨o,by rw[List.getElem?_append_left (by omega)];exact ho,hB.mono hext hr'.dA.lt hagx fun _ _=>rfl⟩
   ·rename_i hb;have hlt:b-σ.length<L.length:=by have:=(List.getElem?_eq_some_iff.1 hx).1;simpa using this
    rw[List.getElem?_map,List.getElem?_eq_getElem hlt] at hx;simp at hx;subst hx;exact⟨none,by rw[List.getElem?_append_right (by omega),List.getElem?_replicate,if_pos (by omega)],trivial⟩
 refine wpIn_region_any hm (phaseK hok hmn hr'.dA (Io hown) (fun o ho=>(F5 hown o ho).1) hW hP h3 _ (j++List.replicate L.length none) a w.drew _ ?_ ⟨?_,by rw[htau0];exact o9,by have:=hr'.len0;show j0.js.length<=σ.length;omega,fun b hb hn=> ?_,fun q o hq _=> ?_⟩ ((iO j w).trans hext))
 ·rw[yZ];simp
 ·have hC:=Core.start (t1:=t1) (U:=fun av=>av.under σ.length) hmn hr' fun k av hk=>by have:=(hr'.tmp k av hk).2.under;rw[hjl] at this;exact this
  exact⟨hC.defers.mono hext,hC.jY,hC.size,hC.lsize,hC.lB,hC.cl,fun q oq k av h1 h2 h3 h4 h5=>(by rw[hf q true (by omega)] at h4;cases h4),fun k av h1 h2=>by
   have:=hC.c2 k av h1 h2;exact⟨this.1,this.2.1,this.2.2.lZ hext hr'.dA.lt hagx⟩⟩
 ·rw[List.getElem?_append_left (by have:=hr'.len0;omega)];exact hr'.ag b hb hn
 ·have hlt:q<L.length:=(List.getElem?_eq_some_iff.1 hq).1;show(j++List.replicate L.length none)[σ.length+q]? =some none
  rw[List.getElem?_append_right (by omega),List.getElem?_replicate,if_pos (by omega)]
theorem X7{P:Program}{Q:Exit->St->Prop}{N:Nat}{t:List (Nat×AV)}{σ:List aG}{mv:List Nat}{id:Nat}{ops:List Oper}(m:Nat)(L:List Own)(hm:P.follows .mixedOrders=true)(hok:(dY ops m&&Nat.ble m ops.length&&F6 ops m (L.map fun(o:Own)=>(o.ia,o.d,o.dJ)))=true){t1:List (Nat×AV)}
  (h1: ∀(τ:List aG) (K:St->Prop),(∀σ' mv',K ⟨N,t1,σ',mv'⟩)->kC P ops (zY σ.length L) [] [] (ops.take m) 0 ⟨N,t,σ++τ,mv⟩ K)
  (h2:U0 P ops m N t1 σ mv L.length σ.length L)
  (h3: ∀K:St->Prop,(∀s',Q .normal s'->K s')->bH P false ops (ops.drop m) ⟨N,t1,σ++L.map (fun o=>o.blk (Nat.blt o.dJ m)),mv⟩ K):fA P (.region id ops.toArray true) Q ⟨N,t,σ,mv⟩:=
 awp_vars m L hm hok h1 h2 (h3 _ fun s' h=>h)
attribute [go_sem] zY Own.blk U0 acA
end Go.aU.Vars
namespace Go.aU
open Go.ChangeShapes Go.WideShapes Go.ChangeAt Go.RowKit Go.Deep
def RDs(w:World)(ds:List D)(cs:List Value):Prop:=cs.length=ds.length/\∀k,k<ds.length->RD w [] (ds.getD k default) (cs.getD k Go.undef)
theorem RDs.nil(w:World):RDs w [] []:=⟨rfl,by simp⟩
theorem RDs.append{w:World}{a b:List D}{c e:List Value}(h:RDs w a c)(k:RDs w b e):RDs w (a++b) (c++e):=by
 refine⟨by simp[h.1,k.1],fun i hi=> ?_⟩;rcases Nat.lt_or_ge i a.length with hl|hl
 ·have:=h.2 i hl;rw[List.getD_eq_getElem?_getD,List.getD_eq_getElem?_getD,List.getElem?_append_left hl,List.getElem?_append_left (by rw[h.1];exact hl)];rwa [List.getD_eq_getElem?_getD,List.getD_eq_getElem?_getD] at this
 ·have:=k.2 (i-a.length) (by simp at hi;omega);rw[List.getD_eq_getElem?_getD,List.getD_eq_getElem?_getD,List.getElem?_append_right hl,List.getElem?_append_right (by rw[h.1];exact hl),h.1];rwa [List.getD_eq_getElem?_getD,List.getD_eq_getElem?_getD] at this
theorem RDs.one{w:World}{d:D}{c:Value}(h:RD w [] d c):RDs w [d] [c]:=⟨rfl,fun k hk=>by
 have:k=0:=by simpa using hk
 subst this;exact h⟩
def Opn(P:Program)(t:TypeId)(g:List D->Prop):Prop:=
 ∀(H:Type) (enc:TypeId×Value->H) (w:World) (base:Nat) (spare:Nat->Bool) (held:Bool) (fuel:Nat) (cs:List Value) (x:DataW H×List MemPlace),DataW.trod enc P w base spare held fuel t cs=some x->∃ds,g ds/\RDs w ds cs
section
variable {P : Program} {t : TypeId}
theorem Opn.mono{g g':List D->Prop}(h:Opn P t g)(hg: ∀ds,g ds->g' ds):Opn P t g':=fun H enc w base spare held fuel cs x hx=>
 let⟨ds,h1,h2⟩:=h H enc w base spare held fuel cs x hx
 ⟨ds,hg ds h1,h2⟩
theorem opn_int{k:IntKind}(ht:P.underlying t=some (.int k)):Opn P t fun ds=> ∃n,ds=[.v (.int k n)]/\(Lit.int k n).wf=true:=by
 intro H enc w base spare held fuel cs x hx;obtain⟨n,rfl,_,hw⟩:=DataW.trod_int ht hx;exact⟨_,⟨n,rfl,hw⟩,.one (.v _)⟩
theorem opn_bool(ht:P.underlying t=some .bool):Opn P t fun ds=> ∃b,ds=[.v (.bool b)]:=by
 intro H enc w base spare held fuel cs x hx;obtain⟨n,rfl,_⟩:=DataW.trod_bool ht hx;exact⟨_,⟨n,rfl⟩,.one (.v _)⟩
theorem opn_string(ht:P.underlying t=some .string):Opn P t fun ds=> ∃s:ByteArray,ds=[.v (.string s)]/\s.size<=maxLen:=by
 intro H enc w base spare held fuel cs x hx;obtain⟨n,rfl,_,hw⟩:=DataW.trod_string ht hx;exact⟨_,⟨n,rfl,hw⟩,.one (.v _)⟩
def Goods:List (List D->Prop)->List D->Prop
 |[],ds=>ds=[]
 |g::gs,ds=> ∃a b,ds=a++b/\g a/\Goods gs b
def xU(P:Program)(tot:Nat):Nat->List Field->Bool
 |off,[]=>Nat.beq off tot
 |off,f::fs=>Nat.beq f.offset off&&xU P tot (off+P.cellsOf f.type) fs
inductive All2{α β:Type}(r:α->β->Prop):List α->List β->Prop
 |nil:All2 r [] []
 |cons {a:α} {b:β} {as0:List α} {bs:List β} (h:r a b) (t:All2 r as0 bs):All2 r (a::as0) (b::bs)
theorem Nw{tot:Nat} : ∀{fs:List Field} {off:Nat},xU P tot off fs=true->off<=tot
 |[],off,h=>by have:=Nat.eq_of_beq_eq_true h;omega
 |f::fs,off,h=>by
  simp[xU] at h;have:=Nw h.2;omega
theorem QV{H:Type}{enc:TypeId×Value->H}{w:World}{base:Nat}{spare:Nat->Bool}{held:Bool}{fuel:Nat}{cs:List Value} :
  ∀{fs:List Field} {gs:List (List D->Prop)} {off:Nat},All2 (fun f g=>Opn P f.type g) fs gs->xU P cs.length off fs=true->
   (∀f∈fs,∃y,DataW.trod enc P w base spare held fuel f.type ((cs.drop f.offset).take (P.cellsOf f.type))=some y)->∃ds,Goods gs ds/\RDs w ds (cs.drop off)
 |[],_,off,.nil,hf,_=>by
  have:=Nat.eq_of_beq_eq_true hf;refine⟨[],rfl,?_⟩;rw[List.drop_eq_nil_of_le (by omega)];exact .nil w
 |f::fs,_,off,.cons h hs,hf,hy=>by
  simp[xU] at hf;obtain⟨h1,h2⟩:=hf;have hle:=Nw h2;obtain⟨y,hy0⟩:=hy f (by simp);obtain⟨a,ga,ra⟩:=h _ _ _ _ _ _ _ _ _ hy0;obtain⟨b,gb,rb⟩:=QV hs h2 fun f' hf'=>hy f' (List.mem_cons_of_mem _ hf');refine⟨a++b,⟨a,b,rfl,ga,gb⟩,?_⟩;have:=ra.append rb;rwa [h1,←List.drop_drop,List.take_append_drop] at this
theorem bY{fs:Array Field}{gs:List (List D->Prop)}(ht:P.underlying t=some (.struct fs))(hat:xU P (P.cellsOf t) 0 fs.toList=true)(h:All2 (fun f g=>Opn P f.type g) fs.toList gs):Opn P t (Goods gs):=by
 intro H enc w base spare held fuel cs x hx;obtain⟨xs,n,_,_,hlen,hxl,hf⟩:=DataW.trod_struct ht hx;rw[←hlen] at hat;have:=QV (H:=H) (enc:=enc) (w:=w) (base:=base) (spare:=spare) (held:=held) (fuel:=n) (cs:=cs) (off:=0) h hat ?_
 ·simpa using this
 intro f hm;obtain⟨i,hi⟩:=List.getElem?_of_mem hm;have hi':fs[i]? =some f:=by simpa using hi
 have hlt:i<xs.length:=by rw[hxl];exact(Array.getElem?_eq_some_iff.1 hi').1
 exact⟨xs[i],(hf i f hi').trans (List.getElem?_eq_getElem hlt)⟩
theorem add_none(b off n:Nat):(⟨b,off,none⟩:Addr).add n=⟨b,off+n,none⟩:=by
 unfold Addr.add;split<;>simp_all
theorem eH{e:TypeId}{g:List D->Prop}{sz:Nat}(d0:List D)(ht:P.underlying t=some (.slice e))(hC:P.cellsOf e=sz)(hsz:0<sz)(h:Opn P e g)(h0:g d0):Opn P t fun ds=> ∃n row,ds=[.sl none sz n row]/\n<=maxLen/\∀i,g (row i):=by
 intro H enc w base spare held fuel cs x hx;rcases open_slice ht hx with⟨rfl,_⟩|⟨a,len,cap,m,n,DD,Pl,rfl,hb,hl,hm,hmm,_,hi⟩
 ·exact⟨_,⟨0,fun _=>d0,rfl,by simp,fun _=>h0⟩,.one (.zero none 0 (.inl rfl) fun _=>rfl)⟩
 ·have hml:len<=m:=by rw[hmm];split<;>omega
  have key: ∀i,∃ds,g ds/\(i<len->∃cs',cs'.length=sz/\(∀k,k<sz->w.cell? (a.add (i*sz+k))=some (cs'.getD k Go.undef))/\RDs w ds cs'):=by
   intro i;by_cases hil:i<len
   ·obtain⟨cs',h1,h2⟩:=hi i (by omega);rw[hC] at h1;obtain⟨_,hcl,hat⟩:=World.cells?_some h1;obtain⟨ds,g1,g2⟩:=h _ _ _ _ _ _ _ _ _ h2;refine⟨ds,g1,fun _=>⟨cs',hcl,fun k hk=> ?_,g2⟩⟩;have:=hat k hk;rw[←Go.Deep.add_add,this,List.getD_eq_getElem?_getD,List.getElem?_eq_getElem (by omega)];rfl
   ·exact⟨d0,h0,fun hh=>absurd hh hil⟩
  obtain⟨row,hgr⟩: ∃row:Nat->List aU.D,∀i,g (row i)/\(i<len->∃cs',cs'.length=sz/\(∀k,k<sz->w.cell? (a.add (i*sz+k))=some (cs'.getD k Go.undef))/\RDs w (row i) cs'):=⟨fun i=>(key i).choose,fun i=>(key i).choose_spec⟩;have hg:=fun i=>(hgr i).1;have hrow:=fun i=>(hgr i).2;refine⟨_,⟨len,row,rfl,by omega,hg⟩,.one ?_⟩;rcases Nat.eq_zero_or_pos len with hz|hp
  ·subst hz;exact .zero (some a) cap (.inl rfl) (by simp)
  ·have hcell: ∀i,i<len->∃cs',cs'.length=sz/\(∀k,k<sz->w.cell? (a.add (i*sz+k))=some (cs'.getD k Go.undef))/\RDs w (row i) cs':=fun i hi=>hrow i hi;obtain⟨c0,_,hc0,_⟩:=hcell 0 hp;have h00:=hc0 0 hsz;obtain⟨b,off,spot⟩:=a;have hspot:spot=none:=by simpa[Addr.add] using World.cell?_spot h00
   subst hspot;have hlt:b<w.heap.size:=by
    rcases Nat.lt_or_ge b w.heap.size with hlt|hge
    ·exact hlt
    ·simp[World.cell?,Addr.add,hge] at h00
   refine .sl ⟨b,off,none⟩ cap (fun i k=>(w.cell? ⟨b,off+i*sz+k,none⟩).getD Go.undef) (.inl rfl) hl rfl hlt (by simp) (fun i hi=> ?_) (fun i hi k hk=> ?_) (fun i hi k hk=> ?_)
   ·obtain⟨c,k1,k2,k3⟩:=hcell i hi;rw[←k3.1,k1]
   ·obtain⟨c,k1,k2,k3⟩:=hcell i hi;have:=k2 k hk;rw[add_none] at this;rw[Nat.add_assoc];rw[this];rfl
   ·obtain⟨c,k1,k2,k3⟩:=hcell i hi;have:=k2 k hk;rw[add_none] at this;rw[Nat.add_assoc,this];exact k3.2 k (by rw[←k3.1,k1];exact hk)
end
section
variable {P : Program} {t : TypeId} {H : Type} {enc : TypeId × Value -> H} {w : World} {base : Nat} {spare : Nat -> Bool} {held : Bool} {v : Value} {d : DataW H} {p : List MemPlace} {r : Reach} {b0 : Nat} {g : List D -> Prop}
theorem arg_agg(h:Opn P t g)(hv: ∃cs,v= .agg cs)(hd:DataW.Trod enc P w base spare held t v d p): ∃ds,g ds/\R w [] (.agg (ds.map .d)) v:=by
 obtain⟨cs,rfl⟩:=hv;obtain⟨fuel,hf⟩:=hd;obtain⟨ds,h1,h2⟩:=h _ _ _ _ _ _ _ _ _ hf;refine⟨ds,h1,.agg cs (by have:=h2.1;simpa[Value.cells] using this) fun k hk=> ?_⟩;have hk':k<ds.length:=by simpa using hk
 have:=h2.2 k hk';have e1:(ds.map AV.d).getD k .undef=AV.d (ds.getD k default):=by simp[List.getD_eq_getElem?_getD,hk']
 rw[e1];refine .d ?_;simpa[Value.cells,Array.getD_eq_getD_getElem?,List.getD_eq_getElem?_getD] using this
theorem vH{x:Array Field}(hs:P.underlying t=some (.struct x))(h:Opn P t g)(hv:Value.okWide P w r b0 t v)(hd:DataW.Trod enc P w base spare held t v d p): ∃ds,g ds/\R w [] (.agg (ds.map .d)) v:=by
 obtain⟨cs,rfl,_⟩:=okWide_struct hs hv;exact arg_agg h ⟨cs,rfl⟩ hd
theorem arg_one(hc:v.cells= #[v]){x:D->Prop}(h:Opn P t fun ds=> ∃y,ds=[y]/\x y)(hd:DataW.Trod enc P w base spare held t v d p): ∃y,x y/\R w [] (.d y) v:=by
 obtain⟨fuel,hf⟩:=hd;rw[hc] at hf;obtain⟨ds,⟨y,rfl,hx⟩,h2⟩:=h _ _ _ _ _ _ _ _ _ hf;exact⟨y,hx,.d (h2.2 0 (by simp))⟩
theorem qP{e:TypeId}{x:D->Prop}(ht:P.underlying t=some (.slice e))(h:Opn P t fun ds=> ∃y,ds=[y]/\x y)(hv:Value.okWide P w r b0 t v)(hd:DataW.Trod enc P w base spare held t v d p): ∃y,x y/\R w [] (.d y) v:=by
 obtain⟨a,len,cap,rfl⟩:=okWide_slice ht hv;exact arg_one rfl h hd
end
theorem Rs.cons{w:World}{x:AV}{v:Value}{xs:List AV}{vs:List Value}(h:R w [] x v)(t:Rs w [] xs vs.toArray):Rs w [] (x::xs) (v::vs).toArray:=
 ⟨by have:=t.1;simpa using this,fun k hk=>by
  cases k with
  |zero=>simpa using h
  |succ k=>have:=t.2 k (by simpa using hk);simpa using this⟩
end Go.aU
namespace Go.aU
open Go.RowKit
theorem RD.none{w:World}{d:D}{v:Value}(h:RD w [] d v):RD w [none] d v:=by
 induction h with
 |v x=>exact .v x
 |sl a c val h1 h2 h3 h4 h5 h6 h7 h8 ih=>exact .sl a c val h1 h2 h3 h4 (by simp) h6 h7 ih
 |zero p c h1 h2=>exact .zero p c h1 h2
theorem RsN.cons{w:World}{x:AV}{v:Value}{xs:List AV}{vs:List Value}(h:R w [none] x v)(t:Rs w [none] xs vs.toArray):Rs w [none] (x::xs) (v::vs).toArray:=
 ⟨by have:=t.1;simpa using this,fun k hk=>by
  cases k with
  |zero=>simpa using h
  |succ k=>have:=t.2 k (by simpa using hk);simpa using this⟩
end Go.aU
