/- Lemmas, no conditions. -/
import Derived.Test.YthpplckmbbachaaGreatDoorKB5
import Derived.Below
import Derived.Laws.RangeString
import Derived.Laws.RangeAny
import Derived.Shelf.GgClosure.StringsIndexFunc
import Derived.Lib.IndexMore
set_option linter.unusedVariables false
set_option linter.unusedSimpArgs false
namespace Go.aI
open Go.RowKit
theorem abn(b): ∀k i r,b.size-i=k->ByteArray.toList.loop b i r=r.reverse++b.data.toList.drop i:=by
 intro k;induction k with
 |zero=>
  intro i r h;unfold ByteArray.toList.loop;rw[if_neg aa];have:b.data.toList.drop i=[]:=by
   rw[List.drop_eq_nil_iff,Array.length_toList];have:b.data.size=b.size:=rfl;omega
  grind
 |succ k ih=>
  intro i r h;unfold ByteArray.toList.loop;have hi:i<b.size:=aa;rw[if_pos hi,ih (i+1) _ aa];have hd:i<b.data.toList.length:=aP;rw[List.drop_eq_getElem_cons hd];have:b.get! i=b.data.toList[i]:=by
   have h2:b.get! i=b.data[i]! :=rfl;grind
  grind
theorem Io(b:ByteArray):b.toList=b.data.toList:=by
 simp_all [abn,ByteArray.toList]
theorem aeb{a b:ByteArray}(h:a.toList=b.toList):a=b:=by
 rw[Io,Io] at h;cases a;simp_all
theorem U8{a b:ByteArray} :a.toList=b.toList↔a=b:=⟨aeb,fun h=>by rw[h]⟩
attribute [simp] U8
theorem U6{w w' j σ}(hb:Below w.heap.size w w')(hS:aQ w j σ):aQ w' j σ/\Ev j w j w':=by
 have hk:=hb.block;have he:Ev j w j w':=⟨hb.size,fun b h _=>hk b h,fun _ _ h=>h,fun b h=>K3,fun a h=>by grind [World.frozen?],hb.os,hb.tape,hb.output,
  fun b r h=>⟨r,ai⟩⟩
 refine⟨⟨hS.len,fun b cb h=>Nat.lt_of_lt_of_le (hS.lt b cb h) hb.size,hS.inj,fun b x hx=> ?_⟩,he⟩;obtain⟨o,ho,hB⟩:=hS.blk b x hx;exact⟨o,ho,hB.mono he hS.lt (.refl _ _) fun cb h=>hk cb (hS.lt b cb ai)⟩
theorem ak.xH{P f args σ r}(hen:cG P f=true)(vals)(hargs: ∀w j vs,Rs w j args vs->vs=vals)
  (h: ∀w j,aQ w j σ->Calls P f vals w fun e w'=>e= .returned r/\Below w.heap.size w w'):ak P f args σ (.d (.v r)):=by
 refine⟨hen,fun j w vs hs hr=> ?_⟩;rw[hargs w j vs hr];refine(h w j hs).mono fun e w' ⟨he,hb⟩=> ?_;obtain⟨h1,h2⟩:=U6 hb hs;exact⟨r,.d (.v r),σ,j,[],he,h1,.d (.v r),h2,Nat.le_refl _,.refl _ _,rfl,rfl,rfl⟩
theorem WT{w j a v vs}(h:Rs w j [a] vs)(ha: ∀u,R w j a u->u=v):vs= #[v]:=by
 have h0:=ha _ (by simpa using h.2 0 an);apply Array.ext
 ·simpa using h.1
 grind
theorem DY{w j a b v u vs}(h:Rs w j [a,b] vs)(ha: ∀x,R w j a x->x=v)(hb: ∀x,R w j b x->x=u):vs= #[v,u]:=by
 have h0:=ha _ (by simpa using h.2 0 an);have h1:=hb _ (by simpa using h.2 1 an);have hs:vs.size=2:=by simpa using h.1
 grind
theorem CS.sub{P f args args' σ Q}(h:CS P f args' σ Q)(hs:mY args args'):CS P f args σ Q:=by
 obtain⟨h1,h2⟩:=vb hs;exact⟨h.1,fun j w vs hS hr=>h.2 j w vs hS ⟨by rw[h1];exact hr.1,fun k hk=>h2 k ai _ _ _ (hr.2 k ai)⟩⟩
theorem ak.sub{P f args args' σ r}(h:ak P f args' σ r)(hs:mY args args'):ak P f args σ r:=CS.sub h hs
theorem Xt{w j σ}(hS:aQ w j σ){b c:Nat}(h:σ[b]? =some (.loc c)): ∃m,w.cell? ⟨c,0,none⟩=some (.int .i64 m):=by
 obtain⟨o,_,hB⟩:=hS.blk b _ h;cases o<;>exact hB.2.2.2
theorem ay{σ τ:List aZ}{b:Nat}{x}(h:σ[b]? =some x):(σ++τ)[b]? =some x:=by
 grind
end Go.aI
namespace Go.bI
def bt(s:ByteArray)(i:Nat):Nat:=((s[i]?).getD 0).toNat
theorem OM{s i}(h):bt s i=(s[i]'h).toNat:=by grind [bt]
def xF(c:Nat):Bool:=decide (c<32)||decide (126<c)
theorem Ss(s): ∀f pos,s.size<=pos+f->(0<=Lib.idxFuncFrom xF true s f pos↔∃i,pos<=i/\i<s.size/\xF (bt s i)=true)
 |0,pos,h=>by
  grind [Lib.idxFuncFrom]
 |f+1,pos,h=>by
  simp only[Lib.idxFuncFrom];by_cases hp:pos<s.size
  ·rw[if_pos hp];by_cases ha:(s[pos]'hp).toNat<128
   ·rw[Go.decode_ascii s pos hp ha];simp only;rw[←OM hp];by_cases ho:xF (bt s pos)=true
    ·grind
    ·rw[if_neg ho,Ss s f (pos+1) aa];grind
   ·have hd:=(Go.decode_high s pos hp aa).1;have ho:xF (Utf8.decode s pos).1=true:=by grind [xF]
    rw[if_pos ho];refine⟨fun _=>⟨pos,Nat.le_refl _,hp,?_⟩,fun _=>aa⟩;grind [OM,xF]
  grind
theorem Sr: ∀l c,0<=Lib.index l [c,c]↔∃i,l[i]? =some c/\l[i+1]? =some c
 |[],c=>by simp[Lib.index]
 |b::l,c=>by
  have ih:=Sr l c;rw[Lib.index];by_cases hp:[c,c].isPrefixOf (b::l)=true
  ·rw[if_pos hp];simp only[Int.le_refl,true_iff];cases l with
   |nil=>grind
   |cons d l=>
    simp[List.isPrefixOf] at hp;exact⟨0,ai,ai⟩
  ·rw[if_neg hp];have hge: ∀(l:List UInt8) (sub:List UInt8),-1<=Lib.index l sub:=by
    intro l sub;induction l<;>grind [Lib.index]
   have h1:=hge l [c,c];have h2:0<=(if(Lib.index l [c,c]== -1)=true then(-1:Int) else Lib.index l [c,c]+1)↔0<=Lib.index l [c,c]:=by
    grind
   rw[h2,ih];constructor
   ·rintro⟨i,h3,h4⟩;exact⟨i+1,ai,ai⟩
   ·rintro⟨i,h3,h4⟩;cases i with
    |zero=>
     exfalso;apply hp;simp at h3 h4;cases l<;>grind
    |succ i=>grind
theorem KF(s i)(hi:i<s.size)(c):s.data.toList[i]? =some c↔bt s i=c.toNat:=by
 have e:s.data.toList[i]? =some (s[i]'hi):=by
  rw[Array.getElem?_toList];have:i<s.data.size:=hi;rw[Array.getElem?_eq_getElem this];rfl
 grind [OM,UInt8.toNat_inj]
theorem Kn(s):Lib.contains s.data.toList [32,32]=true↔∃i,i+1<s.size/\bt s i=32/\bt s (i+1)=32:=by
 unfold Lib.contains;rw[decide_eq_true_iff,Sr];have hs:s.data.toList.length=s.size:=aP;constructor
 ·grind [KF]
 ·rintro⟨i,h1,h2,h3⟩;exact⟨i,(KF s i aa 32).2 h2,(KF s (i+1) h1 32).2 h3⟩
def nameAt(s:ByteArray)(i:Nat):Bool:=decide (32<=bt s i)&&decide (bt s i<=126)&& !(decide (0<i)&&decide (bt s i=32)&&decide (bt s (i-1)=32))
def jP(s:ByteArray):Bool:=decide (1<=s.size)&&decide (s.size<=64)&& !decide (bt s 0=32)&& !decide (bt s (s.size-1)=32)&&(List.range s.size).all (nameAt s)
theorem zx(s):jP s=true↔1<=s.size/\s.size<=64/\bt s 0≠32/\bt s (s.size-1)≠32/\(∀i,i<s.size->nameAt s i=true):=by
 grind [jP]
theorem P3(s):jP s=(decide (1<=s.size)&&decide (s.size<=64)&& !decide (bt s 0=32)&& !decide (bt s (s.size-1)=32)&& !Lib.contains s.data.toList [32,32]&& !decide (0<=Lib.idxFunc xF true s)):=by
 have h1:=Ss s s.size 0 aa;have h2:=Kn s;have key:(List.range s.size).all (nameAt s)=(!Lib.contains s.data.toList [32,32]&& !decide (0<=Lib.idxFunc xF true s)):=by
  rw[Bool.eq_iff_iff];simp only[List.all_eq_true,List.mem_range,Bool.and_eq_true,Bool.not_eq_true',decide_eq_false_iff_not];grind [Lib.idxFunc,nameAt,xF]
 grind [jP]
end Go.bI
namespace Go.aI.Steps
open Go.aI
open Go.aI.Mix (dh bD ll sV)
def Vu(P:Program)(o:Oper)(s:St)(K:AV->List aZ->Prop):Prop:=
 match o.op with
 | .mapEntry t m k=>arg true s m fun m=>arg true s k fun k=>YA P t s.σ m k K
 | .entryStore t m x v=>arg true s m fun m=>arg true s x fun x=>arg true s v fun v=>Yv s.σ m x v fun σ'=>K .undef σ'
 | .store t p v=>arg true s p fun p=>arg true s v fun v=>kL P t s p v fun s'=>K .undef s'.σ
 | .extract x i=>pv P true s (.extract x i) fun av=>K av s.σ
 |_=>False
theorem Q1{P all o s K}(h:Vu P o s K){j0 j a w next Q}
  (hr:Rel j0 (s.bQ (looks all o)) j a w) (hn: ∀v w' r σ',aQ w' j σ'->R w' j r v->Ev j w j w'->K r σ'->next (a.put o.dst v) w'):o.wpIn (FW j0.rd) 0 P a w next Q:=by
 have ki:aQ w j s.σ:=hr.cm;have mem: ∀x∈o.op.operands,∀t,x= .tmp t->t∈looks all o:=fun x hx t ht=>List.mem_append.2 (.inl (kW hx ht));unfold Vu at h;split at h
 ·rename_i t m k ho;rw[←a8 (mem m vY)] at h;obtain⟨ma,h,hm⟩:=ar h;rw[←a8 (mem k vY)] at h;obtain⟨ka,h,hk⟩:=ar h;obtain⟨v,w',r,σ',h1,h2,h3,h4,h5⟩:=H7 (P:=P) ki h (hm rfl j0 j a w hr) (hk rfl j0 j a w hr);have hrun:(execOp a.eval o).run P w= .ok (.value v) w':=by
   grind [execOp,er]
  refine oX ai hrun ?_;exact hn v w' r σ' h2 h3 h4 h5
 ·rename_i t m x v ho;rw[←a8 (mem m vY)] at h;obtain⟨ma,h,hm⟩:=ar h;rw[←a8 (mem x vY)] at h;obtain⟨xa,h,hx⟩:=ar h;rw[←a8 (mem v vY)] at h;obtain⟨va,h,hv⟩:=ar h;obtain⟨w',σ',h1,h2,h3,h4⟩:=H5 (P:=P) (t:=t) ki h (hm rfl j0 j a w hr) (hx rfl j0 j a w hr) (hv rfl j0 j a w hr);have hrun:(execOp a.eval o).run P w= .ok .skip w':=by simp_all [execOp]
  refine oX ai hrun ?_;exact hn _ w' _ σ' h2 (.undef _) h3 h4
 ·rename_i t p v ho;rw[←a8 (mem p vY)] at h;obtain⟨pa,h,hp⟩:=ar h;rw[←a8 (mem v vY)] at h;obtain⟨va,h,hv⟩:=ar h;unfold kL at h;split at h
  ·rename_i agg m ht;obtain⟨hone,hlen,h⟩:=h;split at h
   ·rename_i side σ' hst;obtain⟨hside,hK⟩:=h;obtain⟨w',h1,h2,h3⟩:=rR (P:=P) ki ht (hp rfl j0 j a w hr) (hv rfl j0 j a w hr) hone hlen hst hside;have hrun:(execOp a.eval o).run P w= .ok .skip w':=by simp_all [execOp]
    refine oX ai hrun ?_;exact hn _ w' _ σ' h2 (.undef _) h3 hK
   grind
  grind
 ·rename_i x i ho;rw[←L9 (by rw[←ho];exact mem)] at h;obtain⟨av,hK,hy⟩:=Em h;obtain⟨v,h1,h2⟩:=hy rfl j0 j a w o ho hr;refine oX ai h1 ?_;exact hn v w av s.σ ki h2 (.refl _ _) hK
 grind
def u2(P:Program)(all:List Oper)(is:List (Nat×Option Nat)):List Oper->Nat->St->(St->Prop)->Prop
 |[],_,s,K=>K s
 |o::os,i,s,K=>if qu is i then u2 P all is os (i+1) (s.put o.dst .undef) K
  else fE all s o fun gd g=>JK P true gd g o s fun s'=>u2 P all is os (i+1) s' K
theorem Rl{P all is} : ∀{os i0 s K},u2 P all is os i0 s K->
  ∃xs,K (cD s os xs os.length)/\(∀i,qu is (i0+i)=true->xs i= .undef)/\∀i o,os[i]? =some o->qu is (i0+i)=false->Local P all o (cD s os xs i) (xs i)
 |[],i0,s,K,h=>⟨fun _=> .undef,h,fun _ _=>rfl,an⟩
 |o::os,i0,s,K,h=>by
  have key: ∀x:AV,u2 P all is os (i0+1) (s.put o.dst x) K->(qu is i0=true->x= .undef)->(qu is i0=false->Local P all o s x)->
    ∃xs:Nat->AV,K (cD s (o::os) xs (o::os).length)/\(∀i,qu is (i0+i)=true->xs i= .undef)/\∀i o',(o::os)[i]? =some o'->qu is (i0+i)=false->Local P all o' (cD s (o::os) xs i) (xs i):=by
   intro x h hx hl;obtain⟨xs,hK,hia,hloc⟩:=Rl h;have hst: ∀i,cD s (o::os) (fun|0=>x|i+1=>xs i) (i+1)=cD (s.put o.dst x) os xs i:=by
    intro i;induction i with
    |zero=>rfl
    |succ i ih=>
     show(match(o::os)[i+1]? with|some o'=>(cD s (o::os) (fun|0=>x|i+1=>xs i) (i+1)).put o'.dst (xs i)|none=>cD s (o::os) (fun|0=>x|i+1=>xs i) (i+1))=_
     rw[ih];simp only[List.getElem?_cons_succ];rfl
   refine⟨fun|0=>x|i+1=>xs i,?_,fun i hi=> ?_,fun i o' hi h1=> ?_⟩
   ·rw[List.length_cons,hst];exact hK
   ·cases i with
    |zero=>exact hx uk
    |succ i=>exact hia i (by rw[show i0+1+i=i0+(i+1) by omega];exact hi)
   ·cases i with
    |zero=>simp at hi;subst hi;exact hl He
    |succ i=>rw[hst];exact hloc i o' uk (by rw[show i0+1+i=i0+(i+1) by omega];exact h1)
  simp only[u2] at h;by_cases h1:qu is i0=true
  ·rw[if_pos h1] at h;exact key _ h (fun _=>rfl) (fun h2=>by rw[h1] at h2;cases h2)
  ·rw[if_neg h1] at h;obtain⟨x,hl,h⟩:=xO h;exact key x h (fun h3=>absurd h3 h1) (fun _=>hl)
def Zr(is:List (Nat×Option Nat))(vs:List (AV×List aZ))(t:List (Nat×AV)):Nat->List (Nat×AV)
 |0=>t
 |k+1=>(match Qy is k with
  |some d=>put t d (vs.getD k (.undef,[])).1
  |none=>t)
def Ts(σ:List aZ)(vs:List (AV×List aZ)):Nat->List aZ
 |0=>σ
 |k+1=>(vs.getD k (.undef,[])).2
structure af0(s:St)(ops:List Oper)(m:Nat)(is:List (Nat×Option Nat))(vs:List (AV×List aZ))(t1:List (Nat×AV))(j0:J0)(k0:Nat)(listed:Array Bool)(j:Js)(a:Act)(w:World):Prop extends Core s.N s.t t1 (fun _=>True) ops m j0 listed j a w where
 cm:aQ w j (Ts s.σ vs k0)
 len0:j0.js.length<=j.length
 ag:Ag j0.js j s.mv
 E1:k0<=is.length
 done: ∀k,k<is.length->listed.getD (lN is k) true=decide (k<k0)
 cur: ∀k d,k+1=k0->Qy is k=some d->d<s.N/\R w j (vs.getD k (.undef,[])).1 (a.tmps.getD d Go.undef)
theorem RP{is vs t}{X:Nat->AV->Prop}{n k av}(hb: ∀av,get t k=some av->X k av)(hc: ∀k' d,k'+1=n->Qy is k'=some d->X d (vs.getD k' (.undef,[])).1)(hk:get (Zr is vs t n) k=some av):X k av:=by
 cases n<;>grind [Zr,get_put]
section
variable {P : Program} {ops : List Oper} {m : Nat} {is : List (Nat × Option Nat)} {vs : List (AV × List aZ)} {V : Nat -> List (AV × List aZ)} {F : List aZ -> Prop}
structure acK(P:Program)(F:List aZ->Prop)(s:St)(ops:List Oper)(m:Nat)(is:List (Nat×Option Nat))(t1:List (Nat×AV)):Prop where
 at_: ∀σ':List aZ,F σ'->∃xs:Nat->AV,(cD s (ops.take m) xs m).t=t1/\(∀i,qu is i=true->xs i= .undef)/\
  ∀i o,i<m->ops[i]? =some o->qu is i=false->Local P ops o ⟨s.N,(cD s (ops.take m) xs i).t,σ',s.mv⟩ (xs i)
structure afW(P:Program)(F:List aZ->Prop)(ops:List Oper)(is:List (Nat×Option Nat))(V:Nat->List (AV×List aZ))(s:St)(t1:List (Nat×AV)):Prop where
 act: ∀k,k<is.length->∃o,ops[lN is k]? =some o/\∀q,Vu P o ⟨s.N,Zr is (V q) t1 k,Ts s.σ (V q) k,s.mv⟩ fun r' σ'=> ∃q',(0<k->q'=q)/\r'=((V q').getD k (.undef,[])).1/\σ'=((V q').getD k (.undef,[])).2
 fam: ∀q k,k<=is.length->F (Ts s.σ (V q) k)
 inN: ∀k d,k<is.length->Qy is k=some d->d<s.N
theorem ada(hok:cO ops m=true)(hmn:m<=ops.length)(hch:dh ops m is=true){Q j0 j1 w1 s t1}
  (hW:afW P F ops is V s t1) (hP:acK P F s ops m is t1)
  (hK: ∀q,bz P false ops (ops.drop m) ⟨s.N,Zr is (V q) t1 is.length,Ts s.σ (V q) is.length,s.mv⟩ (Q .normal)):
  ∀fuel j a w listed,left listed ops.length=fuel->(∃k0 q,af0 s ops m is (V q) t1 j0 k0 listed j a w)->Ev j1 w1 j w->wpAnyIn (FW j0.rd) 0 P .any ops.toArray (u6 j0 j1 w1 Q) fuel listed a w:=by
 refine JG hok hmn (fun listed j a w=> ∃k0 q,af0 s ops m is (V q) t1 j0 k0 listed j a w) ?_ ?_ ?_
 ·rintro listed j a w ⟨k0,z,hI⟩;exact⟨_,_,_,_,hI.toCore⟩
 ·rintro listed j a w ⟨k0,z,hI⟩ hdone;obtain rfl:k0=is.length:=by
   rcases Nat.lt_or_ge k0 is.length with h|h
   ·obtain⟨_,_,_,_,h1,_⟩:=bD hch h;have h2:=hI.done k0 h;grind
   ·have:=hI.E1;omega
  obtain⟨xs,hxs,_,_⟩:=hP.at_ _ (hW.fam 0 0 (Nat.zero_le _));exact⟨⟨s.N,Zr is (V z) t1 is.length,Ts s.σ (V z) is.length,s.mv⟩,⟨hI.defers,hI.fC,hI.size,fun k av hk=>RP (X:=fun k av=>k<s.N/\R w j av (a.tmps.getD k Go.undef)) (fun av h=>hI.toCore.done hxs hdone h) hI.cur hk,hI.cm,hI.len0,hI.ag⟩,hK z⟩
 ·rintro listed j a w i o next ⟨k0,z,hI⟩ him ho h0 hall hn
  have Uo:=su ((eZ hok ho).2.1 him);have hil:i<ops.length:=aa;have Un:i<listed.size:=ai;have step: ∀(w':World) (v:Value) (k1 z1:Nat),aQ w' j (Ts s.σ (V z1) k1)->Ev j w j w'->
    k1<=is.length->(∀k,k<is.length->(listed.setIfInBounds i true).getD (lN is k) true=decide (k<k1))->
    (∀k d,k+1=k1->Qy is k=some d->d<s.N/\R w' j ((V z1).getD k (.undef,[])).1 ((a.put o.dst v).tmps.getD d Go.undef))->
    (∀k av,o.dst=some k->get t1 k=some av->k<s.N/\R w' j av v)->next (a.put o.dst v) w':=by
   intro w' v k1 z1 ki hev hk1 hdn hcu hv;have mono: ∀{av:AV} {v:Value},R w j av v->R w' j av v:=fun hR=>hR.iy hev hI.cm.lt (.refl _ _);exact hn j v w' ⟨k1,z1,hI.toCore.step hok hmn him ho hall hev (fun k av h _=>⟨av,h,fun _=>mono⟩) (fun k av h=>⟨av,h,fun _ h1 h2=>⟨h1,mono h2⟩⟩) hv,ki,hI.len0,hI.ag,hk1,hdn,hcu⟩ hev
  by_cases hia:qu is i=true
  ·
   obtain⟨k,hkl,rfl⟩:=xN.1 hia;obtain⟨oa,hoa,hgd,hdst,_,hself,pA,XW⟩:=bD hch hkl;obtain rfl:o=oa:=by grind
   obtain⟨ob,hob,hact⟩:=hW.act k hkl;obtain rfl:o=ob:=by grind
   have hkk:k=k0:=by
    have h1:=hI.done k hkl;rw[h0] at h1;have h2:k0<=k:=ai;rcases Nat.lt_or_ge k0 k with h3|h3
    ·have h4:=hI.toCore.far hall (XW aa).1;have h5:=ll hch (a:=k-1) (b:=k) aa hkl;rw[qD hI.lsize (show lN is (k-1)<ops.length by omega),hI.done (k-1) aa] at h4;grind
    ·omega
   subst hkk;obtain⟨xs,hxs,hxa,hloc⟩:=hP.at_ _ (hW.fam 0 0 (Nat.zero_le _));have hr:Rel j0 ((⟨s.N,Zr is (V z) t1 k,Ts s.σ (V z) k,s.mv⟩:St).bQ (looks ops o)) j a w:=by
    refine⟨hI.defers,hI.fC,hI.size,fun q av hk=> ?_,hI.cm,hI.len0,hI.ag⟩;simp only[St.bQ,eM] at hk;split at hk
    ·rename_i hkl;exact RP (X:=fun k av=>k<s.N/\R w j av (a.tmps.getD k Go.undef)) (fun av h=>hI.toCore.late hok hmn hxs him ho hall hself pA ai h) hI.cur hk
    grind
   have hw:Region.wanted o (yielded ops.toArray a.tmps)=true:=C9;rw[if_pos hw];refine Q1 (hact z) hr fun v w' r' σ' h6 h7 h8 h11=> ?_;obtain⟨z',_,rfl,rfl⟩:=h11;refine step w' v (k+1) z' h6 h8 hkl (fun q hq=> ?_) (fun q d hq hd=> ?_) (fun q av hq hgt=> ?_)
   ·by_cases hqk:q=k
    ·simp_all
    ·rw[getD_set_ne true (fun h=>hqk (sV hch hq hkl h.symm)),hI.done q hq];grind
   ·obtain rfl:q=k:=by omega
    refine⟨hW.inN q d hkl hd,?_⟩;simp only[Act.put,hdst,hd];rw[iT (w:=w) (j:=j) (by rw[hI.size];exact hW.inN q d hkl hd),if_pos rfl];exact h7
   ·rw[←hxs,iG hok hmn him ho hq him (Nat.le_refl _),hxa _ hia] at hgt;split at hgt
    ·rename_i hlt;obtain rfl:AV.undef=av:=Option.some.inj hgt;exact⟨hlt,.undef _⟩
    grind
  ·
   have hia:qu is i=false:=ai;obtain⟨xs,hxs,hxa,hloc⟩:=hP.at_ _ (hW.fam z k0 hI.E1);have hL:=hloc i o him ho hia;have hrel:Rel j0 ((⟨s.N,(cD s (ops.take m) xs i).t,Ts s.σ (V z) k0,s.mv⟩:St).bQ (looks ops o)) j a w:=by
    refine⟨hI.defers,hI.fC,hI.size,fun k av hk=> ?_,hI.cm,hI.len0,hI.ag⟩;simp only[St.bQ,eM] at hk;split at hk
    ·rename_i hkl;exact hI.toCore.looks hok hmn hxs him ho h0 hall ai hk
    grind
   have hdn: ∀k,k<is.length->(listed.setIfInBounds i true).getD (lN is k) true=decide (k<k0):=by
    intro k hk;rw[getD_set_ne true (fun h=>by
     grind [xN]),hI.done k hk]
   have hcu: ∀(w':World) (v:Value),Ev j w j w'->∀k d,k+1=k0->Qy is k=some d->d<s.N/\R w' j ((V z).getD k (.undef,[])).1 ((a.put o.dst v).tmps.getD d Go.undef):=by
    intro w' v hev k d hk hd0;have h1:=hI.cur k d hk hd0;have hkl:k<is.length:=by have:=hI.E1;omega
    obtain⟨oa,hoa,_,hdst,hlt,_⟩:=bD hch hkl;have hne:o.dst≠some d:=fun hd=>Uo.2 (lN is k) oa _ hlt (fun h=>by
     grind [xN]) hoa hd ai
    rw[zl hne];exact⟨h1.1,h1.2.iy hev hI.cm.lt (.refl _ _)⟩
   have hval: ∀(w':World) (v:Value),R w' j (xs i) v->∀k av,o.dst=some k->get t1 k=some av->k<s.N/\R w' j av v:=by
    grind [iG]
   by_cases hw:Region.wanted o (yielded ops.toArray a.tmps)=true
   ·rw[if_pos hw];exact hL.run j0 j a w _ _ hrel hw fun w' v h1 h2 h3=>step w' v k0 z h1 h2 hI.E1 hdn (hcu w' v h2) (hval w' v h3)
   ·rw[if_neg hw];exact step w Go.undef k0 z hI.cm (.refl _ _) hI.E1 hdn (hcu w _ (.refl _ _)) (hval w _ (hL.skip j0 j a w hrel ai))
end
def IZ(P:Program)(ops:List Oper)(s:St)(t1:List (Nat×AV))(is:List (Nat×Option Nat))(V:Nat->List (AV×List aZ)):Nat->Prop
 |0=>True
 |k+1=>IZ P ops s t1 is V k/\(match mz ops (lN is k) with
  |some o=> ∀q,Vu P o ⟨s.N,Zr is (V q) t1 k,Ts s.σ (V q) k,s.mv⟩ fun r' σ'=> ∃q',(0<k->q'=q)/\r'=((V q').getD k (.undef,[])).1/\σ'=((V q').getD k (.undef,[])).2
  |none=>False)
theorem DJ{P ops s t1 is V} : ∀{n},IZ P ops s t1 is V n->
  ∀k,k<n->∃o,ops[lN is k]? =some o/\∀q,Vu P o ⟨s.N,Zr is (V q) t1 k,Ts s.σ (V q) k,s.mv⟩ fun r' σ'=> ∃q',(0<k->q'=q)/\r'=((V q').getD k (.undef,[])).1/\σ'=((V q').getD k (.undef,[])).2
 |0,_,k,hk=>by omega
 |n+1,h,k,hk=>by
  rcases Nat.lt_or_eq_of_le (Nat.le_of_lt_succ hk) with h1|h1
  ·exact DJ h.1 k h1
  ·subst h1;have h2:=h.2;grind [fo]
theorem Vg{P Q N t σ mv id ops}(m is V)(F:List aZ->Prop)(hm:P.follows .mixedOrders=true)(hok:(cO ops m&&Nat.ble m ops.length&&dh ops m is)=true){t1}
  (h1: ∀(σ':List aZ) (K:St->Prop),F σ'->(∀rG mv',K ⟨N,t1,rG,mv'⟩)->u2 P ops is (ops.take m) 0 ⟨N,t,σ',mv⟩ K)
  (hN: ∀k d,k<is.length->Qy is k=some d->d<N) (hF: ∀q k,k<=is.length->F (Ts σ (V q) k))
  (h2:IZ P ops ⟨N,t,σ,mv⟩ t1 is V is.length)
  (h3: ∀q,bz P false ops (ops.drop m) ⟨N,Zr is (V q) t1 is.length,Ts σ (V q) is.length,mv⟩ (Q .normal)):cV P (.region id ops.toArray true) Q ⟨N,t,σ,mv⟩:=by
 intro j0 j a w hr;simp only[Bool.and_eq_true,Nat.ble_eq] at hok;obtain⟨⟨hok,hmn⟩,hch⟩:=hok;have hP:acK P F ⟨N,t,σ,mv⟩ ops m is t1:=⟨fun σ' agS=>by
  have h:=h1 σ' (fun s'=>s'.t=t1) agS (fun _ _=>rfl);have hlen:(ops.take m).length=m:=ai;obtain⟨xs,hK,hia,hloc⟩:=Rl h;have hext:=mV ⟨N,t,σ,mv⟩ σ' (ops.take m) xs;grind⟩
 have hr':Rel j0 ⟨N,t,σ,mv⟩ j a w.drew:=hr.after (eA j w) hr.cm.drew (Nat.le_refl _) (.refl _ []);have hW:afW P F ops is V ⟨N,t,σ,mv⟩ t1:=⟨fun k hk=>DJ h2 k hk,hF,hN⟩;refine wpIn_region_any hm (ada hok hmn hch hW hP h3 _ j a w.drew _ ?_ ⟨0,0,.start hmn hr' fun _ _ _=>trivial,hr'.cm,hr'.len0,hr'.ag,Nat.zero_le _,fun k hk=> ?_,fun k d hk=>aa⟩ (eA j w))
 ·rw[qx];simp
 ·obtain⟨_,_,_,_,h4,_⟩:=bD hch hk;simp[show lN is k<ops.length by omega]
def Zh(P:Program)(all:List Oper)(is:List (Nat×Option Nat))(os:List Oper)(i:Nat)(K:St->Prop)(s:St):Prop:=u2 P all is os i s K
theorem UG(P all is i s K):u2 P all is [] i s K=K s:=rfl
theorem Qt(P all os is i o s K):u2 P all is (o::os) i s K=if qu is i then Zh P all is os (i+1) K (s.put o.dst .undef)
  else fE all s o fun gd g=>JK P true gd g o s (Zh P all is os (i+1) K):=rfl
theorem Pe(P all os is i K N t σ mv):Zh P all is os i K ⟨N,t,σ,mv⟩=u2 P all is os i ⟨N,t,σ,mv⟩ K:=rfl
attribute [go_sem ↓] UG Qt Pe Vu
attribute [go_sem] Pe qu Zr Ts Qy lN IZ
end Go.aI.Steps
namespace Go.aI
end Go.aI
namespace Go.aI.Pf
open Go.aI
open Go.aI.Mix (qq fV wm dh bD kN rW)
def Vt(P:Program)(o:Oper)(s:St)(K:AV->List aZ->List Nat->Prop):Prop:=
 match o.op with
 | .call c=>(match c.callee with
  | .builtin .append=>(match c.args.toList,c.argTypes.toList with
   |[x,y],[t,t']=>arg true s x fun x=>arg true s y fun y=>tK P s.σ t t' x y K
   |_,_=>False)
  | .value (.func f)=>args true s c.args.toList fun QQ=>CS P f QQ s.σ K
  |_=>False)
 |_=>False
theorem Q0{P all o s K}(h:Vt P o s K){j0 j a w next Q}
  (hr:Rel j0 (s.bQ (looks all o)) j a w) (hn: ∀v w' r σ' j' X,aQ w' j' σ'->R w' j' r v->Ev j w j' w'->Ag j j' X->j.length<=j'.length->K r σ' X->next (a.put o.dst v) w'):o.wpIn (FW j0.rd) 0 P a w next Q:=by
 have ki:aQ w j s.σ:=hr.cm;have mem: ∀x∈o.op.operands,∀t,x= .tmp t->t∈looks all o:=fun x hx t ht=>List.mem_append.2 (.inl (kW hx ht));unfold Vt at h;split at h
 ·rename_i c ho;split at h
  ·rename_i hb;split at h
   ·rename_i x y t t' hxy ht;have hx0:x∈o.op.operands:=by
     simp only[ho,Op.operands,Call.operands,Array.mem_append];right;have:x∈c.args.toList:=ai;grind
    have hy0:y∈o.op.operands:=by
     simp only[ho,Op.operands,Call.operands,Array.mem_append];right;have:y∈c.args.toList:=ai;grind
    rw[←a8 (mem x hx0)] at h;obtain⟨xa,h,hx⟩:=ar h;rw[←a8 (mem y hy0)] at h;obtain⟨ya,h,hy⟩:=ar h;obtain⟨v,w',j',r,σ',X,h1,h2,h3,h4,h5,h6,h7⟩:=o3 (P:=P) (ty:=o.type) ki h (hx rfl j0 j a w hr) (hy rfl j0 j a w hr);have hrun:(execOp a.eval o).run P w= .ok (.value v) w':=by
     have e1:c.args.map a.eval= #[a.eval x,a.eval y]:=by
      have:c.args= #[x,y]:=ai;grind
     have e2:c.argTypes= #[t,t']:=ai;simp_all [execOp,resolve,invoke,builtin]
    refine oX ai hrun ?_;exact hn v w' r σ' j' X h2 h3 h4 h6 h5 h7
   grind
  ·rename_i f adA;have hmem: ∀x∈c.args.toList,∀t,x= .tmp t->t∈looks all o:=fun x hx t ht=>List.mem_append.2 (.inl (kW (by
    grind [Op.operands,Call.operands]) ht))
   rw[←oc (L:=looks all o) hmem] at h;obtain⟨QQ,hcs,hl,ha⟩:=hJ h;have hen:=hcs.1;refine oX ai (yr (P:=P) (w:=w) ho adA (a:=a) (f:= .func f) rfl hen) ?_;refine⟨by simp[FW],s9 ?_⟩;have hrs:=tj (g:=true) rfl hl ha hr;have e:(c.args.toList.map a.eval).toArray=c.args.map a.eval:=ai;rw[e] at hrs;have e2:(#[]:Array Value)++c.args.map a.eval++ #[]=c.args.map a.eval:=an;rw[e2];refine(hcs.2 j w _ ki hrs).mono ?_;grind
  grind
 grind
def HP(X:List Nat)(t1:List (Nat×AV))(d:Tmp):List (Nat×AV)->Prop
 |[]=>True
 |(k,av)::t=>(k=d\/match get t1 k with
  |some av0=>av= .undef\/(av=av0/\av.avoids X=true)
  |none=>False)/\HP X t1 d t
theorem HO{X t1 d} : ∀{t},HP X t1 d t->∀k av,get t k=some av->k≠d->∃av0,get t1 k=some av0/\(av= .undef\/(av=av0/\av.avoids X=true))
 |[],_,k,av,h,_=>by grind [get]
 |(q,u)::t,hl,k,av,h,hk=>by
  simp only[get] at h;split at h
  ·rename_i e;obtain rfl:=Nat.eq_of_beq_eq_true e;obtain rfl:=Option.some.inj h;rcases hl.1 with h1|h1;all_goals grind
  ·exact HO hl.2 k av h hk
structure Two where
 t1:List (Nat×AV)
 t2:List (Nat×AV)
 σ':List aZ
 X:List Nat
def Two.cm(z:Two)(s:St)(b:Bool):List aZ:=if b then z.σ' else s.σ
def Two.tp(z:Two)(b:Bool):List (Nat×AV):=if b then z.t2 else z.t1
def Two.ti(z:Two)(s:St)(b:Bool):List (Nat×AV):=if b then cq z.X s.t else s.t
def Two.mv(z:Two)(s:St)(b:Bool):List Nat:=if b then s.mv++z.X else s.mv
structure afY(s:St)(ops:List Oper)(m ia:Nat)(z:Two)(j0:J0)(listed:Array Bool)(j:Js)(a:Act)(w:World):Prop extends Core s.N (z.ti s (listed.getD ia false)) (z.tp (listed.getD ia false)) (fun _=>True) ops m j0 listed j a w where
 cm:aQ w j (z.cm s (listed.getD ia false))
 len0:j0.js.length<=j.length
 ag:Ag j0.js j (z.mv s (listed.getD ia false))
theorem TN{X t k av}(h:get (cq X t) k=some av):get t k=some av/\av.avoids X=true:=by
 induction t with
 |nil=>grind [cq,get]
 |cons x t ih=>
  obtain⟨q,u⟩:=x;simp only[cq] at h;split at h
  ·grind [get]
  simp_all [tC,get]
section
variable {P : Program} {ops : List Oper} {m ia : Nat}
structure acI(P:Program)(s:St)(ops:List Oper)(m ia:Nat)(z:Two)(r:AV)(sk:List Nat):Prop where
 at_: ∀b:Bool,∃xs:Nat->AV,(cD ⟨s.N,z.ti s b,z.cm s b,z.mv s b⟩ (ops.take m) xs m).t=z.tp b/\(b=true->xs ia=r)/\
  ∀i o,i<m->ops[i]? =some o->i≠ia->(b=true->qq sk i=false)->Local P ops o ⟨s.N,(cD ⟨s.N,z.ti s b,z.cm s b,z.mv s b⟩ (ops.take m) xs i).t,z.cm s b,z.mv s b⟩ (xs i)
structure ahm(P:Program)(ops:List Oper)(m ia:Nat)(s:St)(z:Two)(d:Tmp)(r:AV)(sk:List Nat):Prop where
 al: ∃oa,ops[ia]? =some oa/\Vt P oa ⟨s.N,z.t1,s.σ,s.mv⟩ fun r' σ' X=>r'=r/\σ'=z.σ'/\X=z.X
 link:HP z.X z.t1 d z.t2
 inN:d<s.N
 res:get z.t2 d=some r
theorem ac7(hok:cO ops m=true)(hmn:m<=ops.length){d:Tmp}{sk}(hch:dh ops m [(ia,some d)]=true)(hsk:kN ops m [(ia,some d)] [sk]=true){Q j0 j1 w1 s z r}
  (hW:ahm P ops m ia s z d r sk) (hP:acI P s ops m ia z r sk)
  (hK:bz P false ops (ops.drop m) ⟨s.N,z.t2,z.σ',s.mv++z.X⟩ (Q .normal)):
  ∀fuel j a w listed,left listed ops.length=fuel->afY s ops m ia z j0 listed j a w->Ev j1 w1 j w->wpAnyIn (FW j0.rd) 0 P .any ops.toArray (u6 j0 j1 w1 Q) fuel listed a w:=by
 obtain⟨oa,afi,hgd,acd,hlt0,hself,pA,_⟩:=bD hch (k:=0) an;have hoa:ops[ia]? =some oa:=afi;have hlt:ia<m:=hlt0;have hdst:oa.dst=some d:=acd;clear afi hlt0 acd;refine JG hok hmn (afY s ops m ia z j0) (fun hI=>⟨_,_,_,_,hI.toCore⟩) ?_ ?_
 ·intro listed j a w hI hdone;have hia:listed.getD ia false=true:=by rw[qD hI.lsize aa];grind
  have h1:=hI.cm;have h2:=hI.ag;have hC:=hI.toCore;rw[hia] at h1 h2 hC;obtain⟨xs,hxs,_,_⟩:=hP.at_ true;exact⟨⟨s.N,z.t2,z.σ',s.mv++z.X⟩,⟨hI.defers,hI.fC,hI.size,fun k av hk=>hC.done hxs hdone hk,h1,hI.len0,h2⟩,hK⟩
 ·intro listed j a w i o next hI him ho h0 hall hn
  have hil:i<ops.length:=aa;have Un:i<listed.size:=ai;by_cases hia:i=ia
  ·
   subst hia;obtain⟨ob,hob,hact⟩:=hW.al;obtain rfl:o=oa:=by grind
   obtain rfl:o=ob:=by grind
   have hnl:listed.getD i false=false:=ai;have g1:=hI.cm;have g2:=hI.ag;have hC:=hI.toCore;rw[hnl] at g1 g2 hC;obtain⟨xs,hxs,_,_⟩:=hP.at_ false;have hr:Rel j0 ((⟨s.N,z.t1,s.σ,s.mv⟩:St).bQ (looks ops o)) j a w:=by
    refine⟨hI.defers,hI.fC,hI.size,fun k av hk=> ?_,g1,hI.len0,g2⟩;simp only[St.bQ,eM] at hk;split at hk
    ·rename_i hkl;exact hC.late hok hmn hxs him ho hall hself pA ai hk
    grind
   have hw:Region.wanted o (yielded ops.toArray a.tmps)=true:=C9;rw[if_pos hw];refine Q0 hact hr fun v w' r' σ' j' X h6 h7 h8 h9 h10 h11=> ?_;obtain⟨rfl,rfl,rfl⟩:=h11;have mono: ∀{av:AV} {x:Value},R w j av x->av.avoids z.X=true->R w' j' av x:=fun hR ha=>hR.mono h8 hI.cm.lt h9 ha;have hli:(listed.setIfInBounds i true).getD i false=true:=by simp[Un]
   refine hn j' v w' ⟨?_,by rw[hli];exact h6,Nat.le_trans hI.len0 h10,?_⟩ h8
   ·rw[hli];refine hC.step hok hmn him ho hall h8 (fun k av hk hne=> ?_) (fun k av hk=> ?_) (fun k av hk hgt=> ?_)
    ·obtain⟨av0,k1,k2⟩:=HO hW.link k av hk (fun h=>hne ai);refine⟨av0,k1,fun x hx=> ?_⟩;rcases k2 with rfl|⟨rfl,k2⟩
     ·exact .undef _
     grind
    ·obtain⟨k1,k2⟩:=TN (X:=z.X) (t:=s.t) hk;exact⟨av,k1,fun x h1 h2=>⟨h1,mono h2 k2⟩⟩
    ·rw[hdst] at hk;obtain rfl:=Option.some.inj hk;have hk2:get z.t2 d=some av:=hgt;rw[hW.res] at hk2;obtain rfl:=Option.some.inj hk2;exact⟨hW.inN,h7⟩
   ·rw[hli];intro b hb hn;have hn':b∉s.mv/\b∉z.X:=by grind [Two.mv]
    rw[h9 b (by have:=hI.len0;omega) hn'.2];exact g2 b hb hn'.1
  ·
   have hbe:(listed.setIfInBounds i true).getD ia false=listed.getD ia false:=aP;obtain⟨xs,hxs,hxa,hloc⟩:=hP.at_ (listed.getD ia false);have hns:listed.getD ia false=true->qq sk i=false:=by
    intro hl;rw[←Bool.not_eq_true];intro hs;obtain⟨ob,hob,_,hd⟩:=rW hsk (k:=0) an hs;have:=hI.toCore.far (fun e he1 he2=>hI.cl ia ob hlt hob ai e he1 he2) hd;grind
   have hL:=hloc i o him ho hia hns;have hrel:Rel j0 ((⟨s.N,(cD ⟨s.N,z.ti s (listed.getD ia false),z.cm s (listed.getD ia false),z.mv s (listed.getD ia false)⟩ (ops.take m) xs i).t,z.cm s (listed.getD ia false),z.mv s (listed.getD ia false)⟩:St).bQ (looks ops o)) j a w:=by
    refine⟨hI.defers,hI.fC,hI.size,fun k av hk=> ?_,hI.cm,hI.len0,hI.ag⟩;simp only[St.bQ,eM] at hk;split at hk
    ·rename_i hkl;exact hI.toCore.looks hok hmn hxs him ho h0 hall ai hk
    grind
   have hval: ∀(w':World) (v:Value),R w' j (xs i) v->∀k av,o.dst=some k->get (z.tp (listed.getD ia false)) k=some av->k<s.N/\R w' j av v:=by
    grind [iG]
   have step: ∀(w':World) (v:Value),aQ w' j (z.cm s (listed.getD ia false))->Ev j w j w'->(∀k av,o.dst=some k->get (z.tp (listed.getD ia false)) k=some av->k<s.N/\R w' j av v)->next (a.put o.dst v) w':=by
    intro w' v ki hev hv;have mono: ∀{av:AV} {v:Value},R w j av v->R w' j av v:=fun hR=>hR.iy hev hI.cm.lt (.refl _ _);exact hn j v w' ⟨by rw[hbe];exact hI.toCore.step hok hmn him ho hall hev (fun k av h _=>⟨av,h,fun _=>mono⟩) (fun k av h=>⟨av,h,fun _ h1 h2=>⟨h1,mono h2⟩⟩) hv,ai,hI.len0,by rw[hbe];exact hI.ag⟩ hev
   by_cases hw:Region.wanted o (yielded ops.toArray a.tmps)=true
   ·rw[if_pos hw];exact hL.run j0 j a w _ _ hrel hw fun w' v h1 h2 h3=>step w' v h1 h2 (hval w' v h3)
   ·rw[if_neg hw];exact step w Go.undef hI.cm (.refl _ _) (hval w _ (hL.skip j0 j a w hrel ai))
end
theorem abo{P:Program}{Q:Exit->St->Prop}{N:Nat}{t:List (Nat×AV)}{σ:List aZ}{mv:List Nat}{id:Nat}{ops:List Oper}(m ia d:Nat)(r:AV)(σ':List aZ)(X:List Nat)(sk:List Nat)(hm:P.follows .mixedOrders=true)(hok:(cO ops m&&Nat.ble m ops.length&&(dh ops m [(ia,some d)]&&kN ops m [(ia,some d)] [sk]))=true){t1 t2:List (Nat×AV)}
  (h1: ∀K:St->Prop,(∀σ' mv',K ⟨N,t1,σ',mv'⟩)->fV P ops [(ia,r)] [] [] (ops.take m) 0 ⟨N,t,σ,mv⟩ K)
  (hN:d<N)
  (h2:match mz ops ia with
   |some oa=>Vt P oa ⟨N,t1,σ,mv⟩ fun r0 kp X0=>r0=r/\kp=σ'/\X0=X
   |none=>False)
  (h4: ∀K:St->Prop,(∀σ' mv',K ⟨N,t2,σ',mv'⟩)->fV P ops [(ia,r)] sk (cq X t1) (ops.take m) 0 ⟨N,cq X t,σ',mv++X⟩ K)
  (h5:HP X t1 d t2/\get t2 d=some r)
  (h3:bz P false ops (ops.drop m) ⟨N,t2,σ',mv++X⟩ (Q .normal)):cV P (.region id ops.toArray true) Q ⟨N,t,σ,mv⟩:=by
 intro j0 j a w hr;simp only[Bool.and_eq_true,Nat.ble_eq] at hok;obtain⟨⟨hok,hmn⟩,hch,hsk⟩:=hok;obtain⟨oa,hoa,_,_,hlt,_⟩:=bD hch (k:=0) an;have hoa:ops[ia]? =some oa:=hoa;have hlt:ia<m:=hlt;rw[fo,hoa] at h2;have mk: ∀(b:Bool) (r0:AV) (sk0:List Nat) (t0:List (Nat×AV)),(b=true->r0=r/\sk0=sk)->(b=false->sk0=[])->(∀K:St->Prop,(∀kp mv',K ⟨N,(⟨t1,t2,σ',X⟩:Two).tp b,kp,mv'⟩)->fV P ops [(ia,r0)] sk0 t0 (ops.take m) 0 ⟨N,(⟨t1,t2,σ',X⟩:Two).ti ⟨N,t,σ,mv⟩ b,(⟨t1,t2,σ',X⟩:Two).cm ⟨N,t,σ,mv⟩ b,(⟨t1,t2,σ',X⟩:Two).mv ⟨N,t,σ,mv⟩ b⟩ K)->
   ∃xs:Nat->AV,(cD ⟨N,(⟨t1,t2,σ',X⟩:Two).ti ⟨N,t,σ,mv⟩ b,(⟨t1,t2,σ',X⟩:Two).cm ⟨N,t,σ,mv⟩ b,(⟨t1,t2,σ',X⟩:Two).mv ⟨N,t,σ,mv⟩ b⟩ (ops.take m) xs m).t=(⟨t1,t2,σ',X⟩:Two).tp b/\(b=true->xs ia=r)/\
    ∀i o,i<m->ops[i]? =some o->i≠ia->(b=true->qq sk i=false)->Local P ops o ⟨N,(cD ⟨N,(⟨t1,t2,σ',X⟩:Two).ti ⟨N,t,σ,mv⟩ b,(⟨t1,t2,σ',X⟩:Two).cm ⟨N,t,σ,mv⟩ b,(⟨t1,t2,σ',X⟩:Two).mv ⟨N,t,σ,mv⟩ b⟩ (ops.take m) xs i).t,(⟨t1,t2,σ',X⟩:Two).cm ⟨N,t,σ,mv⟩ b,(⟨t1,t2,σ',X⟩:Two).mv ⟨N,t,σ,mv⟩ b⟩ (xs i):=by
  intro b r0 sk0 t0 hb hb0 h;have h:=h (fun s'=>s'.t=(⟨t1,t2,σ',X⟩:Two).tp b) (fun _ _=>rfl);have hlen:(ops.take m).length=m:=ai;obtain⟨xs,hK,hia,hloc⟩:=wm h;refine⟨xs,ai,fun hb1=>(hia ia r0 (by simp[aI.get])).trans (hb hb1).1,fun i o him ho hne hsk=> ?_⟩;have h3:=hloc i o ai (by simp[aI.get,show ¬ia=i from fun h=>hne h.symm]) (by
   rw[Nat.zero_add];cases b with
   |true=>grind
   |false=>rw[hb0 rfl];rfl)
  have hext:=Steps.mV ⟨N,(⟨t1,t2,σ',X⟩:Two).ti ⟨N,t,σ,mv⟩ b,(⟨t1,t2,σ',X⟩:Two).cm ⟨N,t,σ,mv⟩ b,(⟨t1,t2,σ',X⟩:Two).mv ⟨N,t,σ,mv⟩ b⟩ ((⟨t1,t2,σ',X⟩:Two).cm ⟨N,t,σ,mv⟩ b) (ops.take m) xs i;grind
 have hP:acI P ⟨N,t,σ,mv⟩ ops m ia ⟨t1,t2,σ',X⟩ r sk:=⟨fun b=>by
  cases b with
  |false=>exact mk false r [] [] (fun h=>by cases h) (fun _=>rfl) (fun K hK=>h1 K hK)
  |true=>exact mk true r sk (cq X t1) (fun _=>⟨rfl,rfl⟩) (fun h=>by cases h) (fun K hK=>h4 K hK)⟩
 have hr':Rel j0 ⟨N,t,σ,mv⟩ j a w.drew:=hr.after (eA j w) hr.cm.drew (Nat.le_refl _) (.refl _ []);have hfi:(Array.replicate ops.toArray.size false).getD ia false=false:=by simp[show ia<ops.length by omega]
 refine wpIn_region_any hm (ac7 hok hmn hch hsk ⟨⟨oa,hoa,h2⟩,h5.1,hN,h5.2⟩ hP h3 _ j a w.drew _ ?_ ⟨by rw[hfi];exact .start hmn hr' fun _ _ _=>trivial,by rw[hfi];exact hr'.cm,hr'.len0,by rw[hfi];exact hr'.ag⟩ (eA j w));rw[qx];simp
theorem gZ{P:Program}{Q:Exit->St->Prop}{N:Nat}{t:List (Nat×AV)}{σ:List aZ}{mv:List Nat}{id:Nat}{ops:List Oper}(m ia d:Nat)(r:AV)(σ':List aZ)(X:List Nat)(sk:List Nat)(hm:P.follows .mixedOrders=true)(hok:(cO ops m&&Nat.ble m ops.length&&(dh ops m [(ia,some d)]&&kN ops m [(ia,some d)] [sk]))=true){t1 t2:List (Nat×AV)}
  (h1: ∀K:St->Prop,(∀σ' mv',K ⟨N,t1,σ',mv'⟩)->fV P ops [(ia,r)] [] [] (ops.take m) 0 ⟨N,t,σ,mv⟩ K)
  (hN:d<N)
  (h2:match mz ops ia with
   |some oa=>Vt P oa ⟨N,t1,σ,mv⟩ fun r0 kp X0=>r0=r/\kp=σ'/\X0=X
   |none=>False)
  (h4: ∀K:St->Prop,(∀σ' mv',K ⟨N,t2,σ',mv'⟩)->fV P ops [(ia,r)] sk (cq X t1) (ops.take m) 0 ⟨N,cq X t,σ',mv++X⟩ K)
  (h5:HP X t1 d t2/\get t2 d=some r)
  (h3: ∀K:St->Prop,(∀s',Q .normal s'->K s')->bz P false ops (ops.drop m) ⟨N,t2,σ',mv++X⟩ K):cV P (.region id ops.toArray true) Q ⟨N,t,σ,mv⟩:=
 abo m ia d r σ' X sk hm hok h1 hN h2 h4 h5 (h3 _ fun s' h=>h)
attribute [go_sem ↓] Vt
attribute [go_sem] HP
end Go.aI.Pf
