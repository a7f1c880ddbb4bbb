/- Lemmas, no conditions. -/
import Derived.Test.YthpplckmbbachaaGreatDoorKB1
import Derived.Laws.StructEq
import Derived.Lib.AppendZerosOnto
import Derived.Laws.BytesArg
import Derived.Lib.ConvBytes
set_option linter.unusedVariables false
set_option linter.unusedSimpArgs false
namespace Go.aI
def St.put(s:St)(dst:Option Tmp)(av:AV):St:=
 match dst with
 |none=>s
 |some d=>if Nat.blt d s.N then { s with t:=aI.put s.t d av } else { s with t:=aI.del s.t d }
def St.del(s:St)(dst:Option Tmp):St:=
 match dst with
 |none=>s
 |some d=> { s with t:=aI.del s.t d }
theorem sZ{m k:Nat}(h:m≠k):Nat.beq m k=false:=by
 grind [Nat.eq_of_beq_eq_true]
theorem iT{w:World}{j:Js}{tm:Array Value}{d k v}(hd:d<tm.size):
  (tm.setIfInBounds d v).getD k Go.undef=if d=k then v else tm.getD k Go.undef:=by
 simp only[Array.getD_eq_getD_getElem?,Array.getElem?_setIfInBounds];grind
theorem Rel.put{j0 j s a w}(h:Rel j0 s j a w)(dst){av v}(hr:R w j av v):Rel j0 (s.put dst av) j (a.put dst v) w:=by
 cases dst with
 |none=>exact h
 |some d=>
  simp only[St.put,Act.put];by_cases hd:d<s.N
  ·rw[if_pos aP];refine⟨h.defers,h.fC,by simpa using h.size,fun k K0 hk=> ?_,h.cm,h.len0,h.ag⟩;simp only at hk⊢;rw[get_put] at hk;rw[iT (w:=w) (j:=j) (by rw[h.size];exact hd)];by_cases hkd:d=k
   ·grind
   ·rw[if_neg hkd] at hk⊢;exact h.tmp k K0 hk
  ·rw[if_neg aP];refine⟨h.defers,h.fC,by simpa using h.size,fun k K0 hk=> ?_,h.cm,h.len0,h.ag⟩;simp only at hk⊢;rw[tC] at hk;by_cases hkd:d=k
   ·grind
   ·simp[hkd] at hk;have hz:a.tmps.setIfInBounds d v=a.tmps:=by
     apply Array.setIfInBounds_eq_of_size_le;rw[h.size];grind
    rw[hz];exact h.tmp k K0 hk
theorem Rel.del{j0 j s a w}(h:Rel j0 s j a w)(dst v):Rel j0 (s.del dst) j (a.put dst v) w:=by
 cases dst with
 |none=>exact h
 |some d=>
  simp only[St.del,Act.put];refine⟨h.defers,h.fC,by simpa using h.size,fun k K0 hk=> ?_,h.cm,h.len0,h.ag⟩;simp only at hk⊢;rw[tC] at hk;by_cases hkd:d=k
  ·grind
  ·simp[hkd] at hk;have:=h.tmp k K0 hk;simp_all
def cq(X:List Nat)(t:List (Nat×AV)):List (Nat×AV):=
 match t with
 |[]=>[]
 |(k,v)::t=>if v.avoids X then(k,v)::cq X t else aI.del (cq X t) k
theorem rX{X} : ∀{t k av},get (cq X t) k=some av->get t k=some av/\av.avoids X=true
 |[],_,_,h=>by grind [cq,get]
 |(q,u)::t,k,av,h=>by
  have ih:=rX (X:=X) (t:=t) (k:=k) (av:=av);grind [cq,get,sZ,tC]
theorem get_mem: ∀{t k av},get t k=some av->(k,av)∈t
 |[],_,_,h=>by grind [get]
 |(q,u)::t,k,av,h=>by
  simp only[get] at h;by_cases hq:q=k
  ·simp_all
  ·simp only[sZ hq,Bool.false_eq_true,if_false] at h;exact List.mem_cons_of_mem _ (get_mem h)
theorem Ki: ∀{t k p},p∈aI.del t k->p∈t
 |[],_,_,h=>by grind [aI.del]
 |(q,u)::t,k,p,h=>by
  simp only[aI.del] at h;split at h
  ·exact List.mem_cons_of_mem _ (Ki h)
  ·rcases List.mem_cons.1 h with h|h
   ·grind
   ·exact List.mem_cons_of_mem _ (Ki h)
theorem mX{X} : ∀{t k av},(k,av)∈cq X t->(k,av)∈t/\av.avoids X=true
 |[],_,_,h=>by grind [cq]
 |(q,u)::t,k,av,h=>by
  simp only[cq] at h;by_cases hu:u.avoids X=true
  ·rw[if_pos hu] at h;rcases List.mem_cons.1 h with h|h
   ·grind
   ·have:=mX h;grind
  ·rw[if_neg hu] at h;have:=mX (Ki h);grind
theorem yS{X} : ∀{t},(∀k av,(k,av)∈t->av.avoids X=true)->cq X t=t
 |[],_=>rfl
 |(q,u)::t,h=>by
  simp only[cq];rw[if_pos (h q u an),yS fun k av hk=>h k av (List.mem_cons_of_mem _ hk)]
def St.after(s:St)(σ:List aZ)(X:List Nat):St:=
 match X with
 |[]=> { s with σ:=σ }
 |X=> { s with σ:=σ,t:=cq X s.t,mv:=s.mv++X }
theorem Ag.trans{j j1 j2 X Y}(h:Ag j j1 X)(hl:j.length<=j1.length)(k:Ag j1 j2 Y):Ag j j2 (X++Y):=by
 intro b hb hn;simp at hn;rw[k b (Nat.lt_of_lt_of_le hb hl) hn.2,h b hb hn.1]
theorem Rel.after{j0 j j' s a w w' σ X}(h:Rel j0 s j a w)(he:Ev j w j' w')(hs:aQ w' j' σ)(hl:j.length<=j'.length)(hag:Ag j j' X):Rel j0 (s.after σ X) j' a w':=by
 have hmv:Ag j0.js j' (s.mv++X):=h.ag.trans h.len0 hag;unfold St.after;split
 ·refine⟨h.defers.mono he,h.abT he,h.size,fun k av hk=> ?_,hs,Nat.le_trans h.len0 hl,ai⟩;have:=h.tmp k av hk;refine⟨this.1,this.2.mono he h.cm.lt hag ?_⟩;exact vQ av
 ·refine⟨h.defers.mono he,h.abT he,h.size,fun k av hk=> ?_,hs,Nat.le_trans h.len0 hl,hmv⟩;have hk':=rX hk;have:=h.tmp k av hk'.1;exact⟨this.1,this.2.mono he h.cm.lt hag hk'.2⟩
where
 vQ: ∀av:AV,av.avoids []=true:=by
  intro av;induction av using AV.rec (motive_2:=fun l=>cH [] l=true)<;>simp_all [AV.avoids,cH]
def qT(K:St->Prop)(Q:Exit->St->Prop):Exit->St->Prop
 | .normal,s=>K s
 |e,s=>Q e s
def nI(id:Nat)(Q:Exit->St->Prop):Exit->St->Prop
 | .exit id',s=>if Nat.beq id' id then Q .normal s else Q (.exit id') s
 |e,s=>Q e s
section
variable {P : Program} {Q : Exit -> St -> Prop} {s : St}
theorem cV.mono{c Q'}(h:cV P c Q s)(hq: ∀e s,Q e s->Q' e s):cV P c Q' s:=
 fun j0 j a w hr=>wpIn_mono (h j0 j a w hr) fun _ _ _ ⟨s',j',h1,h2,h3⟩=>⟨s',j',h1,h2,hq _ _ h3⟩
theorem aJ(h:Q .normal s):cV P .skip Q s:=fun j0 j a w hr=>wpIn_skip ⟨s,j,hr,.refl _ _,h⟩
theorem Vj{l}(h:Q .normal s):cV P (.label l) Q s:=fun j0 j a w hr=>wpIn_label ⟨s,j,hr,.refl _ _,h⟩
theorem af(h:Q .ret s):cV P .ret Q s:=fun j0 j a w hr=>wpIn_ret ⟨s,j,hr,.refl _ _,h⟩
theorem bN{id}(h:Q (.exit id) s):cV P (.exit id) Q s:=fun j0 j a w hr=>wpIn_exit ⟨s,j,hr,.refl _ _,h⟩
theorem aq{x y}(h:cV P x (qT (cV P y Q) Q) s):cV P (.seq x y) Q s:=by
 intro j0 j a w hr;refine wpIn_seq (wpIn_mono (h j0 j a w hr) ?_);rintro e a' w' ⟨s',j',hr',hev,hq⟩;cases e with
 |normal=>
  refine wpIn_mono (hq j0 j' a' w' hr') ?_;rintro e a'' w'' ⟨s'',Qd,h1,h2,h3⟩;exact⟨s'',Qd,h1,hev.trans h2,h3⟩
 |exit id=>exact⟨s',j',hr',hev,hq⟩
 |goto l=>exact⟨s',j',hr',hev,hq⟩
 |ret=>exact⟨s',j',hr',hev,hq⟩
 |panic c=>exact⟨s',j',hr',hev,hq⟩
 |outgrown=>exact⟨s',j',hr',hev,hq⟩
theorem aB{id c}(h:cV P c (nI id Q) s):cV P (.block id c) Q s:=by
 intro j0 j a w hr;refine wpIn_block (wpIn_mono (h j0 j a w hr) ?_);rintro e a' w' ⟨s',j',hr',hev,hq⟩;cases e with
 |exit id'=>
  simp only[nI] at hq;simp only[Exit.inBlock];by_cases hid:id'=id
  ·subst hid;simp at hq⊢;exact⟨s',j',hr',hev,hq⟩
  ·simp[hid] at hq⊢;exact⟨s',j',hr',hev,hq⟩
 |normal=>exact⟨s',j',hr',hev,hq⟩
 |goto l=>exact⟨s',j',hr',hev,hq⟩
 |ret=>exact⟨s',j',hr',hev,hq⟩
 |panic c=>exact⟨s',j',hr',hev,hq⟩
 |outgrown=>exact⟨s',j',hr',hev,hq⟩
def Sub(s s':St):Prop:= ∀j0 j a w,Rel j0 s j a w->∃j',Rel j0 s' j' a w/\Ev j w j' w
theorem Sub.refl(s):Sub s s:=fun _ j _ _ h=>⟨j,h,.refl _ _⟩
theorem Sub.trans{s s' s''}(h:Sub s s')(k:Sub s' s''):Sub s s'':=fun j0 j a w hr=>
 let⟨j1,h1,e1⟩:=h j0 j a w hr
 let⟨j2,h2,e2⟩:=k j0 j1 a w h1
 ⟨j2,h2,e1.trans e2⟩
theorem fg{c s'}(hs:Sub s s')(h:cV P c Q s'):cV P c Q s:=by
 intro j0 j a w hr;obtain⟨j',hr',he⟩:=hs j0 j a w hr;exact wpIn_mono (h j0 j' a w hr') fun _ _ _ ⟨s'',Qd,h1,h2,h3⟩=>⟨s'',Qd,h1,he.trans h2,h3⟩
theorem yz{c}(h:cV P c (fun e s'=> ∃s'',Sub s' s''/\Q e s'') s):cV P c Q s:=by
 intro j0 j a w hr;refine wpIn_mono (h j0 j a w hr) ?_;rintro e a' w' ⟨s',j',hr',hev,s'',hsub,hq⟩;obtain⟨Qd,h1,h2⟩:=hsub _ _ _ _ hr';exact⟨s'',Qd,h1,hev.trans h2,hq⟩
end
def ofConst:Value->AV
 | .agg cs=> .agg (cs.toList.map fun c=> .d (.v c))
 |v=> .d (.v v)
def val(s:St):Operand->Option AV
 | .tmp t=>get s.t t
 | .const v=>some (ofConst v)
 | .func f=>some (.clo (.func f) [] [])
 | .global _=>none
theorem Iy(w j v):R w j (ofConst v) v:=by
 cases v with
 |agg cs=>
  refine .agg cs an fun k hk=> ?_;simp only[List.length_map,Array.length_toList] at hk;have h1:(cs.toList.map fun c=>AV.d (.v c)).getD k .undef=AV.d (.v (cs.getD k Go.undef)):=by
   simp_all
  rw[h1];exact .d (.v _)
 |_=>exact .d (.v _)
theorem v8{j0 j s a w}(h:Rel j0 s j a w){x av}(hv:val s x=some av):R w j av (a.eval x):=by
 cases x with
 |tmp t=>exact(h.tmp t av hv).2
 |const v=>simp only[val,Option.some.injEq] at hv;subst hv;exact Iy w j v
 |func f=>simp only[val,Option.some.injEq] at hv;subst hv;exact .clo #[] #[] rfl rfl an an
 |global g=>grind [val]
theorem s5{P Q s c x y b}(hc:val s c=some (.d (.v (.bool b))))(ht:b=true->cV P x Q s)(hf:b=false->cV P y Q s):cV P (.cond c x y) Q s:=by
 intro j0 j a w hr;have hv:=v8 hr hc;have hb:a.eval c= .bool b:=by
  generalize a.eval c=u at hv
  cases hv with|d h=>cases h;rfl
 refine wpIn_cond hb ?_;cases b with
 |true=>exact ht rfl j0 j a w hr
 |false=>exact hf rfl j0 j a w hr
def HY:List AV->Nat->List (Nat×AV)
 |[],_=>[]
 |x::xs,k=>(k,x)::HY xs (k+1)
theorem H0: ∀args m k,get (HY args m) k=if m<=k/\k<m+args.length then some (args.getD (k-m) .undef) else none
 |[],m,k=>by simp[HY,get]
 |x::xs,m,k=>by
  simp only[HY,get,H0 xs (m+1) k,List.length_cons];by_cases h:m=k
  ·simp_all
  grind [sZ]
def St.init(N:Nat)(args:List AV)(σ:List aZ):St:= { N:=N,t:=HY args 0,σ:=σ,mv:=[] }
def cellsOf:AV->List AV
 | .agg cs=>cs
 |x=>[x]
def eH(P:Program)(t:TypeId):Option (Bool×Nat):=
 match P.underlying t,P.info? t with
 |some (.struct _),some i=>some (true,i.size)
 |some (.array _ _),some i=>some (true,i.size)
 |some _,some i=>some (false,i.size)
 |_,_=>none
theorem ta{P t b m}(h:eH P t=some (b,m))(w):(isAgg t).run P w= .ok b w:=by
 unfold eH at h;simp only[isAgg,underlying];split at h<;>simp_all
theorem p9{P t b m}(h:eH P t=some (b,m))(w):(sizeOf t).run P w= .ok m w:=by
 unfold eH at h;simp only[Go.sizeOf,typeInfo];split at h<;>simp_all
def oT(σ:List aZ)(m:Nat):AV->Option (Prop×List AV)
 | .ptr b off=>match σ[b]? with
  |some (.var cs)=>if Nat.ble (off+m) cs.length then some (True,(cs.drop off).take m) else none
  |_=>none
 | .pe b sz i k=>match σ[b]? with
  |some (.arr sz' n row)=>if Nat.beq sz sz'&&Nat.ble (k+m) sz then some (i<n,(((row i).drop k).take m).map .d) else none
  |_=>none
 | .el cs=>if Nat.ble m cs.length then some (True,(cs.take m).map .d) else none
 | .op b cs=>if Nat.ble m cs.length then some (b=true,(cs.take m).map .d) else none
 |_=>none
theorem da(a:Addr)(ha:a.spot=none)(n):a.add n=⟨a.block,a.off+n,none⟩:=by
 cases a<;>grind [Addr.add]
theorem cell_of{w:World}{cb C e f}(h:w.heap[cb]? =some (.cells C e f))(o):w.cell? ⟨cb,o,none⟩=C[o]? :=by
 simp[World.cell?,h]
theorem JA{w j σ}(hs:aQ w j σ){m av v}(hr:R w j av v){side l}(hl:oT σ m av=some (side,l))(hside:side):
  l.length=m/\∃a,v= .pointer (some a)/\a.spot=none/\∃f:Nat->Value,∀k,k<m->w.cell? (a.add k)=some (f k)/\R w j (l.getD k .undef) (f k):=by
 cases hr with
 | @ptr b off cb h=>
  simp only[oT] at hl;split at hl
  ·rename_i cs hb;split at hl<;>simp at hl;rename_i hm;obtain⟨hl1,hl2⟩:=hl;subst hl2;simp only[Nat.ble_eq] at hm;obtain⟨o,ho,hB⟩:=hs.blk b _ hb;rw[h] at ho;cases ho
   obtain⟨C,e,hC,hsz,hrel⟩:=hB;refine⟨ai,_,rfl,rfl,fun k=>C.getD (off+k) Go.undef,fun k hk=>⟨?_,?_⟩⟩
   ·rw[da _ rfl,cell_of hC];simp[Array.getD_eq_getD_getElem?,show off+k<C.size by omega]
   grind
  grind
 | @pe b sz i k cb h=>
  simp only[oT] at hl;split at hl
  ·rename_i sz' n row hb;split at hl<;>simp only[Option.some.injEq,Prod.mk.injEq,reduceCtorEq] at hl;rename_i hm;obtain⟨rfl,rfl⟩:=hl;simp only[Bool.and_eq_true,Nat.ble_eq] at hm;have hsz':=Nat.eq_of_beq_eq_true hm.1;subst hsz';obtain⟨o,ho,hB⟩:=hs.blk b _ hb;rw[h] at ho;cases ho
   obtain⟨C,e,⟨f,hC,hf'⟩,hcs,hrel⟩:=hB;have hf:=Or.imp_left And.left hf';have hri:=hrel i hside;have hbound:i*sz+sz<=n*sz:=by
    have:(i+1)*sz<=n*sz:=Nat.mul_le_mul_right _ hside;grind
   refine⟨ai,_,rfl,rfl,fun q=>C.getD (i*sz+(k+q)) Go.undef,fun q hq=>⟨?_,?_⟩⟩
   ·rw[da _ rfl,cell_of hC];simp[Array.getD_eq_getD_getElem?,show i*sz+(k+q)<C.size by omega,Nat.add_assoc]
   ·have:=hri.2 (k+q) aa;have hlen:=hri.1;have e1:((((row i).drop k).take m).map AV.d).getD q AV.undef=AV.d ((row i).getD (k+q) default):=by
     grind
    rw[e1];exact .d this
  grind
 | @el cs a val ha hlt hb hcell hrel=>
  simp only[oT] at hl;split at hl<;>simp only[Option.some.injEq,Prod.mk.injEq,reduceCtorEq] at hl;rename_i hm;obtain⟨rfl,rfl⟩:=hl;simp only[Nat.ble_eq] at hm;refine⟨ai,_,rfl,ha,val,fun k hk=>⟨?_,?_⟩⟩
  ·grind [da]
  ·have:=hrel k aa;have e1:((cs.take m).map AV.d).getD k AV.undef=AV.d (cs.getD k default):=by
    grind
   rw[e1];exact .d this
 | @op bb cs v hh h0=>
  simp only[oT] at hl;split at hl<;>simp only[Option.some.injEq,Prod.mk.injEq,reduceCtorEq] at hl;rename_i hm;obtain⟨hsd,rfl⟩:=hl;simp only[Nat.ble_eq] at hm;cases hh ai with
  |el a val ha hlt hb hcell hrel=>
  refine⟨ai,_,rfl,ha,val,fun k hk=>⟨?_,?_⟩⟩
  ·grind [da]
  ·have:=hrel k aa;have e1:((cs.take m).map AV.d).getD k AV.undef=AV.d (cs.getD k default):=by
    grind
   rw[e1];exact .d this
 |_=>simp[oT] at hl
def loaded(agg:Bool)(l:List AV):AV:=if agg then .agg l else l.headD .undef
theorem uW{P w j σ}(hs:aQ w j σ){t agg m}(ht:eH P t=some (agg,m))(hm:agg=false->m=1){av v}(hr:R w j av v){side l}(hl:oT σ m av=some (side,l))(hside:side):
  ∃a,v= .pointer (some a)/\∃u,(loadVar t a).run P w= .ok u w/\R w j (loaded agg l) u:=by
 obtain⟨hlen,a,rfl,ha,f,hf⟩:=JA hs hr hl hside;refine⟨a,rfl,?_⟩;cases agg with
 |true=>
  refine⟨.agg (Array.ofFn fun k:Fin m=>f k),?_,?_⟩
  ·have h1:=run_loadCells (P:=P) (w:=w) a m f (fun j hj=>(hf j hj).1);have h2:(List.map f (List.range m)).toArray=Array.ofFn fun k:Fin m=>f k:=by
    apply Array.ext<;>simp
   simp[loadVar,ta ht,p9 ht,h1,h2]
  ·refine .agg _ (by simp[hlen]) fun k hk=> ?_;simp_all
 |false=>
  have h1:=hm rfl;subst h1;have h0:=hf 0 aa;refine⟨f 0,?_,?_⟩
  ·have:a.add 0=a:=rfl;rw[this] at h0;simp[loadVar,ta ht,h0.1]
  ·have:loaded false l=l.getD 0 .undef:=by cases l<;>simp[loaded]
   grind
def WY(P:Program)(s:St):ResultVar->Option (Prop×AV)
 | .tmp t=>(get s.t t).map fun x=>(True,x)
 | .cell a t=>match get s.t a,eH P t with
  |some p,some (agg,m)=>if !agg&& !Nat.beq m 1 then none else(oT s.σ m p).map fun(side,l)=>(side,loaded agg l)
  |_,_=>none
def qW(P:Program)(s:St):List ResultVar->(List AV->Prop)->Prop
 |[],K=>K []
 |r::rs,K=>match WY P s r with
  |some (side,x)=>side/\qW P s rs fun xs=>K (x::xs)
  |none=>False
def BH:List AV->AV
 |[x]=>x
 |xs=> .cj xs
def D1(tm:Array Value):ResultVar->Sem Value
 | .tmp t=>pure (tm.getD t Go.undef)
 | .cell p t=>do loadVar t (←asAddr (tm.getD p Go.undef))
theorem PQ(fn:Func)(tm:Array Value):results fn tm=(do let vs←fn.results.mapM (D1 tm);pure (if h:vs.size=1 then vs[0] else .tuple vs)):=by
 have:(fun x:ResultVar=>match x with| .tmp t=>(pure (tm.getD t Go.undef):Sem Value)| .cell a t=>do loadVar t (←asAddr (tm.getD a Go.undef)))=D1 tm:=by
  funext x;cases x<;>rfl
 unfold results;rw[←this];rfl
theorem PR{P j0 j s a w}(h:Rel j0 s j a w){r side x}(hx:WY P s r=some (side,x))(hside:side):
  ∃v,(D1 a.tmps r).run P w= .ok v w/\R w j x v:=by
 cases r with
 |tmp t=>
  simp only[WY,Option.map_eq_some_iff] at hx;obtain⟨y,hy,he⟩:=hx;cases he
  exact⟨_,rfl,(h.tmp t _ hy).2⟩
 |cell p t=>
  simp only[WY] at hx;split at hx
  ·rename_i q agg m hq ht;split at hx
   ·grind
   ·rename_i hne;simp only[Option.map_eq_some_iff] at hx;obtain⟨⟨sd,l⟩,hl,he⟩:=hx;simp only[Prod.mk.injEq] at he;obtain⟨rfl,rfl⟩:=he;have hrel:=(h.tmp p _ hq).2;obtain⟨ad,hv,u,hu,hru⟩:=uW (P:=P) h.cm ht (fun ha=>by
     simp_all) hrel hl hside
    refine⟨u,?_,hru⟩;show(do loadVar t (←asAddr (a.tmps.getD p Go.undef)):Sem Value).run P w=_
    grind [asAddr]
  grind
theorem AM{P j0 j s a w}(h:Rel j0 s j a w): ∀{rs K},qW P s rs K->
  ∃xs vs,K xs/\xs.length=rs.length/\vs.length=xs.length/\(rs.mapM (D1 a.tmps)).run P w= .ok vs w/\∀k,k<xs.length->R w j (xs.getD k .undef) (vs.getD k Go.undef)
 |[],K,hk=>⟨[],[],hk,rfl,rfl,an,an⟩
 |r::rs,K,hk=>by
  simp only[qW] at hk;split at hk
  ·rename_i side x hx;obtain⟨v,hv,hrv⟩:=PR h hx hk.1;obtain⟨xs,vs,hK,h1,h2,h3,h4⟩:=AM h hk.2;refine⟨x::xs,v::vs,hK,VX,by simp[h2],?_,?_⟩
   ·rw[List.mapM_cons];simp only[Sem.run_bind,hv,Result.andThen_ok,h3,Sem.run_pure]
   ·intro k hk';cases k with
    |zero=>simpa using hrv
    |succ k=>simpa using h4 k (by simpa using hk')
  ·exact hk.elim
theorem oO{P fn j0 j s a w}(h:Rel j0 s j a w){K:AV->Prop}(hk:qW P s fn.results.toList fun xs=>K (BH xs)):
  ∃v x,(results fn a.tmps).run P w= .ok v w/\R w j x v/\K x:=by
 obtain⟨xs,vs,hK,h1,h2,h3,h4⟩:=AM h hk;have hm:(fn.results.mapM (D1 a.tmps)).run P w= .ok vs.toArray w:=by
  rw[←Array.toArray_toList (xs:=fn.results),List.mapM_toArray];simp_all
 refine⟨if h:vs.toArray.size=1 then vs.toArray[0] else .tuple vs.toArray,BH xs,?_,?_,hK⟩
 ·simp_all [PQ]
 ·match xs,vs,h2,h4 with
  |[],[],_,_=>exact .cj #[] (Nat.le_refl _) an
  |[x],[v],_,h4=>simpa[BH] using h4 0 an
  |x::y::xs,v::u::vs,h2,h4=>
   refine R.cj _ ai fun k hk=> ?_;simp_all
def tk(P:Program)(rs:List ResultVar)(Q:AV->List aZ->List Nat->Prop):Exit->St->Prop
 | .normal,s=>qW P s rs fun xs=>Q (BH xs) s.σ s.mv
 | .ret,s=>qW P s rs fun xs=>Q (BH xs) s.σ s.mv
 |_,_=>False
theorem Rs.rel{P:Program}{w j σ args vs}(hs:aQ w j σ)(h:Rs w j args vs)(N)(hN:args.length<=N):
  Rel ⟨j,w.heap.size,none⟩ (St.init N args σ) j { tmps:=vs++Array.replicate (N-vs.size) Go.undef,defers:=[] } w where
 defers:= .nil (Nat.le_refl _) _
 fC:=fun l h=>by cases h
 size:=by simp[St.init];have:=h.1;omega
 tmp k av hk:=by
  simp only[St.init,H0] at hk;split at hk<;>simp at hk;subst hk;rename_i hk;simp only[Nat.zero_add] at hk;refine⟨by grind [St.init],?_⟩;have h1:=h.1;have:=h.2 k hk.2;simp_all [Array.getElem?_append]
 cm:=hs
 len0:=Nat.le_refl _
 ag:= .refl _ _
theorem RD.congr{w w' j}(hc: ∀a,w'.cell? a=w.cell? a)(hs:w.heap.size<=w'.heap.size){d v}(h:RD w j d v):RD w' j d v:=by
 induction h with
 |v x=>exact .v x
 |sl a c val hcap hle ha hlt hb hlen hcell hrel ih=>exact .sl a c val hcap hle ha (Nat.lt_of_lt_of_le hlt hs) hb hlen (fun i hi k hk=>(hc _).trans (hcell i hi k hk)) ih
 |zero p c hcap hp=>exact .zero p c hcap hp
theorem R.congr{w w' j}(hc: ∀a,w'.cell? a=w.cell? a)(hs:w.heap.size<=w'.heap.size)(hsh: ∀b,w'.shape? b=w.shape? b)(hm: ∀(b:Nat) es cl,w.heap[b]? =some (.map es cl)->w'.heap[b]? =some (.map es cl)){av v}(h:R w j av v):R w' j av v:=by
 induction h with
 |undef v=>exact .undef v
 |iff h h0 ih=>exact .iff ih h0
 |d h=>exact .d (h.congr hc hs)
 |agg vs hsz h ih=>exact .agg vs hsz ih
 |cj vs hsz h ih=>exact .cj vs hsz ih
 |ptr h=>exact .ptr h
 |pe h=>exact .pe h
 |el a val h1 hlt hb hcell hrel=>exact .el a val h1 (Nat.lt_of_lt_of_le hlt hs) hb (fun k hk=>(hc _).trans (hcell k hk)) (fun k hk=>(hrel k hk).congr hc hs)
 |ms c e m h h1 h2 h3=>exact .ms c e m h (by rw[hsh];exact h1) h2 h3
 |op h h0 ih=>exact .op ih h0
 |ms0 p h=>exact .ms0 p h
 |oY p e m h h1 h2 h3=>exact .oY p e m h (by rw[hsh];exact h1) h2 h3
 |mc h q hv ih=>exact .mc ih q hv
 |mp h=>exact .mp h
 |clo ff cc h1 h2 h3 h4 ih3 ih4=>exact .clo ff cc h1 h2 ih3 ih4
 |rl h=>exact .rl h
 |fm c cl es hlt hb rv hd=>exact .fm c cl es (Nat.lt_of_lt_of_le hlt hs) hb (hm _ _ _ rv) ⟨hd.stamped,hd.keys,hd.kind,fun e he k hk=>(hd.rel e he k hk).congr hc hs⟩
theorem RB.congr{w w' j}(hc: ∀a,w'.cell? a=w.cell? a)(hs:w.heap.size<=w'.heap.size)(hsh: ∀b,w'.shape? b=w.shape? b){x o}(ho: ∀cb,o=some cb->w'.heap[cb]? =w.heap[cb]?)(hm: ∀(b:Nat) es cl,w.heap[b]? =some (.map es cl)->w'.heap[b]? =some (.map es cl))(h:RB w j x o):RB w' j x o:=by
 cases x with
 |dead=>trivial
 |loc c=>
  obtain⟨h1,h2,h3,m,h4⟩:=h;exact⟨h1,Nat.lt_of_lt_of_le h2 hs,h3,m,(hc _).trans h4⟩
 |tab c vs=>
  obtain⟨h1,h2,h3,e,h4,h5⟩:=h;exact⟨h1,Nat.lt_of_lt_of_le h2 hs,h3,e,(hsh _).trans h4,fun i=>(hc _).trans (h5 i)⟩
 |var cs=>
  cases o with
  |none=>exact h
  |some cb=>
   obtain⟨C,e,h1,h2,h3⟩:=h;exact⟨C,e,um,h2,fun k hk=>(h3 k hk).congr hc hs hsh hm⟩
 |arr sz n row=>
  cases o with
  |none=>exact h
  |some cb=>
   obtain⟨C,e,h1,h2,h3⟩:=h;exact⟨C,e,h1.at (ho cb rfl),h2,fun i hi=>⟨(h3 i hi).1,fun k hk=>((h3 i hi).2 k hk).congr hc hs⟩⟩
 |lp L st pd=>
  cases o with
  |none=>exact h
  |some cb=>
   obtain⟨r,h1,h2,h3,h4⟩:=h;exact⟨r,um,h2,h3,fun k av hk=>⟨(h4 k av hk).1,(h4 k av hk).2.congr hc hs hsh hm⟩⟩
 |mp d ks f=>
  cases o with
  |none=>exact h
  |some cb=>
   obtain⟨es,cl,h1,h2⟩:=h;exact⟨es,cl,um,⟨h2.stamped,h2.keys,h2.kind,h2.free,fun e he k hk=>(h2.rel e he k hk).congr hc hs hsh hm⟩⟩
 |GK d ks f κ q=>
  cases o with
  |none=>exact h
  |some cb=>
   obtain⟨es,cl,h1,h2,hx⟩:=h;exact⟨es,cl,um,⟨h2.stamped,h2.keys,h2.kind,h2.free,fun e he k hk=>(h2.rel e he k hk).congr hc hs hsh hm⟩,hx⟩
 |it left cur f=>
  cases o with
  |none=>exact h
  |some cb=>
   obtain⟨mb,es,cl,seen,h1,h2⟩:=h;exact⟨mb,es,cl,seen,um,⟨Nat.lt_of_lt_of_le h2.lt hs,h2.own,by rw[hm _ _ _ h2.heap],h2.stamped,h2.keys,h2.cur,h2.free,fun e he k hk=>(h2.rel e he k hk).congr hc hs hsh hm⟩⟩
def Taken:List Deferred->World->World->Prop
 |[],w,w'=>w'=w
 |d::ds,w,w'=> ∃r,d.target= .collected r/\w.heap[r]? =some (.deferred (some []))/\Taken ds (w.putObj r (.deferred none)) w'
theorem wq{F n P fn tmps R w'}(h: ∃v,(results fn tmps).run P w'= .ok v w'/\R (.returned v) w'): ∀{ds w},Taken ds w w'->LeavesInM F n P fn tmps R ds .returning w
 |[],w,ht=>by
  simp only[Taken] at ht;subst ht;exact h
 |d::ds,w,ht=>by
  obtain⟨r,h1,h2,h3⟩:=ht;exact⟨an,.inl ⟨r,_,h1,run_takeDeferred h2,wq h h3⟩⟩
theorem Ie{w:World}{r}(h:w.heap[r]? =some (.deferred (some [])))(a):(w.putObj r (.deferred none)).cell? a=w.cell? a:=by
 grind [World.putObj_heap_same,World.cell?,World.putObj_heap_other]
theorem u9{w:World}{r}(h:w.heap[r]? =some (.deferred (some [])))(b):(w.putObj r (.deferred none)).shape? b=w.shape? b:=by
 grind [World.shape?,World.putObj_heap_same,World.putObj_heap_other]
theorem NQ{w:World}{r}(h:w.heap[r]? =some (.deferred (some [])))(a):(w.putObj r (.deferred none)).frozen? a=w.frozen? a:=by
 grind [World.putObj_heap_same,World.frozen?,World.putObj_heap_other]
theorem Marks.take{n0 σ} : ∀{ds w j},Marks n0 w j ds->aQ w j σ->∃w',Taken ds w w'/\aQ w' j σ/\(∀{av v},R w j av v->R w' j av v)/\∀{j1 w1},w1.heap.size=n0->Ev j1 w1 j w->Ev j1 w1 j w'
 |[],w,j,_,hs=>⟨w,rfl,hs,fun h=>h,fun _ h=>h⟩
 |d::ds,w,j,hm,hs=>by
  obtain⟨⟨hn0,hp⟩,hd⟩:=hm;obtain⟨r,h1,h2,h3,h4⟩:=hd d an;have hp':=List.pairwise_cons.1 hp;have hother: ∀b,b≠r->(w.putObj r (.deferred none)).heap[b]? =w.heap[b]? :=fun b hb=>World.putObj_heap_other hb;have hm':Marks n0 (w.putObj r (.deferred none)) j ds:=⟨⟨by simpa using hn0,hp'.2⟩,fun d' hd'=>by
   obtain⟨r',g1,g2,g3,g4⟩:=hd d' (by simp[hd']);have hne:r'≠r:=fun he=>hp'.1 d' hd' (by rw[h1,g1,he]);exact⟨r',g1,g2,g3,by rw[hother r' hne];exact g4⟩⟩
  have hs':aQ (w.putObj r (.deferred none)) j σ:=⟨hs.len,fun b cb hb=>by have:=hs.lt b cb hb;simpa using this,hs.inj,fun b x hx=>by
   obtain⟨o,ho,hB⟩:=hs.blk b x hx;refine⟨o,ho,hB.congr (Ie h4) an (u9 h4) (fun cb hcb=>hother cb ?_) fun mb es cl hmb=>by rw[hother mb (fun he=>by subst he;rw[hmb] at h4;cases h4)];exact hmb⟩;intro he;subst hcb;exact h3 (by rw[←he];exact List.mem_of_getElem? ho)⟩
  obtain⟨w',ht,hs2,hr2,he2⟩:=Marks.take hm' hs';refine⟨w',⟨r,by rw[h1],h4,ht⟩,hs2,fun h=>hr2 (h.congr (Ie h4) an (u9 h4) fun mb es cl hmb=>by rw[hother mb (fun he=>by subst he;rw[hmb] at h4;cases h4)];exact hmb),fun {j1 w1} hn he=>he2 hn ⟨?_,?_,he.sub,?_,?_,he.os,he.tape,he.output,?_⟩⟩
  ·simpa using he.size
  ·intro b hb hnj;rw[hother b aa];exact he.keep b hb hnj
  ·intro b hb;rw[u9 h4];exact he.LH b hb
  ·intro a ha;rw[NQ h4];exact he.tY a ha
  ·intro b r' hb;have hlt:b<w1.heap.size:=(Array.getElem?_eq_some_iff.1 hb).1;rw[hother b aa];exact he.lps b r' hb
theorem FL{P f fn c args σ Q R'}(hf:P.funcs[f]? =some fn)(hb:fn.body=some c)(hN:args.length<=fn.ntmps)
  (h:cV P c Q (St.init fn.ntmps args σ)) {j w vs} (hs:aQ w j σ) (hr:Rs w j args vs)
  (hQ: ∀e s',Q e s'->(e= .normal\/e= .ret)/\∀j' a w',Rel ⟨j,w.heap.size,none⟩ s' j' a w'->Ev j w j' w'->∃v,(results fn a.tmps).run P w'= .ok v w'/\R' (.returned v) w'):Calls P f vs w R':=by
 refine(callsIn_wide (n:=0)).1 (callsIn_of_wp_marks (F:=Fence.wide) hf hb trivial (wpIn_mono (h ⟨j,w.heap.size,none⟩ j _ w (Rs.rel (P:=P) hs hr fn.ntmps hN)) ?_));rintro e a w' ⟨s',j',hrel,hev,hq⟩;obtain⟨he,hq⟩:=hQ e s' hq;obtain⟨w2,ht,hs2,hr2,he2⟩:=hrel.defers.take hrel.cm;have hev2:=he2 rfl hev;have afe:Rel ⟨j,w.heap.size,none⟩ s' j' { a with defers:=[] } w2:=⟨.nil hev2.size _,(fun l h=>by cases h),hrel.size,fun k av hk=>⟨(hrel.tmp k av hk).1,hr2 (hrel.tmp k av hk).2⟩,hs2,hrel.len0,hrel.ag⟩;have:=wq (F:=Fence.wide) (n:=0) (hq j' _ w2 afe hev2) ht;rcases he with rfl|rfl
 ·exact this
 ·exact this
theorem CS.CQ{P f fn c args σ Q}(hen:cG P f=true)(hf:P.funcs[f]? =some fn)(hb:fn.body=some c)(hN:args.length<=fn.ntmps)
  (h:cV P c (tk P fn.results.toList Q) (St.init fn.ntmps args σ)):CS P f args σ Q:=by
 refine⟨hen,fun j w vs hs hr=>FL hf hb hN h hs hr fun e s' hq=> ?_⟩;have fin:(qW P s' fn.results.toList fun xs=>Q (BH xs) s'.σ s'.mv)->∀j' a w',Rel ⟨j,w.heap.size,none⟩ s' j' a w'->Ev j w j' w'->∃v,(results fn a.tmps).run P w'= .ok v w'/\∃v' r σ' j' X,Ending.returned v= .returned v'/\aQ w' j' σ'/\R w' j' r v'/\Ev j w j' w'/\j.length<=j'.length/\Ag j j' X/\Q r σ' X:=by
  intro hq j' a w' hrel hev;obtain⟨v,x,h1,h2,h3⟩:=oO hrel (K:=fun x=>Q x s'.σ s'.mv) hq;exact⟨v,h1,v,x,s'.σ,j',s'.mv,rfl,hrel.cm,h2,hev,hrel.len0,hrel.ag,h3⟩
 cases e with
 |normal=>exact⟨.inl rfl,fin hq⟩
 |ret=>exact⟨.inr rfl,fin hq⟩
 |exit id=>exact hq.elim
 |goto l=>exact hq.elim
 |panic c=>exact hq.elim
 |outgrown=>exact hq.elim
theorem yC{us:Array Value}{i}(h):us[i]? =some us[i]/\us.getD i Go.undef=us[i]:=by
 simp_all
section
variable {P : Program}
theorem qo{w j t agg m off}(ht:eH P t=some (agg,m))(hm:agg=false->m=1){cs:List AV}{us}(hs:us.size=cs.length)
  (h: ∀k,k<cs.length->R w j (cs.getD k .undef) (us.getD k Go.undef)) (hlt:off+m<=cs.length): ∃v,(part t us off).run P w= .ok v w/\R w j (loaded agg ((cs.drop off).take m)) v:=by
 cases agg with
 |true=>
  refine⟨.agg (us.extract off (off+m)),by simp[part,ta ht,p9 ht],.agg _ ai fun k hk=> ?_⟩;simp only[List.length_take,List.length_drop] at hk;have:=h (off+k) aa;have e1:((cs.drop off).take m).getD k AV.undef=cs.getD (off+k) AV.undef:=by
   grind
  have e2:(us.extract off (off+m)).getD k Go.undef=us.getD (off+k) Go.undef:=by
   simp[Array.getD_eq_getD_getElem?,show k<min (off+m) us.size-off by omega,show off+k<us.size by omega]
  grind
 |false=>
  have h1:=hm rfl;subst h1;have:=h off aa;obtain⟨h4,h5⟩:=yC (us:=us) (i:=off) aa;rw[h5] at this;refine⟨us[off],by simp[part,ta ht,h4],?_⟩;grind [loaded,List.drop_eq_getElem_cons]
inductive EqK where
 |i
 |b
 |s
def Yx(P:Program)(rec:TypeId->Option (List EqK)):List Field->Nat->Option (List EqK)
 |[],_=>some []
 | f :: fs, o => if f.name = "_" || !Nat.beq f.offset o then none else match rec f.type, eH P f.type with
  |some ks,some (_,m)=>if Nat.beq ks.length m then(Yx P rec fs (o+m)).map (ks++ ·) else none
  |_,_=>none
def Zu(P:Program):Nat->TypeId->Option (List EqK)
 |0,_=>none
 |d+1,t=>match P.underlying t,eH P t with
  |some (.int _),some (false,1)=>some [.i]
  |some .bool,some (false,1)=>some [.b]
  |some .string,some (false,1)=>some [.s]
  |some (.struct fs),some (true,m)=>if P.stoodInHeld t then none else match Yx P (Zu P d) fs.toList 0 with
   |some ks=>if Nat.beq ks.length m then some ks else none
   |none=>none
  |_,_=>none
def eq1(k:EqK)(x y:AV):Option Bool:=
 match k,x,y with
 | .i,.d (.v (.int k a)),.d (.v (.int k' b))=>if k=k' then some (a==b) else none
 | .b,.d (.v (.bool a)),.d (.v (.bool b))=>some (a==b)
 | .s,.d (.v (.string a)),.d (.v (.string b))=>some (a.toList==b.toList)
 |_,_,_=>none
def C1:List EqK->List AV->List AV->Option Bool
 |[],[],[]=>some true
 |k::ks,x::xs,y::ys=>match eq1 k x y,C1 ks xs ys with
  |some a,some b=>some (a&&b)
  |_,_=>none
 |_,_,_=>none
theorem Fq: ∀{ks ks' xs ys r},C1 (ks++ks') xs ys=some r->
  ∃a b,C1 ks (xs.take ks.length) (ys.take ks.length)=some a/\C1 ks' (xs.drop ks.length) (ys.drop ks.length)=some b/\r=(a&&b)/\ks.length<=xs.length/\ks.length<=ys.length
 |[],ks',xs,ys,r,h=>⟨true,r,by simp[C1],ai,an,an,an⟩
 |k::ks,ks',[],ys,r,h=>by grind [C1]
 |k::ks,ks',x::xs,[],r,h=>by grind [C1]
 |k::ks,ks',x::xs,y::ys,r,h=>by
  simp only[List.cons_append,C1] at h;split at h
  ·rename_i a b h1 h2;obtain⟨a',b',h3,h4,h5,h6,h7⟩:=Fq h2;grind [C1]
  grind
theorem Fp: ∀{ks xs ys r},C1 ks xs ys=some r->xs.length=ks.length/\ys.length=ks.length
 |[],[],[],_,_=>⟨rfl,rfl⟩
 |[],_::_,_,_,h=>by grind [C1]
 |[],[],_::_,_,h=>by grind [C1]
 |k::ks,[],_,_,h=>by grind [C1]
 |k::ks,_::_,[],_,h=>by grind [C1]
 |k::ks,x::xs,y::ys,r,h=>by
  simp only[C1] at h;split at h
  ·rename_i a b h1 h2;have:=Fp h2;grind
  grind
theorem SH{d t ks}(h:Zu P d t=some ks): ∃agg,eH P t=some (agg,ks.length)/\(agg=false->ks.length=1):=by
 cases d with
 |zero=>grind [Zu]
 |succ d=>
  unfold Zu at h;split at h
  ·rename_i h2;cases h;grind
  ·rename_i h2;cases h;grind
  ·rename_i h2;cases h;grind
  ·rename_i fs m h1 h2;split at h
   ·cases h
   ·split at h
    ·rename_i ks' h3;split at h;all_goals simp_all
    grind
  grind
theorem Ix{w j x v}(h:R w j (.d (.v x)) v):v=x:=by
 cases h with|d h=>cases h;rfl
theorem Yz{k x y r}(h:eq1 k x y=some r):
  (k= .i/\∃kk a b,x= .d (.v (.int kk a))/\y= .d (.v (.int kk b))/\r=(a==b))\/(k= .b/\∃a b,x= .d (.v (.bool a))/\y= .d (.v (.bool b))/\r=(a==b))\/(k= .s/\∃a b,x= .d (.v (.string a))/\y= .d (.v (.string b))/\r=(a.toList==b.toList)):=by
 unfold eq1 at h;grind
theorem Kb{k xs ys r}(h:C1 [k] xs ys=some r): ∃x y,xs=[x]/\ys=[y]/\eq1 k x y=some r:=by
 match xs,ys with
 |[],_=>grind [C1]
 |x::xs,[]=>grind [C1]
 |x::xs,y::ys=>
  grind [C1]
theorem H6{w j} : ∀(d) {t ks},Zu P d t=some ks->∀{agg},eH P t=some (agg,ks.length)->∀{xs ys u v r},C1 ks xs ys=some r->R w j (loaded agg xs) u->R w j (loaded agg ys) v->
  ∀n,d<=n->(Op.equalIn n t u v).run P w= .ok r w
 |0,t,ks,h,agg,ht,xs,ys,u,v,r,hr,hu,hv,n,hn=>by grind [Zu]
 |d+1,t,ks,h,agg,ht,xs,ys,u,v,r,hr,hu,hv,n,hn=>by
  obtain⟨n,rfl⟩: ∃n',n=n'+1:=⟨n-1,aa⟩;unfold Zu at h;split at h
  ·rename_i hun h2;cases h
   rw[h2] at ht;cases ht;obtain⟨x,y,rfl,rfl,h1⟩:=Kb hr;rcases Yz h1 with⟨_,kk,a,b,rfl,rfl,rfl⟩|⟨h,_⟩|⟨h,_⟩
   ·obtain rfl:=Ix (show R w j (.d (.v (.int kk a))) u from hu);obtain rfl:=Ix (show R w j (.d (.v (.int kk b))) v from hv);grind [run_equalIn_int]
   all_goals grind
  ·rename_i hun h2;cases h
   rw[h2] at ht;cases ht;obtain⟨x,y,rfl,rfl,h1⟩:=Kb hr;rcases Yz h1 with⟨h,_⟩|⟨_,a,b,rfl,rfl,rfl⟩|⟨h,_⟩
   ·cases h
   ·obtain rfl:=Ix (show R w j (.d (.v (.bool a))) u from hu);obtain rfl:=Ix (show R w j (.d (.v (.bool b))) v from hv);grind [run_equalIn_bool']
   grind
  ·rename_i hun h2;cases h
   rw[h2] at ht;cases ht;obtain⟨x,y,rfl,rfl,h1⟩:=Kb hr;rcases Yz h1 with⟨h,_⟩|⟨h,_⟩|⟨_,a,b,rfl,rfl,rfl⟩
   ·cases h
   ·cases h
   ·obtain rfl:=Ix (show R w j (.d (.v (.string a))) u from hu);obtain rfl:=Ix (show R w j (.d (.v (.string b))) v from hv);grind [run_equalIn_string]
  ·rename_i fs m hun h2;rw[h2] at ht;cases ht;split at h
   ·cases h
   ·rename_i hst;split at h
    ·rename_i ks' hfs;split at h
     ·cases h
      cases hu with
      |agg us hus hur=>
      cases hv with
      |agg vs hvs hvr=>
      have hfo:P.fieldsOf t=fs:=by grind [Program.fieldsOf]
      rw[run_equalIn_struct w n t us vs ai ai,hfo];have gen: ∀(fl:List Field) (o:Nat) (ks:List EqK) (r:Bool),Yx P (Zu P d) fl o=some ks->o<=xs.length->o<=ys.length->C1 ks (xs.drop o) (ys.drop o)=some r->(Op.eqFields n us vs fl).run P w= .ok r w:=by
       intro fl;induction fl with
       |nil=>
        intro o ks r h1 ho1 ho2 h2;simp only[Yx,Option.some.injEq] at h1;subst h1;have hl:=Fp h2;have e1:xs.drop o=[]:=List.length_eq_zero_iff.1 hl.1;have e2:ys.drop o=[]:=List.length_eq_zero_iff.1 hl.2;simp_all [C1,Op.eqFields]
       |cons f fl ih=>
        intro o ks r h1 ho1 ho2 h2;simp only[Yx] at h1;split at h1
        ·cases h1
        ·rename_i hnm;simp only[Bool.or_eq_true,decide_eq_true_eq,Bool.not_eq_true',not_or,Bool.not_eq_false] at hnm;have hoff:f.offset=o:=aP;split at h1
         ·rename_i kf agf mf e1 e2;split at h1
          ·rename_i e3;have e3:kf.length=mf:=aP;simp only[Option.map_eq_some_iff] at h1;obtain⟨kr,e4,rfl⟩:=h1;obtain⟨a,b,g1,g2,g3,g4,g5⟩:=Fq h2;obtain⟨agg',e5,e6⟩:=SH e1;rw[e2] at e5;cases e5;simp only[List.length_drop] at g4 g5;obtain⟨pu,hpu,hru⟩:=qo (P:=P) (w:=w) (j:=j) (off:=f.offset) e2 ai hus hur aa;obtain⟨pv,hpv,hrv⟩:=qo (P:=P) (w:=w) (j:=j) (off:=f.offset) e2 ai hvs hvr aa;rw[hoff] at hpu hpv hru hrv;rw[e3] at g1;have hq:=H6 d e1 ai g1 hru hrv n aa;grind [Op.eqFields,Sem.run_bind,Result.andThen_ok,Sem.run_pure,List.drop_drop]
          grind
         grind
      grind
     grind
    grind
  grind
def Pj(P:Program)(t:TypeId):Option (List EqK):=if P.eqGuardType P.depth t then none else match eH P t with
 |some (true,_)=>Zu P 30 t
 |_=>none
theorem Yy{t ks}(h:Pj P t=some ks):P.eqGuardType P.depth t=false/\Zu P 30 t=some ks/\eH P t=some (true,ks.length):=by
 grind [Pj,SH]
end
theorem iu{w j x v}(h:R w j (.d (.v x)) v):v=x:=by
 cases h with|d h=>cases h;rfl
def Arg(g:Bool)(s:St)(x:Operand)(av:AV):Prop:=g=true->∀j0 j a w,Rel j0 s j a w->R w j av (a.eval x)
def arg(g:Bool)(s:St)(x:Operand)(K:AV->Prop):Prop:=
 match val s x with
 |some (.iff b y)=>(g=true->b=true)/\K y
 |some y=>K y
 |none=>False
theorem ar{g s x K}(h:arg g s x K): ∃av,K av/\Arg g s x av:=by
 unfold arg at h;split at h
 ·rename_i b y hv;refine⟨y,h.2,fun hg j0 j a w hr=> ?_⟩;have:=v8 hr hv;generalize a.eval x=u at this
  cases this<;>grind
 ·rename_i y hv;exact⟨_,h,fun hg j0 j a w hr=>v8 hr hv⟩
 grind
def args(g:Bool)(s:St):List Operand->(List AV->Prop)->Prop
 |[],K=>K []
 |x::xs,K=>arg g s x fun a=>args g s xs fun tI=>K (a::tI)
theorem hJ{g s} : ∀{xs K},args g s xs K->∃QQ,K QQ/\QQ.length=xs.length/\∀k,k<xs.length->Arg g s (xs.getD k (.const Go.undef)) (QQ.getD k .undef)
 |[],K,h=>⟨[],h,rfl,an⟩
 |x::xs,K,h=>by
  obtain⟨av,h1,h2⟩:=ar h;obtain⟨QQ,h3,h4,h5⟩:=hJ h1;refine⟨av::QQ,h3,by simp[h4],fun k hk=> ?_⟩;cases k with
  |zero=>simpa using h2
  |succ k=>simpa using h5 k rI
def s7(P:Program)(g:Bool)(s:St)(op:Op)(av:AV):Prop:=
 g=true->∀j0 j a w (o:Oper),o.op=op->Rel j0 s j a w->∃v,(execOp a.eval o).run P w= .ok (.value v) w/\R w j av v
def TG(k:IntKind)(x y:Int):Int:=k.wrap (x*2^(min y.toNat k.bits))
def TF(k:IntKind)(x y:Int):Int:=x.fdiv (2^(min y.toNat k.bits))
def QX(k:IntKind)(a b:Int):Int:=k.wrap (BitVec.ofInt k.bits a&&&BitVec.ofInt k.bits b).toNat
def orI(k:IntKind)(a b:Int):Int:=k.wrap (BitVec.ofInt k.bits a|||BitVec.ofInt k.bits b).toNat
def l7(k:IntKind)(a b:Int):Int:=k.wrap (BitVec.ofInt k.bits a^^^BitVec.ofInt k.bits b).toNat
def S6(k:IntKind)(a b:Int):Int:=k.wrap (BitVec.ofInt k.bits a&&& ~~~ BitVec.ofInt k.bits b).toNat
def YH(k:IntKind)(n:Int):Int:=l7 k (if k.signed then-1 else k.max) n
def Qe(g:Bool)(op:BinOp)(k:IntKind)(a b:Int)(K:AV->Prop):Prop:=
 match op with
 | .add=>K (.d (.v (.int k (k.wrap (a+b)))))
 | .sub=>K (.d (.v (.int k (k.wrap (a-b)))))
 | .mul=>K (.d (.v (.int k (k.wrap (a*b)))))
 | .quo=>(g=true->b≠0)/\K (.d (.v (.int k (k.wrap (a.tdiv b)))))
 | .rem=>(g=true->b≠0)/\K (.d (.v (.int k (a.tmod b))))
 | .eql=>K (.d (.v (.bool (a==b))))
 | .neq=>K (.d (.v (.bool (a !=b))))
 | .lss=>K (.d (.v (.bool (decide (a<b)))))
 | .leq=>K (.d (.v (.bool (decide (a<=b)))))
 | .gtr=>K (.d (.v (.bool (decide (b<a)))))
 | .geq=>K (.d (.v (.bool (decide (b<=a)))))
 | .and=>K (.d (.v (.int k (QX k a b))))
 | .or=>K (.d (.v (.int k (orI k a b))))
 | .xor=>K (.d (.v (.int k (l7 k a b))))
 | .andNot=>K (.d (.v (.int k (S6 k a b))))
 |_=>False
def PE(g:Bool)(op:BinOp)(x y:ByteArray)(K:AV->Prop):Prop:=
 match op with
 | .add=>(g=true->((x.size+y.size:Nat):Int)<=9223372036854775807)/\K (.d (.v (.string (x++y))))
 | .eql=>K (.d (.v (.bool (x.toList==y.toList))))
 | .neq=>K (.d (.v (.bool !(x.toList==y.toList))))
 | .lss=>K (.d (.v (.bool (Op.bytesLess x.toList y.toList))))
 | .leq=>K (.d (.v (.bool (Op.bytesLess x.toList y.toList||x.toList==y.toList))))
 | .gtr=>K (.d (.v (.bool !(Op.bytesLess x.toList y.toList||x.toList==y.toList))))
 | .geq=>K (.d (.v (.bool !Op.bytesLess x.toList y.toList)))
 |_=>False
def DN(g:Bool)(op:BinOp)(k:IntKind)(x y:Int)(K:AV->Prop):Prop:=
 match op with
 | .shl=>(g=true->0<=y)/\K (.d (.v (.int k (TG k x y))))
 | .shr=>(g=true->0<=y)/\K (.d (.v (.int k (TF k x y))))
 |_=>False
def Sn:BinOp->Bool
 | .shl=>true
 | .shr=>true
 |_=>false
def boolT(P:Program)(t:TypeId):Bool:=match P.underlying t with|some .bool=>true|_=>false
def JB:AV->Option Bool
 | .op b _=>some (!b)
 | .el _=>some false
 | .ptr _ _=>some false
 | .pe _ _ _ _=>some false
 | .d (.v (.pointer none))=>some true
 |_=>none
def Z0(P:Program)(t:TypeId):Bool:=match P.underlying t with|some (.pointer _)=>true|_=>false
theorem MC{w j x v r}(h:JB x=some r)(hr:R w j x v): ∃p,v= .pointer p/\p.isNone=r:=by
 unfold JB at h;split at h<;>simp only[Option.some.injEq,reduceCtorEq] at h<;>subst h
 ·rename_i b cs;cases hr with
  |op hh h0=>
   cases b with
   |true=>cases hh rfl<;>grind
   |false=>grind
 ·cases hr<;>grind
 ·cases hr<;>grind
 ·cases hr<;>grind
 grind [iu]
def bin(P:Program)(g:Bool)(op:BinOp)(t:TypeId)(x y:AV)(K:AV->Prop):Prop:=
 match x,y with
 | .d (.v (.int k a)),.d (.v (.int k' b))=>if Sn op then DN g op k a b K else k=k'/\Qe g op k a b K
 | .d (.v (.bool a)),.d (.v (.bool b))=>boolT P t=true/\(match op with
  | .eql=>K (.d (.v (.bool (a==b))))
  | .neq=>K (.d (.v (.bool !(a==b))))
  |_=>False)
 | .d (.v (.string a)),.d (.v (.string b))=>PE g op a b K
 | .agg xs,.agg ys=>(match Pj P t with
  |some ks=>(match C1 ks xs ys with
   |some r=>(match op with
    | .eql=>K (.d (.v (.bool r)))
    | .neq=>K (.d (.v (.bool !r)))
    |_=>False)
   |none=>False)
  |none=>False)
 |x,.d (.v (.pointer none))=>Z0 P t=true/\(match JB x with
  |some r=>(match op with
   | .eql=>K (.d (.v (.bool r)))
   | .neq=>K (.d (.v (.bool !r)))
   |_=>False)
  |none=>False)
 |_,_=>False
theorem jg{P w op t x y a b}(ha: ∀cs,a≠.agg cs)(hn:a≠.nilIface):(eqGuard op t x y a b).run P w= .ok () w:=by
 simp_all [eqGuard]
theorem run_equal_bool{P w t}(hu:P.underlying t=some .bool)(a b):(Op.equal t (.bool a) (.bool b)).run P w= .ok (a==b) w:=by
 show(Op.equalIn (9999+1) t _ _).run P w=_
 rw[Op.equalIn];simp[underlying,hu]
theorem U5{P g op t ty a b K}(h:bin P g op t a b K){s x y}(hx:Arg g s x a)(hy:Arg g s y b):
  ∃av,K av/\s7 P g s (.binOp op t x y ty) av:=by
 unfold bin at h;split at h
 ·
  rename_i k m k' n;have base: ∀(r:Value),(g=true->∀w,(binOp op t (.int k m) (.int k' n)).run P w= .ok r w)->s7 P g s (.binOp op t x y ty) (.d (.v r)):=by
   intro r hr hg j0 j a w o ho hrel;have h1:=iu (hx hg j0 j a w hrel);have h2:=iu (hy hg j0 j a w hrel);refine⟨r,?_,.d (.v r)⟩;simp_all [execOp,jg]
  split at h
  ·rename_i hsh;unfold DN at h;split at h
   ·refine⟨_,h.2,base _ fun hg w=> ?_⟩;have:=h.1 hg;simp[binOp,Op.shift,show ¬n<0 by omega,TG]
   ·refine⟨_,h.2,base _ fun hg w=> ?_⟩;have:=h.1 hg;simp[binOp,Op.shift,show ¬n<0 by omega,TF]
   grind
  ·rename_i hsh;obtain⟨rfl,h⟩:=h;unfold Qe at h;split at h<;>first
    |exact h.elim
    |exact⟨_,h,base _ fun hg w=>by simp[binOp,Op.intArith,Op.intCmp,Op.intBits,QX,orI,l7,S6]⟩
    |exact⟨_,h.2,base _ fun hg w=>by simp_all [binOp,Op.intDiv]⟩
 ·rename_i m n;obtain⟨hb,h⟩:=h;have hu:P.underlying t=some .bool:=by
   grind [boolT]
  have base: ∀(r:Value),(g=true->∀w,(binOp op t (.bool m) (.bool n)).run P w= .ok r w)->s7 P g s (.binOp op t x y ty) (.d (.v r)):=by
   intro r hr hg j0 j a w o ho hrel;have h1:=iu (hx hg j0 j a w hrel);have h2:=iu (hy hg j0 j a w hrel);refine⟨r,?_,.d (.v r)⟩;simp_all [execOp,jg]
  split at h
  ·exact⟨_,h,base _ fun hg w=>by
    show(do pure (Value.bool (←Op.equal t (.bool m) (.bool n))):Sem Value).run P w=_
    simp[run_equal_bool hu]⟩
  ·exact⟨_,h,base _ fun hg w=>by
    show(do pure (Value.bool (!(←Op.equal t (.bool m) (.bool n)))):Sem Value).run P w=_
    simp[run_equal_bool hu]⟩
  grind
 ·rename_i m n;have base: ∀(r:Value),(g=true->∀w,(binOp op t (.string m) (.string n)).run P w= .ok r w)->s7 P g s (.binOp op t x y ty) (.d (.v r)):=by
   intro r hr hg j0 j a w o ho hrel;have h1:=iu (hx hg j0 j a w hrel);have h2:=iu (hy hg j0 j a w hrel);refine⟨r,?_,.d (.v r)⟩;simp_all [execOp,jg]
  unfold PE at h;split at h<;>first
   |exact h.elim
   |exact⟨_,h,base _ fun hg w=>by simp[binOp,Op.stringOp]⟩
   |exact⟨_,h.2,base _ fun hg w=>by
     simp_all [binOp,Op.stringOp]⟩
 ·rename_i xs ys;split at h
  ·rename_i ks hks;split at h
   ·rename_i r hr;have afm:=Yy hks;have base: ∀(r':Bool) (hop: ∀(us vs:Array Value) (w:World),(Op.equalIn 10000 t (.agg us) (.agg vs)).run P w= .ok r w->(binOp op t (.agg us) (.agg vs)).run P w= .ok (.bool r') w),s7 P g s (.binOp op t x y ty) (.d (.v (.bool r'))):=by
     intro r' hop hg j0 j a w o ho hrel;have h1:=hx hg j0 j a w hrel;have h2:=hy hg j0 j a w hrel;generalize hu:a.eval x=u at h1
     generalize hv:a.eval y=v at h2
     cases h1 with
     |agg us hus hur=>
     cases h2 with
     |agg vs hvs hvr=>
     have hq:=H6 30 afm.2.1 afm.2.2 hr (u:= .agg us) (v:= .agg vs) (.agg us hus hur) (.agg vs hvs hvr) 10000 aa;refine⟨_,?_,.d (.v _)⟩;simp_all [execOp,run_eqGuard_agg]
    split at h
    ·exact⟨_,h,base r fun us vs w hq=>by rw[run_eql_struct,hq];rfl⟩
    ·exact⟨_,h,base (!r) fun us vs w hq=>by rw[run_neq_struct,hq];rfl⟩
    grind
   grind
  grind
 ·obtain⟨hp,h⟩:=h;have hu: ∃e,P.underlying t=some (.pointer e):=by
   grind [Z0]
  obtain⟨e,hu⟩:=hu;have Yw: ∀(w:World) (p:Option Addr),(Op.equal t (.pointer p) (.pointer none)).run P w= .ok p.isNone w:=by
   intro w p;show(Op.equalIn (9999+1) t _ _).run P w=_
   rw[Op.equalIn];cases p<;>simp[underlying,hu]
  split at h
  ·rename_i r hn;have base: ∀(r':Bool) (hop: ∀(p:Option Addr) (w:World),p.isNone=r->(binOp op t (.pointer p) (.pointer none)).run P w= .ok (.bool r') w),s7 P g s (.binOp op t x y ty) (.d (.v (.bool r'))):=by
    intro r' hop hg j0 j a w o ho hrel;have h2:=iu (hy hg j0 j a w hrel);obtain⟨p,h1,h3⟩:=MC hn (hx hg j0 j a w hrel);refine⟨_,?_,.d (.v _)⟩;simp_all [execOp,jg]
   split at h
   ·exact⟨_,h,base r fun p w hpn=>by
     show(do pure (Value.bool (←Op.equal t (.pointer p) (.pointer none))):Sem Value).run P w=_
     simp_all⟩
   ·exact⟨_,h,base (!r) fun p w hpn=>by
     show(do pure (Value.bool (!(←Op.equal t (.pointer p) (.pointer none)))):Sem Value).run P w=_
     simp_all⟩
   grind
  grind
 grind
def un(op:UnOp)(x:AV)(K:AV->Prop):Prop:=
 match op,x with
 | .not,.d (.v (.bool b))=>K (.d (.v (.bool !b)))
 | .neg,.d (.v (.int k n))=>K (.d (.v (.int k (k.wrap (0-n)))))
 | .xor,.d (.v (.int k n))=>K (.d (.v (.int k (YH k n))))
 |_,_=>False
theorem Wc{P g op t a K}(h:un op a K){s x}(hx:Arg g s x a):
  ∃av,K av/\s7 P g s (.unOp op t x) av:=by
 unfold un at h;split at h
 ·refine⟨_,h,fun hg j0 j a w o ho hrel=>⟨_,?_,.d (.v _)⟩⟩;have h1:=iu (hx hg j0 j a w hrel);simp_all [execOp,Op.unary]
 ·refine⟨_,h,fun hg j0 j a w o ho hrel=>⟨_,?_,.d (.v _)⟩⟩;have h1:=iu (hx hg j0 j a w hrel);simp_all [execOp,Op.unary,Op.intArith]
 ·refine⟨_,h,fun hg j0 j a w o ho hrel=>⟨_,?_,.d (.v _)⟩⟩;have h1:=iu (hx hg j0 j a w hrel);simp_all [execOp,Op.unary,Op.intBits,YH,l7]
 grind
def aC(P:Program)(t:TypeId)(f:Nat):Option Nat:=
 match P.underlying t with
 |some (.struct fs)=>match fs[f]? with
  |some fd=>match P.info? fd.type with
   |some i=>if Nat.beq i.size 0 then none else some fd.offset
   |none=>none
  |none=>none
 |_=>none
def qE(o:Nat)(x:AV)(K:AV->Prop):Prop:=
 match x with
 | .ptr b off=>K (.ptr b (off+o))
 | .pe b sz i k=>K (.pe b sz i (k+o))
 | .el cs=>K (.el (cs.drop o))
 | .op b cs=>b=true/\K (.el (cs.drop o))
 |_=>False
theorem NW{P t f o}(hf:aC P t f=some o)(a w):(Instr.fieldAt t (.pointer (some a)) f).run P w= .ok (.pointer (some (a.add o))) w:=by
 unfold aC at hf;split at hf
 ·rename_i fs hu;split at hf
  ·rename_i fd hfd;split at hf;all_goals simp_all [Instr.fieldAt,underlying,Instr.sureAddr,fieldPlace,Go.sizeOf,typeInfo]
  grind
 grind
theorem Cy{P g t f o}(hf:aC P t f=some o){a K}(h:qE o a K){s x}(hx:Arg g s x a):
  ∃av,K av/\s7 P g s (.fieldAddr t x f) av:=by
 have base: ∀{av:AV},(∀j w u,R w j a u->∃ad,u= .pointer (some ad)/\R w j av (.pointer (some (ad.add o))))->s7 P g s (.fieldAddr t x f) av:=by
  intro av hh hg j0 j a w op ho hrel;obtain⟨ad,h1,h2⟩:=hh j w _ (hx hg j0 j a w hrel);simp_all [execOp,NW]
 unfold qE at h;split at h
 ·refine⟨_,h,base fun j w u hr=> ?_⟩;cases hr with
  |ptr hb=>exact⟨_,rfl,by rw[da _ rfl];exact .ptr hb⟩
 ·refine⟨_,h,base fun j w u hr=> ?_⟩;cases hr with
  |pe hb=>exact⟨_,rfl,by rw[da _ rfl];simp only[Nat.add_assoc];exact .pe hb⟩
 ·rename_i cs;refine⟨_,h,base fun j w u hr=> ?_⟩;cases hr with
  |el ad val ha hlt hb hcell hrel=>
   refine⟨_,rfl,?_⟩;rw[da _ ha];refine .el _ (fun k=>val (o+k)) rfl hlt hb (fun k hk=> ?_) (fun k hk=> ?_);all_goals grind
 ·rename_i b cs;obtain⟨hb,h⟩:=h;refine⟨_,h,base fun j w u hr=> ?_⟩;cases hr with
  |op hr _=>
  cases hr hb with
  |el ad val ha hlt hb hcell hrel=>
   refine⟨_,rfl,?_⟩;rw[da _ ha];refine .el _ (fun k=>val (o+k)) rfl hlt hb (fun k hk=> ?_) (fun k hk=> ?_);all_goals grind
 grind
def RZ(P:Program)(g:Bool)(t:TypeId)(σ:List aZ)(x:AV)(K:AV->Prop):Prop:=
 match eH P t with
 |some (agg,m)=>(agg||Nat.beq m 1)=true/\(match oT σ m x with
  |some (side,l)=>(g=true->side)/\K (loaded agg l)
  |none=>False)
 |none=>False
theorem P6{P g t s a K}(h:RZ P g t s.σ a K){x}(hx:Arg g s x a): ∃av,K av/\s7 P g s (.load t x) av:=by
 unfold RZ at h;split at h
 ·rename_i agg m ht;obtain⟨hm,h⟩:=h;split at h
  ·rename_i side l hl;refine⟨_,h.2,fun hg j0 j a w o ho hrel=> ?_⟩;obtain⟨ad,h1,u,h2,h3⟩:=uW (P:=P) hrel.cm ht (fun ha=>aP) (hx hg j0 j a w hrel) hl (h.1 hg);simp_all [execOp,Instr.loadAt,Instr.sureAddr]
  grind
 grind
def te(P:Program)(t:TypeId):Option (TypeId×Nat):=
 match P.underlying t with
 |some (.slice e)=>match P.info? e with
  |some i=>some (e,i.size)
  |none=>none
 |_=>none
theorem rV{P t e m}(h:te P t=some (e,m)):P.underlying t=some (.slice e)/\∃i,P.info? e=some i/\i.size=m:=by
 grind [te]
def qA(P:Program)(g:Bool)(t:TypeId)(x:AV)(i:Int)(K:AV->Prop):Prop:=
 match te P t,x with
 |some (e,m),.d (.sl cap sz n row)=>Nat.beq m sz=true/\(g=true->0<=i/\i<n)/\K (.el (row i.toNat))
 |some (e,m),.ms b sz lo n=>Nat.beq m sz=true/\(g=true->0<=i/\i<n)/\K (.pe b sz (lo+i.toNat) 0)
 |_,_=>False
theorem A3{P t e m}(h:te P t=some (e,m))(a)(n c:Nat)(k)(i:Int)(h0:0<=i)(h1:i<n)(w):
  (Instr.indexAt t (.slice (some a) n c) (.int k i)).run P w= .ok (.pointer (some (a.add (i.toNat*m)))) w:=by
 obtain⟨hu,inf,hi,hm⟩:=rV h;simp[Instr.indexAt,asIntOf,underlying,hu,h0,h1,Go.sizeOf,typeInfo,hi,hm]
theorem Ct{P g t a k i K}(h:qA P g t a i K){s x y}(hx:Arg g s x a)(hy:Arg g s y (.d (.v (.int k i)))):
  ∃av,K av/\s7 P g s (.indexAddr t x y) av:=by
 unfold qA at h;split at h
 ·rename_i e m cap sz n row hs;obtain⟨hm,hside,hK⟩:=h;have hm:=Nat.eq_of_beq_eq_true hm;subst hm;refine⟨_,hK,fun hg j0 j a w o ho hrel=> ?_⟩;obtain⟨h0,h1⟩:=hside hg;have h2:=iu (hy hg j0 j a w hrel);have h3:=hx hg j0 j a w hrel;simp only[execOp,ho,h2];generalize a.eval x=u at h3
  cases h3 with|d h3=>
  cases h3 with
  |sl ad c val hcap hle ha hlt hb hlen hcell hr=>
   refine⟨.pointer (some (ad.add (i.toNat*m))),by simp[A3 hs ad n c k i h0 h1],?_⟩;rw[da _ ha];have hi:i.toNat<n:=aa;refine .el _ (fun q=>val i.toNat q) rfl hlt hb (fun q hq=> ?_) (fun q hq=> ?_);all_goals grind
  |zero p c hcap hp=>omega
 ·rename_i e m b sz lo n hs;obtain⟨hm,hside,hK⟩:=h;have hm:=Nat.eq_of_beq_eq_true hm;subst hm;refine⟨_,hK,fun hg j0 j a w o ho hrel=> ?_⟩;obtain⟨h0,h1⟩:=hside hg;have h2:=iu (hy hg j0 j a w hrel);have h3:=hx hg j0 j a w hrel;simp only[execOp,ho,h2];generalize a.eval x=u at h3
  cases h3 with
  | @ms _ _ _ _ cb c e' m' hb hsh hn hm=>
   refine⟨.pointer (some (Addr.add ⟨cb,lo*m,none⟩ (i.toNat*m))),by simp[A3 hs _ n c k i h0 h1],?_⟩;rw[da _ rfl];have:lo*m+i.toNat*m=(lo+i.toNat)*m+0:=ai;simp only[this];exact .pe hb
  |ms0 p hb=>omega
  |oY p e' m' hb=>omega
 grind
section
variable {P : Program} {g : Bool} {s : St}
theorem P4{x av}(hx:Arg g s x av):s7 P g s (.move x) av:=
 fun hg j0 j a w o ho hrel=>⟨_,by simp[execOp,ho],hx hg j0 j a w hrel⟩
theorem KN{x av}(hx:Arg g s x av):s7 P g s (.assign x) av:=
 fun hg j0 j a w o ho hrel=>⟨_,by simp[execOp,ho],hx hg j0 j a w hrel⟩
theorem PZ{c x y b p q}(hc:Arg g s c (.d (.v (.bool b))))(hx:Arg (g&&b) s x (.d (.v (.bool p))))(hy:Arg (g&& !b) s y (.d (.v (.bool q)))):
  s7 P g s (.pick c x y) (.d (.v (.bool (cond b p q)))):=by
 intro hg j0 j a w o ho hrel;have h1:=iu (hc hg j0 j a w hrel);refine⟨_,?_,.d (.v _)⟩;cases b with
 |true=>
  have h2:=iu (hx ai j0 j a w hrel);simp_all [execOp,asBool]
 |false=>
  have h2:=iu (hy ai j0 j a w hrel);simp_all [execOp,asBool]
theorem GV{x i vs av}(hx:Arg g s x (.cj vs))(hi:vs[i]? =some av):s7 P g s (.extract x i) av:=by
 intro hg j0 j a w o ho hrel;have h1:=hx hg j0 j a w hrel;simp only[execOp,ho];generalize a.eval x=u at h1
 cases h1 with
 |cj us hs h=>
  obtain⟨hlt,he⟩:=List.getElem?_eq_some_iff.1 hi;have h2:=h i hlt;have h3:vs.getD i .undef=av:=ai;rw[h3] at h2;obtain⟨h4,h5⟩:=yC (us:=us) (i:=i) aa;rw[h5] at h2;exact⟨us[i],by simp[Instr.extract,h4],h2⟩
def CZ(P:Program)(t:TypeId)(f:Nat):Option (Nat×Bool×Nat):=
 match P.underlying t with
 |some (.struct fs)=>match fs[f]? with
  |some fd=>match eH P fd.type with
   |some (agg,m)=>some (fd.offset,agg,m)
   |none=>none
  |none=>none
 |_=>none
theorem NV{t x f off m agg}(hf:CZ P t f=some (off,agg,m))(hm:agg=false->m=1){cs}(hlt:off+m<=cs.length)(hx:Arg g s x (.agg cs)):
  s7 P g s (.field t x f) (loaded agg ((cs.drop off).take m)):=by
 intro hg j0 j a w o ho hrel;have h1:=hx hg j0 j a w hrel;simp only[execOp,ho];generalize a.eval x=u at h1
 unfold CZ at hf;split at hf
 ·rename_i fs hu;split at hf
  ·rename_i fd hfd;split at hf
   ·rename_i ag mm ht;simp only[Option.some.injEq,Prod.mk.injEq] at hf;obtain⟨rfl,rfl,rfl⟩:=hf;cases h1 with
    |agg us hs h=>
     obtain⟨v,h2,h3⟩:=qo (P:=P) (off:=fd.offset) ht hm hs h hlt;simp_all [Instr.field,underlying,asAgg]
   grind
  grind
 grind
theorem EP{fn f c fs cs}(hf:fs.length=f.toList.length/\∀k,k<f.toList.length->Arg g s (f.toList.getD k (.const Go.undef)) (fs.getD k .undef))(hc:cs.length=c.toList.length/\∀k,k<c.toList.length->Arg g s (c.toList.getD k (.const Go.undef)) (cs.getD k .undef)):
  s7 P g s (.makeFunc fn f c) (.clo fn fs cs):=by
 intro hg j0 j a w o ho hrel;refine⟨.func fn (f.map a.eval) (c.map a.eval),by simp[execOp,ho,Instr.makeFunc],.clo _ _ ai ai (fun k hk=> ?_) (fun k hk=> ?_)⟩
 ·have hk':k<f.toList.length:=ai;have:=hf.2 k hk' hg j0 j a w hrel;simp_all
 ·have hk':k<c.toList.length:=ai;have:=hc.2 k hk' hg j0 j a w hrel;simp_all
def eJ(P:Program)(t:TypeId):Nat:=
 match P.underlying t with
 |some (.slice _)=>1
 |some .string=>2
 |_=>0
def aaf(P:Program)(t:TypeId)(x:AV)(K:AV->Prop):Prop:=
 match x with
 | .d (.sl _ _ n _)=>Nat.beq (eJ P t) 1=true/\K (.d (.v (.int .i64 n)))
 | .d (.v (.slice _ n _))=>Nat.beq (eJ P t) 1=true/\K (.d (.v (.int .i64 n)))
 | .ms _ _ _ n=>Nat.beq (eJ P t) 1=true/\K (.d (.v (.int .i64 n)))
 | .mc _ _ _ n _=>Nat.beq (eJ P t) 1=true/\K (.d (.v (.int .i64 n)))
 | .d (.v (.string b))=>Nat.beq (eJ P t) 2=true/\K (.d (.v (.int .i64 b.size)))
 |_=>False
theorem zB{t}(h:Nat.beq (eJ P t) 1=true): ∃e,P.underlying t=some (.slice e):=by
 unfold eJ at h;split at h;all_goals simp_all
theorem Xx{t}(h:Nat.beq (eJ P t) 2=true):P.underlying t=some .string:=by
 unfold eJ at h;split at h;all_goals simp_all
theorem Ug{t x a K}(h:aaf P t a K)(hx:Arg g s x a)(at_)(hat:at_= #[t]): ∃av,K av/\s7 P g s (.call { callee:= .builtin .len,args:= #[x],argTypes:=at_ }) av:=by
 subst hat;have base: ∀n:Int,(∀(j:Js) (w:World) u,R w j a u->(Builtin.len_ #[t] 0 #[u]).run P w= .ok (.int .i64 n) w)->s7 P g s (.call { callee:= .builtin .len,args:= #[x],argTypes:= #[t] }) (.d (.v (.int .i64 n))):=by
  intro n hh hg j0 j a w o ho hrel;have h1:=hh j w _ (hx hg j0 j a w hrel);refine⟨.int .i64 n,?_,.d (.v _)⟩;have h2:(Builtin.len_ #[t] o.type #[a.eval x]).run P w= .ok (.int .i64 n) w:=h1;simp_all [execOp,resolve,invoke,builtin]
 unfold aaf at h;split at h
 ·obtain⟨ht,hK⟩:=h;obtain⟨e,hu⟩:=zB ht;refine⟨_,hK,base _ fun j w u hr=> ?_⟩;cases hr with|d hr=>
  cases hr<;>simp[Builtin.len_,underlying,hu,goInt]
 ·obtain⟨ht,hK⟩:=h;obtain⟨e,hu⟩:=zB ht;refine⟨_,hK,base _ fun j w u hr=> ?_⟩;have:=iu hr;subst this;simp[Builtin.len_,underlying,hu,goInt]
 ·obtain⟨ht,hK⟩:=h;obtain⟨e,hu⟩:=zB ht;refine⟨_,hK,base _ fun j w u hr=> ?_⟩;cases hr<;>simp[Builtin.len_,underlying,hu,goInt]
 ·obtain⟨ht,hK⟩:=h;obtain⟨e,hu⟩:=zB ht;refine⟨_,hK,base _ fun j w u hr=> ?_⟩;cases hr with|mc hr q hv=>subst hv;simp[Builtin.len_,underlying,hu,goInt]
 ·obtain⟨ht,hK⟩:=h;have hu:=Xx ht;refine⟨_,hK,base _ fun j w u hr=> ?_⟩;have:=iu hr;subst this;simp[Builtin.len_,underlying,hu,goInt]
 grind
def iQ(mx:Bool)(x y:AV)(K:AV->Prop):Prop:=
 match x,y with
 | .d (.v (.int k a)),.d (.v (.int k' b))=>K (.d (.v (.int k (if mx then max a b else min a b))))
 |_,_=>False
theorem xM{mx x y a b K}(h:iQ mx a b K)(hx:Arg g s x a)(hy:Arg g s y b)(at_): ∃av,K av/\s7 P g s (.call { callee:= .builtin (if mx then .max else .min),args:= #[x,y],argTypes:=at_ }) av:=by
 unfold iQ at h;split at h
 ·rename_i k m k' n;rw[show(if mx then max m n else min m n)=(if mx then(if m<n then n else m) else(if n<m then n else m)) by
   grind] at h
  refine⟨_,h,fun hg j0 j a w o ho hrel=>⟨_,?_,.d (.v _)⟩⟩;have h1:=iu (hx hg j0 j a w hrel);have h2:=iu (hy hg j0 j a w hrel);cases mx
  all_goals simp_all [execOp,resolve,invoke,builtin,Builtin.min_,Builtin.min2,Builtin.max_,Builtin.max2]
 grind
theorem uU{mx x y z a b c K}(h:iQ mx a b fun d=>iQ mx d c K)(hx:Arg g s x a)(hy:Arg g s y b)(hz:Arg g s z c)(at_): ∃av,K av/\s7 P g s (.call { callee:= .builtin (if mx then .max else .min),args:= #[x,y,z],argTypes:=at_ }) av:=by
 unfold iQ at h;split at h
 ·rename_i k m k' n;split at h
  ·rename_i k1 m1 k'' q he;simp only[AV.d.injEq,D.v.injEq,Value.int.injEq] at he;obtain⟨rfl,rfl⟩:=he;refine⟨_,h,fun hg j0 j a w o ho hrel=>⟨_,?_,.d (.v _)⟩⟩;have h1:=iu (hx hg j0 j a w hrel);have h2:=iu (hy hg j0 j a w hrel);have h3:=iu (hz hg j0 j a w hrel);cases mx
   ·have e: ∀p r:Int,(if r<p then r else p)=min p r:=fun p r=>by split<;>omega
    simp_all [execOp,resolve,invoke,builtin,Builtin.min_,Builtin.min2]
   ·have e: ∀p r:Int,(if p<r then r else p)=max p r:=fun p r=>by split<;>omega
    simp_all [execOp,resolve,invoke,builtin,Builtin.max_,Builtin.max2]
  grind
 grind
def ru(P:Program)(t:TypeId):Option IntKind:=match P.underlying t with|some (.int k)=>some k|_=>none
theorem Ow{src dst k k' n x}(hd:ru P dst=some k')(hs:ru P src=some k)(hx:Arg g s x (.d (.v (.int k n)))):s7 P g s (.convert src dst x) (.d (.v (.int k' (k'.wrap n)))):=by
 intro hg j0 j a w o ho hrel;have h1:=iu (hx hg j0 j a w hrel);have hu:P.underlying dst=some (.int k'):=by
  grind [ru]
 have hv:P.underlying src=some (.int k):=by
  grind [ru]
 exact⟨_,by simp_all [execOp,convert,underlying,Conv.intToInt],.d (.v _)⟩
def rm(P:Program)(t:TypeId):Bool:=match P.underlying t with|some .string=>true|_=>false
theorem Ov{src dst b x}(hd:rm P dst=true)(hs:rm P src=true)(hx:Arg g s x (.d (.v (.string b)))):s7 P g s (.convert src dst x) (.d (.v (.string b))):=by
 intro hg j0 j a w o ho hrel;have h1:=iu (hx hg j0 j a w hrel);have hu:P.underlying dst=some .string:=by
  grind [rm]
 have hv:P.underlying src=some .string:=by
  grind [rm]
 exact⟨_,by simp_all [execOp,convert,underlying],.d (.v _)⟩
theorem Ul{t}(ht:rm P t=true){b k}{i:Int}{x y}(hi:g=true->0<=i/\i<b.size)(hx:Arg g s x (.d (.v (.string b))))(hy:Arg g s y (.d (.v (.int k i)))):
  s7 P g s (.index t x y) (.d (.v (.int .u8 ((b[i.toNat]?).getD 0).toNat))):=by
 intro hg j0 j a w o ho hrel;have h1:=iu (hx hg j0 j a w hrel);have h2:=iu (hy hg j0 j a w hrel);have hu:P.underlying t=some .string:=by
  grind [rm]
 obtain⟨h3,h4⟩:=hi hg;have h5:b[i.toNat]? =some (b[i.toNat]'(aa)):=getElem?_pos b i.toNat aa;exact⟨_,by simp_all [execOp,Instr.index,asIntOf,underlying],.d (.v _)⟩
def arV(P:Program)(t:TypeId):Option (Nat×Bool×Nat):=
 match P.underlying t with
 |some (.array n e)=>match eH P e with
  |some (agg,m)=>some (n,agg,m)
  |none=>none
 |_=>none
theorem Um{t n m agg}(ht:arV P t=some (n,agg,m))(hm:(agg||Nat.beq m 1)=true){cs}(hl:n*m<=cs.length){k}{i:Int}{x y}(hi:g=true->0<=i/\i<n)(hx:Arg g s x (.agg cs))(hy:Arg g s y (.d (.v (.int k i)))):
  s7 P g s (.index t x y) (loaded agg ((cs.drop (i.toNat*m)).take m)):=by
 intro hg j0 j a w o ho hrel;have h1:=hx hg j0 j a w hrel;have h2:=iu (hy hg j0 j a w hrel);have hu: ∃e,P.underlying t=some (.array n e)/\eH P e=some (agg,m):=by
  grind [arV]
 obtain⟨e,hu,he⟩:=hu;obtain⟨h3,h4⟩:=hi hg;generalize hv:a.eval x=u at h1
 cases h1 with
 |agg us hus hur=>
 have hlt:i.toNat*m+m<=cs.length:=by
  have h5:i.toNat+1<=n:=aa;have h6:(i.toNat+1)*m<=n*m:=Nat.mul_le_mul_right m h5;grind
 obtain⟨v,hp,hr⟩:=qo (P:=P) (w:=w) (j:=j) (off:=i.toNat*m) he (by intro h;simp_all) hus hur hlt;refine⟨v,?_,hr⟩;have hs:=p9 he w;simp_all [execOp,Instr.index,asIntOf,underlying]
def uT:AV->Bool
 | .ptr .. =>true
 | .pe .. =>true
 | .el _=>true
 | .op b _=>b
 | .clo (.func _) _ _=>true
 |_=>false
theorem EG{x av}(hx:Arg g s x av)(ha:uT av=true):s7 P g s (.nilCheck x) av:=by
 intro hg j0 j a w o ho hrel;have h1:=hx hg j0 j a w hrel;refine⟨a.eval x,?_,h1⟩;simp only[execOp,ho];generalize a.eval x=u at h1
 cases h1 with
 |ptr h=>rfl
 |pe h=>rfl
 |el=>rfl
 | @op b cs v hh h0=>
  have:=hh ha;cases this with|el=>rfl
 | @clo fn fs cs ff cc _ _ _ _=>
  cases fn with
  |func f=>rfl
  |_=>grind [uT]
 |_=>simp[uT] at ha
end
section
variable {P : Program} {g : Bool} {s : St}
theorem er{w w':World}{S:Sem Value}{v:Value}(h:S.run P w= .ok v w'):(do pure (Next.value (←S)):Sem Next).run P w= .ok (.value v) w':=by
 simp[h]
def bnd(g:Bool)(s:St)(x:Option Operand)(dflt:Int)(K:Int->Prop):Prop:=
 match x with
 |none=>K dflt
 |some x=>arg g s x fun
  | .d (.v (.int _ i))=>K i
  |_=>False
def Bnd(g:Bool)(s:St)(x:Option Operand)(dflt i:Int):Prop:=
 match x with
 |none=>i=dflt
 |some x=> ∃k,Arg g s x (.d (.v (.int k i)))
theorem eO{x dflt K}(h:bnd g s x dflt K): ∃i,K i/\Bnd g s x dflt i:=by
 cases x with
 |none=>exact⟨_,h,rfl⟩
 |some x=>
  obtain⟨av,h1,h2⟩:=ar h;split at h1
  ·exact⟨_,h1,_,h2⟩
  grind
def Hu(σ:List aZ)(b sz x:Nat):Prop:=
 match σ[b]? with
 |some (.arr sz' n' _)=>Nat.beq sz sz'=true/\0<sz/\x<=n'
 |_=>False
theorem RH{w j σ b sz lo c x cb m e}(hS:aQ w j σ)(hr:Hu σ b sz x)(hj:j[b]? =some (some cb))(hsh:w.shape? cb=some (e,m))(hm:(lo+c)*sz=m):x<=lo+c:=by
 unfold Hu at hr;split at hr
 ·rename_i sz' n' row hb;obtain⟨h1,h2,h3⟩:=hr;have:=Nat.eq_of_beq_eq_true h1;subst this;obtain⟨o,ho,hB⟩:=hS.blk b _ hb;rw[hj] at ho;cases ho
  obtain⟨C,e',⟨f,hC,hf'⟩,hCs,_⟩:=hB;have hf:=Or.imp_left And.left hf';have:C.size=m:=K3;have h4:n'*sz<=(lo+c)*sz:=aa;exact Nat.le_trans h3 (Nat.le_of_mul_le_mul_right h4 h2)
 grind
theorem TR{w j σ b sz x}(hS:aQ w j σ)(hr:Hu σ b sz x)(hj:j[b]? =some none):x=0:=by
 unfold Hu at hr;split at hr
 ·rename_i sz' n' row hb;obtain⟨o,ho,hB⟩:=hS.blk b _ hb;rw[hj] at ho;cases ho
  have:n'=0:=hB;omega
 grind
def DM(P:Program)(g:Bool)(t:TypeId)(s:St)(x:AV)(lo hi mx:Option Operand)(K:AV->Prop):Prop:=
 match x with
 | .d (.v (.string b))=>(rm P t&&mx.isNone)=true/\bnd g s lo 0 fun l=>bnd g s hi b.size fun h=>(g=true->0<=l/\l<=h/\h<=b.size)/\K (.d (.v (.string (b.extract l.toNat h.toNat))))
 | .d (.sl cap sz n row)=>(match te P t with
  |some (_,m)=>Nat.beq m sz=true
  |none=>False)/\bnd g s lo 0 fun l=>bnd g s hi n fun h=>(match mx with
   |none=>(g=true->0<=l/\l<=h/\h<=n)/\K (.d (.sl (cap.map (·-l.toNat)) sz (h-l).toNat fun i=>row (l.toNat+i)))
   |some m=>hi.isSome=true/\bnd g s (some m) 0 fun m=>(g=true->0<=l/\l<=h/\h<=m/\m<=n)/\K (.d (.sl (some (m-l).toNat) sz (h-l).toNat fun i=>row (l.toNat+i))))
 | .d (.v (.slice none 0 0))=>(match te P t with
  |some _=>True
  |none=>False)/\bnd g s lo 0 fun l=>bnd g s hi 0 fun h=>mx.isNone=true/\(g=true->l=0/\h=0)/\K (.d (.v (.slice none 0 0)))
 | .ms b sz lo' n=>(match te P t with
  |some (_,m)=>Nat.beq m sz=true
  |none=>False)/\bnd g s lo 0 fun l=>bnd g s hi n fun h=>(match mx with
   |none=>(g=true->0<=l/\l<=h/\(h<=n\/Hu s.σ b sz (lo'+h.toNat)))/\K (.ms b sz (lo'+l.toNat) (h-l).toNat)
   |some m=>hi.isSome=true/\bnd g s (some m) 0 fun m=>(g=true->0<=l/\l<=h/\h<=m/\m<=n)/\K .undef)
 | .mc b sz lo' n c=>(match te P t with
  |some (_,m)=>Nat.beq m sz=true
  |none=>False)/\bnd g s lo 0 fun l=>bnd g s hi n fun h=>mx.isNone=true/\(g=true->0<=l/\l<=h/\h<=c)/\K (.mc b sz (lo'+l.toNat) (h-l).toNat (c-l.toNat))
 |_=>False
def BV(ev:Operand->Value)(x:Option Operand)(dflt i:Int):Prop:=
 match x with
 |none=>i=dflt
 |some x=> ∃k,ev x= .int k i
theorem gY{isS}{len cap:Nat}{lo hi l h ev}
  (hl:BV ev lo 0 l) (hh:BV ev hi len h) (h0:0<=l) (h1:l<=h) (h2:h<=cap) (w):
  (Instr.sliceBounds isS len cap (lo.map ev) (hi.map ev) none).run P w= .ok (l.toNat,h.toNat,cap) w:=by
 have e1:0<=h:=aa;have e2:(h.toNat:Int)=h:=Int.toNat_of_nonneg e1;cases hi with
 |none=>
  simp only[BV] at hh;subst hh;cases lo with
  |none=>simp_all [BV,Instr.sliceBounds]
  |some x=>
   obtain⟨k,hx⟩:=hl;simp_all [Instr.sliceBounds,Instr.sliceBound,asIntOf]
 |some y=>
  obtain⟨k',hy⟩:=hh;cases lo with
  |none=>simp_all [BV,Instr.sliceBounds,Instr.sliceBound,asIntOf]
  |some x=>
   obtain⟨k,hx⟩:=hl;simp_all [Instr.sliceBounds,Instr.sliceBound,asIntOf]
theorem lX{isS}{len cap:Nat}{lo hi mx l h m ev}
  (hl:BV ev lo 0 l) (hh: ∃k,ev hi= .int k h) (hm: ∃k,ev mx= .int k m) (h0:0<=l) (h1:l<=h) (h2:h<=m) (h3:m<=cap) (w):
  (Instr.sliceBounds isS len cap (lo.map ev) (some (ev hi)) (some (ev mx))).run P w= .ok (l.toNat,h.toNat,m.toNat) w:=by
 obtain⟨k,hh⟩:=hh;obtain⟨k',hm⟩:=hm;have e0:0<=m:=aa;have e1:0<=h:=aa;have e2:h<=(m.toNat:Int):=aa;cases lo with
 |none=>simp_all [BV,Instr.sliceBounds,Instr.sliceBound,asIntOf]
 |some x=>
  obtain⟨k,hx⟩:=hl;simp[Instr.sliceBounds,Instr.sliceBound,asIntOf,hx,hh,hm,e0,e1,h3,h0,show h<=max m 0 by omega,show l<=max h 0 by omega]
theorem Bnd.at{x dflt i}(h:Bnd g s x dflt i)(hg:g=true){j0 j a w}(hr:Rel j0 s j a w):BV a.eval x dflt i:=by
 cases x with
 |none=>exact h
 |some x=>obtain⟨k,hk⟩:=h;exact⟨k,iu (hk hg j0 j a w hr)⟩
theorem LF{t x lo hi mx av K}(h:DM P g t s av lo hi mx K)(hx:Arg g s x av): ∃r,K r/\s7 P g s (.slice t x lo hi mx) r:=by
 unfold DM at h;split at h
 ·rename_i b;obtain⟨ht,h⟩:=h;simp only[Bool.and_eq_true] at ht;obtain⟨l,h,hl⟩:=eO h;obtain⟨hh,h,hhi⟩:=eO h;obtain⟨hs,hK⟩:=h;have hu:P.underlying t=some .string:=by
   have:=ht.1;unfold rm at this;split at this<;>simp_all
  have hmx:mx=none:=by cases mx<;>simp_all
  subst hmx;refine⟨_,hK,fun hg j0 j a w o ho hrel=>⟨_,?_,.d (.v _)⟩⟩;have h1:=iu (hx hg j0 j a w hrel);obtain⟨h2,h3,h4⟩:=hs hg;have hb:=gY (P:=P) (isS:=false) (len:=b.size) (cap:=b.size) (hl.at hg hrel) (hhi.at hg hrel) h2 h3 h4 w;simp[execOp,ho,h1,Instr.sliceAt,Instr.slice,underlying,hu,hb]
 ·rename_i cap sz n row;obtain⟨ht,h⟩:=h;obtain⟨l,h,hl⟩:=eO h;obtain⟨hh,h,hhi⟩:=eO h;split at ht
  ·rename_i e m hsl;have hm:=Nat.eq_of_beq_eq_true ht;subst hm;obtain⟨hu,inf,ry,hsz⟩:=rV hsl;cases mx with
   |none=>
    simp only at h;obtain⟨hs,hK⟩:=h;refine⟨_,hK,fun hg j0 j a w o ho hrel=> ?_⟩;obtain⟨h2,h3,h4⟩:=hs hg;have h1:=hx hg j0 j a w hrel;simp only[execOp,ho];generalize a.eval x=u at h1
    cases h1 with|d h1=>
    cases h1 with
    |sl ad c val hcap hle ha hlt hb hlen hcell hr=>
     have hbr:=gY (P:=P) (isS:=true) (len:=n) (cap:=c) (hl.at hg hrel) (hhi.at hg hrel) h2 h3 aa w;have hrun:(Instr.sliceAt t (.slice (some ad) n c) (lo.map a.eval) (hi.map a.eval) none).run P w= .ok (.slice (if c=l.toNat then some ad else(some ad).map (·.add (l.toNat*m))) (hh.toNat-l.toNat) (c-l.toNat)) w:=by
      simp[Instr.sliceAt,Instr.slice,underlying,hu,hbr,Go.sizeOf,typeInfo,ry,hsz]
     refine⟨_,er hrun,.d ?_⟩;have e1:(hh-l).toNat=hh.toNat-l.toNat:=aa;rw[e1];have hcap':cap.map (·-l.toNat)=none\/cap.map (·-l.toNat)=some (c-l.toNat):=by
      rcases hcap with rfl|rfl
      ·exact .inl rfl
      ·exact .inr rfl
     by_cases hcl:c=l.toNat
     ·have:hh.toNat-l.toNat=0:=aa;rw[if_pos hcl,this];exact .zero _ _ hcap' an
     ·rw[if_neg hcl];simp only[Option.map_some];rw[da _ ha];refine .sl _ _ (fun i k=>val (l.toNat+i) k) hcap' aa rfl hlt hb (fun i hi=>hlen _ aa) (fun i hi k hk=> ?_) (fun i hi k hk=>hr _ aa k hk);have:=hcell (l.toNat+i) aa k hk;rw[Nat.add_mul,←Nat.add_assoc] at this;exact this
    |zero p c hcap hp=>
     have e0:l=0:=aa;have e1:hh=0:=aa;subst e0 e1;have hbr:=gY (P:=P) (isS:=true) (len:=0) (cap:=c) (hl.at hg hrel) (hhi.at hg hrel) aa aa aa w;have hrun:(Instr.sliceAt t (.slice p 0 c) (lo.map a.eval) (hi.map a.eval) none).run P w= .ok (.slice p 0 c) w:=by
      have e2:(p.map (·.add (0*m)))=p:=by cases p<;>simp[Addr.add]
      have e3:(p.map (·.add 0))=p:=by cases p<;>simp[Addr.add]
      simp[Instr.sliceAt,Instr.slice,underlying,hu,hbr,Go.sizeOf,typeInfo,ry,hsz,e3]
     refine⟨_,er hrun,.d ?_⟩;refine .zero _ _ ?_ hp;rcases hcap with rfl|rfl
     ·exact .inl rfl
     ·exact .inr rfl
   |some mm=>
    simp only at h;obtain⟨hsome,h⟩:=h;obtain⟨q,h,hq⟩:=eO h;obtain⟨hs,hK⟩:=h;refine⟨_,hK,fun hg j0 j a w o ho hrel=> ?_⟩;obtain⟨h2,h3,h4,h5⟩:=hs hg;have h1:=hx hg j0 j a w hrel;simp only[execOp,ho];generalize a.eval x=u at h1
    cases hi with
    |none=>simp at hsome
    |some hy=>
    cases h1 with|d h1=>
    cases h1 with
    |sl ad c val hcap hle ha hlt hb hlen hcell hr=>
     have hbr:=lX (P:=P) (isS:=true) (len:=n) (cap:=c) (hl.at hg hrel) (hhi.at hg hrel) (hq.at hg hrel) h2 h3 h4 aa w;have hrun:(Instr.sliceAt t (.slice (some ad) n c) (lo.map a.eval) ((some hy).map a.eval) ((some mm).map a.eval)).run P w= .ok (.slice (if q.toNat=l.toNat then some ad else(some ad).map (·.add (l.toNat*m))) (hh.toNat-l.toNat) (q.toNat-l.toNat)) w:=by
      simp only[Option.map_some];simp[Instr.sliceAt,Instr.slice,underlying,hu,hbr,Go.sizeOf,typeInfo,ry,hsz]
     refine⟨_,er hrun,.d ?_⟩;have e1:(hh-l).toNat=hh.toNat-l.toNat:=aa;have e2:(q-l).toNat=q.toNat-l.toNat:=aa;rw[e1,e2];by_cases hcl:q.toNat=l.toNat
     ·have:hh.toNat-l.toNat=0:=aa;rw[if_pos hcl,this];exact .zero _ _ (.inr rfl) an
     ·rw[if_neg hcl];simp only[Option.map_some];rw[da _ ha];refine .sl _ _ (fun i k=>val (l.toNat+i) k) (.inr rfl) aa rfl hlt hb (fun i hi=>hlen _ aa) (fun i hi k hk=> ?_) (fun i hi k hk=>hr _ aa k hk);have:=hcell (l.toNat+i) aa k hk;rw[Nat.add_mul,←Nat.add_assoc] at this;exact this
    |zero p c hcap hp=>
     have e0:l=0:=aa;have e1:hh=0:=aa;have e2:q=0:=aa;subst e0 e1 e2;have hbr:=lX (P:=P) (isS:=true) (len:=0) (cap:=c) (hl.at hg hrel) (hhi.at hg hrel) (hq.at hg hrel) aa aa aa aa w;have hrun:(Instr.sliceAt t (.slice p 0 c) (lo.map a.eval) ((some hy).map a.eval) ((some mm).map a.eval)).run P w= .ok (.slice p 0 0) w:=by
      simp only[Option.map_some];simp[Instr.sliceAt,Instr.slice,underlying,hu,hbr,Go.sizeOf,typeInfo,ry,hsz]
     refine⟨_,er hrun,.d ?_⟩;exact .zero _ _ (.inr rfl) (fun _=>rfl)
  ·exact ht.elim
 ·obtain⟨ht,h⟩:=h;obtain⟨l,h,hl⟩:=eO h;obtain⟨hh,h,hhi⟩:=eO h;obtain⟨hmx,hs,hK⟩:=h;have hmx:mx=none:=by cases mx<;>simp_all
  subst hmx;split at ht
  ·rename_i e m hsl;obtain⟨hu,inf,ry,hsz⟩:=rV hsl;refine⟨_,hK,fun hg j0 j a w o ho hrel=> ?_⟩;obtain⟨e0,e1⟩:=hs hg;subst e0 e1;have h1:=iu (hx hg j0 j a w hrel);have hbr:=gY (P:=P) (isS:=true) (len:=0) (cap:=0) (hl.at hg hrel) (hhi.at hg hrel) aa aa aa w;have hrun:(Instr.sliceAt t (.slice none 0 0) (lo.map a.eval) (hi.map a.eval) none).run P w= .ok (.slice none 0 0) w:=by
    simp[Instr.sliceAt,Instr.slice,underlying,hu,hbr,Go.sizeOf,typeInfo,ry]
   simp only[execOp,ho,h1];exact⟨_,er hrun,.d (.v _)⟩
  ·exact ht.elim
 ·rename_i b sz lo' n;obtain⟨ht,h⟩:=h;obtain⟨l,h,hl⟩:=eO h;obtain⟨hh,h,hhi⟩:=eO h;split at ht
  ·rename_i e m hsl;have hm:=Nat.eq_of_beq_eq_true ht;subst hm;obtain⟨hu,inf,ry,hsz⟩:=rV hsl;cases mx with
   |none=>
    obtain⟨hs,hK⟩:=h;refine⟨_,hK,fun hg j0 j a w o ho hrel=> ?_⟩;obtain⟨h2,h3,h4⟩:=hs hg;have h1:=hx hg j0 j a w hrel;simp only[execOp,ho];generalize a.eval x=u at h1
    have e1:(hh-l).toNat=hh.toNat-l.toNat:=aa;rw[e1];cases h1 with
    | @ms _ _ _ _ cb c e' m' hb hsh hn hmm=>
     have hc:hh<=c:=by
      rcases h4 with h4|h4
      ·omega
      ·have:=RH hrel.cm h4 hb hsh hmm;omega
     have hbr:=gY (P:=P) (isS:=true) (len:=n) (cap:=c) (hl.at hg hrel) (hhi.at hg hrel) h2 h3 hc w;have hrun:(Instr.sliceAt t (.slice (some ⟨cb,lo'*m,none⟩) n c) (lo.map a.eval) (hi.map a.eval) none).run P w= .ok (.slice (if c=l.toNat then some (⟨cb,lo'*m,none⟩:Addr) else some (Addr.add ⟨cb,lo'*m,none⟩ (l.toNat*m))) (hh.toNat-l.toNat) (c-l.toNat)) w:=by
      simp[Instr.sliceAt,Instr.slice,underlying,hu,hbr,Go.sizeOf,typeInfo,ry,hsz]
     refine⟨_,er hrun,?_⟩;have h6:lo'+l.toNat+(c-l.toNat)=lo'+c:=aa;by_cases h7:c=l.toNat
     ·rw[if_pos h7];by_cases h8:l.toNat=0
      ·rw[h8,Nat.add_zero,Nat.sub_zero,Nat.sub_zero];refine .ms _ _ _ hb hsh aa hmm
      ·have h9:hh.toNat-l.toNat=0:=aa;have h10:c-l.toNat=0:=aa;rw[h9,h10];refine .oY _ _ _ hb hsh aa ?_;rw[←h7];exact hmm
     ·rw[if_neg h7,da _ rfl,←Nat.add_mul];refine .ms _ _ _ hb hsh aa ?_;rw[h6];exact hmm
    | @oY _ _ _ cb p e' m' hb hsh adv hmm=>
     have e3:hh=0:=by
      rcases h4 with h4|h4
      ·omega
      ·have:=RH (c:=0) hrel.cm h4 hb hsh (by rw[Nat.add_zero];exact hmm);omega
     have e2:l=0:=aa;subst e2 e3;have hbr:=gY (P:=P) (isS:=true) (len:=0) (cap:=0) (hl.at hg hrel) (hhi.at hg hrel) aa aa aa w;have hrun:(Instr.sliceAt t (.slice p 0 0) (lo.map a.eval) (hi.map a.eval) none).run P w= .ok (.slice p 0 0) w:=by
      simp[Instr.sliceAt,Instr.slice,underlying,hu,hbr,Go.sizeOf,typeInfo,ry,hsz]
     exact⟨_,er hrun,.oY _ _ _ hb hsh adv hmm⟩
    |ms0 p hb=>
     have e3:hh=0:=by
      rcases h4 with h4|h4
      ·omega
      ·have:=TR hrel.cm h4 hb;omega
     have e2:l=0:=aa;subst e2 e3;have hbr:=gY (P:=P) (isS:=true) (len:=0) (cap:=0) (hl.at hg hrel) (hhi.at hg hrel) aa aa aa w;have hrun:(Instr.sliceAt t (.slice p 0 0) (lo.map a.eval) (hi.map a.eval) none).run P w= .ok (.slice p 0 0) w:=by
      simp[Instr.sliceAt,Instr.slice,underlying,hu,hbr,Go.sizeOf,typeInfo,ry,hsz]
     exact⟨_,er hrun,.ms0 _ hb⟩
   |some mm=>
    simp only at h;obtain⟨hsome,h⟩:=h;obtain⟨q,h,hq⟩:=eO h;obtain⟨hs,hK⟩:=h;refine⟨_,hK,fun hg j0 j a w o ho hrel=> ?_⟩;obtain⟨h2,h3,h4,h5⟩:=hs hg;have h1:=hx hg j0 j a w hrel;simp only[execOp,ho];generalize a.eval x=u at h1
    cases hi with
    |none=>simp at hsome
    |some hy=>
    cases h1 with
    | @ms _ _ _ _ cb c e' m' hb hsh hn hmm=>
     have hbr:=lX (P:=P) (isS:=true) (len:=n) (cap:=c) (hl.at hg hrel) (hhi.at hg hrel) (hq.at hg hrel) h2 h3 h4 aa w;have hrun:(Instr.sliceAt t (.slice (some ⟨cb,lo'*m,none⟩) n c) (lo.map a.eval) ((some hy).map a.eval) ((some mm).map a.eval)).run P w= .ok (.slice (if q.toNat=l.toNat then some ⟨cb,lo'*m,none⟩ else(some (⟨cb,lo'*m,none⟩:Addr)).map (·.add (l.toNat*m))) (hh.toNat-l.toNat) (q.toNat-l.toNat)) w:=by
      simp only[Option.map_some];simp[Instr.sliceAt,Instr.slice,underlying,hu,hbr,Go.sizeOf,typeInfo,ry,hsz]
     exact⟨_,er hrun,.undef _⟩
    |ms0 p hb=>
     have e0:l=0:=aa;have e1:hh=0:=aa;have e2:q=0:=aa;subst e0 e1 e2;have hbr:=lX (P:=P) (isS:=true) (len:=0) (cap:=0) (hl.at hg hrel) (hhi.at hg hrel) (hq.at hg hrel) aa aa aa aa w;have hrun:(Instr.sliceAt t (.slice p 0 0) (lo.map a.eval) ((some hy).map a.eval) ((some mm).map a.eval)).run P w= .ok (.slice p 0 0) w:=by
      simp only[Option.map_some];simp[Instr.sliceAt,Instr.slice,underlying,hu,hbr,Go.sizeOf,typeInfo,ry,hsz]
     exact⟨_,er hrun,.undef _⟩
    |oY p e' m' hb=>
     have e0:l=0:=aa;have e1:hh=0:=aa;have e2:q=0:=aa;subst e0 e1 e2;have hbr:=lX (P:=P) (isS:=true) (len:=0) (cap:=0) (hl.at hg hrel) (hhi.at hg hrel) (hq.at hg hrel) aa aa aa aa w;have hrun:(Instr.sliceAt t (.slice p 0 0) (lo.map a.eval) ((some hy).map a.eval) ((some mm).map a.eval)).run P w= .ok (.slice p 0 0) w:=by
      simp only[Option.map_some];simp[Instr.sliceAt,Instr.slice,underlying,hu,hbr,Go.sizeOf,typeInfo,ry,hsz]
     exact⟨_,er hrun,.undef _⟩
  ·exact ht.elim
 ·rename_i b sz lo' n c;obtain⟨ht,h⟩:=h;obtain⟨l,h,hl⟩:=eO h;obtain⟨hh,h,hhi⟩:=eO h;obtain⟨hmx,hs,hK⟩:=h;have hmx:mx=none:=by cases mx<;>simp_all
  subst hmx;split at ht
  ·rename_i e m hsl;have hm:=Nat.eq_of_beq_eq_true ht;subst hm;obtain⟨hu,inf,ry,hsz⟩:=rV hsl;refine⟨_,hK,fun hg j0 j a w o ho hrel=> ?_⟩;obtain⟨h2,h3,h4⟩:=hs hg;have h1:=hx hg j0 j a w hrel;simp only[execOp,ho];generalize a.eval x=u at h1
   have e1:(hh-l).toNat=hh.toNat-l.toNat:=aa;rw[e1];have hbr:=gY (P:=P) (isS:=true) (len:=n) (cap:=c) (hl.at hg hrel) (hhi.at hg hrel) h2 h3 aa w;cases h1 with|mc h1 q hv=>
   cases h1 with
   | @ms _ _ _ _ cb c' e' m' hb hsh hn hmm=>
    cases hv
    have hrun:(Instr.sliceAt t (.slice (some ⟨cb,lo'*m,none⟩) n c) (lo.map a.eval) (hi.map a.eval) none).run P w= .ok (.slice (if c=l.toNat then some (⟨cb,lo'*m,none⟩:Addr) else some (Addr.add ⟨cb,lo'*m,none⟩ (l.toNat*m))) (hh.toNat-l.toNat) (c-l.toNat)) w:=by
     simp[Instr.sliceAt,Instr.slice,underlying,hu,hbr,Go.sizeOf,typeInfo,ry,hsz]
    refine⟨_,er hrun,.mc ?_ _ rfl⟩;have h6:lo'+l.toNat+(c-l.toNat)=lo'+c:=aa;by_cases h7:c=l.toNat
    ·rw[if_pos h7];by_cases h8:l.toNat=0
     ·rw[h8,Nat.add_zero,Nat.sub_zero,Nat.sub_zero];exact .ms _ _ _ hb hsh aa hmm
     ·have h9:hh.toNat-l.toNat=0:=aa;have h10:c-l.toNat=0:=aa;rw[h9,h10];refine .oY _ _ _ hb hsh aa ?_;rw[←h7];exact hmm
    ·rw[if_neg h7,da _ rfl,←Nat.add_mul];refine .ms _ _ _ hb hsh aa ?_;rw[h6];exact hmm
   |ms0 p hb=>
    cases hv
    have e3:hh=0:=aa;have e2:l=0:=aa;subst e2 e3;have hrun:(Instr.sliceAt t (.slice q 0 0) (lo.map a.eval) (hi.map a.eval) none).run P w= .ok (.slice q 0 0) w:=by
     simp[Instr.sliceAt,Instr.slice,underlying,hu,hbr,Go.sizeOf,typeInfo,ry,hsz]
    exact⟨_,er hrun,.mc (.ms0 _ hb) _ rfl⟩
   | @oY _ _ _ cb p e' m' hb hsh adv hmm=>
    cases hv
    have e3:hh=0:=aa;have e2:l=0:=aa;subst e2 e3;have hrun:(Instr.sliceAt t (.slice q 0 0) (lo.map a.eval) (hi.map a.eval) none).run P w= .ok (.slice q 0 0) w:=by
     simp[Instr.sliceAt,Instr.slice,underlying,hu,hbr,Go.sizeOf,typeInfo,ry,hsz]
    exact⟨_,er hrun,.mc (.oY _ _ _ hb hsh adv hmm) _ rfl⟩
  ·exact ht.elim
 ·exact h.elim
end
def AN:AV->Bool
 | .d (.v x)=>x.oneCell'
 | .d (.sl _ _ _ _)=>true
 | .ptr _ _=>true
 | .pe _ _ _ _=>true
 | .el _=>true
 | .op _ _=>true
 | .ms _ _ _ _=>true
 | .mc _ _ _ _ _=>true
 | .mp _=>true
 | .clo _ _ _=>true
 | .rl _=>true
 | .fm _ _ _=>true
 |_=>false
theorem EB{w j av v}(h:R w j av v)(ho:AN av=true):v.oneCell'=true:=by
 cases h with
 |d h=>cases h<;>simp_all [AN,Value.oneCell']
 |mc h q hv=>subst hv;rfl
 | @op b _ _ hh h0=>
  cases b with
  |true=>cases hh rfl with|el a=>rfl
  |false=>rw[h0 rfl];rfl
 |_=>simp_all [AN,Value.oneCell']
def fJ:List AV->Bool
 |[]=>true
 |x::xs=>AN x&&fJ xs
theorem BD: ∀{cs k},fJ cs=true->k<cs.length->AN (cs.getD k .undef)=true
 |[],_,_,hk=>by grind
 |x::xs,0,h,_=>by grind [fJ]
 |x::xs,k+1,h,hk=>by
  simp[fJ] at h;have:=BD (k:=k) h.2 ai;grind
theorem sW{w j av v}(h:R w j av v)(ho:fJ (cellsOf av)=true):
  v.cells.size=(cellsOf av).length/\∀k,k<(cellsOf av).length->R w j ((cellsOf av).getD k .undef) (v.cells.getD k Go.undef)/\(v.cells.getD k Go.undef).oneCell'=true:=by
 have fin: ∀k,k<(cellsOf av).length->R w j ((cellsOf av).getD k .undef) (v.cells.getD k Go.undef)->(v.cells.getD k Go.undef).oneCell'=true:=fun k hk hr=>EB hr (BD ho hk);cases h with
 |agg vs hs h=>exact⟨hs,fun k hk=>⟨h k hk,fin k hk (h k hk)⟩⟩
 |d h=>
  have hv:v.oneCell'=true:=EB (.d h) (by grind [cellsOf,fJ]);have hc:v.cells= #[v]:=by cases v<;>simp_all [Value.oneCell',Value.cells]
  refine⟨by rw[hc];rfl,fun k hk=> ?_⟩;simp only[cellsOf,List.length_singleton,Nat.lt_one_iff] at hk;subst hk;rw[hc];exact⟨.d h,hv⟩
 |undef|iff|cj=>grind [cellsOf,fJ,AN]
 |ptr h=>exact⟨rfl,fun k hk=>by simp only[cellsOf,List.length_singleton,Nat.lt_one_iff] at hk;subst hk;exact⟨.ptr h,rfl⟩⟩
 |pe h=>exact⟨rfl,fun k hk=>by simp only[cellsOf,List.length_singleton,Nat.lt_one_iff] at hk;subst hk;exact⟨.pe h,rfl⟩⟩
 |el a val h1 h2 h3 h4 h5=>exact⟨rfl,fun k hk=>by simp only[cellsOf,List.length_singleton,Nat.lt_one_iff] at hk;subst hk;exact⟨.el a val h1 h2 h3 h4 h5,rfl⟩⟩
 |ms c e m h1 h2 h3 h4=>exact⟨rfl,fun k hk=>by simp only[cellsOf,List.length_singleton,Nat.lt_one_iff] at hk;subst hk;exact⟨.ms c e m h1 h2 h3 h4,rfl⟩⟩
 |ms0 p h=>exact⟨rfl,fun k hk=>by simp only[cellsOf,List.length_singleton,Nat.lt_one_iff] at hk;subst hk;exact⟨.ms0 p h,rfl⟩⟩
 |oY p e m h h1 h2 h3=>exact⟨rfl,fun k hk=>by simp only[cellsOf,List.length_singleton,Nat.lt_one_iff] at hk;subst hk;exact⟨.oY p e m h h1 h2 h3,rfl⟩⟩
 |mp h=>exact⟨rfl,fun k hk=>by simp only[cellsOf,List.length_singleton,Nat.lt_one_iff] at hk;subst hk;exact⟨.mp h,rfl⟩⟩
 |mc h q hv=>subst hv;exact⟨rfl,fun k hk=>by simp only[cellsOf,List.length_singleton,Nat.lt_one_iff] at hk;subst hk;exact⟨.mc h q rfl,rfl⟩⟩
 | @op b cs v hh h0=>
  have hv: ∃p,v= .pointer p:=by
   cases b with
   |true=>cases hh rfl<;>grind
   |false=>grind
  obtain⟨p,rfl⟩:=hv;exact⟨rfl,fun k hk=>by simp only[cellsOf,List.length_singleton,Nat.lt_one_iff] at hk;subst hk;exact⟨.op hh h0,rfl⟩⟩
 |fm c cl es h1 h2 h3 h4=>exact⟨rfl,fun k hk=>by simp only[cellsOf,List.length_singleton,Nat.lt_one_iff] at hk;subst hk;exact⟨.fm c cl es h1 h2 h3 h4,rfl⟩⟩
 |rl h=>exact⟨rfl,fun k hk=>by simp only[cellsOf,List.length_singleton,Nat.lt_one_iff] at hk;subst hk;exact⟨.rl h,rfl⟩⟩
 |clo ff cc h1 h2 h3 h4=>exact⟨rfl,fun k hk=>by simp only[cellsOf,List.length_singleton,Nat.lt_one_iff] at hk;subst hk;exact⟨.clo ff cc h1 h2 h3 h4,rfl⟩⟩
def fO{α:Type}(cs:List α)(off:Nat)(vs:List α):List α:=cs.take off++(vs++cs.drop (off+vs.length))
theorem iL{α}{cs vs:List α}{off}(h:off+vs.length<=cs.length):(fO cs off vs).length=cs.length:=by
 grind [fO]
theorem lv{α cs vs off k}{d:α}(h:off+vs.length<=cs.length):(fO cs off vs).getD k d=if off<=k/\k<off+vs.length then vs.getD (k-off) d else cs.getD k d:=by
 grind [fO]
theorem foldl_set(vs:Array Value)(off:Nat)(C:Array Value)(h:off+vs.size<=C.size):
  (vs.zipIdx.foldl (fun cs (c,j)=>cs.setIfInBounds (off+j) c) C).size=C.size/\∀k,(vs.zipIdx.foldl (fun cs (c,j)=>cs.setIfInBounds (off+j) c) C).getD k Go.undef=if off<=k/\k<off+vs.size then vs.getD (k-off) Go.undef else C.getD k Go.undef:=by
 have gen: ∀(l:List Value) (i:Nat) (C:Array Value),off+i+l.length<=C.size->
   ((l.zipIdx i).foldl (fun(cs:Array Value) (p:Value×Nat)=>cs.setIfInBounds (off+p.2) p.1) C).size=C.size/\∀k,((l.zipIdx i).foldl (fun(cs:Array Value) (p:Value×Nat)=>cs.setIfInBounds (off+p.2) p.1) C).getD k Go.undef=if off+i<=k/\k<off+i+l.length then l.getD (k-(off+i)) Go.undef else C.getD k Go.undef:=by
  intro l;induction l with
  |nil=>simp_all [if_neg]
  |cons x l ih=>
   intro i C hC;simp only[List.zipIdx_cons,List.foldl_cons,List.length_cons] at hC⊢;obtain⟨h1,h2⟩:=ih (i+1) (C.setIfInBounds (off+i) x) ai;refine⟨ai,fun k=> ?_⟩;rw[h2,iT (w:=default) (j:=[]) aa];grind
 have:=gen vs.toList 0 C ai;grind [Array.toList_zipIdx,Array.getD_eq_getD_getElem?]
def A8(places:List (Nat×Nat))(cells:List AV):List (Nat×AV)->Option (List AV)
 |[]=>some cells
 |(i,v)::rest=>match places[i]? with
  |some (off,size)=>if fJ (cellsOf v)&&Nat.beq (cellsOf v).length size&&Nat.ble (off+size) cells.length then A8 places (fO cells off (cellsOf v)) rest else none
  |none=>none
theorem nM{w j places pl}(hp: ∀i x,places[i]? =some x->pl i=some x): ∀{parts vals cells r C},
  C.size=cells.length->(∀k,k<cells.length->R w j (cells.getD k .undef) (C.getD k Go.undef))->parts.length=vals.length->(∀k,k<parts.length->(parts.getD k (0,.undef)).1=(vals.getD k (0,Go.undef)).1/\R w j (parts.getD k (0,.undef)).2 (vals.getD k (0,Go.undef)).2)->
  A8 places cells parts=some r->∃C',Instr.fill pl C vals=some C'/\C'.size=r.length/\r.length=cells.length/\∀k,k<r.length->R w j (r.getD k .undef) (C'.getD k Go.undef)
 |[],[],cells,r,C,h1,h2,_,_,h5=>by
  simp only[A8,Option.some.injEq] at h5;subst h5;exact⟨C,rfl,h1,rfl,h2⟩
 |[],_::_,_,_,_,_,_,h3,_,_=>by grind
 |_::_,[],_,_,_,_,_,h3,_,_=>by grind
 |(i,v)::parts,(i',u)::vals,cells,r,C,h1,h2,h3,h4,h5=>by
  have h0:=h4 0 an;simp at h0;obtain⟨rfl,hvu⟩:=h0;simp only[A8] at h5;split at h5
  ·rename_i off size hpl;split at h5
   ·rename_i hc;simp only[Bool.and_eq_true,Nat.ble_eq] at hc;obtain⟨⟨hone,hsz⟩,hle⟩:=hc;have hsz:=Nat.eq_of_beq_eq_true hsz;subst hsz;obtain⟨hus,hur⟩:=sW hvu hone;have hf:=foldl_set u.cells off C aa;have hlen:=iL (cs:=cells) (vs:=cellsOf v) (off:=off) hle;obtain⟨C',g1,g2,g3,g4⟩:=nM (w:=w) (j:=j) hp (parts:=parts) (vals:=vals) (cells:=fO cells off (cellsOf v)) (r:=r) (C:=u.cells.zipIdx.foldl (fun cs (c,j)=>cs.setIfInBounds (off+j) c) C)
     ai (fun k hk=>by
      grind [lv]) ai (fun k hk=>by have:=h4 (k+1) ai;grind) h5
    grind [Instr.fill]
   grind
  grind
def bM(P:Program)(t:TypeId):Option (List (Nat×Nat)×List Value):=
 match P.info? t with
 |some i=>match i.zero with
  |some z=>match P.underlying t with
   |some (.struct fs)=>match fs.toList.mapM (fun f=>(P.info? f.type).map fun i=>(f.offset,i.size)) with
    |some ps=>some (ps,z.cells.toList)
    |none=>none
   |some (.array n e)=>match P.info? e with
    |some ie=>some ((List.range n).map fun k=>(k*ie.size,ie.size),z.cells.toList)
    |none=>none
   |_=>none
  |none=>none
 |none=>none
theorem AS{P:Program}{w:World} : ∀{fs:List Field} {ps:List (Nat×Nat)},fs.mapM (fun f=>(P.info? f.type).map fun i=>(f.offset,i.size))=some ps->(fs.mapM (fun f=>do pure (f.offset,←Go.sizeOf f.type):Field->Sem (Nat×Nat))).run P w= .ok ps w
 |[],ps,h=>by simp_all
 |f::fs,ps,h=>by
  rw[List.mapM_cons] at h;cases hi:P.info? f.type with
  |none=>grind
  |some i=>
   cases hq:fs.mapM (fun f=>(P.info? f.type).map fun i=>(f.offset,i.size)) with
   |none=>grind
   |some qs=>
   simp[hi,hq] at h;subst h;have hsz:(do pure (f.offset,←Go.sizeOf f.type):Sem (Nat×Nat)).run P w= .ok (f.offset,i.size) w:=by simp[Go.sizeOf,typeInfo,hi]
   rw[List.mapM_cons,Sem.run_bind,hsz];simp only[Result.andThen_ok,Sem.run_bind,AS hq,Sem.run_pure]
def KE(P:Program)(t:TypeId)(parts:List (Nat×AV))(K:AV->Prop):Prop:=
 match bM P t with
 |some (ps,z)=>(match A8 ps (z.map fun v=> .d (.v v)) parts with
  |some r=>K (.agg r)
  |none=>False)
 |none=>False
theorem U2{P t w j parts}{vals:List (Nat×Value)}(h3:parts.length=vals.length)(h4: ∀k,k<parts.length->(parts.getD k (0,.undef)).1=(vals.getD k (0,Go.undef)).1/\R w j (parts.getD k (0,.undef)).2 (vals.getD k (0,Go.undef)).2)
  {ps z} (hp:bM P t=some (ps,z)) {r} (hr:A8 ps (z.map fun v=> .d (.v v)) parts=some r):
  ∃v,(Instr.build t vals.toArray).run P w= .ok v w/\R w j (.agg r) v:=by
 unfold bM at hp;split at hp
 ·rename_i i hi;split at hp
  ·rename_i zz hz;have hzc: ∀(C:Array Value),C.toList=z->C.size=(z.map fun v=>AV.d (.v v)).length/\∀k,k<(z.map fun v=>AV.d (.v v)).length->R w j ((z.map fun v=>AV.d (.v v)).getD k .undef) (C.getD k Go.undef):=by
    intro C hC;subst hC;refine⟨an,fun k hk=> ?_⟩;simp only[List.length_map,Array.length_toList] at hk;have h1:(C.toList.map fun c=>AV.d (.v c)).getD k .undef=AV.d (.v (C.getD k Go.undef)):=by
     simp_all
    rw[h1];exact .d (.v _)
   split at hp
   ·rename_i fs hu;split at hp
    ·rename_i qs hq;simp only[Option.some.injEq,Prod.mk.injEq] at hp;obtain⟨rfl,hz2⟩:=hp;obtain⟨g1,g2⟩:=hzc zz.cells hz2;obtain⟨C',f1,f2,f3,f4⟩:=nM (w:=w) (j:=j) (places:=qs) (pl:=(qs.toArray[·]?)) (fun i x hx=>ai) g1 g2 h3 h4 hr;refine⟨.agg C',?_,.agg C' f2 f4⟩;have hm:(fs.mapM (fun f=>do pure (f.offset,←Go.sizeOf f.type):Field->Sem (Nat×Nat))).run P w= .ok qs.toArray w:=by
      rw[←Array.toArray_toList (xs:=fs),List.mapM_toArray,Sem.run_map,AS hq];rfl
     simp_all [Instr.build,zeroValue,typeInfo,underlying]
    grind
   ·rename_i n e hu;split at hp
    ·rename_i ie hie;simp only[Option.some.injEq,Prod.mk.injEq] at hp;obtain⟨rfl,hz2⟩:=hp;obtain⟨g1,g2⟩:=hzc zz.cells hz2;obtain⟨C',f1,f2,f3,f4⟩:=nM (w:=w) (j:=j) (pl:=fun i=>some (i*ie.size,ie.size)) (fun i x hx=>by
      grind) g1 g2 h3 h4 hr
     refine⟨.agg C',?_,.agg C' f2 f4⟩;simp_all [Instr.build,zeroValue,typeInfo,underlying,Go.sizeOf]
    grind
   grind
  grind
 grind
def oW(g:Bool)(s:St):List (Nat×Operand)->(List (Nat×AV)->Prop)->Prop
 |[],K=>K []
 |(i,x)::xs,K=>arg g s x fun a=>oW g s xs fun tI=>K ((i,a)::tI)
theorem jO{g s} : ∀{xs K},oW g s xs K->∃ps,K ps/\ps.length=xs.length/\∀k,k<xs.length->(ps.getD k (0,.undef)).1=(xs.getD k (0,.const Go.undef)).1/\Arg g s (xs.getD k (0,.const Go.undef)).2 (ps.getD k (0,.undef)).2
 |[],K,h=>⟨[],h,rfl,an⟩
 |(i,x)::xs,K,h=>by
  obtain⟨av,h1,h2⟩:=ar h;obtain⟨QQ,h3,h4,h5⟩:=jO h1;grind
theorem OL{P g s t ps K}(h:oW g s ps.toList fun parts=>KE P t parts K): ∃av,K av/\s7 P g s (.build t ps) av:=by
 obtain⟨parts,h,hl,hp⟩:=jO h;unfold KE at h;split at h
 ·rename_i pl z hpl;split at h
  ·rename_i r hr;refine⟨_,h,fun hg j0 j a w o ho hrel=> ?_⟩;obtain⟨v,h1,h2⟩:=U2 (P:=P) (w:=w) (j:=j) (t:=t) (parts:=parts) (vals:=ps.toList.map fun p=>(p.1,a.eval p.2)) ai (fun k hk=>by
    have hk':k<ps.toList.length:=ai;have:=hp k hk';have e:(ps.toList.map fun p=>(p.1,a.eval p.2)).getD k (0,Go.undef)=((ps.toList.getD k (0,.const Go.undef)).1,a.eval (ps.toList.getD k (0,.const Go.undef)).2):=by
     grind
    rw[e];exact⟨this.1,this.2 hg j0 j a w hrel⟩) hpl hr
   refine⟨v,?_,h2⟩;have e:(ps.toList.map fun p=>(p.1,a.eval p.2)).toArray=ps.map fun(i,x)=>(i,a.eval x):=by
    grind
   grind [execOp,er]
  grind
 grind
theorem vQ(av:AV):av.avoids []=true:=by
 induction av using AV.rec (motive_2:=fun l=>cH [] l=true)<;>simp_all [AV.avoids,cH]
theorem R.iy{j j' w w'}(he:Ev j w j' w')(hl: ∀b cb:Nat,j[b]? =some (some cb)->cb<w.heap.size)(hag:Ag j j' []){av v}(h:R w j av v):R w' j' av v:=
 h.mono he hl hag (vQ av)
theorem sK(X)(av:AV):av.free=true->av.avoids X=true:=by
 induction av using AV.rec (motive_2:=fun l=>pF l=true->cH X l=true)<;>grind [pF,cH,AV.avoids,AV.free]
theorem R.pE{j j' w w'}(he:Ev j w j' w')(hl: ∀b cb:Nat,j[b]? =some (some cb)->cb<w.heap.size){av v}(h:R w j av v)(hf:av.free=true):R w' j' av v:=
 h.mono he hl (X:=List.range j.length) (fun b hb hn=>absurd (List.mem_range.2 hb) hn) (sK _ av hf)
theorem ft.mono{j j' w w'}(he:Ev j w j' w')(hl: ∀b cb:Nat,j[b]? =some (some cb)->cb<w.heap.size){es cl d ks f}(h:ft w j es cl d ks f):ft w' j' es cl d ks f:=
 ⟨h.stamped,h.keys,h.kind,h.free,fun e hm k hk=>(h.rel e hm k hk).pE he hl (h.free k)⟩
theorem oe.mono{j j' w w'}(he:Ev j w j' w')(hl: ∀b cb:Nat,j[b]? =some (some cb)->cb<w.heap.size){mb es cl seen left cur f}(h:oe w j mb es cl seen left cur f):oe w' j' mb es cl seen left cur f:=
 ⟨Nat.lt_of_lt_of_le h.lt he.size,fun hm=>h.own (he.sub _ h.lt hm),by rw[he.keep _ h.lt h.own];exact h.heap,h.stamped,h.keys,h.cur,h.free,fun e hm k hk=>(h.rel e hm k hk).pE he hl (h.free k)⟩
theorem RB.mono{j j' w w'}(he:Ev j w j' w')(hl: ∀b cb:Nat,j[b]? =some (some cb)->cb<w.heap.size)(hag:Ag j j' []){x o}(h:RB w j x o)(ho: ∀cb,o=some cb->w'.heap[cb]? =w.heap[cb]?):RB w' j' x o:=by
 cases x with
 |dead=>trivial
 |loc c=>
  obtain⟨h1,h2,h3,m,h4⟩:=h;exact⟨h1,Nat.lt_of_lt_of_le h2 he.size,fun hm=>h3 (he.sub _ h2 hm),m,(qK (a:=⟨c,0,none⟩) (he.keep c h2 h3)).trans h4⟩
 |tab c vs=>
  obtain⟨h1,h2,h3,e,h4,h5⟩:=h;exact⟨h1,Nat.lt_of_lt_of_le h2 he.size,fun hm=>h3 (he.sub _ h2 hm),e,(he.LH c h2).trans h4,fun i=>(qK (a:=⟨c,i,none⟩) (he.keep c h2 h3)).trans (h5 i)⟩
 |var cs=>
  cases o with
  |none=>exact h
  |some cb=>
   obtain⟨C,e,h1,h2,h3⟩:=h;exact⟨C,e,um,h2,fun k hk=>(h3 k hk).iy he hl hag⟩
 |arr sz n row=>
  cases o with
  |none=>exact h
  |some cb=>
   obtain⟨C,e,h1,h2,h3⟩:=h;exact⟨C,e,h1.at (ho cb rfl),h2,fun i hi=>⟨(h3 i hi).1,fun k hk=>((h3 i hi).2 k hk).mono he⟩⟩
 |lp L st pd=>
  cases o with
  |none=>exact h
  |some cb=>
   obtain⟨r,h1,h2,h3,h4⟩:=h;exact⟨r,um,h2,h3,fun k av hk=>⟨(h4 k av hk).1,(h4 k av hk).2.iy he hl hag⟩⟩
 |mp d ks f=>
  cases o with
  |none=>exact h
  |some cb=>
   obtain⟨es,cl,h1,h2⟩:=h;exact⟨es,cl,um,h2.mono he hl⟩
 |GK d ks f κ q=>
  cases o with
  |none=>exact h
  |some cb=>
   obtain⟨es,cl,h1,h2,hx⟩:=h;exact⟨es,cl,um,h2.mono he hl,hx⟩
 |it left cur f=>
  cases o with
  |none=>exact h
  |some cb=>
   obtain⟨mb,es,cl,seen,h1,h2⟩:=h;exact⟨mb,es,cl,seen,um,h2.mono he hl⟩
theorem bR(w:World)(o){i}(h:i<w.heap.size):(w.alloc o).heap[i]? =w.heap[i]? :=by
 show(w.heap.push o)[i]? =_
 grind
theorem pH(j j' w ob)(hj: ∀b,b<w.heap.size->some b∈j'->some b∈j):Ev j w j' (w.alloc ob) where
 size:=by simp
 keep b hb _:=bR w _ hb
 sub:=hj
 LH b hb:=by grind [World.shape?,bR]
 tY a ha:=by grind [World.frozen?,bR]
 os:=rfl
 tape:=rfl
 output:=rfl
 lps b r hb:=⟨r,by grind [bR]⟩
theorem lS(j j' w C t)(hj: ∀b,b<w.heap.size->some b∈j'->some b∈j):Ev j w j' (w.alloc (.cells C t)):=pH j j' w _ hj
theorem cg(j o):Ag j (j++[o]) []:=by
 intro b hb _;grind
theorem aQ.QY{w j σ}(h:aQ w j σ)(ob x)
  (hx:RB (w.alloc ob) (j++[some w.heap.size]) x (some w.heap.size)):
  aQ (w.alloc ob) (j++[some w.heap.size]) (σ++[x])/\Ev j w (j++[some w.heap.size]) (w.alloc ob):=by
 have he:Ev j w (j++[some w.heap.size]) (w.alloc ob):=pH _ _ _ _ (fun b hb hm=>by
  grind)
 refine⟨⟨C8,fun b cb hb=> ?_,fun b b' cb hb hb'=> ?_,fun b y hy=> ?_⟩,he⟩
 ·rw[List.getElem?_append] at hb;split at hb
  ·have:=h.lt b cb hb;simp;omega
  simp_all [List.getElem?_singleton]
 ·have key: ∀q:Nat,(j++[some w.heap.size])[q]? =some (some cb)->(j[q]? =some (some cb)/\cb<w.heap.size)\/(q=j.length/\cb=w.heap.size):=by
   intro q hq;rw[List.getElem?_append] at hq;split at hq
   ·exact .inl ⟨hq,h.lt q cb hq⟩
   grind
  rcases key b hb with h1|h1<;>rcases key b' hb' with h2|h2
  ·exact h.inj b b' cb h1.1 h2.1
  all_goals grind
 ·rw[List.getElem?_append] at hy;split at hy
  ·obtain⟨o,ho,hB⟩:=h.blk b y hy;have hbl:b<j.length:=ai;refine⟨o,ai,hB.mono he h.lt (cg _ _) fun cb hcb=> ?_⟩;subst hcb;exact bR w _ (h.lt b cb ho)
  ·rw[List.getElem?_singleton] at hy;split at hy<;>simp at hy;subst hy;refine⟨some w.heap.size,?_,hx⟩;rw[List.getElem?_append_right Ai,List.getElem?_singleton,if_pos Ai]
theorem aQ.alloc{w j σ}(h:aQ w j σ)(C t x)
  (hx:RB (w.alloc (.cells C t)) (j++[some w.heap.size]) x (some w.heap.size)):
  aQ (w.alloc (.cells C t)) (j++[some w.heap.size]) (σ++[x])/\Ev j w (j++[some w.heap.size]) (w.alloc (.cells C t)):=h.QY _ x hx
def St.newVar(s:St)(cs:List AV):St:= { s with σ:=s.σ++[.var cs] }
theorem Rel.newVar{j0 j s a w}(h:Rel j0 s j a w)(C t){cs}(hs:C.size=cs.length)(hc: ∀k,k<cs.length->R w j (cs.getD k .undef) (C.getD k Go.undef)):
  Rel j0 (s.newVar cs) (j++[some w.heap.size]) a (w.alloc (.cells C t))/\Ev j w (j++[some w.heap.size]) (w.alloc (.cells C t))/\R (w.alloc (.cells C t)) (j++[some w.heap.size]) (.ptr s.σ.length 0) (.pointer (some ⟨w.heap.size,0,none⟩)):=by
 have he:Ev j w (j++[some w.heap.size]) (w.alloc (.cells C t)):=lS _ _ _ _ _ (fun b hb hm=>by
  grind)
 obtain⟨h1,h2⟩:=h.cm.alloc C t (.var cs) ⟨C,t,heap_alloc_new w _,hs,fun k hk=>(hc k hk).iy he h.cm.lt (cg _ _)⟩;refine⟨?_,h2,.ptr ?_⟩
 ·have:=h.after h2 h1 an (cg _ _);exact this
 ·rw[List.getElem?_append_right (by rw[h.cm.len];omega)];simp[h.cm.len]
def KP:List AV->Option (List D)
 |[]=>some []
 | .d x::xs=>(KP xs).map (x:: ·)
 | .clo fn [] []::xs=>(KP xs).map (.v (.func fn #[] #[]):: ·)
 |_=>none
theorem Q3{w j fn v}(h:R w j (.clo fn [] []) v):v= .func fn #[] #[]:=by
 cases h<;>grind
theorem zW: ∀{vs ds},KP vs=some ds->ds.length=vs.length/\∀{w j k v},k<vs.length->R w j (vs.getD k .undef) v->RD w j (ds.getD k default) v:=by
 intro vs;induction vs with
 |nil=>grind [KP]
 |cons x xs ih=>
  intro ds h;have main: ∀(d:D),(∀{w:World} {j:Js} {v:Value},R w j x v->RD w j d v)->(KP xs).map (d:: ·)=some ds->ds.length=(x::xs).length/\∀{w:World} {j:Js} {k:Nat} {v:Value},k<(x::xs).length->R w j ((x::xs).getD k .undef) v->RD w j (ds.getD k default) v:=by
   intro d hd h;simp only[Option.map_eq_some_iff] at h;obtain⟨ys,h1,h2⟩:=h;subst h2;obtain⟨h3,h4⟩:=ih h1;refine⟨ai,fun {w j k v} hk hr=> ?_⟩;cases k with
   |zero=>grind
   |succ k=>simp_all
  unfold KP at h;split at h
  ·grind
  ·rename_i he;cases he;exact main _ (fun hr=>by cases hr<;>grind) h
  ·rename_i he;cases he;exact main _ (fun hr=>by rw[Q3 hr];exact .v _) h
  grind
def pf(σ:List aZ)(p:AV)(vs:List AV):Option (Prop×List aZ):=
 match p with
 | .ptr b off=>match σ[b]? with
  |some (.var cs)=>if Nat.ble (off+vs.length) cs.length then some (True,σ.set b (.var (fO cs off vs))) else none
  |_=>none
 | .pe b sz i k=>match σ[b]? with
  |some (.arr sz' n row)=>if Nat.beq sz sz'&&Nat.ble (k+vs.length) sz then(match KP vs with
   |some ds=>some (i<n,σ.set b (.arr sz n fun q=>if q=i then fO (row i) k ds else row q))
   |none=>none) else none
  |_=>none
 |_=>none
theorem qf{w:World}{g C C' e f}(hg:w.heap[g]? =some (.cells C e f))(hs:C'.size=C.size)(b):(w.setRow g C').shape? b=w.shape? b:=by
 by_cases h:b=g
 ·subst h;simp[World.shape?,setRow_heap w b C C' e f hg,hg,hs]
 grind [World.shape?,setRow_other]
theorem GU{w:World}{g C C' e f}(hg:w.heap[g]? =some (.cells C e f))(a):(w.setRow g C').frozen? a=w.frozen? a:=by
 by_cases h:a.block=g
 ·subst h;simp[World.frozen?,setRow_heap w _ C C' e f hg,hg]
 grind [World.frozen?,setRow_other]
theorem mS{j w g C C' e f}(hg:w.heap[g]? =some (.cells C e f))(hs:C'.size=C.size)(hj:some g∈j):Ev j w j (w.setRow g C') where
 size:=by simp
 keep b _ hn:=setRow_other w g b C' (fun he=>hn (he▸hj))
 sub _ _ h:=h
 LH b _:=qf hg hs b
 tY a _:=GU hg a
 os:=rfl
 tape:=rfl
 output:=rfl
 lps b r hb:=⟨r,by grind [setRow_other]⟩
theorem gA{P}(g o t f): ∀vs i cur w,w.heap[g]? =some (.cells cur t f)->(cur.size<=f.1\/f=(0,0))->o+i+vs.length<=cur.size->(∀v∈vs,v.oneCell'=true)->
  (storeCells ⟨g,o,none⟩ vs i).run P w= .ok () (w.setRow g (cur.toList.take (o+i)++vs++cur.toList.drop (o+i+vs.length)).toArray)
 |[],i,cur,w,hg,_,_,_=>by
  simp only[storeCells,List.append_nil,List.length_nil,Nat.add_zero,List.take_append_drop,Array.toArray_toList];rw[setRow_self w g cur t f hg];rfl
 |v::rest,i,cur,w,hg,hf,hl,h1=>by
  have hi:o+i<cur.size:=ai;have hadd:(⟨g,o,none⟩:Addr).add i=⟨g,o+i,none⟩:=by grind [Addr.add]
  have hcell:w.cell? ⟨g,o+i,none⟩=some cur[o+i]:=by grind [World.cell?]
  have hfro:w.frozen? ⟨g,o+i,none⟩=false:=by
   grind [World.frozen?]
  have hst:(store ((⟨g,o,none⟩:Addr).add i) v).run P w= .ok () (w.setRow g (cur.setIfInBounds (o+i) v)):=by
   rw[hadd,run_store P w _ v _ (h1 v an),hcell];simp[hfro,setCell_eq_setRow w g (o+i) cur t f v hg]
  have hrest:=gA (P:=P) g o t f rest (i+1) (cur.setIfInBounds (o+i) v) (w.setRow g (cur.setIfInBounds (o+i) v)) (setRow_heap w g cur _ t _ hg) (by simpa using hf) (by simp at hl⊢;omega) (fun x hx=>h1 x (by simp[hx]));simp only[storeCells,Sem.run_bind,hst,Result.andThen_ok,hrest,setRow_setRow];congr 3
  have hstep:=list_seg_step cur.toList (o+i) v rest (by simp at hl⊢;omega);simpa[Array.toList_setIfInBounds,Nat.add_assoc] using hstep
theorem aQ.setRow{w j σ}(h:aQ w j σ){b g}(hb:j[b]? =some (some g)){C C' e f}(hg:w.heap[g]? =some (.cells C e f))(hs:C'.size=C.size){x}
  (hx:RB (w.setRow g C') j x (some g)):aQ (w.setRow g C') j (σ.set b x)/\Ev j w j (w.setRow g C'):=by
 have he:Ev j w j (w.setRow g C'):=mS hg hs (List.mem_of_getElem? hb);refine⟨⟨C8,fun b cb hb=>by have:=h.lt b cb hb;simp_all,h.inj,fun b' y hy=> ?_⟩,he⟩;rw[List.getElem?_set] at hy;split at hy
 ·grind
 ·rename_i hbb;obtain⟨o,ho,hB⟩:=h.blk b' y hy;refine⟨o,ho,hB.mono he h.lt (.refl _ _) fun cb hcb=> ?_⟩;subst hcb;exact setRow_other w g cb C' (fun hc=>hbb (h.inj b b' g hb (hc▸ho)))
theorem lK{C:Array Value}{vs off k}(h:off+vs.length<=C.size):((C.toList.take off++vs++C.toList.drop (off+vs.length)).toArray).getD k Go.undef=if off<=k/\k<off+vs.length then vs.getD (k-off) Go.undef else C.getD k Go.undef:=by
 have:=lv (cs:=C.toList) (vs:=vs) (off:=off) (k:=k) (d:=Go.undef) ai;simp_all [fO]
theorem rR{P w j σ}(hS:aQ w j σ){t agg m}(ht:eH P t=some (agg,m)){p v pv vv}(hp:R w j p pv)(hv:R w j v vv)(hone:fJ (cellsOf v)=true)(hlen:(cellsOf v).length=m)
  {side σ'} (hst:pf σ p (cellsOf v)=some (side,σ')) (hside:side):
  ∃w',(Instr.storeAt t pv vv).run P w= .ok () w'/\aQ w' j σ'/\Ev j w j w':=by
 obtain⟨hcs,hcr⟩:=sW hv hone;have afh: ∀u∈vv.cells.toList,u.oneCell'=true:=by
  intro u hu;obtain⟨k,hk,rfl⟩:=List.getElem_of_mem hu;simp only[Array.length_toList] at hk;have:=(hcr k aa).2;simpa[Array.getD_eq_getD_getElem?,hk] using this
 have hrun: ∀(g o:Nat) (C:Array Value) (e:TypeId) (f:Nat×Nat),w.heap[g]? =some (.cells C e f)->(C.size<=f.1\/f=(0,0))->o+m<=C.size->pv= .pointer (some ⟨g,o,none⟩)->
   (Instr.storeAt t pv vv).run P w= .ok () (w.setRow g (C.toList.take o++vv.cells.toList++C.toList.drop (o+vv.cells.toList.length)).toArray):=by
  intro g o C e f hg hf ho hpv;have h1:=gA (P:=P) g o e f vv.cells.toList 0 C w hg hf ai afh;simp only[Nat.add_zero] at h1;rw[hpv];have h2: ¬(vv.cells.size≠m):=aa;unfold Instr.storeAt;simp only[Instr.sureAddr,Sem.run_bind,Sem.run_pure,Result.andThen_ok];unfold storeVar;simp only[Sem.run_bind,p9 ht,Result.andThen_ok,h2,if_false,h1]
 have hsz: ∀(o:Nat) (C:Array Value),o+m<=C.size->(C.toList.take o++vv.cells.toList++C.toList.drop (o+vv.cells.toList.length)).toArray.size=C.size:=by
  grind
 have hval: ∀(o:Nat) (C:Array Value) (k:Nat),o+m<=C.size->((C.toList.take o++vv.cells.toList++C.toList.drop (o+vv.cells.toList.length)).toArray).getD k Go.undef=if o<=k/\k<o+m then vv.cells.getD (k-o) Go.undef else C.getD k Go.undef:=by
  intro o C k ho;rw[lK ai];simp_all
 unfold pf at hst;split at hst
 ·rename_i b off;split at hst
  ·rename_i cs hb;split at hst
   ·rename_i hle;simp only[Option.some.injEq,Prod.mk.injEq] at hst;obtain⟨rfl,rfl⟩:=hst;simp only[Nat.ble_eq] at hle;cases hp with
    | @ptr _ _ g hj=>
    obtain⟨o,ho,hB⟩:=hS.blk b _ hb;rw[hj] at ho;cases ho
    obtain⟨C,e,hC,hCs,CY⟩:=hB;refine⟨_,hrun g off C e (0,0) hC (.inr rfl) aa rfl,?_⟩;have he:=mS (j:=j) hC (hsz off C aa) (List.mem_of_getElem? hj);refine hS.setRow hj hC (hsz off C aa) ⟨_,e,setRow_heap w g C _ e (0,0) hC,?_,fun k hk=> ?_⟩
    ·grind [iL]
    ·rw[iL aa] at hk;rw[hval off C k aa,lv aa,hlen];split
     ·exact((hcr _ aa).1).iy he hS.lt (.refl _ _)
     ·exact(CY k hk).iy he hS.lt (.refl _ _)
   grind
  grind
 ·rename_i b sz i k;split at hst
  ·rename_i sz' n row hb;split at hst
   ·rename_i hle;split at hst;case h_2=>grind
    rename_i ds hds;obtain⟨hdl0,hds⟩:=zW hds;have hdl:ds.length=m:=ai;have ag7: ∀k,k<m->RD w j (ds.getD k default) (vv.cells.getD k Go.undef):=by
     grind
    simp only[Option.some.injEq,Prod.mk.injEq] at hst;obtain⟨rfl,rfl⟩:=hst;simp only[Bool.and_eq_true,Nat.ble_eq] at hle;have hsz':=Nat.eq_of_beq_eq_true hle.1;subst hsz';cases hp with
    | @pe _ _ _ _ g hj=>
    obtain⟨o,ho,hB⟩:=hS.blk b _ hb;rw[hj] at ho;cases ho
    obtain⟨C,e,⟨f,hC,hf'⟩,hCs,CY⟩:=hB;have hf:=Or.imp_left And.left hf';have hbound:i*sz+sz<=n*sz:=by
     have:(i+1)*sz<=n*sz:=Nat.mul_le_mul_right _ hside;grind
    have hfit:i*sz+k+m<=C.size:=aa;refine⟨_,hrun g (i*sz+k) C e f hC hf hfit rfl,?_⟩;have he:=mS (j:=j) hC (hsz (i*sz+k) C hfit) (List.mem_of_getElem? hj);refine hS.setRow hj hC (hsz _ C hfit) ⟨_,e,⟨f,setRow_heap w g C _ e f hC,ai⟩,?_,fun q hq=> ?_⟩
    ·grind
    ·have hrow:=CY q hq;by_cases hqi:q=i
     ·subst hqi;simp only[if_true];refine⟨by grind [iL],fun c hc=> ?_⟩;rw[hval _ C _ hfit,lv aa,hdl];by_cases hin:k<=c/\c<k+m
      ·rw[if_pos hin,if_pos aa,show q*sz+c-(q*sz+k)=c-k by omega];exact(ag7 _ aa).mono he
      ·rw[if_neg hin,if_neg aa];exact(hrow.2 c hc).mono he
     ·simp only[hqi,if_false];refine⟨hrow.1,fun c hc=> ?_⟩;have hout: ¬(i*sz+k<=q*sz+c/\q*sz+c<i*sz+k+m):=by
       rcases Nat.lt_or_gt_of_ne hqi with hlt|hlt
       ·have:(q+1)*sz<=i*sz:=Nat.mul_le_mul_right _ hlt;grind
       ·have:(i+1)*sz<=q*sz:=Nat.mul_le_mul_right _ hlt;grind
      rw[hval _ C _ hfit,if_neg hout];exact(hrow.2 c hc).mono he
   grind
  grind
 grind
def rU(P:Program)(t:TypeId):Option (TypeId×Nat×Nat×List Value):=
 match P.underlying t with
 |some (.slice e)=>match P.info? e with
  |some i=>match i.zero with
   |some z=>if Nat.beq z.cells.size i.size then some (e,i.size,i.bytes,z.cells.toList) else none
   |none=>none
  |none=>none
 |_=>none
theorem lJ{P t e sz bytes z}(h:rU P t=some (e,sz,bytes,z)):
  P.underlying t=some (.slice e)/\∃i zz,P.info? e=some i/\i.zero=some zz/\i.size=sz/\i.bytes=bytes/\zz.cells.toList=z/\zz.cells.size=sz:=by
 grind [rU,Nat.eq_of_beq_eq_true]
def Xj:D->Bool
 | .v x=>x.oneCell'
 | .sl _ _ _ _=>true
def lG:List D->Bool
 |[]=>true
 |x::xs=>Xj x&&lG xs
theorem Ua{w j x v}(h:RD w j x v)(ho:Xj x=true):v.oneCell'=true:=by
 cases h<;>simp_all [Xj,Value.oneCell']
theorem qQ: ∀{cs k},lG cs=true->k<cs.length->Xj (cs.getD k default)=true
 |[],_,_,hk=>by grind
 |x::xs,0,h,_=>by grind [lG]
 |x::xs,k+1,h,hk=>by
  simp[lG] at h;have:=qQ (k:=k) h.2 ai;grind
def BQ(σ:List aZ)(sz:Nat)(y:AV)(K:Nat->(Nat->List D)->Prop):Prop:=
 match y with
 | .d (.sl _ sz' k row)=>Nat.beq sz sz'=true/\(∀i,i<k->lG (row i)=true)/\K k row
 | .d (.v (.slice none 0 0))=>K 0 fun _=>[]
 | .ms b sz' lo k=>match σ[b]? with
  |some (.arr rN n row)=>(Nat.beq sz sz'&&Nat.beq sz rN)=true/\lo+k<=n/\(∀i,i<k->lG (row (lo+i))=true)/\K k fun i=>row (lo+i)
  |_=>False
 | .mc b sz' lo k _=>match σ[b]? with
  |some (.arr rN n row)=>(Nat.beq sz sz'&&Nat.beq sz rN)=true/\lo+k<=n/\(∀i,i<k->lG (row (lo+i))=true)/\K k fun i=>row (lo+i)
  |_=>False
 | .d (.v (.string b))=>Nat.beq sz 1=true/\K b.size fun i=>[.v (.int .u8 ((b[i]?).getD 0).toNat)]
 |_=>False
structure Src(P:Program)(w:World)(j:Js)(sz k:Nat)(rows:Nat->List D)(v:Value)(news:List Value):Prop where
 len:(Builtin.lenOf v).run P w= .ok k w
 first: ∀w',(∀b,b<w.heap.size->w'.heap[b]? =w.heap[b]?)->(Builtin.firstCells sz k v).run P w'= .ok news.toArray w'
 size:news.length=k*sz
 rlen: ∀i,i<k->(rows i).length=sz
 rel: ∀i,i<k->∀q,q<sz->RD w j ((rows i).getD q default) (news.getD (i*sz+q) Go.undef)
 one: ∀u∈news,u.oneCell'=true
theorem D0{k sz}{news:List Value}{rows:Nat->List D}{w j}(size:news.length=k*sz)(rlen: ∀i,i<k->(rows i).length=sz)
  (rel: ∀i,i<k->∀q,q<sz->RD w j ((rows i).getD q default) (news.getD (i*sz+q) Go.undef)) (hone: ∀i,i<k->lG (rows i)=true): ∀u∈news,u.oneCell'=true:=by
 intro u hu;obtain⟨q,hq,rfl⟩:=List.getElem_of_mem hu;have hsz:0<sz:=by
  grind
 have h1:q/sz<k:=by
  rw[size] at hq;simp_all [Nat.div_lt_of_lt_mul,Nat.mul_comm]
 have h2:q%sz<sz:=Nat.mod_lt _ hsz;grind [Nat.div_add_mod,Ua,qQ]
theorem bS{P w sz k len cap a}{news:List Value}(hl:news.length=k*sz)(h: ∀q,q<news.length->w.cell? (a.add q)=some (news.getD q Go.undef)):(Builtin.firstCells sz k (.slice (some a) len cap)).run P w= .ok news.toArray w:=
 run_firstCells_some w sz k a len cap news hl (fun q v hq=>by
  grind)
theorem pP{w w':World}(h: ∀b,b<w.heap.size->w'.heap[b]? =w.heap[b]?){a v}(hc:w.cell? a=some v):w'.cell? a=some v:=by
 grind [qK,block_lt_of_cell]
theorem td{P w j σ}(hS:aQ w j σ){sz y v K}(h:BQ σ sz y K)(hr:R w j y v): ∃k rows news,K k rows/\Src P w j sz k rows v news:=by
 unfold BQ at h;split at h
 ·rename_i cap sz' k row;obtain⟨hb,hone,hK⟩:=h;have:=Nat.eq_of_beq_eq_true hb;subst this;cases hr with|d hr=>
  cases hr with
  |sl a c val hcap hle ha hlt hbj hlen hcell hrel=>
   let news:List Value:=(List.range (k*sz)).map fun q=>val (q/sz) (q%sz)
   have hsize:news.length=k*sz:=ai;have hget: ∀q,q<k*sz->news.getD q Go.undef=val (q/sz) (q%sz):=by
    grind
   have hcl: ∀q,q<news.length->w.cell? (a.add q)=some (news.getD q Go.undef):=by
    grind [Nat.eq_zero_or_pos,Nat.div_lt_of_lt_mul,Nat.mod_lt,Nat.div_add_mod,da]
   have A5: ∀i,i<k->∀q,q<sz->RD w j ((row i).getD q default) (news.getD (i*sz+q) Go.undef):=by
    intro i hi q hq;have hb:i*sz+q<k*sz:=by
     have:(i+1)*sz<=k*sz:=Nat.mul_le_mul_right _ hi;grind
    rw[hget _ hb];have e1:(i*sz+q)/sz=i:=by
     grind [Nat.mul_comm,Nat.mul_add_div,Nat.div_eq_of_lt]
    grind [Nat.mul_comm,Nat.mul_add_mod,Nat.mod_eq_of_lt]
   refine⟨k,row,news,hK,rJ,fun w' hw'=> ?_,hsize,hlen,A5,D0 hsize hlen A5 hone⟩;grind [bS,pP]
  |zero p c hcap hp=>
   refine⟨0,row,[],hK,rJ,fun w' hw'=> ?_,an,an,an,an⟩;cases p with
   |none=>simp[Builtin.firstCells]
   |some a=>grind [bS]
 ·have:=iu hr;subst this;exact⟨0,_,[],h,rJ,fun w' _=>by simp[Builtin.firstCells],an,an,an,an⟩
 ·rename_i b sz' lo k;split at h
  ·rename_i rN n row hb;obtain⟨hbb,hle,hone,hK⟩:=h;simp only[Bool.and_eq_true] at hbb;have e1:=Nat.eq_of_beq_eq_true hbb.1;have e2:=Nat.eq_of_beq_eq_true hbb.2;subst e1 e2;obtain⟨o,ho,hB⟩:=hS.blk b _ hb;cases hr with
   | @ms _ _ _ _ cb c e m hj hsh hn hm=>
    rw[hj] at ho;cases ho
    obtain⟨C,e',⟨f,hC,hf'⟩,hCs,CY⟩:=hB;have hf:=Or.imp_left And.left hf';have hmul:(lo+k)*sz<=n*sz:=Nat.mul_le_mul_right _ hle;rw[Nat.add_mul] at hmul;let news:List Value:=(List.range (k*sz)).map fun q=>C.getD (lo*sz+q) Go.undef
    have hsize:news.length=k*sz:=ai;have hget: ∀q,q<k*sz->news.getD q Go.undef=C.getD (lo*sz+q) Go.undef:=by
     intro q hq;simp[news,List.getD_eq_getElem?_getD,hq]
    have A5: ∀i,i<k->∀q,q<sz->RD w j ((row (lo+i)).getD q default) (news.getD (i*sz+q) Go.undef):=by
     intro i hi q hq;have hb:i*sz+q<k*sz:=by
      have:(i+1)*sz<=k*sz:=Nat.mul_le_mul_right _ hi;grind
     grind
    refine⟨k,fun i=>row (lo+i),news,hK,rJ,fun w' hw'=> ?_,hsize,fun i hi=>(CY (lo+i) aa).1,A5,D0 hsize (fun i hi=>(CY (lo+i) aa).1) A5 hone⟩;refine bS hsize fun q hq=>pP hw' ?_;rw[hsize] at hq;rw[da _ rfl,cell_of hC,hget q hq];simp[Array.getD_eq_getD_getElem?,show lo*sz+q<C.size by omega]
   |ms0 p hj=>
    refine⟨0,fun i=>row (0+i),[],hK,rJ,fun w' hw'=> ?_,an,an,an,an⟩;cases p with
    |none=>simp[Builtin.firstCells]
    |some a=>grind [bS]
   |oY p e m hj hsh hlo hm=>
    refine⟨0,fun i=>row (lo+i),[],hK,rJ,fun w' hw'=> ?_,an,an,an,an⟩;cases p with
    |none=>simp[Builtin.firstCells]
    |some a=>grind [bS]
  grind
 ·rename_i b sz' lo k _;cases hr with|mc hr _ _=>
  split at h
  ·rename_i rN n row hb;obtain⟨hbb,hle,hone,hK⟩:=h;simp only[Bool.and_eq_true] at hbb;have e1:=Nat.eq_of_beq_eq_true hbb.1;have e2:=Nat.eq_of_beq_eq_true hbb.2;subst e1 e2;obtain⟨o,ho,hB⟩:=hS.blk b _ hb;cases hr with
   | @ms _ _ _ _ cb c e m hj hsh hn hm=>
    rw[hj] at ho;cases ho
    obtain⟨C,e',⟨f,hC,hf'⟩,hCs,CY⟩:=hB;have hf:=Or.imp_left And.left hf';have hmul:(lo+k)*sz<=n*sz:=Nat.mul_le_mul_right _ hle;rw[Nat.add_mul] at hmul;let news:List Value:=(List.range (k*sz)).map fun q=>C.getD (lo*sz+q) Go.undef
    have hsize:news.length=k*sz:=ai;have hget: ∀q,q<k*sz->news.getD q Go.undef=C.getD (lo*sz+q) Go.undef:=by
     intro q hq;simp[news,List.getD_eq_getElem?_getD,hq]
    have A5: ∀i,i<k->∀q,q<sz->RD w j ((row (lo+i)).getD q default) (news.getD (i*sz+q) Go.undef):=by
     intro i hi q hq;have hb:i*sz+q<k*sz:=by
      have:(i+1)*sz<=k*sz:=Nat.mul_le_mul_right _ hi;grind
     grind
    refine⟨k,fun i=>row (lo+i),news,hK,rJ,fun w' hw'=> ?_,hsize,fun i hi=>(CY (lo+i) aa).1,A5,D0 hsize (fun i hi=>(CY (lo+i) aa).1) A5 hone⟩;refine bS hsize fun q hq=>pP hw' ?_;rw[hsize] at hq;rw[da _ rfl,cell_of hC,hget q hq];simp[Array.getD_eq_getD_getElem?,show lo*sz+q<C.size by omega]
   |ms0 p hj=>
    refine⟨0,fun i=>row (0+i),[],hK,rJ,fun w' hw'=> ?_,an,an,an,an⟩;cases p with
    |none=>simp[Builtin.firstCells]
    |some a=>grind [bS]
   |oY p e m hj hsh hlo hm=>
    refine⟨0,fun i=>row (lo+i),[],hK,rJ,fun w' hw'=> ?_,an,an,an,an⟩;cases p with
    |none=>simp[Builtin.firstCells]
    |some a=>grind [bS]
  grind
 ·rename_i b;obtain⟨hb,hK⟩:=h;have:=Nat.eq_of_beq_eq_true hb;subst this;have:=iu hr;subst this;let news:List Value:=b.data.toList.map fun x=> .int .u8 x.toNat
  have hl:news.length=b.size:=by simp[news]
  refine⟨b.size,_,news,hK,rJ,fun w' _=> ?_,aa,an,fun i hi q hq=> ?_,?_⟩
  ·have e1:(b.extract 0 b.size).data=b.data:=by
    simp_all
   simp only[Builtin.firstCells,e1,news,Sem.run_pure];congr 1
   grind
  ·have:q=0:=aa;subst this;have hi':i<b.data.size:=hi;have e2:b[i]? =some b.data[i]:=by
    rw[getElem?_pos b i hi];rfl
   have e1:news.getD (i*1+0) Go.undef= .int .u8 (b.data[i]).toNat:=by
    grind
   rw[e1];simp only[e2,Option.getD_some];exact .v _
  ·intro u hu;simp only[news,List.mem_map] at hu;obtain⟨x,_,rfl⟩:=hu;rfl
 grind
section
variable {P : Program} {w : World}
theorem eP{t t' ty e d' i zz}(hu:P.underlying t=some (.slice e))(hu':P.underlying t'=some d')(hd':d'= .string\/∃e',d'= .slice e')(hi:P.info? e=some i)(hz:i.zero=some zz)
  {p n c k v} {olds news:List Value} (ho:(Builtin.firstCells i.size n (.slice p n c)).run P w.drew= .ok olds.toArray w.drew) (hl:(Builtin.lenOf v).run P w= .ok k w) (hf:(Builtin.firstCells i.size k v).run P w.drew= .ok news.toArray w.drew)
  (hg:c<n+k) (h63:n+k<=9223372036854775807) (hb:(n+k)*i.bytes<=140737488355328):
  (Builtin.append_ #[t,t'] ty #[.slice p n c,v]).run P w= .ok (.slice (some ⟨w.heap.size,0,none⟩) (n+k) (grownCap w (n+k) c e))
   (w.drew.alloc (.cells (olds.toArray++news.toArray++Builtin.zeroCells zz.cells (grownCap w (n+k) c e-(n+k))) e)):=by
 have h1: ¬(n+k<=c):=aa;have h2: ¬(9223372036854775807<(n:Int)+(k:Int)):=aa;have h3: ¬(281474976710656<Builtin.nextslicecap (n+k) c*i.bytes):=by simp_all [growslice_fits]
 rcases hd' with rfl|⟨e',rfl⟩;all_goals
  simp[Builtin.append_,run_underlying hu,run_underlying hu',Go.sizeOf,typeInfo,zeroValue,hi,hz,hl,h1,h2,h3,Question.forced,hf,ho,newRow,grownCap];grind
theorem rj{t t' ty e d' i}(hu:P.underlying t=some (.slice e))(hu':P.underlying t'=some d')(hd':d'= .string\/∃e',d'= .slice e')(hi:P.info? e=some i)
  {g n c k v news C ec f} (hC:w.heap[g]? =some (.cells C ec f)) (hfz:C.size<=f.1\/f=(0,0)) (hl:(Builtin.lenOf v).run P w= .ok k w) (hf:(Builtin.firstCells i.size k v).run P w= .ok news.toArray w)
  (hlen:news.length=k*i.size) (hone: ∀u∈news,u.oneCell'=true) (hg:n+k<=c) (hfit:(n+k)*i.size<=C.size):
  (Builtin.append_ #[t,t'] ty #[.slice (some ⟨g,0,none⟩) n c,v]).run P w= .ok (.slice (some ⟨g,0,none⟩) (n+k) c) (w.setRow g (C.toList.take (n*i.size)++news++C.toList.drop (n*i.size+news.length)).toArray):=by
 rw[Nat.add_mul] at hfit;have hst:=gA (P:=P) g (n*i.size) ec f news 0 C w hC hfz aa hone;simp only[Nat.add_zero] at hst;have hadd:(⟨g,0,none⟩:Addr).add (n*i.size)=⟨g,n*i.size,none⟩:=by grind [da]
 rcases hd' with rfl|⟨e',rfl⟩;all_goals simp[Builtin.append_,run_underlying hu,run_underlying hu',Go.sizeOf,typeInfo,hi,hl,hg,hf,hadd,hst]
theorem iS{t t' ty e d' i}(hu:P.underlying t=some (.slice e))(hu':P.underlying t'=some d')(hd':d'= .string\/∃e',d'= .slice e')(hi:P.info? e=some i)
  {p n c v} (hl:(Builtin.lenOf v).run P w= .ok 0 w) (hf:(Builtin.firstCells i.size 0 v).run P w= .ok #[] w) (hg:n<=c):
  (Builtin.append_ #[t,t'] ty #[.slice p n c,v]).run P w= .ok (.slice p n c) w:=by
 rcases hd' with rfl|⟨e',rfl⟩;all_goals cases p<;>simp[Builtin.append_,run_underlying hu,run_underlying hu',Go.sizeOf,typeInfo,hi,hl,hg,hf,storeCells]
end
def bP(X:List Nat):aZ->aZ
 | .var cs=> .var (cs.map fun c=>if c.avoids X then c else .undef)
 | .lp L st pd=> .lp { L with t:=cq X L.t } st pd
 |x=>x
theorem RB.LQ{j w}(X){x o}(h:RB w j x o):RB w j (bP X x) o:=by
 cases x with
 |dead=>exact h
 |loc c=>exact h
 |tab c vs=>exact h
 |arr sz n row=>exact h
 |mp d ks f=>exact h
 |GK d ks f κ q=>exact h
 |it left cur f=>exact h
 |lp L st pd=>
  cases o with
  |none=>exact h
  |some cb=>
   obtain⟨r,h1,h2,h3,h4⟩:=h;exact⟨r,h1,h2,h3,fun k av hk=>h4 k av (mX hk).1⟩
 |var cs=>
  cases o with
  |none=>exact h
  |some cb=>
   obtain⟨C,e,h1,h2,h3⟩:=h;refine⟨C,e,h1,ai,fun k hk=> ?_⟩;simp only[List.length_map] at hk;have e1:(cs.map fun c=>if c.avoids X then c else AV.undef).getD k .undef=if(cs.getD k .undef).avoids X then cs.getD k .undef else .undef:=by
    grind
   rw[e1];split
   ·grind
   ·exact .undef _
theorem RB.ab5{j j' w w' X}(he:Ev j w j' w')(hl: ∀b cb:Nat,j[b]? =some (some cb)->cb<w.heap.size)(hag:Ag j j' X){x o}(h:RB w j x o)(ho: ∀cb,o=some cb->w'.heap[cb]? =w.heap[cb]?):RB w' j' (bP X x) o:=by
 cases x with
 |dead=>trivial
 |loc c=>
  obtain⟨h1,h2,h3,m,h4⟩:=h;exact⟨h1,Nat.lt_of_lt_of_le h2 he.size,fun hm=>h3 (he.sub _ h2 hm),m,(qK (a:=⟨c,0,none⟩) (he.keep c h2 h3)).trans h4⟩
 |tab c vs=>
  obtain⟨h1,h2,h3,e,h4,h5⟩:=h;exact⟨h1,Nat.lt_of_lt_of_le h2 he.size,fun hm=>h3 (he.sub _ h2 hm),e,(he.LH c h2).trans h4,fun i=>(qK (a:=⟨c,i,none⟩) (he.keep c h2 h3)).trans (h5 i)⟩
 |var cs=>
  cases o with
  |none=>exact h
  |some cb=>
   obtain⟨C,e,h1,h2,h3⟩:=h;refine⟨C,e,ai,ai,fun k hk=> ?_⟩;simp only[List.length_map] at hk;have e1:(cs.map fun c=>if c.avoids X then c else AV.undef).getD k .undef=if(cs.getD k .undef).avoids X then cs.getD k .undef else .undef:=by
    grind
   rw[e1];split
   ·rename_i hav;exact(h3 k hk).mono he hl hag hav
   ·exact .undef _
 |arr sz n row=>
  cases o with
  |none=>exact h
  |some cb=>
   obtain⟨C,e,h1,h2,h3⟩:=h;exact⟨C,e,h1.at (ho cb rfl),h2,fun i hi=>⟨(h3 i hi).1,fun k hk=>((h3 i hi).2 k hk).mono he⟩⟩
 |lp L st pd=>
  cases o with
  |none=>exact h
  |some cb=>
   obtain⟨r,h1,h2,h3,h4⟩:=h;exact⟨r,ai,h2,h3,fun k av hk=>by
    have hk':=mX hk;exact⟨(h4 k av hk'.1).1,(h4 k av hk'.1).2.mono he hl hag hk'.2⟩⟩
 |mp d ks f=>
  cases o with
  |none=>exact h
  |some cb=>
   obtain⟨es,cl,h1,h2⟩:=h;exact⟨es,cl,ai,h2.mono he hl⟩
 |GK d ks f κ q=>
  cases o with
  |none=>exact h
  |some cb=>
   obtain⟨es,cl,h1,h2,hx⟩:=h;exact⟨es,cl,ai,h2.mono he hl,hx⟩
 |it left cur f=>
  cases o with
  |none=>exact h
  |some cb=>
   obtain⟨mb,es,cl,seen,h1,h2⟩:=h;exact⟨mb,es,cl,seen,ai,h2.mono he hl⟩
theorem eA(j w):Ev j w j w.drew:=⟨Nat.le_refl _,fun _ _ _=>rfl,fun _ _ h=>h,fun _ _=>rfl,fun _ _=>rfl,rfl,rfl,rfl,fun _ r h=>⟨r,h⟩⟩
def aO(n:Nat)(row rows:Nat->List D):Nat->List D:=fun i=>if i<n then row i else rows (i-n)
theorem OH{olds news:List Value}{z q} :(olds.toArray++news.toArray++z).getD q Go.undef=if q<olds.length then olds.getD q Go.undef else if q<olds.length+news.length then news.getD (q-olds.length) Go.undef else z.getD (q-(olds.length+news.length)) Go.undef:=by
 simp only[Array.getD_eq_getD_getElem?,List.getD_eq_getElem?_getD,Array.getElem?_append,List.getElem?_toArray,Array.size_append,List.size_toArray];grind
theorem C4{w j n k sz row rows}{olds news:List Value}{z}(ho:olds.length=n*sz)(hn:news.length=k*sz)(hl1: ∀i,i<n->(row i).length=sz)(hl2: ∀i,i<k->(rows i).length=sz)
  (h1: ∀i,i<n->∀q,q<sz->RD w j ((row i).getD q default) (olds.getD (i*sz+q) Go.undef)) (h2: ∀i,i<k->∀q,q<sz->RD w j ((rows i).getD q default) (news.getD (i*sz+q) Go.undef)):
  ∀i,i<n+k->(aO n row rows i).length=sz/\∀q,q<sz->RD w j ((aO n row rows i).getD q default) ((olds.toArray++news.toArray++z).getD (i*sz+q) Go.undef):=by
 intro i hi;unfold aO;by_cases hin:i<n
 ·simp only[hin,if_true];refine⟨hl1 i hin,fun q hq=> ?_⟩;have:(i+1)*sz<=n*sz:=Nat.mul_le_mul_right _ hin;grind [OH]
 ·simp only[hin,if_false];refine⟨hl2 (i-n) aa,fun q hq=> ?_⟩;have h3:n*sz<=i*sz:=Nat.mul_le_mul_right _ aa;have h4:(i+1)*sz<=(n+k)*sz:=Nat.mul_le_mul_right _ hi;rw[Nat.succ_mul,Nat.add_mul] at h4;grind [OH,Nat.sub_mul]
def setRows(lo k:Nat)(rows row:Nat->List D):Nat->List D:=fun i=>if lo<=i/\i<lo+k then rows (i-lo) else row i
def C6(P:Program)(σ:List aZ)(t t':TypeId)(x y:AV)(K:AV->List aZ->List Nat->Prop):Prop:=
 match rU P t with
 |some (e,sz,bytes,z)=>(Nat.beq (eJ P t') 1||Nat.beq (eJ P t') 2)=true/\BQ σ sz y fun k rows=>
  match x with
  | .d (.v (.slice none 0 0))=>k<=9223372036854775807/\k*bytes<=140737488355328/\K (.ms σ.length sz 0 k) (σ++[.arr sz k rows]) []
  | .d (.sl (some c) sz' n row)=>Nat.beq sz sz'=true/\c=n/\(n=0\/0<k)/\n+k<=9223372036854775807/\(n+k)*bytes<=140737488355328/\K (.ms σ.length sz 0 (n+k)) (σ++[.arr sz (n+k) (aO n row rows)]) []
  | .ms b sz' lo n=>(match σ[b]? with
   |some (.arr rN n' row)=>(Nat.beq sz sz'&&Nat.beq sz rN)=true/\lo=0/\if n<n' then n+k<=n'/\0<sz/\K (.ms b sz 0 (n+k)) (σ.set b (.arr sz n' (setRows n k rows row))) []
    else n'=n/\n+k<=9223372036854775807/\(n+k)*bytes<=140737488355328/\K (.ms b sz 0 (n+k)) ((σ.map (bP [b])).set b (.arr sz (n+k) (aO n row rows))) [b]
   |_=>False)
  |_=>False
 |none=>False
theorem Xw{P t}(h:(Nat.beq (eJ P t) 1||Nat.beq (eJ P t) 2)=true): ∃d,P.underlying t=some d/\(d= .string\/∃e',d= .slice e'):=by
 grind [zB,Xx]
theorem jE{w:World}{b C e f}(h:w.heap[b]? =some (.cells C e f)):w.shape? b=some (e,C.size):=by simp[World.shape?,h]
theorem aQ.grown{w:World}{j:Js}{σ:List aZ}(h:aQ w j σ){sz n k cap:Nat}{row rows:Nat->List D}{olds news:List Value}{z:Array Value}{e:TypeId}(ho:olds.length=n*sz)(hn:news.length=k*sz)(hl1: ∀i,i<n->(row i).length=sz)(hl2: ∀i,i<k->(rows i).length=sz)
  (h1: ∀i,i<n->∀q,q<sz->RD w j ((row i).getD q default) (olds.getD (i*sz+q) Go.undef)) (h2: ∀i,i<k->∀q,q<sz->RD w j ((rows i).getD q default) (news.getD (i*sz+q) Go.undef)) (hz:z.size=(cap-(n+k))*sz) (hcap:n+k<=cap):
  let w':=w.drew.alloc (.cells (olds.toArray++news.toArray++z) e)
  let j':=j++[some w.heap.size]
  aQ w' j' (σ++[.arr sz (n+k) (aO n row rows)])/\R w' j' (.ms σ.length sz 0 (n+k)) (.slice (some ⟨w.heap.size,0,none⟩) (n+k) cap)/\Ev j w j' w':=by
 intro w' j';have hd:aQ w.drew j σ:=⟨h.len,h.lt,h.inj,fun b x hx=>let⟨o,h1,h2⟩:=h.blk b x hx;⟨o,h1,h2.mono (eA j w) h.lt (.refl _ _) fun _ _=>rfl⟩⟩;have he:Ev j w.drew j' w':=lS _ _ _ _ _ (fun b hb hm=>by
  simp only[j',List.mem_append,List.mem_singleton,Option.some.injEq] at hm;rcases hm with hm|hm;all_goals simp_all)
 have hcs:(olds.toArray++news.toArray++z).size=cap*sz:=by
  simp only[Array.size_append,List.size_toArray,ho,hn,hz,←Nat.add_mul];grind
 have hrow:=C4 (w:=w) (j:=j) (z:=z) ho hn hl1 hl2 h1 h2;have hle:(n+k)*sz<=cap*sz:=Nat.mul_le_mul_right _ hcap;obtain⟨g1,g2⟩:=hd.alloc (olds.toArray++news.toArray++z) e (.arr sz (n+k) (aO n row rows)) ⟨_,e,.mk0 (heap_alloc_new _ _),ai,fun i hi=>⟨(hrow i hi).1,fun q hq=>(((hrow i hi).2 q hq).mono (eA j w)).mono he⟩⟩;refine⟨g1,?_,(eA j w).trans g2⟩;have hms:R w' j' (.ms σ.length sz 0 (n+k)) (.slice (some ⟨w.heap.size,0*sz,none⟩) (n+k) cap):=by
  refine .ms cap e (cap*sz) ?_ ?_ hcap an
  ·simp only[j'];rw[List.getElem?_append_right Ai];simp[h.len]
  ·rw[←hcs];exact jE (heap_alloc_new _ _)
 grind
theorem aQ.yM{w:World}{j:Js}{σ:List aZ}(h:aQ w j σ){sz:Nat}{rows:Nat->List D}{p:Option Addr} :
  let j':=j++[none]
  aQ w j' (σ++[.arr sz 0 rows])/\R w j' (.ms σ.length sz 0 0) (.slice p 0 0)/\Ev j w j' w:=by
 intro j';have he:Ev j w j' w:=⟨Nat.le_refl _,fun _ _ _=>rfl,fun b _ hm=>ai,fun _ _=>rfl,fun _ _=>rfl,rfl,rfl,rfl,fun _ r h=>⟨r,h⟩⟩;refine⟨⟨by simp[j',h.len],fun b cb hb=> ?_,fun b b' cb hb hb'=> ?_,fun b y hy=> ?_⟩,.ms0 p ?_,he⟩
 ·simp only[j'] at hb;rw[List.getElem?_append] at hb;split at hb
  ·exact h.lt b cb hb
  grind
 ·have key: ∀q:Nat,j'[q]? =some (some cb)->j[q]? =some (some cb):=by
   grind
  exact h.inj b b' cb (key b hb) (key b' hb')
 ·rw[List.getElem?_append] at hy;split at hy
  ·obtain⟨o,ho,hB⟩:=h.blk b y hy;have hbl:b<j.length:=ai;exact⟨o,ai,hB.mono he h.lt (cg _ _) fun cb hcb=>rfl⟩
  ·rw[List.getElem?_singleton] at hy;split at hy<;>simp at hy;subst hy;refine⟨none,?_,rfl⟩;simp only[j'];rw[List.getElem?_append_right Ai,List.getElem?_singleton,if_pos Ai]
 ·simp only[j'];rw[List.getElem?_append_right Ai];simp[h.len]
theorem aQ.drew{w j σ}(h:aQ w j σ):aQ w.drew j σ:=
 ⟨h.len,h.lt,h.inj,fun b x hx=>let⟨o,h1,h2⟩:=h.blk b x hx;⟨o,h1,h2.mono (eA j w) h.lt (.refl _ _) fun _ _=>rfl⟩⟩
theorem aQ.LQ{w j σ}(h:aQ w j σ)(X):aQ w j (σ.map (bP X)):=
 ⟨C8,h.lt,h.inj,fun b x hx=>by
  simp only[List.getElem?_map,Option.map_eq_some_iff] at hx;obtain⟨y,hy,rfl⟩:=hx;obtain⟨o,h1,h2⟩:=h.blk b y hy;exact⟨o,h1,h2.LQ X⟩⟩
theorem aQ.Xq{w j σ}(h:aQ w j σ){b}(hb:b<j.length){ob x}
  (hx:RB (w.alloc ob) (j.set b (some w.heap.size)) x (some w.heap.size)):
  aQ (w.alloc ob) (j.set b (some w.heap.size)) ((σ.map (bP [b])).set b x)/\Ev j w (j.set b (some w.heap.size)) (w.alloc ob)/\Ag j (j.set b (some w.heap.size)) [b]:=by
 have he:Ev j w (j.set b (some w.heap.size)) (w.alloc ob):=pH _ _ _ _ (fun q hq hm=>by
  grind)
 have hag:Ag j (j.set b (some w.heap.size)) [b]:=by
  intro q hq hn;grind
 have key: ∀q cb:Nat,(j.set b (some w.heap.size))[q]? =some (some cb)->(q≠b/\j[q]? =some (some cb)/\cb<w.heap.size)\/(q=b/\cb=w.heap.size):=by
  intro q cb hq;rw[List.getElem?_set] at hq;split at hq
  ·grind
  ·rename_i hbq;exact .inl ⟨fun h=>hbq h.symm,hq,h.lt q cb hq⟩
 refine⟨⟨C8,fun q cb hq=> ?_,fun q q' cb hq hq'=> ?_,fun q y hy=> ?_⟩,he,hag⟩
 ·rcases key q cb hq with h1|h1<;>simp<;>omega
 ·rcases key q cb hq with h1|h1<;>rcases key q' cb hq' with h2|h2
  ·exact h.inj q q' cb h1.2.1 h2.2.1
  all_goals grind
 ·rw[List.getElem?_set] at hy;split at hy
  ·grind
  ·rename_i hbq;simp only[List.getElem?_map,Option.map_eq_some_iff] at hy;obtain⟨y',hy',rfl⟩:=hy;obtain⟨o,ho,hB⟩:=h.blk q y' hy';refine⟨o,ai,hB.ab5 he h.lt hag fun cb hcb=> ?_⟩;grind [bR]
theorem aQ.moved{w j σ}(h:aQ w j σ){b}(hb:b<j.length){C e x}
  (hx:RB (w.alloc (.cells C e)) (j.set b (some w.heap.size)) x (some w.heap.size)):
  aQ (w.alloc (.cells C e)) (j.set b (some w.heap.size)) ((σ.map (bP [b])).set b x)/\Ev j w (j.set b (some w.heap.size)) (w.alloc (.cells C e))/\Ag j (j.set b (some w.heap.size)) [b]:=h.Xq hb hx
theorem KQ{P w j σ}(hS:aQ w j σ){t t' ty x y vx vy K}(h:C6 P σ t t' x y K)(hx:R w j x vx)(hy:R w j y vy):
  ∃v w' j' r σ' X,(Builtin.append_ #[t,t'] ty #[vx,vy]).run P w= .ok v w'/\aQ w' j' σ'/\R w' j' r v/\Ev j w j' w'/\j.length<=j'.length/\Ag j j' X/\K r σ' X:=by
 unfold C6 at h;split at h
 ·rename_i e sz bytes z hsl;obtain⟨hu,i,zz,hi,hz,hsz,hby,hzz,hzs⟩:=lJ hsl;obtain⟨ht',h⟩:=h;obtain⟨d',hu',hd'⟩:=Xw ht';obtain⟨k,rows,news,h,src⟩:=td (P:=P) hS h hy;subst hsz hby;have hf0:=src.first w (fun _ _=>rfl);have hf1:=src.first w.drew (fun _ _=>rfl);have hzc: ∀m,(Builtin.zeroCells zz.cells m).size=m*i.size:=by grind [size_zeroCells]
  split at h
  ·
   obtain⟨h63,hroom,hK⟩:=h;have hvx:=iu hx;subst hvx;rcases Nat.eq_zero_or_pos k with hk|hk
   ·subst hk;have hn:news=[]:=by have:=src.size;grind
    subst hn;obtain⟨g1,g2,g3⟩:=hS.yM (sz:=i.size) (rows:=rows) (p:=none);exact⟨_,_,_,_,_,_,iS hu hu' hd' hi src.len hf0 (Nat.le_refl 0),g1,g2,g3,an,cg _ _,hK⟩
   ·have hrun:=eP (P:=P) (w:=w) (ty:=ty) hu hu' hd' hi hz (p:=none) (n:=0) (c:=0) (olds:=[]) (by simp[Builtin.firstCells]) src.len hf1 aa aa ai;have hcap:=grownCap_ge w (0+k) 0 e;obtain⟨g1,g2,g3⟩:=hS.grown (sz:=i.size) (n:=0) (k:=k) (cap:=grownCap w (0+k) 0 e) (row:=rows) (rows:=rows) (olds:=[]) (news:=news) (z:=Builtin.zeroCells zz.cells (grownCap w (0+k) 0 e-(0+k))) (e:=e) an src.size an src.rlen an src.rel (hzc _) hcap;have afO:aO 0 rows rows=rows:=by grind [aO]
    grind [cg]
  ·rename_i c sz' n0 row _;obtain⟨hb,hcn,hnk,h63,hroom,hK⟩:=h;have:=Nat.eq_of_beq_eq_true hb;subst this hcn;rcases Nat.eq_zero_or_pos k with hk|hk
   ·subst hk;have hn:news=[]:=by have:=src.size;grind
    subst hn;have hc0:c=0:=aa;subst hc0;have hval: ∃p,vx= .slice p 0 0:=by
     cases hx with|d hx=>
     cases hx with
     |sl a c' val hcap _ _ _ _ _ _ _=>all_goals simp_all
     |zero p c' hcap _=>all_goals simp_all
    obtain⟨p,rfl⟩:=hval;obtain⟨g1,g2,g3⟩:=hS.yM (sz:=i.size) (rows:=aO 0 row rows) (p:=p);exact⟨_,_,_,_,_,_,iS hu hu' hd' hi src.len hf0 (Nat.le_refl 0),g1,g2,g3,an,cg _ _,hK⟩
   ·have hval: ∃(p:Option Addr) (olds:List Value),vx= .slice p c c/\olds.length=c*i.size/\(∀w',(∀b,b<w.heap.size->w'.heap[b]? =w.heap[b]?)->(Builtin.firstCells i.size c vx).run P w'= .ok olds.toArray w')/\(∀q,q<c->(row q).length=i.size)/\∀q,q<c->∀r,r<i.size->RD w j ((row q).getD r default) (olds.getD (q*i.size+r) Go.undef):=by
     cases hx with|d hx=>
     cases hx with
     |sl a c' val hcap hle ha hlt hbj hlen hcell hrel=>
      rcases hcap with h|h<;>simp at h
      subst h;let olds:List Value:=(List.range (c*i.size)).map fun q=>val (q/i.size) (q%i.size)
      have hsize:olds.length=c*i.size:=ai;have hget: ∀q,q<c*i.size->olds.getD q Go.undef=val (q/i.size) (q%i.size):=by
       grind
      refine⟨_,olds,rfl,hsize,fun w' hw'=>bS hsize fun q hq=>pP hw' ?_,hlen,fun q hq r hr=> ?_⟩
      ·grind [Nat.div_lt_of_lt_mul,Nat.mod_lt,Nat.div_add_mod,da]
      ·have hb:q*i.size+r<c*i.size:=by
        have:(q+1)*i.size<=c*i.size:=Nat.mul_le_mul_right _ hq;grind
       rw[hget _ hb];have e1:(q*i.size+r)/i.size=q:=by
        grind [Nat.mul_comm,Nat.mul_add_div,Nat.div_eq_of_lt]
       grind [Nat.mul_comm,Nat.mul_add_mod,Nat.mod_eq_of_lt]
     |zero p c' hcap hp=>
      rcases hcap with h|h<;>simp at h
      subst h;refine⟨p,[],rfl,an,fun w' hw'=> ?_,an,an⟩;cases p with
      |none=>simp[Builtin.firstCells]
      |some a=>grind [bS]
    obtain⟨p,olds,rfl,hol,hof,hrl,hrr⟩:=hval;have hrun:=eP (P:=P) (w:=w) (ty:=ty) hu hu' hd' hi hz (hof w.drew fun _ _=>rfl) src.len hf1 aa h63 hroom;obtain⟨g1,g2,g3⟩:=hS.grown (e:=e) hol src.size hrl src.rlen hrr src.rel (hzc _) (grownCap_ge w (c+k) c e);grind [cg]
  ·rename_i b sz' lo n _;split at h
   ·rename_i rN n' row hb;obtain⟨hbb,hlo,h⟩:=h;simp only[Bool.and_eq_true] at hbb;have e1:=Nat.eq_of_beq_eq_true hbb.1;have e2:=Nat.eq_of_beq_eq_true hbb.2;split at h
    ·
     rename_i hlt;obtain⟨acb,hpos,hK⟩:=h;subst e1 e2 hlo;obtain⟨o,ho,hB⟩:=hS.blk b _ hb;cases hx with
     | @ms _ _ _ _ cb c e' m hj hsh hn hm=>
      rw[hj] at ho;cases ho
      obtain⟨C,e'',⟨f,hC,tX⟩,hCs,CY⟩:=hB;have hfz:=Or.imp_left And.left tX;have hm':C.size=m:=by rw[jE hC] at hsh;grind
      simp only[Nat.zero_add,Nat.zero_mul] at hm⊢;have hge:n+k<=c:=by
       have:n'*i.size<=c*i.size:=aa;exact Nat.le_trans acb (Nat.le_of_mul_le_mul_right this hpos)
      have hfit:(n+k)*i.size<=C.size:=Nat.le_trans (Nat.mul_le_mul_right _ acb) hCs;have hrun:=rj (P:=P) (w:=w) (ty:=ty) hu hu' hd' hi hC hfz src.len hf0 src.size src.one hge hfit;have hss:(C.toList.take (n*i.size)++news++C.toList.drop (n*i.size+news.length)).toArray.size=C.size:=by
       rw[Nat.add_mul] at hfit;have:=src.size;grind
      have hev:=mS (j:=j) hC hss (List.mem_of_getElem? hj);have hRB:RB (w.setRow cb (C.toList.take (n*i.size)++news++C.toList.drop (n*i.size+news.length)).toArray) j (.arr i.size n' (setRows n k rows row)) (some cb):=by
       refine⟨_,e'',⟨f,setRow_heap w cb C _ e'' f hC,ai⟩,ai,fun q hq=> ?_⟩;rw[Nat.add_mul] at hfit;have hsl:=src.size;have hgd: ∀r,((C.toList.take (n*i.size)++news++C.toList.drop (n*i.size+news.length)).toArray).getD r Go.undef=if n*i.size<=r/\r<n*i.size+news.length then news.getD (r-n*i.size) Go.undef else C.getD r Go.undef:=fun r=>lK aa
       unfold setRows;by_cases vB:n<=q/\q<n+k
       ·rw[if_pos vB];refine⟨src.rlen _ aa,fun r hr=> ?_⟩;have h3:n*i.size<=q*i.size:=Nat.mul_le_mul_right _ vB.1;have h4:(q+1)*i.size<=(n+k)*i.size:=Nat.mul_le_mul_right _ vB.2;rw[Nat.succ_mul,Nat.add_mul] at h4;have h5:q*i.size+r-n*i.size=(q-n)*i.size+r:=ai;rw[hgd,if_pos aa,h5];exact(src.rel (q-n) aa r hr).mono hev
       ·rw[if_neg vB];refine⟨(CY q hq).1,fun r hr=> ?_⟩;have hout: ¬(n*i.size<=q*i.size+r/\q*i.size+r<n*i.size+news.length):=by
         rcases Nat.lt_or_ge q n with h1|h1
         ·have:(q+1)*i.size<=n*i.size:=Nat.mul_le_mul_right _ h1;grind
         ·have:(n+k)*i.size<=q*i.size:=Nat.mul_le_mul_right _ aa;grind
        rw[hgd,if_neg hout];exact((CY q hq).2 r hr).mono hev
      obtain⟨g1,g2⟩:=hS.setRow (C':=(C.toList.take (n*i.size)++news++C.toList.drop (n*i.size+news.length)).toArray) hj hC hss (x:= .arr i.size n' (setRows n k rows row)) hRB;refine⟨_,_,_,_,_,_,hrun,g1,?_,g2,Nat.le_refl _,.refl _ _,hK⟩;have hms:R (w.setRow cb (C.toList.take (n*i.size)++news++C.toList.drop (n*i.size+news.length)).toArray) j (.ms b i.size 0 (n+k)) (.slice (some ⟨cb,0*i.size,none⟩) (n+k) c):=by
       refine .ms c e' m hj ?_ hge ai;grind [qf]
      grind
     |ms0 p hj=>
      rw[hj] at ho;cases ho
      have:n'=0:=hB;omega
     |oY p e' m hj hsh hlo hm=>grind
    obtain⟨hn',h63,hroom,hK⟩:=h;subst e1 e2 hlo hn';obtain⟨o,ho,hB⟩:=hS.blk b _ hb;have hbl:b<j.length:=ai;have hbs:b<σ.length:=(List.getElem?_eq_some_iff.1 hb).1;cases hx with
    | @ms _ _ _ _ cb c e' m hj hsh hn hm=>
     rw[hj] at ho;cases ho
     obtain⟨C,e'',⟨f,hC,tX⟩,hCs,CY⟩:=hB;have hfz:=Or.imp_left And.left tX;have hm':C.size=m:=by rw[jE hC] at hsh;grind
     simp only[Nat.zero_add,Nat.zero_mul] at hm⊢;rcases Nat.lt_or_ge c (n'+k) with hlt|hge
     ·
      let olds:List Value:=C.toList.take (n'*i.size)
      have hol:olds.length=n'*i.size:=ai;have hog: ∀q,q<n'*i.size->olds.getD q Go.undef=C.getD q Go.undef:=by
       grind [Array.getD_eq_getD_getElem?]
      have hof:(Builtin.firstCells i.size n' (.slice (some ⟨cb,0,none⟩) n' c)).run P w.drew= .ok olds.toArray w.drew:=by
       refine bS hol fun q hq=> ?_;rw[hol] at hq;rw[da _ rfl,Nat.zero_add];show w.cell? _=_
       grind [cell_of]
      have hrr: ∀q,q<n'->∀r,r<i.size->RD w j ((row q).getD r default) (olds.getD (q*i.size+r) Go.undef):=by
       intro q hq r hr;have hb:q*i.size+r<n'*i.size:=by
        have:(q+1)*i.size<=n'*i.size:=Nat.mul_le_mul_right _ hq;grind
       grind
      have hrun:=eP (P:=P) (w:=w) (ty:=ty) hu hu' hd' hi hz hof src.len hf1 hlt h63 hroom;have hcap:=grownCap_ge w (n'+k) c e;have X1:=C4 (w:=w) (j:=j) (z:=Builtin.zeroCells zz.cells (grownCap w (n'+k) c e-(n'+k))) hol src.size (fun q hq=>(CY q hq).1) src.rlen hrr src.rel;have hcs:(olds.toArray++news.toArray++Builtin.zeroCells zz.cells (grownCap w (n'+k) c e-(n'+k))).size=grownCap w (n'+k) c e*i.size:=by
       simp only[Array.size_append,List.size_toArray,hol,src.size,hzc,←Nat.add_mul];grind
      have hle:(n'+k)*i.size<=grownCap w (n'+k) c e*i.size:=Nat.mul_le_mul_right _ hcap;have hev0:Ev j w.drew (j.set b (some w.heap.size)) (w.drew.alloc (.cells (olds.toArray++news.toArray++Builtin.zeroCells zz.cells (grownCap w (n'+k) c e-(n'+k))) e)):=lS _ _ _ _ _ (fun q hq hm=>by
       rcases List.mem_or_eq_of_mem_set hm with hm|hm;all_goals simp_all)
      obtain⟨g1,g2,g3⟩:=hS.drew.moved (b:=b) hbl (C:=olds.toArray++news.toArray++Builtin.zeroCells zz.cells (grownCap w (n'+k) c e-(n'+k))) (e:=e) (x:= .arr i.size (n'+k) (aO n' row rows))
       ⟨_,e,.mk0 (heap_alloc_new _ _),ai,fun q hq=>⟨(X1 q hq).1,fun r hr=>(((X1 q hq).2 r hr).mono (eA j w)).mono hev0⟩⟩
      refine⟨_,_,_,_,_,_,hrun,g1,?_,(eA j w).trans g2,an,g3,hK⟩;have hms:R (w.drew.alloc (.cells (olds.toArray++news.toArray++Builtin.zeroCells zz.cells (grownCap w (n'+k) c e-(n'+k))) e)) (j.set b (some w.heap.size)) (.ms b i.size 0 (n'+k)) (.slice (some ⟨w.heap.size,0*i.size,none⟩) (n'+k) (grownCap w (n'+k) c e)):=by
       refine .ms _ e (grownCap w (n'+k) c e*i.size) ?_ ?_ hcap an
       ·grind
       ·rw[←hcs];exact jE (heap_alloc_new _ _)
      simp_all
     ·
      have hfit:(n'+k)*i.size<=C.size:=by
       rw[hm'];exact Nat.le_trans (Nat.mul_le_mul_right _ hge) (Nat.le_of_eq hm)
      have hrun:=rj (P:=P) (w:=w) (ty:=ty) hu hu' hd' hi hC hfz src.len hf0 src.size src.one hge hfit;have hss:(C.toList.take (n'*i.size)++news++C.toList.drop (n'*i.size+news.length)).toArray.size=C.size:=by
       rw[Nat.add_mul] at hfit;have:=src.size;grind
      have hev:=mS (j:=j) hC hss (List.mem_of_getElem? hj);have adt:=hS.LQ [b];have hRB:RB (w.setRow cb (C.toList.take (n'*i.size)++news++C.toList.drop (n'*i.size+news.length)).toArray) j (.arr i.size (n'+k) (aO n' row rows)) (some cb):=by
       refine⟨_,e'',⟨f,setRow_heap w cb C _ e'' f hC,ai⟩,ai,fun q hq=> ?_⟩;rw[Nat.add_mul] at hfit;have hsl:=src.size;have hgd: ∀r,((C.toList.take (n'*i.size)++news++C.toList.drop (n'*i.size+news.length)).toArray).getD r Go.undef=if n'*i.size<=r/\r<n'*i.size+news.length then news.getD (r-n'*i.size) Go.undef else C.getD r Go.undef:=fun r=>lK aa
       unfold aO;by_cases vB:q<n'
       ·simp only[vB,if_true];refine⟨(CY q vB).1,fun r hr=> ?_⟩;have:(q+1)*i.size<=n'*i.size:=Nat.mul_le_mul_right _ vB;rw[Nat.succ_mul] at this;rw[hgd,if_neg aa];exact((CY q vB).2 r hr).mono hev
       ·simp only[vB,if_false];refine⟨src.rlen _ aa,fun r hr=> ?_⟩;have h3:n'*i.size<=q*i.size:=Nat.mul_le_mul_right _ aa;have h4:(q+1)*i.size<=(n'+k)*i.size:=Nat.mul_le_mul_right _ hq;rw[Nat.succ_mul,Nat.add_mul] at h4;have h5:q*i.size+r-n'*i.size=(q-n')*i.size+r:=ai;rw[hgd,if_pos aa,h5];exact(src.rel (q-n') aa r hr).mono hev
      obtain⟨g1,g2⟩:=adt.setRow (C':=(C.toList.take (n'*i.size)++news++C.toList.drop (n'*i.size+news.length)).toArray) hj hC hss (x:= .arr i.size (n'+k) (aO n' row rows)) hRB;refine⟨_,_,_,_,_,_,hrun,g1,?_,g2,Nat.le_refl _,.refl _ _,hK⟩;have hms:R (w.setRow cb (C.toList.take (n'*i.size)++news++C.toList.drop (n'*i.size+news.length)).toArray) j (.ms b i.size 0 (n'+k)) (.slice (some ⟨cb,0*i.size,none⟩) (n'+k) c):=by
       refine .ms c e' m hj ?_ hge ai;grind [qf]
      grind
    |oY p e' m hj hsh hlo hm=>grind
    |ms0 p hj=>
     rcases Nat.eq_zero_or_pos k with hk|hk
     ·subst hk;have hn:news=[]:=by have:=src.size;grind
      subst hn;have hrun:=iS (P:=P) (w:=w) (ty:=ty) hu hu' hd' hi (p:=p) src.len hf0 (Nat.le_refl 0);have adt:=hS.LQ [b];refine⟨_,_,j,_,_,_,hrun,⟨by simp[hS.len],hS.lt,hS.inj,fun q y hy=> ?_⟩,.ms0 p hj,.refl _ _,Nat.le_refl _,.refl _ _,hK⟩;rw[List.getElem?_set] at hy;split at hy
      ·rename_i hbq;split at hy<;>simp at hy;subst hbq hy;exact⟨none,hj,rfl⟩
      ·exact adt.blk q y hy
     ·have hrun:=eP (P:=P) (w:=w) (ty:=ty) hu hu' hd' hi hz (p:=p) (n:=0) (c:=0) (olds:=[]) (by
       cases p with
       |none=>simp[Builtin.firstCells]
       |some a=>grind [bS]) src.len hf1 aa h63 hroom
      have hcap:=grownCap_ge w (0+k) 0 e;generalize grownCap w (0+k) 0 e=gc at hrun hcap
      have X1:=C4 (w:=w) (j:=j) (n:=0) (row:=row) (olds:=[]) (z:=Builtin.zeroCells zz.cells (gc-(0+k))) an src.size an src.rlen an src.rel;have hcs:(([]:List Value).toArray++news.toArray++Builtin.zeroCells zz.cells (gc-(0+k))).size=gc*i.size:=by
       simp only[Array.size_append,List.size_toArray,List.length_nil,src.size,hzc,Nat.zero_add,←Nat.add_mul];grind
      have hle:(0+k)*i.size<=gc*i.size:=Nat.mul_le_mul_right _ hcap;have hev0:Ev j w.drew (j.set b (some w.heap.size)) (w.drew.alloc (.cells (([]:List Value).toArray++news.toArray++Builtin.zeroCells zz.cells (gc-(0+k))) e)):=lS _ _ _ _ _ (fun q hq hm=>by
       rcases List.mem_or_eq_of_mem_set hm with hm|hm;all_goals simp_all)
      obtain⟨g1,g2,g3⟩:=hS.drew.moved (b:=b) hbl (C:=([]:List Value).toArray++news.toArray++Builtin.zeroCells zz.cells (gc-(0+k))) (e:=e) (x:= .arr i.size (0+k) (aO 0 row rows))
       ⟨_,e,.mk0 (heap_alloc_new _ _),ai,fun q hq=>⟨(X1 q hq).1,fun r hr=>(((X1 q hq).2 r hr).mono (eA j w)).mono hev0⟩⟩
      refine⟨_,_,_,_,_,_,hrun,g1,?_,(eA j w).trans g2,an,g3,hK⟩;have hms:R (w.drew.alloc (.cells (([]:List Value).toArray++news.toArray++Builtin.zeroCells zz.cells (gc-(0+k))) e)) (j.set b (some w.heap.size)) (.ms b i.size 0 (0+k)) (.slice (some ⟨w.heap.size,0*i.size,none⟩) (0+k) (gc)):=by
       refine .ms _ e (gc*i.size) ?_ ?_ hcap an
       ·grind
       ·rw[←hcs];exact jE (heap_alloc_new _ _)
      simp_all
   grind
  grind
 grind
theorem zA{z m q}(hq:q<m)(hz:0<z.size):(madeCells z m).getD q Go.undef=z.getD (q%z.size) Go.undef:=by
 simp_all [Nat.mod_lt,madeCells]
def RY(P:Program)(σ:List aZ)(t:TypeId)(l c:Int)(K:AV->List aZ->Prop):Prop:=
 match rU P t with
 |some (e,sz,bytes,z)=>(0<=l/\l<=c/\(bytes:Int)*c<=281474976710656/\c<=9223372036854775807)/\K (.ms σ.length sz 0 l.toNat) (σ++[.arr sz l.toNat fun _=>z.map .v])
 |none=>False
theorem P5{P w j σ}(hS:aQ w j σ){t kl kc l c K}(h:RY P σ t l c K):
  ∃v w' j' r σ',(Instr.makeSlice t (.int kl l) (.int kc c)).run P w= .ok v w'/\aQ w' j' σ'/\R w' j' r v/\Ev j w j' w'/\j.length<=j'.length/\Ag j j' []/\K r σ':=by
 unfold RY at h;split at h
 ·rename_i e sz bytes z hsl;obtain⟨hu,i,zz,hi,hz,hsz,hby,hzz,hzs⟩:=lJ hsl;obtain⟨⟨h0,h1,h2,h3⟩,hK⟩:=h;subst hsz hby hzz;have hrun:=run_make (P:=P) w t e i zz hu hi hz kl kc l c h0 h1 h2 h3;have hmul:l.toNat*i.size<=c.toNat*i.size:=Nat.mul_le_mul_right _ aa;obtain⟨g1,g2⟩:=hS.alloc (madeCells zz.cells (c.toNat*i.size)) e (.arr i.size l.toNat fun _=>zz.cells.toList.map .v) ⟨_,e,.mk0 (heap_alloc_new _ _),by grind [size_madeCells],fun q hq=>⟨ai,fun r hr=>by
   have hlt:q*i.size+r<c.toNat*i.size:=by
    have:(q+1)*i.size<=l.toNat*i.size:=Nat.mul_le_mul_right _ hq;grind
   rw[zA hlt aa,hzs];have e1:(q*i.size+r)%i.size=r:=by simp_all [Nat.mod_eq_of_lt]
   rw[e1];have e2:(zz.cells.toList.map D.v).getD r default= .v (zz.cells.getD r Go.undef):=by
    simp_all
   rw[e2];exact .v _⟩⟩
  refine⟨_,_,_,_,_,hrun,g1,?_,g2,an,cg _ _,hK⟩;have hms:R (w.alloc (.cells (madeCells zz.cells (c.toNat*i.size)) e)) (j++[some w.heap.size]) (.ms σ.length i.size 0 l.toNat) (.slice (some ⟨w.heap.size,0*i.size,none⟩) l.toNat c.toNat):=by
   refine .ms _ e (c.toNat*i.size) ?_ ?_ aa an
   ·rw[List.getElem?_append_right K1];simp[hS.len]
   grind [jE,heap_alloc_new,size_madeCells]
  grind
 grind
def rep(z:List Value):Nat->List Value
 |0=>[]
 |n+1=>z++rep z n
theorem ve(z): ∀n,(rep z n).length=n*z.length
 |0=>by simp[rep]
 |n+1=>by simp[rep,ve z n,Nat.succ_mul];omega
theorem D2(z): ∀n q,q<n*z.length->(rep z n).getD q Go.undef=z.getD (q%z.length) Go.undef
 |0,q,h=>by grind
 |n+1,q,h=>by
  simp only[rep,List.getD_eq_getElem?_getD,List.getElem?_append];split
  ·rename_i hq;rw[Nat.mod_eq_of_lt hq]
  ·rename_i hq;have hz:0<z.length:=by
    rcases Nat.eq_zero_or_pos z.length with hh|hh
    ·rw[hh] at h;simp at h
    ·exact hh
   rw[←List.getD_eq_getElem?_getD,D2 z n (q-z.length) (by rw[Nat.succ_mul] at h;omega),←List.getD_eq_getElem?_getD,←Nat.mod_eq_sub_mod aa]
def rowsOf(sz:Nat)(ds:List D)(i:Nat):List D:=(ds.drop (i*sz)).take sz
def df(P:Program)(t:TypeId)(len:Nat)(parts:List (Nat×AV))(K:AV->Prop):Prop:=
 match rU P t with
 |some (e,sz,bytes,z)=>Nat.ble (len*sz) 16777216=true/\(match A8 ((List.range len).map fun i=>(i*sz,sz)) ((rep z len).map fun v=> .d (.v v)) parts with
  |some r=>(match KP r with
   |some ds=>K (.d (.sl (some len) sz len (rowsOf sz ds)))
   |none=>False)
  |none=>False)
 |none=>False
theorem FQ{P t len parts K}(h:df P t len parts K): ∃av,K av/\df P t len parts fun r=>r=av:=by
 unfold df at h⊢;split at h;all_goals grind
theorem FP{P t len parts K}(h:df P t len parts K): ∃av,K av:=by
 grind [df]
theorem zP{P w j σ}(hS:aQ w j σ){t len parts}{vals:List (Nat×Value)}{K}(h:df P t len parts K)
  (h3:parts.length=vals.length) (h4: ∀k,k<parts.length->(parts.getD k (0,.undef)).1=(vals.getD k (0,Go.undef)).1/\R w j (parts.getD k (0,.undef)).2 (vals.getD k (0,Go.undef)).2):
  ∃v w' r,(Instr.buildSlice t len vals.toArray).run P w= .ok v w'/\aQ w' j σ/\R w' j r v/\Ev j w j w'/\K r:=by
 unfold df at h;split at h
 ·rename_i e sz bytes z hsl;obtain⟨hu,i,zz,hi,hz,hsz,hby,hzz,hzs⟩:=lJ hsl;obtain⟨hle,h⟩:=h;split at h
  ·rename_i r hr;split at h
   ·rename_i ds hds;obtain⟨hdl0,hds⟩:=zW hds;subst hsz hby hzz;simp only[Nat.ble_eq] at hle;have hrl:(rep zz.cells.toList len).length=len*i.size:=by grind [ve]
    have ady: ∀k,k<((rep zz.cells.toList len).map fun v=>AV.d (.v v)).length->R w j (((rep zz.cells.toList len).map fun v=>AV.d (.v v)).getD k .undef) ((madeCells zz.cells (len*i.size)).getD k Go.undef):=by
     intro k hk;simp only[List.length_map,hrl] at hk;have hsz:0<i.size:=by
      grind
     have e1:((rep zz.cells.toList len).map fun v=>AV.d (.v v)).getD k .undef=AV.d (.v ((rep zz.cells.toList len).getD k Go.undef)):=by
      grind
     rw[e1,D2 _ _ _ ai,zA hk aa];have e2:zz.cells.toList.getD (k%zz.cells.toList.length) Go.undef=zz.cells.getD (k%zz.cells.size) Go.undef:=by
      simp_all
     rw[e2];exact .d (.v _)
    obtain⟨C',f1,f2,f3,f4⟩:=nM (w:=w) (j:=j) (pl:=fun q=>some (q*i.size,i.size)) (C:=madeCells zz.cells (len*i.size)) (fun q x hx=>by
      grind) (by grind [size_madeCells]) ady h3 h4 hr
    have hdl:ds.length=len*i.size:=by
     grind
    have hrun:(Instr.buildSlice t len vals.toArray).run P w= .ok (.slice (some ⟨w.heap.size,0,none⟩) len len) (w.alloc (.cells C' e)):=by
     have hgt: ¬(16777216<len*i.size):=aa;by_cases h0:len*i.size=0
     ·have hm:(Array.range 0).map (fun q=>(#[]:Array Value)[q%(#[]:Array Value).size]!)=madeCells zz.cells (len*i.size):=by grind [madeCells]
      simp only[Instr.buildSlice,Sem.run_bind,run_underlying hu,Result.andThen_ok,Go.sizeOf,typeInfo,run_program,hi,Sem.run_pure,h0,Sem.run_ite,if_true];simp_all [newRow]
     ·simp only[Instr.buildSlice,Sem.run_bind,run_underlying hu,Result.andThen_ok,Go.sizeOf,typeInfo,run_program,hi,Sem.run_pure,h0,Sem.run_ite,if_false];simp_all [madeCells,zeroValue,typeInfo,newRow]
    have he:Ev j w j (w.alloc (.cells C' e)):=lS _ _ _ _ _ (fun _ _ h=>h);have hcell: ∀q,q<len*i.size->(w.alloc (.cells C' e)).cell? ⟨w.heap.size,q,none⟩=some (C'.getD q Go.undef):=by
     simp_all
    refine⟨_,_,_,hrun,⟨hS.len,fun b cb hb=>by have:=hS.lt b cb hb;simp;omega,hS.inj,fun b x hx=> ?_⟩,?_,he,h⟩
    ·obtain⟨o,ho,hB⟩:=hS.blk b x hx;refine⟨o,ho,hB.mono he hS.lt (.refl _ _) fun cb hcb=> ?_⟩;subst hcb;exact bR w _ (hS.lt b cb ho)
    ·rcases Nat.eq_zero_or_pos len with hl0|hl0
     ·subst hl0;exact .d (.zero _ _ (.inr rfl) an)
     refine .d (.sl _ _ (fun q k=>C'.getD (q*i.size+k) Go.undef) (.inr rfl) (Nat.le_refl _) rfl an (fun hm=> ?_) (fun q hq=> ?_) (fun q hq k hk=> ?_) (fun q hq k hk=> ?_))
     ·obtain⟨b,hb⟩:=List.getElem?_of_mem hm;have:=hS.lt b _ hb;grind
     ·have:(q+1)*i.size<=len*i.size:=Nat.mul_le_mul_right _ hq;grind [rowsOf]
     ·have:(q+1)*i.size<=len*i.size:=Nat.mul_le_mul_right _ hq;grind
     ·have hle2:(q+1)*i.size<=len*i.size:=Nat.mul_le_mul_right _ hq;rw[Nat.succ_mul] at hle2;have hlt:q*i.size+k<r.length:=ai;have:=(f4 _ hlt).iy he hS.lt (.refl _ _);grind [rowsOf]
   grind
  grind
 grind
def oJ(P:Program)(σ:List aZ)(t t':TypeId)(x y:AV)(K:AV->Prop):Prop:=
 match rU P t with
 |some (e,sz,bytes,z)=>(Nat.beq (eJ P t') 1||Nat.beq (eJ P t') 2)=true/\BQ σ sz y fun k rows=>
  match x with
  | .d (.sl (some 0) sz' 0 row)=>Nat.beq sz sz'=true/\k<=9223372036854775807/\k*bytes<=140737488355328/\K (.d (.sl none sz k rows))
  | .d (.sl (some c) sz' n row)=>Nat.beq sz sz'=true/\c=n/\0<k/\n+k<=9223372036854775807/\(n+k)*bytes<=140737488355328/\K (.d (.sl none sz (n+k) (aO n row rows)))
  |_=>False
 |none=>False
theorem ZO{σ sz y K}(h:BQ σ sz y K): ∃k rows,K k rows/\BQ σ sz y fun k' rows'=>k'=k/\rows'=rows:=by
 unfold BQ at h⊢;grind
theorem QV{P σ t t' x y K}(h:oJ P σ t t' x y K): ∃av,K av/\oJ P σ t t' x y fun r=>r=av:=by
 unfold oJ at h⊢;split at h
 ·rename_i e sz bytes z hsl;obtain⟨h0,h⟩:=h;obtain⟨k,rows,h,hs⟩:=ZO h;have key: ∀{K':Nat->(Nat->List D)->Prop},K' k rows->BQ σ sz y K':=by
   intro K' hK';unfold BQ at hs⊢;split at hs;all_goals grind
  grind
 grind
theorem BC{w:World}{j:Js}{σ:List aZ}(hS:aQ w j σ){sz n k cap:Nat}{row rows:Nat->List D}{olds news:List Value}{z:Array Value}{e:TypeId}(ho:olds.length=n*sz)(hn:news.length=k*sz)(hl1: ∀i,i<n->(row i).length=sz)(hl2: ∀i,i<k->(rows i).length=sz)
  (h1: ∀i,i<n->∀q,q<sz->RD w j ((row i).getD q default) (olds.getD (i*sz+q) Go.undef)) (h2: ∀i,i<k->∀q,q<sz->RD w j ((rows i).getD q default) (news.getD (i*sz+q) Go.undef)) (hz:z.size=(cap-(n+k))*sz) (hcap:n+k<=cap):
  let w':=w.drew.alloc (.cells (olds.toArray++news.toArray++z) e)
  aQ w' j σ/\RD w' j (.sl none sz (n+k) (aO n row rows)) (.slice (some ⟨w.heap.size,0,none⟩) (n+k) cap)/\Ev j w j w':=by
 intro w';have he:Ev j w j w':=(eA j w).trans (lS _ _ _ _ _ (fun _ _ h=>h));have hcs:(olds.toArray++news.toArray++z).size=cap*sz:=by
  simp only[Array.size_append,List.size_toArray,ho,hn,hz,←Nat.add_mul];grind
 have hrow:=C4 (w:=w) (j:=j) (z:=z) ho hn hl1 hl2 h1 h2;have hle:(n+k)*sz<=cap*sz:=Nat.mul_le_mul_right _ hcap;refine⟨⟨hS.len,fun b cb hb=>Nat.lt_of_lt_of_le (hS.lt b cb hb) he.size,hS.inj,fun b x hx=> ?_⟩,?_,he⟩
 ·obtain⟨o,ho,hB⟩:=hS.blk b x hx;refine⟨o,ho,hB.mono he hS.lt (.refl _ _) fun cb hcb=> ?_⟩;subst hcb;exact bR w.drew _ (hS.lt b cb ho)
 ·refine .sl _ _ (fun q r=>(olds.toArray++news.toArray++z).getD (q*sz+r) Go.undef) (.inl rfl) hcap rfl (by simp[w']) (fun hm=> ?_) (fun q hq=>(hrow q hq).1) (fun q hq r hr=> ?_) (fun q hq r hr=>((hrow q hq).2 r hr).mono he)
  ·obtain⟨b,hb⟩:=List.getElem?_of_mem hm;have:=hS.lt b _ hb;grind
  ·have h9:(q+1)*sz<=(n+k)*sz:=Nat.mul_le_mul_right _ hq;rw[Nat.succ_mul] at h9;have hlt:q*sz+r<(olds.toArray++news.toArray++z).size:=aa;have:=cell_of (w:=w') (heap_alloc_new w.drew (.cells (olds.toArray++news.toArray++z) e)) (q*sz+r);simp_all
theorem u4{P w j σ}(hS:aQ w j σ){t t' ty x y vx vy K}(h:oJ P σ t t' x y K)(hx:R w j x vx)(hy:R w j y vy):
  ∃v w' r,(Builtin.append_ #[t,t'] ty #[vx,vy]).run P w= .ok v w'/\aQ w' j σ/\R w' j r v/\Ev j w j w'/\K r:=by
 unfold oJ at h;split at h
 ·rename_i e sz bytes z hsl;obtain⟨hu,i,zz,hi,hz,hsz,hby,hzz,hzs⟩:=lJ hsl;obtain⟨ht',h⟩:=h;obtain⟨d',hu',hd'⟩:=Xw ht';obtain⟨k,rows,news,h,src⟩:=td (P:=P) hS h hy;subst hsz hby;have hf0:=src.first w (fun _ _=>rfl);have hf1:=src.first w.drew (fun _ _=>rfl);have hzc: ∀m,(Builtin.zeroCells zz.cells m).size=m*i.size:=by grind [size_zeroCells]
  split at h
  ·rename_i sz' row;obtain⟨hb,h63,hroom,hK⟩:=h;have:=Nat.eq_of_beq_eq_true hb;subst this;have hval: ∃p,vx= .slice p 0 0:=by
    cases hx with|d hx=>
    cases hx with
    |sl a c' val hcap _ _ _ _ _ _ _=>all_goals simp_all
    |zero p c' hcap _=>all_goals simp_all
   obtain⟨p,rfl⟩:=hval;rcases Nat.eq_zero_or_pos k with hk|hk
   ·subst hk;have hn:news=[]:=by have:=src.size;grind
    subst hn;exact⟨_,_,_,iS hu hu' hd' hi src.len hf0 (Nat.le_refl 0),hS,.d (.zero p 0 (.inl rfl) fun _=>rfl),.refl _ _,hK⟩
   ·have hfp:(Builtin.firstCells i.size 0 (.slice p 0 0)).run P w.drew= .ok ([]:List Value).toArray w.drew:=by
     cases p with
     |none=>simp[Builtin.firstCells]
     |some a=>grind [bS]
    have hrun:=eP (P:=P) (w:=w) (ty:=ty) hu hu' hd' hi hz (p:=p) (n:=0) (c:=0) (olds:=[]) hfp src.len hf1 aa aa ai;have hcap:=grownCap_ge w (0+k) 0 e;obtain⟨g1,g2,g3⟩:=BC hS (sz:=i.size) (n:=0) (k:=k) (cap:=grownCap w (0+k) 0 e) (row:=rows) (rows:=rows) (olds:=[]) (news:=news) (z:=Builtin.zeroCells zz.cells (grownCap w (0+k) 0 e-(0+k))) (e:=e) an src.size an src.rlen an src.rel (hzc _) hcap;have afO:aO 0 rows rows=rows:=by grind [aO]
    rw[afO] at g2;simp only[Nat.zero_add] at hrun g1 g2 g3;exact⟨_,_,_,hrun,g1,.d g2,g3,hK⟩
  ·rename_i c sz' n0 row _ _;obtain⟨hb,hcn,hk,h63,hroom,hK⟩:=h;have:=Nat.eq_of_beq_eq_true hb;subst this hcn;have hval: ∃(p:Option Addr) (olds:List Value),vx= .slice p c c/\olds.length=c*i.size/\(∀w',(∀b,b<w.heap.size->w'.heap[b]? =w.heap[b]?)->(Builtin.firstCells i.size c vx).run P w'= .ok olds.toArray w')/\(∀q,q<c->(row q).length=i.size)/\∀q,q<c->∀r,r<i.size->RD w j ((row q).getD r default) (olds.getD (q*i.size+r) Go.undef):=by
    cases hx with|d hx=>
    cases hx with
    |sl a c' val hcap hle ha hlt hbj hlen hcell hrel=>
     rcases hcap with h|h<;>simp at h
     subst h;let olds:List Value:=(List.range (c*i.size)).map fun q=>val (q/i.size) (q%i.size)
     have hsize:olds.length=c*i.size:=ai;have hget: ∀q,q<c*i.size->olds.getD q Go.undef=val (q/i.size) (q%i.size):=by
      grind
     refine⟨_,olds,rfl,hsize,fun w' hw'=>bS hsize fun q hq=>pP hw' ?_,hlen,fun q hq r hr=> ?_⟩
     ·grind [Nat.div_lt_of_lt_mul,Nat.mod_lt,Nat.div_add_mod,da]
     ·have hb:q*i.size+r<c*i.size:=by
       have:(q+1)*i.size<=c*i.size:=Nat.mul_le_mul_right _ hq;grind
      rw[hget _ hb];have e1:(q*i.size+r)/i.size=q:=by
       grind [Nat.mul_comm,Nat.mul_add_div,Nat.div_eq_of_lt]
      grind [Nat.mul_comm,Nat.mul_add_mod,Nat.mod_eq_of_lt]
    |zero p c' hcap hp=>
     all_goals grind
   obtain⟨p,olds,rfl,hol,hof,hrl,hrr⟩:=hval;have hrun:=eP (P:=P) (w:=w) (ty:=ty) hu hu' hd' hi hz (hof w.drew fun _ _=>rfl) src.len hf1 aa h63 hroom;obtain⟨g1,g2,g3⟩:=BC hS (e:=e) hol src.size hrl src.rlen hrr src.rel (hzc _) (grownCap_ge w (c+k) c e);exact⟨_,_,_,hrun,g1,.d g2,g3,hK⟩
  grind
 grind
theorem DZ{P w j σ}(hS:aQ w j σ){b cb sz lo k n' row rows}(hj:j[b]? =some (some cb))(hb:σ[b]? =some (.arr sz n' row))(hle:lo+k<=n'){vs}(hl:vs.length=k*sz)
  (hlen: ∀i,i<k->(rows i).length=sz) (hrel: ∀i,i<k->∀q,q<sz->RD w j ((rows i).getD q default) (vs.getD (i*sz+q) Go.undef)) (hone: ∀u∈vs,u.oneCell'=true):
  ∃w',(storeCells ⟨cb,lo*sz,none⟩ vs 0).run P w= .ok () w'/\aQ w' j (σ.set b (.arr sz n' (setRows lo k rows row)))/\Ev j w j w':=by
 obtain⟨o,ho,hB⟩:=hS.blk b _ hb;rw[hj] at ho;cases ho
 obtain⟨C,e,⟨f,hC,tX⟩,hCs,CY⟩:=hB;have hfz:=Or.imp_left And.left tX;have hfit:lo*sz+vs.length<=C.size:=by
  have h1:(lo+k)*sz<=n'*sz:=Nat.mul_le_mul_right sz hle;grind
 have h1:=gA (P:=P) cb (lo*sz) e f vs 0 C w hC hfz ai hone;simp only[Nat.add_zero] at h1;have hsz:(C.toList.take (lo*sz)++vs++C.toList.drop (lo*sz+vs.length)).toArray.size=C.size:=ai;have he:=mS (j:=j) hC hsz (List.mem_of_getElem? hj);refine⟨_,h1,?_,he⟩;refine(hS.setRow (x:= .arr sz n' (setRows lo k rows row)) hj hC hsz ⟨_,e,⟨f,setRow_heap w cb C _ e f hC,ai⟩,ai,fun i hi=> ?_⟩).1;by_cases hin:lo<=i/\i<lo+k
 ·have hi':i-lo<k:=aa;have e0:setRows lo k rows row i=rows (i-lo):=by grind [setRows]
  rw[e0];refine⟨hlen _ hi',fun q hq=> ?_⟩;have hmul:i*sz=lo*sz+(i-lo)*sz:=by rw[←Nat.add_mul];grind
  have hlt:(i-lo)*sz+q<vs.length:=by
   rw[hl];have h2:(i-lo+1)*sz<=k*sz:=Nat.mul_le_mul_right sz hi';grind
  rw[lK hfit,if_pos aa,show i*sz+q-lo*sz=(i-lo)*sz+q by omega];exact(hrel _ hi' q hq).mono he
 ·have e0:setRows lo k rows row i=row i:=by grind [setRows]
  rw[e0];refine⟨(CY i hi).1,fun q hq=> ?_⟩;have hout: ¬(lo*sz<=i*sz+q/\i*sz+q<lo*sz+vs.length):=by
   rw[hl,←Nat.add_mul];rcases Nat.lt_or_ge i lo with h|h
   ·have h2:(i+1)*sz<=lo*sz:=Nat.mul_le_mul_right sz h;grind
   ·have h2:(lo+k)*sz<=i*sz:=Nat.mul_le_mul_right sz aa;omega
  rw[lK hfit,if_neg hout];exact((CY i hi).2 q hq).mono he
theorem mT{z n q}(hq:q<n*z.size):(Builtin.zeroCells z n).toList.getD q Go.undef=z.toList.getD (q%z.size) Go.undef:=by
 grind [Nat.mod_lt,Builtin.zeroCells]
def KB(P:Program)(t:TypeId)(σ:List aZ)(x:AV)(K:List aZ->Prop):Prop:=
 match x,rU P t with
 | .ms b sz lo n,some (e,sz',bytes,z)=>(match σ[b]? with
  |some (.arr rN n' row)=>(Nat.beq sz sz'&&Nat.beq sz rN)=true/\lo+n<=n'/\lG (z.map .v)=true/\K (σ.set b (.arr sz n' (setRows lo n (fun _=>z.map .v) row)))
  |_=>False)
 |_,_=>False
theorem set_self{α:Type}{l:List α}{i x}(h:l[i]? =some x):l.set i x=l:=by
 apply List.ext_getElem?;grind
theorem jF{lo rows row} :setRows lo 0 rows row=row:=by
 grind [setRows]
theorem OE{P w j σ}(hS:aQ w j σ){t ty x vx K}(h:KB P t σ x K)(hx:R w j x vx):
  ∃w' σ',(Builtin.clear_ #[t] ty #[vx]).run P w= .ok (.tuple #[]) w'/\aQ w' j σ'/\Ev j w j w'/\K σ':=by
 unfold KB at h;split at h
 ·rename_i b sz lo n e sz' bytes z hsl;split at h
  ·rename_i rN n' row hb;obtain⟨h1,h2,h3,hK⟩:=h;simp only[Bool.and_eq_true,Nat.beq_eq] at h1;obtain⟨rfl,rfl⟩:=h1;obtain⟨hu,i,zz,hi,hzz,hsz,_,rfl,hzs⟩:=lJ hsl;cases hx with
   | @ms _ _ _ _ cb c e' m hj hs hn hm=>
    rcases Nat.eq_zero_or_pos n with rfl|hpos
    ·refine⟨w,_,?_,?_,.refl _ _,hK⟩;all_goals simp_all [Builtin.clear_,underlying,jF,set_self]
    ·obtain⟨w',g1,g2,g3⟩:=DZ (P:=P) hS (lo:=lo) (k:=n) (rows:=fun _=>zz.cells.toList.map .v) hj hb h2 (vs:=(Builtin.zeroCells zz.cells n).toList) (by grind [size_zeroCells]) (fun _ _=>ai) (fun q hq r hr=>by
      have hlt:q*sz+r<n*zz.cells.size:=by
       rw[hzs];have h4:(q+1)*sz<=n*sz:=Nat.mul_le_mul_right sz hq;grind
      rw[mT hlt,hzs,show(q*sz+r)%sz=r by simp_all [Nat.mod_eq_of_lt]];have hr':r<zz.cells.size:=aa;have e1:(zz.cells.toList.map D.v).getD r default= .v (zz.cells.toList.getD r Go.undef):=by
       grind
      rw[e1];exact .v _) (fun u hu=>by
      obtain⟨q,hq,rfl⟩:=List.getElem_of_mem hu;simp only[Array.length_toList,size_zeroCells] at hq;have e1:(Builtin.zeroCells zz.cells n).toList[q]'(ai)=(Builtin.zeroCells zz.cells n).toList.getD q Go.undef:=by
       grind
      rw[e1,mT hq];have hz:0<zz.cells.size:=by
       grind
      have hm:q%zz.cells.size<zz.cells.size:=Nat.mod_lt _ hz;have:=qQ (k:=q%zz.cells.size) h3 ai;have e2:(zz.cells.toList.map D.v).getD (q%zz.cells.size) default= .v (zz.cells.toList.getD (q%zz.cells.size) Go.undef):=by
       grind
      rw[e2] at this;exact this)
     refine⟨w',_,?_,g2,g3,hK⟩;obtain⟨n,rfl⟩: ∃k,n=k+1:=⟨n-1,aa⟩;simp_all [Builtin.clear_,underlying,zeroValue,typeInfo]
   | @oY _ _ _ _ p e' m hj hs hlo hm=>
    refine⟨w,_,?_,?_,.refl _ _,hK⟩
    ·cases p<;>simp[Builtin.clear_,underlying,hu]
    grind [jF,set_self]
   | @ms0 _ _ p hj=>
    refine⟨w,_,?_,?_,.refl _ _,hK⟩
    ·cases p<;>simp[Builtin.clear_,underlying,hu]
    grind [jF,set_self]
  grind
 grind
def aab:AV->Option (Nat×Nat×Nat×Nat)
 | .ms b sz lo n=>some (b,sz,lo,n)
 | .mc b sz lo n _=>some (b,sz,lo,n)
 |_=>none
theorem Uc{w j x v b sz lo n}(h:aab x=some (b,sz,lo,n))(hr:R w j x v):R w j (.ms b sz lo n) v:=by
 unfold aab at h;split at h<;>simp only[Option.some.injEq,Prod.mk.injEq,reduceCtorEq] at h
 ·grind
 ·obtain⟨rfl,rfl,rfl,rfl⟩:=h;cases hr<;>grind
def aa8(n:Nat):AV->AV
 | .mc b sz lo k _=> .ms b sz lo (min k n)
 |y=>y
theorem US{P w j σ}(hS:aQ w j σ){sz n y v}{K:Nat->(Nat->List D)->Prop}(h:BQ σ sz (aa8 n y) fun k rows=>k<=n/\K k rows)(hr:R w j y v):
  ∃(k:Nat) (rows:Nat->List D) (news:List Value) (kf:Nat),(k<=n/\K k rows)/\(Builtin.lenOf v).run P w= .ok kf w/\Nat.min kf n=k/\(Builtin.firstCells sz k v).run P w= .ok news.toArray w/\news.length=k*sz/\(∀i,i<k->(rows i).length=sz)/\
   (∀i,i<k->∀q,q<sz->RD w j ((rows i).getD q default) (news.getD (i*sz+q) Go.undef))/\(∀u∈news,u.oneCell'=true):=by
 have old:aa8 n y=y->∃(k:Nat) (rows:Nat->List D) (news:List Value) (kf:Nat),(k<=n/\K k rows)/\(Builtin.lenOf v).run P w= .ok kf w/\Nat.min kf n=k/\(Builtin.firstCells sz k v).run P w= .ok news.toArray w/\news.length=k*sz/\(∀i,i<k->(rows i).length=sz)/\
   (∀i,i<k->∀q,q<sz->RD w j ((rows i).getD q default) (news.getD (i*sz+q) Go.undef))/\(∀u∈news,u.oneCell'=true):=fun he=>by
  rw[he] at h;obtain⟨k,rows,news,⟨hkn,hK⟩,src⟩:=td (P:=P) hS h hr;exact⟨k,rows,news,k,⟨hkn,hK⟩,src.len,Nat.min_eq_left hkn,src.first w (fun _ _=>rfl),src.size,src.rlen,src.rel,src.one⟩
 cases y with
 |mc b sz' lo k c=>
  cases hr with
  |mc hr q hv=>
   subst hv;have hr':R w j (.ms b sz' lo (min k n)) (.slice q (min k n) c):=by
    cases hr with
    |ms c e m h1 h2 h3 h4=>exact .ms c e m h1 h2 (Nat.le_trans (Nat.min_le_left _ _) h3) h4
    |ms0 p h1=>rw[Nat.zero_min];exact .ms0 _ h1
    |oY p e m h1 h2 h3 h4=>rw[Nat.zero_min];exact .oY _ e m h1 h2 h3 h4
   obtain⟨k',rows,news,⟨hkn,hK⟩,src⟩:=td (P:=P) hS h hr';have hk':k'=min k n:=by
    have h1:=src.len;simp_all [Builtin.lenOf]
   have hf:=src.first w (fun _ _=>rfl);refine⟨k',rows,news,k,⟨hkn,hK⟩,rJ,hk'.symm,?_,src.size,src.rlen,src.rel,src.one⟩;cases q<;>exact hf
 |_=>exact old rfl
def SO(P:Program)(σ:List aZ)(t:TypeId)(x y:AV)(K:AV->List aZ->Prop):Prop:=
 match aab x,rU P t with
 |some (b,sz,lo,n),some (e,sz',bytes,z)=>(match σ[b]? with
  |some (.arr rN n' row)=>(Nat.beq sz sz'&&Nat.beq sz rN)=true/\lo+n<=n'/\BQ σ sz (aa8 n y) fun k rows=>k<=n/\K (.d (.v (.int .i64 k))) (σ.set b (.arr sz n' (setRows lo k rows row)))
  |_=>False)
 |_,_=>False
theorem QB{P w j σ}(hS:aQ w j σ){t t' ty x y vx vy K}(h:SO P σ t x y K)(hx:R w j x vx)(hy:R w j y vy):
  ∃w' k σ',(Builtin.copy_ #[t,t'] ty #[vx,vy]).run P w= .ok (.int .i64 k) w'/\aQ w' j σ'/\Ev j w j w'/\K (.d (.v (.int .i64 k))) σ':=by
 unfold SO at h;split at h
 ·rename_i b sz lo n e sz' bytes z hms hsl;split at h
  ·rename_i rN n' row hb;obtain⟨h1,h2,h⟩:=h;simp only[Bool.and_eq_true,Nat.beq_eq] at h1;obtain⟨rfl,rfl⟩:=h1;obtain⟨hu,i,zz,hi,hzz,hsz,_,rfl,hzs⟩:=lJ hsl;obtain⟨k,rows,news,kf,⟨hkn,hK⟩,hlen,hmin,hf0,hsize,hrlen,hrel,hone⟩:=US (P:=P) hS (K:=fun k rows=>K (.d (.v (.int .i64 k))) (σ.set b (.arr sz n' (setRows lo k rows row)))) h hy;have hsz':(Go.sizeOf e).run P w= .ok sz w:=by simp_all [Go.sizeOf,typeInfo]
   replace hx:=Uc hms hx
   cases hx with
   | @ms _ _ _ _ cb c e' m hj hs hn hm=>
    obtain⟨w',g1,g2,g3⟩:=DZ (P:=P) hS hj hb (lo:=lo) (k:=k) aa hsize hrlen hrel hone;refine⟨w',k,_,?_,g2,g3,hK⟩;simp_all [Builtin.copy_,underlying,goInt]
   |ms0 p hj=>
    have hk:k=0:=aa;subst hk;have hn:news=[]:=ai;subst hn;refine⟨w,((0:Nat):Int),_,?_,?_,.refl _ _,hK⟩
    ·cases p<;>simp[Builtin.copy_,underlying,hu,hlen,hsz',hf0,goInt,storeCells]
    grind [jF,set_self]
   | @oY _ _ _ cb p e' m hj hs hlo hm=>
    have hk:k=0:=aa;subst hk;have hn:news=[]:=ai;subst hn;refine⟨w,((0:Nat):Int),_,?_,?_,.refl _ _,hK⟩
    ·cases p<;>simp[Builtin.copy_,underlying,hu,hlen,hsz',hf0,goInt,storeCells]
    grind [jF,set_self]
  grind
 grind
def tK(P:Program)(σ:List aZ)(t t':TypeId)(x y:AV)(K:AV->List aZ->List Nat->Prop):Prop:=
 match x,y with
 | .mc b sz lo n c,.d (.v (.int kq m))=>(match rU P t,ru P t',σ[b]? with
  |some (e,sz',bytes,z),some _,some (.arr rN n' row)=>(Nat.beq sz sz'&&Nat.beq sz rN)=true/\0<sz/\lo=0/\n<=n'/\0<m/\(c:Int)<n+m/\(n:Int)+m<=9223372036854775807/\(n+m.toNat)*bytes<=140737488355328/\K (.ms σ.length sz 0 (n+m.toNat)) (σ++[.arr sz (n+m.toNat) (aO n row fun _=>z.map .v)]) []
  |_,_,_=>False)
 |_,_=>C6 P σ t t' x y K
theorem o3{P w j σ}(hS:aQ w j σ){t t' ty x y vx vy K}(h:tK P σ t t' x y K)(hx:R w j x vx)(hy:R w j y vy):
  ∃v w' j' r σ' X,(Builtin.append_ #[t,t'] ty #[vx,vy]).run P w= .ok v w'/\aQ w' j' σ'/\R w' j' r v/\Ev j w j' w'/\j.length<=j'.length/\Ag j j' X/\K r σ' X:=by
 unfold tK at h;split at h
 ·rename_i b sz lo n c kq m;split at h
  ·rename_i e sz' bytes z kn rN n' row hsl hit hb;obtain⟨h1,hpos,rfl,hnn,hm0,hcn,h63,h47,hK⟩:=h;simp only[Bool.and_eq_true,Nat.beq_eq] at h1;obtain⟨rfl,rfl⟩:=h1;obtain⟨hu,i,zz,hi,hzz,hsz,hby,rfl,hzs⟩:=lJ hsl;have hut:P.underlying t'=some (.int kn):=by
    grind [ru]
   obtain⟨k,rfl⟩: ∃k:Nat,m=k:=⟨m.toNat,aa⟩;simp only[Int.toNat_natCast] at hK h47;have hvy:=iu hy;subst hvy;cases hx with|mc hx q hv=>
   have hcore: ∀(p:Option Addr) (olds:List Value),vx= .slice p n c->(Builtin.firstCells i.size n vx).run P w.drew= .ok olds.toArray w.drew->olds.length=n*sz->(∀q,q<n->(row q).length=sz)->(∀q,q<n->∀r,r<sz->RD w j ((row q).getD r default) (olds.getD (q*sz+r) Go.undef))->
     ∃v w' j' r σ' X,(Builtin.append_ #[t,t'] ty #[vx,.int kq k]).run P w= .ok v w'/\aQ w' j' σ'/\R w' j' r v/\Ev j w j' w'/\j.length<=j'.length/\Ag j j' X/\K r σ' X:=by
    intro p olds hvx hof hol hrl hrr;subst hvx;have hg:c<n+k:=aa;have hfit:=growslice_fits hg (by grind:(n+k)*i.bytes<=140737488355328);have hrun:=Lib.run_append_grow_zeros (P:=P) w t t' ty e i zz kq kn hu hut hi hzz p n c olds hof k aa aa hg aa ai aa;have hzc: ∀m,(Builtin.zeroCells zz.cells m).size=m*sz:=by grind [size_zeroCells]
    have hnl:(Builtin.zeroCells zz.cells k).toList.length=k*sz:=ai;obtain⟨g1,g2,g3⟩:=hS.grown (sz:=sz) (n:=n) (k:=k) (cap:=grownCap w (n+k) c e) (row:=row) (rows:=fun _=>zz.cells.toList.map .v) (olds:=olds) (news:=(Builtin.zeroCells zz.cells k).toList) (z:=Builtin.zeroCells zz.cells (grownCap w (n+k) c e-(n+k))) (e:=e) hol hnl hrl (fun _ _=>ai) hrr (fun q hq r hr=>by
     have hlt:q*sz+r<k*zz.cells.size:=by
      rw[hzs];have h4:(q+1)*sz<=k*sz:=Nat.mul_le_mul_right sz hq;grind
     rw[mT hlt,hzs,show(q*sz+r)%sz=r by simp_all [Nat.mod_eq_of_lt]];have hr':r<zz.cells.size:=aa;have e1:(zz.cells.toList.map D.v).getD r default= .v (zz.cells.toList.getD r Go.undef):=by
      grind
     rw[e1];exact .v _) (hzc _) (grownCap_ge w (n+k) c e)
    simp only[Array.toArray_toList] at g1 g2 g3;grind [cg]
   obtain⟨o,ho,hB⟩:=hS.blk b _ hb;cases hx with
   | @ms _ _ _ _ cb c' e' m' hj hsh hn hm=>
    cases hv
    rw[hj] at ho;cases ho
    obtain⟨C,e'',⟨f,hC,tX⟩,hCs,CY⟩:=hB;have hfz:=Or.imp_left And.left tX;have hnm:n*sz<=n'*sz:=Nat.mul_le_mul_right _ hnn;have hol:(C.toList.take (n*sz)).length=n*sz:=ai;have hog: ∀q,q<n*sz->(C.toList.take (n*sz)).getD q Go.undef=C.getD q Go.undef:=by
     grind [Array.getD_eq_getD_getElem?]
    refine hcore (some ⟨cb,0*sz,none⟩) (C.toList.take (n*sz)) rfl ?_ hol (fun q hq=>(CY q aa).1) (fun q hq r hr=> ?_)
    ·rw[hsz];refine bS hol fun q hq=> ?_;rw[hol] at hq;rw[da _ rfl,Nat.zero_mul,Nat.zero_add];show w.cell? _=_
     grind [cell_of]
    ·have hb:q*sz+r<n*sz:=by
      have:(q+1)*sz<=n*sz:=Nat.mul_le_mul_right _ hq;grind
     grind
   |ms0 p hj=>
    cases hv
    refine hcore q [] rfl ?_ an aa aa;cases q with
    |none=>simp[Builtin.firstCells]
    |some a=>grind [bS]
   |oY p e' m' hj hs hlo hm=>grind
  grind
 ·exact KQ hS h hx hy
theorem Key.Lh{k k':Key}(h:k.v=k'.v):k=k':=by
 cases k<;>cases k'<;>simp_all [Key.v]
def QZ:AV->Option Key
 | .d (.v (.int .i64 x))=>some (.i x)
 | .d (.v (.string b))=>some (.s b)
 |_=>none
theorem KS{av κ}(h:QZ av=some κ):av= .d (.v κ.v):=by
 unfold QZ at h;split at h<;>simp at h<;>subst h<;>rfl
def rr(P:Program)(t:TypeId):Option (Bool×AV):=
 match P.underlying t with
 |some (.map kt et)=>match P.underlying kt,P.info? et with
  |some (.int .i64),some i=>i.zero.map fun z=>(false,ofConst z)
  |some .string,some i=>i.zero.map fun z=>(true,ofConst z)
  |_,_=>none
 |_=>none
theorem mP{P t d z}(h:rr P t=some (d,z)): ∃kt et kd zz,P.underlying t=some (.map kt et)/\P.underlying kt=some kd/\(∀k:Key,k.str=d->MapKept.IsKey kd k.v)/\z=ofConst zz/\∀w,(zeroValue et).run P w= .ok zz w:=by
 unfold rr at h;split at h
 ·rename_i kt et hu;split at h
  ·rename_i i hk hi;simp only[Option.map_eq_some_iff,Prod.mk.injEq] at h;obtain⟨zz,hz,rfl,rfl⟩:=h;refine⟨kt,et,_,zz,hu,hk,fun k hk=> ?_,rfl,fun w=>by simp_all [zeroValue,typeInfo]⟩;cases k with
   |i x=>rfl
   |s b=>cases hk
  ·rename_i i hk hi;simp only[Option.map_eq_some_iff,Prod.mk.injEq] at h;obtain⟨zz,hz,rfl,rfl⟩:=h;refine⟨kt,et,_,zz,hu,hk,fun k hk=> ?_,rfl,fun w=>by simp_all [zeroValue,typeInfo]⟩;cases k with
   |i x=>cases hk
   |s b=>trivial
  grind
 grind
section
variable {P : Program} {w : World} {j : Js} {es : Array MapEntry} {cl : Nat} {d : Bool} {ks : List Key} {f : Key -> AV}
theorem ft.XD(h:ft w j es cl d ks f){e}(he:e∈es.toList): ∃k∈ks,e.key=k.v:=by
 have:e.key∈ks.map Key.v:=h.keys.mem_iff.1 (List.mem_map.2 ⟨e,he,rfl⟩);grind
theorem ft.mem(h:ft w j es cl d ks f){k} :k∈ks↔∃e∈es.toList,e.key=k.v:=by
 constructor
 ·intro hk;have:k.v∈es.toList.map (·.key):=h.keys.mem_iff.2 (List.mem_map.2 ⟨k,hk,rfl⟩);grind
 ·rintro⟨e,he,hv⟩;obtain⟨k',hk',hv'⟩:=h.XD he;grind [Key.Lh]
theorem ft.look(h:ft w j es cl d ks f){kd}(hkd: ∀k:Key,k.str=d->MapKept.IsKey kd k.v){κ}(hs:κ.str=d):
  (Instr.findNow kd κ.v es.toList 0=some none/\κ∉ks)\/∃q e,Instr.findNow kd κ.v es.toList 0=some (some (q,e.val))/\es.toList[q]? =some e/\e.key=κ.v/\κ∈ks/\R w j (f κ) e.val:=by
 have hks: ∀x∈es.toList,MapKept.IsKey kd x.key:=fun x hx=>by
  obtain⟨k,hk,hv⟩:=h.XD hx;rw[hv];exact hkd k (h.kind k hk)
 rcases MapKept.findNow_spec (hkd κ hs) es.toList 0 hks with⟨h1,h2⟩|⟨q,e,h1,h2,h3⟩
 ·exact .inl ⟨h1,fun hm=>by obtain⟨e,he,hv⟩:=h.mem.1 hm;grind⟩
 ·have he:e∈es.toList:=List.mem_of_getElem? h2;exact .inr ⟨q,e,ai,h2,h3,h.mem.2 ⟨e,he,h3⟩,h.rel e he κ h3⟩
theorem ER(h:ft w j es cl d ks f){cb}(hb:w.heap[cb]? =some (.map es cl)){t z}(ht:rr P t=some (d,z)){κ}(hs:κ.str=d)(c):
  ∃v,(Instr.lookup t (.map (some cb)) κ.v c).run P w= .ok (if c then .tuple #[v,.bool (decide (κ∈ks))] else v) w/\(κ∈ks->R w j (f κ) v)/\(κ∉ks->R w j z v):=by
 obtain⟨kt,et,kd,zz,h1,h2,h3,rfl,h5⟩:=mP ht;rcases h.look h3 hs with⟨g1,g2⟩|⟨q,e,g1,g2,g3,g4,g5⟩
 ·refine⟨zz,?_,fun hm=>absurd hm g2,fun _=>Iy w j zz⟩;simp[Instr.lookup,run_underlying h1,MapKept.run_getObj_map hb,MapKept.run_checkKey h2 (h3 κ hs),MapKept.run_findKey h2 g1,h5,Result.andThen,g2]
 ·refine⟨e.val,?_,fun _=>g5,fun hm=>absurd g4 hm⟩;simp[Instr.lookup,run_underlying h1,MapKept.run_getObj_map hb,MapKept.run_checkKey h2 (h3 κ hs),MapKept.run_findKey h2 g1,Result.andThen,g4]
def iX(κ:Key)(ks:List Key):List Key:=if κ∈ks then ks else ks++[κ]
def iC(f:Key->AV)(κ:Key)(v:AV):Key->AV:=fun k=>if k=κ then v else f k
theorem eV{κ k ks} :k∈iX κ ks↔k=κ\/k∈ks:=by
 grind [iX]
theorem jo{w j cb es es' cl cl'}(hb:w.heap[cb]? =some (.map es cl))(hj:some cb∈j):Ev j w j (w.putObj cb (.map es' cl')):=by
 have hlt:cb<w.heap.size:=(Array.getElem?_eq_some_iff.1 hb).1;have hnew:(w.putObj cb (.map es' cl')).heap[cb]? =some (.map es' cl'):=World.putObj_heap_same hlt;have hold: ∀b,b≠cb->(w.putObj cb (.map es' cl')).heap[b]? =w.heap[b]? :=fun b hne=>World.putObj_heap_other hne;refine⟨an,fun b hb' hn=>hold b (fun e=>hn ai),fun _ _ h=>h,fun b hb'=> ?_,fun a ha=> ?_,rfl,rfl,rfl,fun b r hr=> ?_⟩;all_goals grind [World.shape?,World.frozen?]
theorem aQ.setObj{w j σ}(h:aQ w j σ){b cb}(hj:j[b]? =some (some cb)){ob x}(he:Ev j w j (w.putObj cb ob))(hx:RB (w.putObj cb ob) j x (some cb)):aQ (w.putObj cb ob) j (σ.set b x):=by
 refine⟨C8,fun q c hq=>by simpa using h.lt q c hq,h.inj,fun q y hy=> ?_⟩;rw[List.getElem?_set] at hy;split at hy
 ·grind
 ·rename_i e;obtain⟨o,ho,hB⟩:=h.blk q y hy;refine⟨o,ho,hB.mono he h.lt (.refl _ _) fun c hc=> ?_⟩;subst hc;exact World.putObj_heap_other fun e'=>by subst e';exact e (h.inj _ _ _ hj ho)
theorem Pp{σ}(hS:aQ w j σ){b cb:Nat}(hj:j[b]? =some (some cb))(h:ft w j es cl d ks f)(hb:w.heap[cb]? =some (.map es cl)){t z}(ht:rr P t=some (d,z)){κ}(hs:κ.str=d){av v}(hv:R w j av v)(hf:av.free=true):
  ∃es' cl',(Instr.mapUpdate t (.map (some cb)) κ.v v).run P w= .ok () (w.putObj cb (.map es' cl'))/\ft (w.putObj cb (.map es' cl')) j es' cl' d (iX κ ks) (iC f κ av):=by
 obtain⟨kt,et,kd,zz,h1,h2,h3,rfl,h5⟩:=mP ht;have hm:some cb∈j:=List.mem_of_getElem? hj;have hfree: ∀k,(iC f κ av k).free=true:=fun k=>by unfold iC;split;exact hf;exact h.free k
 rcases h.look h3 hs with⟨g1,g2⟩|⟨q,e,g1,g2,g3,g4,g5⟩
 ·have hne: ∀x∈es.toList,x.key≠κ.v:=fun x hx hk=>g2 (h.mem.2 ⟨x,hx,hk⟩);have he:Ev j w j (w.putObj cb (.map (es.push ⟨κ.v,v,cl⟩) (cl+1))):=jo hb hm;refine⟨es.push ⟨κ.v,v,cl⟩,cl+1,?_,MapKept.stamped_push h.stamped hne,?_,?_,hfree,?_⟩
  ·simp[Instr.mapUpdate,run_underlying h1,MapKept.run_getObj_map hb,MapKept.run_checkKey h2 (h3 κ hs),MapKept.run_findKey h2 g1,MapKept.run_setObj_map _ hb,Result.andThen,World.putObj]
  ·unfold iX;rw[if_neg g2];simp only[Array.toList_push,List.map_append,List.map_cons,List.map_nil];exact h.keys.append_right _
  ·intro k hk;rcases eV.1 hk with rfl|hk
   ·exact hs
   ·exact h.kind k hk
  ·intro x hx k hk;simp only[Array.toList_push,List.mem_append,List.mem_singleton] at hx;unfold iC;rcases hx with hx|rfl
   ·rw[if_neg (fun e=>hne x hx ai)];exact(h.rel x hx k hk).pE he hS.lt (h.free k)
   ·rw[if_pos (Key.Lh hk).symm];exact hv.pE he hS.lt hf
 ·have hlt:q<es.toList.length:=(List.getElem?_eq_some_iff.1 g2).1;have hq:es[q]? =some e:=ai;have he:Ev j w j (w.putObj cb (.map (es.modify q fun x=> { x with key:=κ.v,val:=v }) cl)):=jo hb hm;have hlist:(es.modify q fun x=> { x with key:=κ.v,val:=v }).toList=es.toList.modify q fun x=> { x with key:=κ.v,val:=v } :=Array.toList_modify ..;have hkeys:(es.toList.modify q fun x=> { x with key:=κ.v,val:=v }).map (·.key)=es.toList.map (·.key):=by
   apply List.ext_getElem?;grind
  have X2:(es.toList.modify q fun x=> { x with key:=κ.v,val:=v }).map (·.born)=es.toList.map (·.born):=by
   apply List.ext_getElem?;grind
  refine⟨_,cl,?_,⟨?_,by rw[hlist,X2];exact h.stamped.2.1,by rw[hlist,hkeys];exact h.stamped.2.2⟩,?_,?_,hfree,?_⟩
  ·simp[Instr.mapUpdate,run_underlying h1,MapKept.run_getObj_map hb,MapKept.run_checkKey h2 (h3 κ hs),MapKept.run_findKey h2 g1,hq,g3,MapKept.run_keyThatStays (h3 κ hs),MapKept.run_setObj_map _ hb,Result.andThen,World.putObj]
  ·intro x hx;have:x.born∈(es.toList.modify q fun x=> { x with key:=κ.v,val:=v }).map (·.born):=List.mem_map.2 ⟨x,ai,rfl⟩;rw[X2] at this;obtain⟨y,hy,hyb⟩:=List.mem_map.1 this;rw[←hyb];exact h.stamped.1 y hy
  ·unfold iX;rw[if_pos g4,hlist,hkeys];exact h.keys
  ·intro k hk;rcases eV.1 hk with rfl|hk
   ·exact hs
   ·exact h.kind k hk
  ·intro x hx k hk;rw[hlist] at hx;obtain⟨i,hi⟩:=List.getElem?_of_mem hx;rw[List.getElem?_modify] at hi;unfold iC;by_cases e1:q=i
   ·subst e1;simp[g2] at hi;subst hi;rw[if_pos (Key.Lh hk).symm];exact hv.pE he hS.lt hf
   ·simp only[e1,if_false] at hi;have hi':es.toList[i]? =some x:=ai;rw[if_neg]
    ·exact(h.rel x (List.mem_of_getElem? hi') k hk).pE he hS.lt (h.free k)
    ·rintro rfl;have hn:=h.stamped.2.2;have a1:(es.toList.map (·.key))[q]? =some k.v:=ai;have a2:(es.toList.map (·.key))[i]? =some k.v:=ai;grind [List.getElem?_inj]
end
mutual
def vu(b:Bool):AV->AV->Option AV
 | .d (.v (.bool x)),.d (.v (.bool y))=>some (.d (.v (.bool (cond b x y))))
 | .d (.v (.int k x)),.d (.v (.int k' y))=>if k=k' then some (.d (.v (.int k (cond b x y)))) else none
 | .d (.v (.string x)),.d (.v (.string y))=>some (.d (.v (.string (cond b x y))))
 | .d x,.d y=>some (.d (cond b x y))
 | .op p cs,.d (.v (.pointer none))=>some (.op (b&&p) cs)
 | .el cs,.d (.v (.pointer none))=>some (.op b cs)
 | .agg xs,.agg ys=>(MW b xs ys).map .agg
 |_,_=>none
def MW(b:Bool):List AV->List AV->Option (List AV)
 |[],[]=>some []
 |x::xs,y::ys=>match vu b x y,MW b xs ys with
  |some z,some zs=>some (z::zs)
  |_,_=>none
 |_,_=>none
end
theorem zy{b} : ∀{xs ys zs},MW b xs ys=some zs->zs.length=xs.length/\zs.length=ys.length/\∀k,k<zs.length->vu b (xs.getD k .undef) (ys.getD k .undef)=some (zs.getD k .undef)
 |[],[],zs,h=>by grind [MW]
 |[],_::_,zs,h=>by grind [MW]
 |_::_,[],zs,h=>by grind [MW]
 |x::xs,y::ys,zs,h=>by
  simp only[MW] at h;split at h
  ·rename_i z zs' h1 h2;simp only[Option.some.injEq] at h;subst h;obtain⟨h3,h4,h5⟩:=zy h2;refine⟨by simp[h3],by simp[h4],fun k hk=> ?_⟩;cases k with
   |zero=>simpa using h1
   |succ k=>simpa using h5 k rI
  ·simp at h
theorem MV{w j x v}(h:R w j x v): ∀{z y},vu true x z=some y->R w j y v:=by
 induction h with
 |d h=>
  intro z y hm;unfold vu at hm;split at hm<;>simp at hm;all_goals first
   |(rename_i e;cases e;done)
   |(rename_i e;cases e;subst hm;exact .d h)
   |(rename_i e;cases e;obtain⟨_,rfl⟩:=hm;exact .d h)
   |(rename_i e _;cases e;subst hm;exact .d h)
   |(rename_i e _ _;cases e;subst hm;exact .d h)
   |(rename_i e _ _ _;cases e;subst hm;exact .d h)
   |(rename_i e _ _ _ _;cases e;subst hm;exact .d h)
 |op h h0 ih=>
  intro z y hm;unfold vu at hm;split at hm<;>simp at hm;all_goals first
   |(rename_i e;cases e;done)
   |(rename_i e;cases e;subst hm;exact .op h h0)
   |(rename_i e _;cases e;done)
   |(rename_i e _ _;cases e;done)
   |(rename_i e _ _ _;cases e;done)
   |(rename_i e _ _ _ _;cases e;done)
 |el a val ha hlt hb hcell hrel=>
  intro z y hm;unfold vu at hm;split at hm<;>simp at hm;all_goals first
   |(rename_i e;cases e;done)
   |(rename_i e;cases e;subst hm;exact .op (fun _=> .el a val ha hlt hb hcell hrel) (fun h=>by cases h))
   |(rename_i e _;cases e;done)
   |(rename_i e _ _;cases e;done)
   |(rename_i e _ _ _;cases e;done)
   |(rename_i e _ _ _ _;cases e;done)
 |agg vs hs h ih=>
  intro z y hm;unfold vu at hm;split at hm<;>simp at hm;all_goals first
   |(rename_i e;cases e;done)
   |(rename_i e _;cases e;done)
   |(rename_i e _ _;cases e;done)
   |(rename_i e _ _ _;cases e;done)
   |skip
  rename_i e;cases e
  obtain⟨zs,h1,rfl⟩:=hm;obtain⟨h2,h3,h4⟩:=zy h1;exact .agg vs ai fun k hk=>ih k aa (h4 k hk)
 |_=>intro z y hm;simp[vu] at hm
theorem HL{w j z v}(h:R w j z v): ∀{x y},vu false x z=some y->R w j y v:=by
 induction h with
 |d h=>
  intro x y hm;unfold vu at hm;split at hm<;>simp at hm;all_goals first
   |(rename_i e;cases e;done)
   |(rename_i e;cases e;subst hm;exact .d h)
   |(rename_i e;cases e;obtain⟨rfl,rfl⟩:=hm;exact .d h)
   |(rename_i e;cases e;subst hm;cases h;exact .op (fun hh=>by cases hh) (fun _=>rfl))
   |(rename_i e _;cases e;subst hm;exact .d h)
   |(rename_i e _ _;cases e;subst hm;exact .d h)
   |(rename_i e _ _ _;cases e;subst hm;exact .d h)
   |(rename_i e _ _ _ _;cases e;subst hm;exact .d h)
 |agg vs hs h ih=>
  intro x y hm;unfold vu at hm;split at hm<;>simp at hm;all_goals first
   |(rename_i e;cases e;done)
   |(rename_i e _;cases e;done)
   |(rename_i e _ _;cases e;done)
   |(rename_i e _ _ _;cases e;done)
   |skip
  rename_i e;cases e
  obtain⟨zs,h1,rfl⟩:=hm;obtain⟨h2,h3,h4⟩:=zy h1;exact .agg vs ai fun k hk=>ih k aa (h4 k hk)
 |_=>
  intro x y hm;unfold vu at hm;split at hm<;>simp_all
def abx:D->AV
 | .v (.agg vs)=> .agg (vs.toList.map fun v=> .d (.v v))
 |x=> .d x
theorem abw{w j x v}(h:R w j (.d x) v):R w j (abx x) v:=by
 unfold abx;split
 ·rename_i vs;have:=iu h;subst this;refine .agg vs an fun k hk=> ?_;simp only[List.length_map,Array.length_toList] at hk;have e:(vs.toList.map fun v=>AV.d (.v v)).getD k .undef= .d (.v (vs.getD k Go.undef)):=by
   simp_all
  rw[e];exact .d (.v _)
 grind
def CW(P:Program)(t:TypeId)(σ:List aZ)(m k:AV)(ok:Bool)(K:AV->Prop):Prop:=
 match m with
 | .mp b=>(match σ[b]? with
  |some (.mp d ks f)=>(match QZ k,rr P t with
   |some κ,some (d',z)=>(κ.str==d&&d==d')=true/\(match vu (decide (κ∈ks)) (f κ) z with
    |some y=>K (cond ok (.cj [y,.d (.v (.bool (decide (κ∈ks))))]) y)
    |none=>False)
   |_,_=>False)
  |_=>False)
 | .fm d ks f=>(match QZ k,rr P t with
   |some κ,some (d',z)=>(κ.str==d&&d==d')=true/\(match vu (decide (κ∈ks)) (abx (f κ)) z with
    |some y=>K (cond ok (.cj [y,.d (.v (.bool (decide (κ∈ks))))]) y)
    |none=>False)
   |_,_=>False)
 |_=>False
theorem Q5.is{w j es cl d ks f}(h:Q5 w j es cl d ks f):ft w j es cl d ks fun k=> .d (f k):=
 ⟨h.stamped,h.keys,h.kind,fun _=>rfl,fun e hm k hk=> .d (h.rel e hm k hk)⟩
theorem ft.data{w j es cl d ks f}(h:ft w j es cl d ks fun k=> .d (f k)):Q5 w j es cl d ks f:=
 ⟨h.stamped,h.keys,h.kind,fun e hm k hk=>by cases h.rel e hm k hk<;>grind⟩
theorem JR{P g t s m k ok K}(h:CW P t s.σ m k ok K){x y}(hx:Arg g s x m)(hy:Arg g s y k): ∃av,K av/\s7 P g s (.lookup t x y ok) av:=by
 unfold CW at h;split at h
 ·rename_i b;split at h
  ·rename_i d ks f hb;split at h
   ·rename_i κ d' z hk ht;obtain⟨hd,h⟩:=h;simp only[Bool.and_eq_true,beq_iff_eq] at hd;obtain⟨hd1,rfl⟩:=hd;split at h
    ·rename_i av hm;refine⟨_,h,fun hg j0 j a w o ho hrel=> ?_⟩;have h1:=hx hg j0 j a w hrel;have h2:=hy hg j0 j a w hrel;rw[KS hk] at h2;replace h2:=iu h2
     generalize hv:a.eval x=u at h1
     cases h1 with
     | @mp _ cb hj=>
      obtain⟨o',ho',hB⟩:=hrel.cm.blk b _ hb;rw[hj] at ho';cases ho'
      obtain⟨es,cl,g1,g2⟩:=hB;obtain⟨v,g3,g4,g5⟩:=ER (P:=P) g2 g1 ht hd1 ok;have hr:R w j av v:=by
       by_cases hin:κ∈ks
       all_goals grind [MV,HL]
      refine⟨_,by simp only[execOp,ho,hv,h2];exact er g3,?_⟩;cases ok with
      |false=>exact hr
      |true=>
       refine .cj _ an fun k hk=> ?_;match k,hk with
       |0,_=>exact hr
       |1,_=>exact .d (.v _)
       |k+2,hk=>grind
    grind
   grind
  grind
 ·rename_i d ks f;split at h
  ·rename_i κ d' z hk ht;obtain⟨hd,h⟩:=h;simp only[Bool.and_eq_true,beq_iff_eq] at hd;obtain⟨hd1,rfl⟩:=hd;split at h
   ·rename_i av hm;refine⟨_,h,fun hg j0 j a w o ho hrel=> ?_⟩;have h1:=hx hg j0 j a w hrel;have h2:=hy hg j0 j a w hrel;rw[KS hk] at h2;replace h2:=iu h2
    generalize hv:a.eval x=u at h1
    cases h1 with
    |fm c cl es hlt hb rv hmd=>
     obtain⟨v,g3,g4,g5⟩:=ER (P:=P) hmd.is rv ht hd1 ok;have hr:R w j av v:=by
      by_cases hin:κ∈ks
      ·rw[decide_eq_true hin] at hm;exact MV (abw (g4 hin)) hm
      grind [HL]
     refine⟨_,by simp only[execOp,ho,hv,h2];exact er g3,?_⟩;cases ok with
     |false=>exact hr
     |true=>
      refine .cj _ an fun k hk=> ?_;match k,hk with
      |0,_=>exact hr
      |1,_=>exact .d (.v _)
      |k+2,hk=>grind
   grind
  grind
 grind
theorem Ex{l:List MapEntry}{e:MapEntry}(hn:(l.map (·.born)).Nodup)(he:e∈l):l.Perm (e::l.filter fun x=>x.born !=e.born):=by
 induction l with
 |nil=>cases he
 |cons x l ih=>
  simp only[List.map_cons,List.nodup_cons] at hn;by_cases hx:x=e
  ·subst hx;have h1:(x::l).filter (fun y=>y.born !=x.born)=l:=by
    simp_all
   rw[h1]
  ·have he':e∈l:=by
    grind
   have hb:x.born≠e.born:=fun hb=>hn.1 (List.mem_map.2 ⟨e,he',hb.symm⟩);rw[List.filter_cons_of_pos ai];exact((ih hn.2 he').cons x).trans (List.Perm.swap ..)
theorem Nt(es seen b):(leftOf es (seen.push b)).toList=(leftOf es seen).toList.filter fun x=>x.born !=b:=by
 grind [leftOf,List.filter_filter,List.filter_congr]
def E3(left:List Key)(cur:Option Key)(f:Key->AV):Option Key->aZ
 |none=> .it left cur f
 |some k=> .it (left.erase k) (some k) f
def AZ(f:Key->AV):Option Key->List AV
 |none=>[]
 |some k=>[.d (.v k.v),f k]
theorem Xl{P w j σ}(hS:aQ w j σ){b left cur f}(hb:σ[b]? =some (.it left cur f)){v}(hv:R w j (.ptr b 0) v)(ty):
  ∃(o:Option Key) (w':World) (u:Value),(Instr.next v false ty).run P w= .ok u w'/\(o=none->left=[])/\(∀k,o=some k->k∈left)/\aQ w' j (σ.set b (E3 left cur f o))/\Ev j w j w'/\R w' j (.cj (.d (.v (.bool o.isSome))::AZ f o)) u:=by
 cases hv with
 | @ptr _ _ cb hj=>
 obtain⟨o',ho',hB⟩:=hS.blk b _ hb;rw[hj] at ho';cases ho'
 obtain⟨mb,es,cl,seen,h1,h2⟩:=hB;have hm:some cb∈j:=List.mem_of_getElem? hj;rcases run_next_at (P:=P) w ty cb mb cl cl seen es cl h1 h2.heap (fun x hx=>h2.stamped.1 x hx) (Nat.le_refl _) with⟨g1,g2⟩|⟨e,he,w1,hw1,g2⟩
 ·refine⟨none,w,_,g2,fun _=> ?_,fun k hk=>(by cases hk),?_,.refl _ _,?_⟩
  ·have h0:(leftOf es seen).toList=[]:=by
    grind
   have:=h2.keys;simp_all
  ·grind [E3,set_self]
  ·refine .cj _ (by simp[AZ]) fun k hk=> ?_;simp only[AZ,List.length_singleton,Nat.lt_one_iff] at hk;subst hk;exact .d (.v _)
 ·have hel:e.key∈left.map Key.v:=h2.keys.mem_iff.1 (List.mem_map.2 ⟨e,he,rfl⟩);obtain⟨k,hk,hkv⟩:=List.mem_map.1 hel;have hee:e∈es.toList:=by
   grind [leftOf]
  have hst:ChangeMaps.setBlock w1 cb (.mapIter (some mb) cl (seen.push e.born) cl)=w1.putObj cb (.mapIter (some mb) cl (seen.push e.born) cl):=rfl;rw[hst] at g2;have he1:Ev j w j w1:=by rcases hw1 with rfl|rfl;exact .refl _ _;exact eA _ _
  have hS1:aQ w1 j σ:=by rcases hw1 with rfl|rfl;exact hS;exact hS.drew
  have h1':w1.heap[cb]? =some (.mapIter (some mb) cl seen cl):=by rcases hw1 with rfl|rfl<;>exact h1
  have hlt:cb<w1.heap.size:=(Array.getElem?_eq_some_iff.1 h1').1;have hnew:(w1.putObj cb (.mapIter (some mb) cl (seen.push e.born) cl)).heap[cb]? =some (.mapIter (some mb) cl (seen.push e.born) cl):=World.putObj_heap_same hlt;have hold: ∀q,q≠cb->(w1.putObj cb (.mapIter (some mb) cl (seen.push e.born) cl)).heap[q]? =w1.heap[q]? :=fun q hne=>World.putObj_heap_other hne;have he2:Ev j w1 j (w1.putObj cb (.mapIter (some mb) cl (seen.push e.born) cl)):=by
   refine⟨an,fun q hq hn=>hold q (fun e=>hn ai),fun _ _ h=>h,fun q hq=> ?_,fun a ha=> ?_,rfl,rfl,rfl,fun q r hr=> ?_⟩;all_goals grind [World.shape?,World.frozen?]
  have hI:oe (w1.putObj cb (.mapIter (some mb) cl (seen.push e.born) cl)) j mb es cl (seen.push e.born) (left.erase k) (some k) f:=by
   have hI1:=(h2.mono he1 hS.lt).mono he2 hS1.lt;refine⟨hI1.lt,hI1.own,hI1.heap,hI1.stamped,?_,fun k' hk'=> ?_,hI1.free,hI1.rel⟩
   ·rw[Nt];have hnd:((leftOf es seen).toList.map (·.born)).Nodup:=by
     simp only[leftOf,Array.toList_filter];exact h2.stamped.2.1.sublist ((List.filter_sublist).map _)
    have p1:=(Ex hnd he).map (·.key);have p2:=(List.perm_cons_erase hk).map Key.v;have p3:=(p1.symm.trans h2.keys).trans p2;simp_all
   grind
  refine⟨some k,_,_,g2,fun h=>(by cases h),fun k' hk'=>ai,?_,he1.trans he2,?_⟩
  ·exact hS1.setObj hj he2 ⟨mb,es,cl,_,hnew,hI⟩
  ·refine .cj _ (by simp[AZ]) fun q hq=> ?_;match q,hq with
   |0,_=>exact .d (.v _)
   |1,_=>rw[←hkv];exact .d (.v _)
   |2,_=>exact((h2.rel e hee k hkv.symm).pE he1 hS.lt (h2.free k)).pE he2 hS1.lt (h2.free k)
   |q+3,hq=>grind [AZ]
theorem UI{P w j σ}(hS:aQ w j σ){b left k f}(hb:σ[b]? =some (.it left (some k) f)){v}(hv:R w j (.ptr b 0) v):
  ∃u,(Instr.entry v).run P w= .ok u w/\R w j (.cj [.d (.v k.v),f k]) u:=by
 cases hv with
 | @ptr _ _ cb hj=>
 obtain⟨o',ho',hB⟩:=hS.blk b _ hb;rw[hj] at ho';cases ho'
 obtain⟨mb,es,cl,seen,h1,h2⟩:=hB;obtain⟨e,he,hk,sn,rfl⟩:=h2.cur k rfl;refine⟨_,run_entry_at w cb mb cl sn es cl e h1 h2.heap he h2.stamped.2.1,?_⟩;refine .cj _ an fun q hq=> ?_;match q,hq with
 |0,_=>rw[←hk];exact .d (.v _)
 |1,_=>exact h2.rel e he k hk
 |q+2,hq=>grind
theorem TZ{P w j σ}(hS:aQ w j σ){b d ks f}(hb:σ[b]? =some (.mp d ks f)){v}(hv:R w j (.mp b) v){t z}(ht:rr P t=some (d,z)):
  ∃w' j',(Instr.range t v).run P w= .ok (.pointer (some ⟨w.heap.size,0,none⟩)) w'/\aQ w' j' ((σ.map (bP [b])).set b (.it ks none f))/\Ev j w j' w'/\j.length<=j'.length/\Ag j j' [b]/\R w' j' (.ptr b 0) (.pointer (some ⟨w.heap.size,0,none⟩)):=by
 obtain⟨kt,et,kd,zz,h1,h2,h3,rfl,h5⟩:=mP ht;cases hv with
 | @mp _ cb hj=>
 obtain⟨o',ho',hB⟩:=hS.blk b _ hb;rw[hj] at ho';cases ho'
 obtain⟨es,cl,g1,g2⟩:=hB;have hbj:b<j.length:=(List.getElem?_eq_some_iff.1 hj).1;have hlt:=hS.lt b cb hj;have hnew:(w.alloc (.mapIter (some cb) cl #[] cl)).heap[w.heap.size]? =some (.mapIter (some cb) cl #[] cl):=heap_alloc_new w _;have hown:some cb∉j.set b (some w.heap.size):=by
  intro hm;obtain⟨q,hq⟩:=List.getElem?_of_mem hm;rw[List.getElem?_set] at hq;split at hq
  ·grind
  ·rename_i e;exact e (hS.inj _ _ _ hj hq)
 have he:Ev j w (j.set b (some w.heap.size)) (w.alloc (.mapIter (some cb) cl #[] cl)):=pH _ _ _ _ (fun q hq hm=>by
  grind)
 obtain⟨r1,r2,r3⟩:=hS.Xq (b:=b) hbj (ob:= .mapIter (some cb) cl #[] cl) (x:= .it ks none f) ⟨cb,es,cl,#[],hnew,ai,hown,by grind [bR],g2.stamped,by
  have:leftOf es #[]=es:=by simp[leftOf]
  rw[this];exact g2.keys,fun k hk=>ai,g2.free,fun e hm k hk=>(g2.rel e hm k hk).pE he hS.lt (g2.free k)⟩
 refine⟨_,_,run_range_map w t kt et cb es cl h1 g1,r1,r2,an,r3,.ptr ?_⟩;grind
theorem MY{w:World}{j:Js}{σ:List aZ}(hS:aQ w j σ)(d:Bool):
  aQ (w.alloc (.map #[] 0)) (j++[some w.heap.size]) (σ++[.mp d [] fun _=> .undef])/\Ev j w (j++[some w.heap.size]) (w.alloc (.map #[] 0))/\R (w.alloc (.map #[] 0)) (j++[some w.heap.size]) (.mp σ.length) (.map (some w.heap.size)):=by
 obtain⟨h1,h2⟩:=hS.QY (.map #[] 0) (.mp d [] fun _=> .undef) ⟨#[],0,heap_alloc_new w _,MapKept.stamped_empty 0,an,an,fun _=>rfl,an⟩;refine⟨h1,h2,.mp ?_⟩;rw[List.getElem?_append_right K1];simp[hS.len]
def Kc(σ:List aZ)(x:AV)(K:AV->Prop):Prop:=
 match x with
 | .ptr b 0=>(match σ[b]? with
  |some (.it _ (some k) f)=>K (.cj [.d (.v k.v),f k])
  |_=>False)
 |_=>False
theorem Oj{P g s m K}(h:Kc s.σ m K){x}(hx:Arg g s x m): ∃av,K av/\s7 P g s (.entry x) av:=by
 unfold Kc at h;split at h
 ·split at h
  ·rename_i hb;refine⟨_,h,fun hg j0 j a w o ho hrel=> ?_⟩;obtain⟨u,h1,h2⟩:=UI (P:=P) hrel.cm hb (hx hg j0 j a w hrel);grind [execOp,er]
  grind
 grind
def V8(P:Program)(t:TypeId)(σ:List aZ)(m k v:AV)(K:List aZ->Prop):Prop:=
 match m with
 | .mp b=>(match σ[b]? with
  |some (.mp d ks f)=>(match QZ k,rr P t with
   |some κ,some (d',_)=>(κ.str==d&&d==d'&&v.free)=true/\K (σ.set b (.mp d (iX κ ks) (iC f κ v)))
   |_,_=>False)
  |_=>False)
 |_=>False
theorem Hk{P w j σ}(hS:aQ w j σ){t m k v vm vk vv K}(h:V8 P t σ m k v K)(hm:R w j m vm)(hk:R w j k vk)(hv:R w j v vv):
  ∃w' σ',(Instr.mapUpdate t vm vk vv).run P w= .ok () w'/\aQ w' j σ'/\Ev j w j w'/\K σ':=by
 unfold V8 at h;split at h
 ·rename_i b;split at h
  ·rename_i d ks f hb;split at h
   ·rename_i κ d' z hκ ht;obtain⟨hd,hK⟩:=h;simp only[Bool.and_eq_true,beq_iff_eq] at hd;obtain⟨⟨hd1,rfl⟩,hf⟩:=hd;rw[KS hκ] at hk;rw[iu hk];cases hm with
    | @mp _ cb hj=>
    obtain⟨o',ho',hB⟩:=hS.blk b _ hb;rw[hj] at ho';cases ho'
    obtain⟨es,cl,g1,g2⟩:=hB;obtain⟨es',cl',g3,g4⟩:=Pp (P:=P) hS hj g2 g1 ht hd1 hv hf;have he:Ev j w j (w.putObj cb (.map es' cl')):=jo g1 (List.mem_of_getElem? hj);exact⟨_,_,g3,hS.setObj (x:= .mp d (iX κ ks) (iC f κ v)) hj he ⟨es',cl',World.putObj_heap_same (hS.lt b cb hj),g4⟩,he,hK⟩
   grind
  grind
 grind
def PU(P:Program)(t:TypeId)(σ:List aZ)(m:AV)(K:Nat->List aZ->Prop):Prop:=
 match m with
 | .mp b=>(match σ[b]? with
  |some (.mp d ks f)=>(match rr P t with
   |some (d',_)=>(d==d')=true/\K b ((σ.map (bP [b])).set b (.it ks none f))
   |none=>False)
  |_=>False)
 | .fm d ks f=>(match rr P t with
  |some (d',_)=>(d==d')=true/\K σ.length (σ++[.it ks none fun k=> .d (f k)])
  |none=>False)
 |_=>False
theorem PT{P w j σ}(hS:aQ w j σ){d ks f v}(hv:R w j (.fm d ks f) v){t z}(ht:rr P t=some (d,z)):
  ∃w' j',(Instr.range t v).run P w= .ok (.pointer (some ⟨w.heap.size,0,none⟩)) w'/\aQ w' j' (σ++[.it ks none fun k=> .d (f k)])/\Ev j w j' w'/\j.length<=j'.length/\Ag j j' [σ.length]/\R w' j' (.ptr σ.length 0) (.pointer (some ⟨w.heap.size,0,none⟩)):=by
 obtain⟨kt,et,kd,zz,h1,h2,h3,rfl,h5⟩:=mP ht;cases hv with
 |fm c cl es hlt hb rv hmd=>
 have he:Ev j w (j++[some w.heap.size]) (w.alloc (.mapIter (some c) cl #[] cl)):=pH _ _ _ _ (fun q hq hm=>by
  grind)
 obtain⟨r1,r2⟩:=hS.QY (.mapIter (some c) cl #[] cl) (.it ks none fun k=> .d (f k)) ⟨c,es,cl,#[],heap_alloc_new w _,K4,fun hm=>hb (by
  grind),by grind [bR],hmd.stamped,by
  have:leftOf es #[]=es:=by simp[leftOf]
  rw[this];exact hmd.keys,fun k hk=>ai,fun _=>rfl,fun e hm k hk=> .d ((hmd.rel e hm k hk).mono he)⟩
 refine⟨_,_,run_range_map w t kt et c es cl h1 rv,r1,r2,an,fun q hq hn=>ai,.ptr ?_⟩;rw[List.getElem?_append_right K1];simp[hS.len]
def Xm(σ:List aZ)(x:AV)(K:AV->List aZ->Prop):Prop:=
 match x with
 | .ptr b 0=>(match σ[b]? with
  |some (.it left cur f)=> ∀o:Option Key,(o=none->left=[])->(∀k,o=some k->k∈left)->K (.cj (.d (.v (.bool o.isSome))::AZ f o)) (σ.set b (E3 left cur f o))
  |_=>False)
 |_=>False
section
variable {P : Program} {w : World} {j : Js} {es : Array MapEntry} {cl : Nat} {d : Bool} {ks : List Key} {f : Key -> AV}
theorem LC(hs:MapKept.Stamped es cl){q:Nat}{e}(h:es.toList[q]? =some e){κ}(hk:e.key=κ.v):yI es κ e.born:=by
 have hq:es[q]? =some e:=ai;have hlt:q<es.size:=(Array.getElem?_eq_some_iff.1 hq).1;cases hf:es.findIdx? (fun x=>(x.born:Int)==(e.born:Int)) with
 |none=>
  grind
 |some i=>
  obtain⟨hi,h1,_⟩:=Array.findIdx?_eq_some_iff_getElem.1 hf;have hb:(es[i]).born=e.born:=by
   grind
  have a1:(es.toList.map (·.born))[i]? =some e.born:=ai;have a2:(es.toList.map (·.born))[q]? =some e.born:=by simp[h]
  have e1:i=q:=(List.getElem?_inj ai hs.2.1).1 (a1.trans a2.symm);subst e1;exact⟨i,e,hf,hq,hk⟩
theorem UJ{σ}(hS:aQ w j σ){b cb:Nat}(hj:j[b]? =some (some cb))(h:ft w j es cl d ks f)(hb:w.heap[cb]? =some (.map es cl)){t z}(ht:rr P t=some (d,z)){κ}(hs:κ.str=d):
  ∃(q:Nat) (v:Value) (es':Array MapEntry) (cl':Nat),(Instr.mapEntry t (.map (some cb)) κ.v).run P w= .ok (.tuple #[v,.int .i64 q]) (w.putObj cb (.map es' cl'))/\ft (w.putObj cb (.map es' cl')) j es' cl' d (iX κ ks) (iC f κ .undef)/\yI es' κ q:=by
 obtain⟨kt,et,kd,zz,h1,h2,h3,rfl,h5⟩:=mP ht;have hm:some cb∈j:=List.mem_of_getElem? hj;have hfree: ∀k,(iC f κ .undef k).free=true:=fun k=>by unfold iC;split;rfl;exact h.free k
 rcases h.look h3 hs with⟨g1,g2⟩|⟨q,e,g1,g2,g3,g4,g5⟩
 ·have hne: ∀x∈es.toList,x.key≠κ.v:=fun x hx hk=>g2 (h.mem.2 ⟨x,hx,hk⟩);have he:Ev j w j (w.putObj cb (.map (es.push ⟨κ.v,zz,cl⟩) (cl+1))):=jo hb hm;have hst:MapKept.Stamped (es.push ⟨κ.v,zz,cl⟩) (cl+1):=MapKept.stamped_push h.stamped hne;refine⟨cl,zz,es.push ⟨κ.v,zz,cl⟩,cl+1,?_,⟨hst,?_,?_,hfree,?_⟩,LC (q:=es.size) (e:=⟨κ.v,zz,cl⟩) hst an rfl⟩
  ·simp[Instr.mapEntry,run_underlying h1,MapKept.run_getObj_map hb,MapKept.run_checkKey h2 (h3 κ hs),MapKept.run_findKey h2 g1,h5,MapKept.run_setObj_map _ hb,Result.andThen,World.putObj,goInt]
  ·unfold iX;rw[if_neg g2];simp only[Array.toList_push,List.map_append,List.map_cons,List.map_nil];exact h.keys.append_right _
  ·intro k hk;rcases eV.1 hk with rfl|hk
   ·exact hs
   ·exact h.kind k hk
  ·intro x hx k hk;simp only[Array.toList_push,List.mem_append,List.mem_singleton] at hx;unfold iC;rcases hx with hx|rfl
   ·rw[if_neg (fun e=>hne x hx ai)];exact(h.rel x hx k hk).pE he hS.lt (h.free k)
   ·rw[if_pos (Key.Lh hk).symm];exact .undef _
 ·have hlt:q<es.toList.length:=(List.getElem?_eq_some_iff.1 g2).1;have hq:es[q]? =some e:=ai;have hid:(es.modify q fun x=> { x with key:=κ.v })=es:=by
   apply Array.ext_getElem?;intro i;rw[Array.getElem?_modify];split
   ·rename_i e1;subst e1;rw[hq,Option.map_some,←g3]
   ·rfl
  have he:Ev j w j (w.putObj cb (.map es cl)):=jo hb hm;refine⟨e.born,e.val,es,cl,?_,⟨h.stamped,by unfold iX;rw[if_pos g4];exact h.keys,?_,hfree,?_⟩,LC h.stamped g2 g3⟩
  ·simp[Instr.mapEntry,run_underlying h1,MapKept.run_getObj_map hb,MapKept.run_checkKey h2 (h3 κ hs),MapKept.run_findKey h2 g1,hq,g3,MapKept.run_keyThatStays (h3 κ hs),MapKept.run_setObj_map _ hb,Result.andThen,World.putObj,goInt];rw[hid]
  ·intro k hk;rcases eV.1 hk with rfl|hk
   ·exact hs
   ·exact h.kind k hk
  ·intro x hx k hk;unfold iC;split
   ·exact .undef _
   ·exact(h.rel x hx k hk).pE he hS.lt (h.free k)
theorem UH{σ}(hS:aQ w j σ){b cb:Nat}(hj:j[b]? =some (some cb))(h:ft w j es cl d ks f)(hb:w.heap[cb]? =some (.map es cl)){κ q}(hq:yI es κ q){t av v}(hv:R w j av v)(hf:av.free=true):
  ∃es',(Instr.entryStore t (.map (some cb)) (.int .i64 q) v).run P w= .ok () (w.putObj cb (.map es' cl))/\ft (w.putObj cb (.map es' cl)) j es' cl d ks (iC f κ av):=by
 obtain⟨i,e,k1,k2,k3⟩:=hq;have hm:some cb∈j:=List.mem_of_getElem? hj;have hfree: ∀k,(iC f κ av k).free=true:=fun k=>by unfold iC;split;exact hf;exact h.free k
 have he:Ev j w j (w.putObj cb (.map (es.modify i fun x=> { x with val:=v }) cl)):=jo hb hm;have hlist:(es.modify i fun x=> { x with val:=v }).toList=es.toList.modify i fun x=> { x with val:=v } :=Array.toList_modify ..;have k2':es.toList[i]? =some e:=ai;have hkeys:(es.toList.modify i fun x=> { x with val:=v }).map (·.key)=es.toList.map (·.key):=by
  apply List.ext_getElem?;grind
 refine⟨es.modify i fun x=> { x with val:=v },?_,⟨MapKept.stamped_modify h.stamped _ _ (fun _ _=>rfl) (fun _ _ _=>rfl),by rw[hlist,hkeys];exact h.keys,h.kind,hfree,?_⟩⟩
 ·simp[Instr.entryStore,MapKept.run_getObj_map hb,asInt,asIntOf,k1,MapKept.run_setObj_map _ hb,Result.andThen,World.putObj]
 ·intro x hx k hk;rw[hlist] at hx;obtain⟨p,hp⟩:=List.getElem?_of_mem hx;rw[List.getElem?_modify] at hp;unfold iC;by_cases e1:i=p
  ·subst e1;simp[k2'] at hp;subst hp;rw[if_pos (Key.Lh (show k.v=κ.v by grind))];exact hv.pE he hS.lt hf
  ·simp only[e1,if_false] at hp;have hp':es.toList[p]? =some x:=ai;rw[if_neg]
   ·exact(h.rel x (List.mem_of_getElem? hp') k hk).pE he hS.lt (h.free k)
   ·rintro rfl;have a1:(es.toList.map (·.key))[i]? =some k.v:=ai;have a2:(es.toList.map (·.key))[p]? =some k.v:=ai;have hlt:i<es.toList.length:=(List.getElem?_eq_some_iff.1 k2').1;exact e1 ((List.getElem?_inj ai h.stamped.2.2).1 (a1.trans a2.symm))
end
def YA(P:Program)(t:TypeId)(σ:List aZ)(m k:AV)(K:AV->List aZ->Prop):Prop:=
 match m with
 | .mp b=>(match σ[b]? with
  |some (.mp d ks f)=>(match QZ k,rr P t with
   |some κ,some (d',_)=>(κ.str==d&&d==d')=true/\∀q:Nat,K (.cj [.undef,.d (.v (.int .i64 q))]) (σ.set b (.GK d (iX κ ks) (iC f κ .undef) κ q))
   |_,_=>False)
  |_=>False)
 |_=>False
def Yv(σ:List aZ)(m s v:AV)(K:List aZ->Prop):Prop:=
 match m,s with
 | .mp b,.d (.v (.int .i64 x))=>(match σ[b]? with
  |some (.GK d ks f κ q)=>(decide (x=(q:Int))&&v.free)=true/\K (σ.set b (.mp d ks (iC f κ v)))
  |_=>False)
 |_,_=>False
theorem H7{P w j σ}(hS:aQ w j σ){t m k vm vk K}(h:YA P t σ m k K)(hm:R w j m vm)(hk:R w j k vk):
  ∃v w' r σ',(Instr.mapEntry t vm vk).run P w= .ok v w'/\aQ w' j σ'/\R w' j r v/\Ev j w j w'/\K r σ':=by
 unfold YA at h;split at h
 ·rename_i b;split at h
  ·rename_i d ks f hb;split at h
   ·rename_i κ d' z hκ ht;obtain⟨hd,hK⟩:=h;simp only[Bool.and_eq_true,beq_iff_eq] at hd;obtain⟨hd1,rfl⟩:=hd;rw[KS hκ] at hk;rw[iu hk];cases hm with
    | @mp _ cb hj=>
    obtain⟨o',ho',hB⟩:=hS.blk b _ hb;rw[hj] at ho';cases ho'
    obtain⟨es,cl,g1,g2⟩:=hB;obtain⟨q,v,es',cl',g3,g4,g5⟩:=UJ (P:=P) hS hj g2 g1 ht hd1;have he:Ev j w j (w.putObj cb (.map es' cl')):=jo g1 (List.mem_of_getElem? hj);refine⟨_,_,_,_,g3,hS.setObj (x:= .GK d (iX κ ks) (iC f κ .undef) κ q) hj he ⟨es',cl',World.putObj_heap_same (hS.lt b cb hj),g4,g5⟩,.cj _ an (fun p hp=> ?_),he,hK q⟩;rcases p with _|_|p
    ·exact .undef _
    ·exact .d (.v _)
    grind
   grind
  grind
 grind
theorem H5{P w j σ}(hS:aQ w j σ){t m s v vm vs vv K}(h:Yv σ m s v K)(hm:R w j m vm)(hs:R w j s vs)(hv:R w j v vv):
  ∃w' σ',(Instr.entryStore t vm vs vv).run P w= .ok () w'/\aQ w' j σ'/\Ev j w j w'/\K σ':=by
 unfold Yv at h;split at h
 ·rename_i b x;split at h
  ·rename_i d ks f κ q hb;obtain⟨hd,hK⟩:=h;simp only[Bool.and_eq_true,decide_eq_true_eq] at hd;obtain⟨rfl,hf⟩:=hd;rw[iu hs];cases hm with
   | @mp _ cb hj=>
   obtain⟨o',ho',hB⟩:=hS.blk b _ hb;rw[hj] at ho';cases ho'
   obtain⟨es,cl,g1,g2,g3⟩:=hB;obtain⟨es',g4,g5⟩:=UH (P:=P) (t:=t) hS hj g2 g1 g3 hv hf;have he:Ev j w j (w.putObj cb (.map es' cl)):=jo g1 (List.mem_of_getElem? hj);exact⟨_,_,g4,hS.setObj (x:= .mp d ks (iC f κ v)) hj he ⟨es',cl,World.putObj_heap_same (hS.lt b cb hj),g5⟩,he,hK⟩
  grind
 grind
def byteOf:List D->Int
 |[.v (.int .u8 z)]=>z
 |_=>0
def XR:List D->Bool
 |[.v (.int .u8 _)]=>true
 |_=>false
def gX(n:Nat)(row:Nat->List D):ByteArray:=strOfNums ((List.range n).map fun i=>byteOf (row i))
def strRow(b:ByteArray)(i:Nat):List D:=[.v (.int .u8 ((b[i]?).getD 0).toNat)]
def jb(P:Program)(t:TypeId):Option TypeId:=
 match P.underlying t with
 |some (.slice e)=>(match P.underlying e with
  |some (.int .u8)=>some e
  |_=>none)
 |_=>none
theorem Bv{P t e}(h:jb P t=some e):P.underlying t=some (.slice e)/\P.underlying e=some (.int .u8):=by
 grind [jb]
theorem Ny{l}(h:XR l=true):l=[.v (.int .u8 (byteOf l))]:=by
 unfold XR at h;split at h
 ·rfl
 grind
def rM(P:Program)(src dst:TypeId)(σ:List aZ)(x:AV)(K:AV->Prop):Prop:=
 ((jb P src).isSome&&rm P dst)=true/\(match x with
 | .d (.sl _ sz n row)=>Nat.beq sz 1=true/\(∀i,i<n->XR (row i)=true)/\K (.d (.v (.string (gX n row))))
 | .ms b sz lo n=>(match σ[b]? with
  |some (.arr sz' n' row)=>(Nat.beq sz 1&&Nat.beq sz' 1)=true/\lo+n<=n'/\(∀i,i<n->XR (row (lo+i))=true)/\K (.d (.v (.string (gX n fun i=>row (lo+i)))))
  |_=>False)
 |_=>False)
theorem Lx{P t}(h:rm P t=true):P.underlying t=some .string:=by
 grind [rm]
theorem OK(row):gX 0 row=ByteArray.empty:=rfl
theorem qg{P}(w src dst e)(hs:P.underlying src=some (.slice e))(he:P.underlying e=some (.int .u8))(hd:P.underlying dst=some .string)(p c row):
  (convert src dst (.slice p 0 c)).run P w= .ok (.string (gX 0 row)) w:=by
 rw[run_convert_bytes_string w src dst e p 0 c hs he hd,OK];cases p with
 |none=>simp[Conv.bytesToString]
 |some a=>simp_all [run_bytesToString,loadCells,loadCellsFrom]
theorem Lj{P w j σ}(hS:aQ w j σ){src dst x v K}(h:rM P src dst σ x K)(hr:R w j x v):
  ∃b,(∀K,rM P src dst σ x K->K (.d (.v (.string b))))/\(convert src dst v).run P w= .ok (.string b) w:=by
 unfold rM at h;obtain⟨hT,h⟩:=h;simp only[Bool.and_eq_true,Option.isSome_iff_exists] at hT;obtain⟨⟨e,hb⟩,hd⟩:=hT;obtain⟨hs,he⟩:=Bv hb;have hd:=Lx hd;split at h
 ·rename_i cap sz n row;obtain⟨h1,h2,_⟩:=h;have e1:=Nat.eq_of_beq_eq_true h1;subst e1;refine⟨gX n row,fun K hK=>hK.2.2.2,?_⟩;cases hr with|d hr=>
  cases hr with
  |sl a c val hcap hle ha hlt hbk hlen hcell hrel=>
   obtain⟨ab,ao,asp⟩:=a;simp only at ha;subst ha;refine run_convert_bytes_arg w src e hs he ab ao n c _ an (fun i hi=> ?_) dst hd;have hrw:=Ny (h2 i hi);have hv:val i 0= .int .u8 (byteOf (row i)):=by
    have:=hrel i hi 0 aa;rw[hrw] at this;simp only[List.getD_cons_zero] at this;generalize val i 0=u at this
    cases this;rfl
   grind
  |zero p c hcap hp=>grind [qg]
 ·rename_i b sz lo n;split at h
  ·rename_i sz' n' row hbk;obtain⟨h1,h2,h3,_⟩:=h;simp only[Bool.and_eq_true] at h1;have e1:=Nat.eq_of_beq_eq_true h1.1;have e2:=Nat.eq_of_beq_eq_true h1.2;subst e1 e2;refine⟨gX n fun i=>row (lo+i),fun K hK=> ?_,?_⟩
   ·have:=hK.2;grind
   obtain⟨o,ho,hB⟩:=hS.blk b _ hbk;cases hr with
   | @ms _ _ _ _ cb c e' m hj hsh hn hm=>
    rw[hj] at ho;cases ho
    obtain⟨C,e'',⟨f,hC,hf'⟩,hCs,CY⟩:=hB;have hf:=Or.imp_left And.left hf';refine run_convert_bytes_arg w src e hs he cb (lo*1) n c _ an (fun i hi=> ?_) dst hd;have hrw:=Ny (h3 i hi);have hv:C.getD ((lo+i)*1+0) Go.undef= .int .u8 (byteOf (row (lo+i))):=by
     have:=(CY (lo+i) aa).2 0 aa;rw[hrw] at this;simp only[List.getD_cons_zero] at this;generalize C.getD ((lo+i)*1+0) Go.undef=u at this
     cases this;rfl
    rw[cell_of hC];simp only[Nat.mul_one,Nat.add_zero] at hv⊢;have hlt:lo+i<C.size:=aa;rw[Array.getElem?_eq_getElem hlt];rw[Array.getD_eq_getD_getElem?,Array.getElem?_eq_getElem hlt] at hv;grind
   |ms0 p hj=>grind [qg]
   |oY p e' m hj hsh hlo hm=>grind [qg]
  grind
 grind
theorem Tm{P σ src dst x K}(h:rM P src dst σ x K): ∃b,K (.d (.v (.string b)))/\rM P src dst σ x fun r=>r= .d (.v (.string b)):=by
 unfold rM at h;obtain⟨hT,h⟩:=h;split at h
 ·exact⟨_,h.2.2,hT,h.1,h.2.1,rfl⟩
 ·split at h
  ·rename_i hbk;refine⟨_,h.2.2.2,hT,?_⟩;grind
  grind
 grind
theorem aQ.ext1{w w' j σ}(h:aQ w j σ)(hsz:w'.heap.size=w.heap.size+1)(hold: ∀b,b<w.heap.size->w'.heap[b]? =w.heap[b]?)(hos:w'.os=w.os)(htp:w'.tape=w.tape)(hout:w'.output=w.output)(x)
  (hx:RB w' (j++[some w.heap.size]) x (some w.heap.size)):
  aQ w' (j++[some w.heap.size]) (σ++[x])/\Ev j w (j++[some w.heap.size]) w':=by
 have he:Ev j w (j++[some w.heap.size]) w':=by
  refine⟨aa,fun b hb _=>hold b hb,fun b hb hm=> ?_,fun b hb=>K3,fun a ha=>by grind [World.frozen?],hos,htp,hout,fun b r hr=>⟨r,ai⟩⟩;grind
 refine⟨⟨C8,fun b cb hb=> ?_,fun b b' cb hb hb'=> ?_,fun b y hy=> ?_⟩,he⟩
 ·rw[List.getElem?_append] at hb;split at hb
  ·have:=h.lt b cb hb;omega
  grind
 ·have key: ∀q:Nat,(j++[some w.heap.size])[q]? =some (some cb)->(j[q]? =some (some cb)/\cb<w.heap.size)\/(q=j.length/\cb=w.heap.size):=by
   intro q hq;rw[List.getElem?_append] at hq;split at hq
   ·exact .inl ⟨hq,h.lt q cb hq⟩
   grind
  rcases key b hb with h1|h1<;>rcases key b' hb' with h2|h2
  ·exact h.inj b b' cb h1.1 h2.1
  all_goals grind
 ·rw[List.getElem?_append] at hy;split at hy
  ·obtain⟨o,ho,hB⟩:=h.blk b y hy;have hbl:b<j.length:=ai;refine⟨o,ai,hB.mono he h.lt (cg _ _) fun cb hcb=> ?_⟩;subst hcb;exact hold cb (h.lt b cb ho)
  ·rw[List.getElem?_singleton] at hy;split at hy<;>simp at hy;subst hy;refine⟨some w.heap.size,?_,hx⟩;rw[List.getElem?_append_right Ai,List.getElem?_singleton,if_pos Ai]
theorem Lk{P w j σ}(hS:aQ w j σ){src dst e}(hs:rm P src=true)(hd:jb P dst=some e)(b):
  ∃v w',(convert src dst (.string b)).run P w= .ok v w'/\aQ w' (j++[some w.heap.size]) (σ++[.arr 1 b.size (strRow b)])/\R w' (j++[some w.heap.size]) (.ms σ.length 1 0 b.size) v/\Ev j w (j++[some w.heap.size]) w':=by
 obtain⟨hd1,hd2⟩:=Bv hd;have hcs:(Lib.bytesCells w e b).size=grownCap w b.size 0 e:=by
  simp_all [grownCap_ge,Lib.bytesCells]
 have hnew:=Lib.bytesWorld_at_new w e b;have hge:=grownCap_ge w b.size 0 e;obtain⟨g1,g2⟩:=hS.ext1 (w':=Lib.bytesWorld w e b) (Lib.bytesWorld_size w e b) (fun q hq=>Lib.bytesWorld_at_old w e b q hq) rfl rfl rfl (.arr 1 b.size (strRow b)) (by
  refine⟨Lib.bytesCells w e b,e,⟨_,hnew,.inl ⟨Nat.le_refl _,rfl⟩⟩,aa,fun i hi=>⟨rfl,fun k hk=> ?_⟩⟩;obtain rfl:k=0:=by omega
  have hc:=Lib.bytesWorld_cell w e b i hi;rw[cell_of hnew] at hc;have hlt:i<(Lib.bytesCells w e b).size:=aa;have hv:(Lib.bytesCells w e b).getD (i*1+0) Go.undef= .int .u8 ((b[i]?).getD 0).toNat:=by
   simp only[Nat.mul_one,Nat.add_zero,Array.getD_eq_getD_getElem?];rw[hc];simp only[Option.getD_some];have e2:b.data.toList.getD i 0=(b[i]?).getD 0:=by
    have h1:i<b.data.size:=hi;rw[getElem?_pos b i hi];rw[List.getD_eq_getElem?_getD,Array.getElem?_toList,Array.getElem?_eq_getElem h1];rfl
   rw[e2]
  rw[hv];exact .v _)
 refine⟨_,_,Lib.run_convert_string_bytes w src dst e b (Lx hs) hd1 hd2,g1,?_,g2⟩;have hms:R (Lib.bytesWorld w e b) (j++[some w.heap.size]) (.ms σ.length 1 0 b.size) (.slice (some ⟨w.heap.size,0*1,none⟩) b.size (grownCap w b.size 0 e)):=by
  refine .ms _ e (grownCap w b.size 0 e) ?_ ?_ hge aa
  ·rw[List.getElem?_append_right K1];simp[hS.len]
  grind [jE]
 grind
def arA(P:Program)(t:TypeId):Option (Nat×Nat):=
 match P.underlying t with
 |some (.array n e)=>match P.info? e with
  |some i=>some (n,i.size)
  |none=>none
 |_=>none
def tz(P:Program)(g:Bool)(t:TypeId)(x:AV)(i:Int)(K:AV->Prop):Prop:=
 match arA P t with
 |some (n,m)=>(g=true->0<=i/\i<n)/\(match x with
  | .ptr b off=>K (.ptr b (off+i.toNat*m))
  | .pe b sz r k=>K (.pe b sz r (k+i.toNat*m))
  | .el cs=>K (.el (cs.drop (i.toNat*m)))
  |_=>False)
 |none=>False
theorem Fb{P g t a k i K}(h:tz P g t a i K){s x y}(hx:Arg g s x a)(hy:Arg g s y (.d (.v (.int k i)))):
  ∃av,K av/\s7 P g s (.indexAddr t x y) av:=by
 unfold tz at h;split at h
 ·rename_i n m hA;obtain⟨hs,h⟩:=h;have hA': ∃e inf,P.underlying t=some (.array n e)/\P.info? e=some inf/\inf.size=m:=by
   grind [arA]
  obtain⟨e,inf,hu,hi,hm⟩:=hA';have base: ∀{av:AV},(∀j w u,R w j a u->∃ad,u= .pointer (some ad)/\R w j av (.pointer (some (ad.add (i.toNat*m)))))->s7 P g s (.indexAddr t x y) av:=by
   intro av hh hg j0 j a w op ho hrel;obtain⟨h0,h1⟩:=hs hg;have h2:=iu (hy hg j0 j a w hrel);obtain⟨ad,h3,h4⟩:=hh j w _ (hx hg j0 j a w hrel);refine⟨_,?_,h4⟩;simp only[execOp,ho,h2,h3];exact er (by simp[Instr.indexAt,asIntOf,underlying,hu,Instr.sureAddr,h0,h1,Go.sizeOf,typeInfo,hi,hm])
  split at h
  ·refine⟨_,h,base fun j w u hr=> ?_⟩;cases hr with
   |ptr hb=>exact⟨_,rfl,by rw[da _ rfl];exact .ptr hb⟩
  ·refine⟨_,h,base fun j w u hr=> ?_⟩;cases hr with
   |pe hb=>exact⟨_,rfl,by rw[da _ rfl];simp only[Nat.add_assoc];exact .pe hb⟩
  ·rename_i cs;refine⟨_,h,base fun j w u hr=> ?_⟩;cases hr with
   |el ad val ha hlt hb hcell hrel=>
    refine⟨_,rfl,?_⟩;rw[da _ ha];generalize i.toNat*m=o
    refine .el _ (fun k=>val (o+k)) rfl hlt hb (fun k hk=> ?_) (fun k hk=> ?_);all_goals grind
  grind
 grind
def dW(P:Program)(t:TypeId):Bool:=match P.underlying t with|some (.array _ _)=>true|_=>false
def abg(P:Program)(t:TypeId)(x:AV)(K:AV->Prop):Prop:=
 match x with
 | .mc _ _ _ _ c=>Nat.beq (eJ P t) 1=true/\K (.d (.v (.int .i64 c)))
 |_=>False
theorem U0{P g s t x a K}(h:abg P t a K)(hx:Arg g s x a)(at_)(hat:at_= #[t]): ∃av,K av/\s7 P g s (.call { callee:= .builtin .cap,args:= #[x],argTypes:=at_ }) av:=by
 subst hat;unfold abg at h;split at h
 ·obtain⟨ht,hK⟩:=h;obtain⟨e,hu⟩:=zB ht;refine⟨_,hK,fun hg j0 j a w o ho hrel=> ?_⟩;have h1:=hx hg j0 j a w hrel;generalize hv:a.eval x=u at h1
  cases h1 with|mc h1 q hq=>
  subst hq;refine⟨_,?_,.d (.v _)⟩;simp[execOp,ho,resolve,invoke,builtin,hv,Builtin.cap_,underlying,hu,goInt]
 grind
def pv(P:Program)(g:Bool)(s:St)(op:Op)(K:AV->Prop):Prop:=
 match op with
 | .move x=>arg g s x K
 | .assign x=>arg g s x K
 | .pick c x y=>arg g s c fun
  | .d (.v (.bool b))=>arg (g&&b) s x fun
   | .d (.v (.bool p))=>arg (g&& !b) s y fun
    | .d (.v (.bool q))=>K (.d (.v (.bool (cond b p q))))
    |_=>False
   |_=>False
  |_=>False
 | .binOp op t x y _=>arg g s x fun a=>arg g s y fun b=>bin P g op t a b K
 | .unOp op _ x=>arg g s x fun a=>un op a K
 | .extract x i=>arg g s x fun
  | .cj vs=>(match vs[i]? with
   |some a=>K a
   |none=>False)
  |_=>False
 | .fieldAddr t x f=>match aC P t f with
  |some o=>arg g s x fun a=>qE o a K
  |none=>False
 | .field t x f=>match CZ P t f with
  |some (off,agg,m)=>arg g s x fun
   | .agg cs=>(agg||Nat.beq m 1)=true/\Nat.ble (off+m) cs.length=true/\K (loaded agg ((cs.drop off).take m))
   |_=>False
  |none=>False
 | .indexAddr t x i=>arg g s x fun a=>arg g s i fun
  | .d (.v (.int _ n))=>if dW P t then tz P g t a n K else qA P g t a n K
  |_=>False
 | .index t x i=>arg g s x fun
  | .d (.v (.string b))=>rm P t=true/\arg g s i fun
   | .d (.v (.int _ n))=>(g=true->0<=n/\n<b.size)/\K (.d (.v (.int .u8 ((b[n.toNat]?).getD 0).toNat)))
   |_=>False
  | .agg cs=>(match arV P t with
   |some (q,agg,m)=>(agg||Nat.beq m 1)=true/\q*m<=cs.length/\arg g s i fun
    | .d (.v (.int _ n))=>(g=true->0<=n/\n<q)/\K (loaded agg ((cs.drop (n.toNat*m)).take m))
    |_=>False
   |none=>False)
  |_=>False
 | .load t x=>arg g s x fun a=>RZ P g t s.σ a K
 | .slice t x lo hi mx=>arg g s x fun a=>DM P g t s a lo hi mx K
 | .build t ps=>oW g s ps.toList fun parts=>KE P t parts K
 | .makeFunc fn f c=>args g s f.toList fun fs=>args g s c.toList fun cs=>K (.clo fn fs cs)
 | .convert src dst x=>arg g s x fun
  | .d (.v (.int k n))=>ru P src=some k/\(match ru P dst with
   |some k'=>K (.d (.v (.int k' (k'.wrap n))))
   |none=>False)
  | .d (.v (.string b))=>(rm P dst&&rm P src)=true/\K (.d (.v (.string b)))
  |a=>rM P src dst s.σ a K
 | .nilCheck x=>arg g s x fun a=>uT a=true/\K a
 | .lookup t x k ok=>arg g s x fun m=>arg g s k fun k=>CW P t s.σ m k ok K
 | .entry x=>arg g s x fun a=>Kc s.σ a K
 | .call c=>match c.callee,c.args.toList,c.argTypes.toList with
  | .builtin .len,[x],[t]=>arg g s x fun a=>aaf P t a K
  | .builtin .cap,[x],[t]=>arg g s x fun a=>abg P t a K
  | .builtin .min,[x,y],_=>arg g s x fun a=>arg g s y fun b=>iQ false a b K
  | .builtin .max,[x,y],_=>arg g s x fun a=>arg g s y fun b=>iQ true a b K
  | .builtin .min,[x,y,z],_=>arg g s x fun a=>arg g s y fun b=>arg g s z fun c=>iQ false a b fun d=>iQ false d c K
  | .builtin .max,[x,y,z],_=>arg g s x fun a=>arg g s y fun b=>arg g s z fun c=>iQ true a b fun d=>iQ true d c K
  |_,_,_=>False
 |_=>False
theorem Em{P g s op K}(h:pv P g s op K): ∃av,K av/\s7 P g s op av:=by
 unfold pv at h;split at h
 ·grind [ar,P4]
 ·grind [ar,KN]
 ·obtain⟨av,h,h2⟩:=ar h;split at h;all_goals grind [ar,PZ]
 ·obtain⟨av,h,h2⟩:=ar h;obtain⟨K0,h,h3⟩:=ar h;exact U5 h h2 h3
 ·obtain⟨av,h,h2⟩:=ar h;exact Wc h h2
 ·grind [ar,GV]
 ·grind [ar,Cy]
 ·split at h
  ·rename_i off agg m hf;obtain⟨av,h,h2⟩:=ar h;split at h
   ·obtain⟨g1,g2,g3⟩:=h;refine⟨_,g3,NV hf (fun ha=> ?_) aP h2⟩;simp_all
   grind
  grind
 ·grind [ar,Fb,Ct]
 ·obtain⟨av,h,h2⟩:=ar h;split at h;all_goals grind [ar,Ul,Um]
 ·grind [ar,P6]
 ·grind [ar,LF]
 ·exact OL h
 ·grind [hJ,EP]
 ·obtain⟨av,h,h2⟩:=ar h;split at h
  ·grind [Ow]
  ·grind [Ov]
  ·obtain⟨b,hK,hb⟩:=Tm h;refine⟨_,hK,fun hg j0 j a w o ho hrel=> ?_⟩;obtain⟨b',h3,h4⟩:=Lj (P:=P) hrel.cm hb (h2 hg j0 j a w hrel);have h5:=h3 _ hb;simp only[AV.d.injEq,D.v.injEq,Value.string.injEq] at h5;subst h5;exact⟨_,by grind [execOp,er],.d (.v _)⟩
 ·grind [ar,EG]
 ·grind [ar,JR]
 ·obtain⟨av,h,h2⟩:=ar h;exact Oj h h2
 ·rename_i c;have hc:c= { callee:=c.callee,args:=c.args.toList.toArray,argTypes:=c.argTypes.toList.toArray } :=ai;split at h
  ·rename_i e1 e2 e3;obtain⟨av,h,h2⟩:=ar h;rw[hc,e1,e2,e3];exact Ug h h2 _ rfl
  ·rename_i e1 e2 e3;obtain⟨av,h,h2⟩:=ar h;rw[hc,e1,e2,e3];exact U0 h h2 _ rfl
  ·rename_i e1 e2;obtain⟨av,h,h2⟩:=ar h;obtain⟨K0,h,h3⟩:=ar h;rw[hc,e1,e2];exact xM (mx:=false) h h2 h3 _
  ·rename_i e1 e2;obtain⟨av,h,h2⟩:=ar h;obtain⟨K0,h,h3⟩:=ar h;rw[hc,e1,e2];exact xM (mx:=true) h h2 h3 _
  ·rename_i e1 e2;obtain⟨av,h,h2⟩:=ar h;obtain⟨K0,h,h3⟩:=ar h;obtain⟨ahi,h,h4⟩:=ar h;rw[hc,e1,e2];exact uU (mx:=false) h h2 h3 h4 _
  ·rename_i e1 e2;obtain⟨av,h,h2⟩:=ar h;obtain⟨K0,h,h3⟩:=ar h;obtain⟨ahi,h,h4⟩:=ar h;rw[hc,e1,e2];exact uU (mx:=true) h h2 h3 h4 _
  grind
 grind
theorem En{P g s op K}(h:pv P g s op K): ∀c,op≠.defer c:=by
 intro c hc;subst hc;exact h
mutual
def lQ(b sz n':Nat)(row:Nat->List D):AV->AV
 | .iff g x=> .iff g (lQ b sz n' row x)
 | .agg cs=> .agg (Cw b sz n' row cs)
 | .cj cs=> .cj (Cw b sz n' row cs)
 | .ms b' sz' lo n=>if Nat.beq b' b then(if sz'=sz/\lo+n<=n' then .d (.sl none sz n fun i=>row (lo+i)) else .undef) else .ms b' sz' lo n
 | .clo fn fs cs=> .clo fn (Cw b sz n' row fs) (Cw b sz n' row cs)
 | .ptr b' o=>if Nat.beq b' b then .undef else .ptr b' o
 | .pe b' s i k=>if Nat.beq b' b then .undef else .pe b' s i k
 | .mc b' s l n c=>if Nat.beq b' b then .undef else .mc b' s l n c
 | .mp b'=>if Nat.beq b' b then .undef else .mp b'
 | .rl b'=>if Nat.beq b' b then .undef else .rl b'
 |x=>x
def Cw(b sz n':Nat)(row:Nat->List D):List AV->List AV
 |[]=>[]
 |x::xs=>lQ b sz n' row x::Cw b sz n' row xs
end
theorem eW(b sz n' row): ∀cs,(Cw b sz n' row cs).length=cs.length
 |[]=>rfl
 |x::xs=>by simp[Cw,eW b sz n' row xs]
theorem pD(b sz n' row): ∀cs k,(Cw b sz n' row cs).getD k .undef=lQ b sz n' row (cs.getD k .undef)
 |[],k=>by simp[Cw,lQ]
 |x::xs,0=>by simp[Cw]
 |x::xs,k+1=>by
  have:=pD b sz n' row xs k;grind [Cw]
theorem cA{j:Js}{b c}(h:some c∈j.set b none):some c∈j:=by
 grind
theorem RD.unset{w j b d v}(h:RD w j d v):RD w (j.set b none) d v:=by
 induction h with
 |v x=>exact .v x
 |sl a c val hcap hle ha hlt hb hlen hcell hrel ih=>exact .sl a c val hcap hle ha hlt (fun hm=>hb (cA hm)) hlen hcell ih
 |zero p c hcap hp=>exact .zero p c hcap hp
section
variable {w : World} {j : Js} {σ : List aZ} {b sz n' : Nat} {row : Nat -> List D}
theorem dR{b' o}(h:j[b']? =some o)(hne:b'≠b):(j.set b none)[b']? =some o:=by
 grind
theorem R.tY(hS:aQ w j σ)(hb:σ[b]? =some (.arr sz n' row)){x v}(h:R w j x v):R w (j.set b none) (lQ b sz n' row x) v:=by
 induction h with
 |undef v=>exact .undef v
 |iff h h0 ih=>simp only[lQ];exact .iff ih h0
 |d h=>simp only[lQ];exact .d h.unset
 |agg vs hs h ih=>
  simp only[lQ];exact .agg vs (by grind [eW]) fun k hk=>by grind [pD,eW]
 |cj vs hs h ih=>
  simp only[lQ];exact .cj vs (by grind [eW]) fun k hk=>by grind [pD,eW]
 |clo ff cc h1 h2 h3 h4 ih3 ih4=>
  simp only[lQ];exact .clo ff cc (by grind [eW]) (by grind [eW]) (fun k hk=>by grind [pD,eW]) (fun k hk=>by grind [pD,eW])
 | @ptr b' off cb h=>
  simp only[lQ];by_cases e:b'=b
  ·simp[e];exact .undef _
  ·simp[e];exact .ptr (dR h e)
 | @pe b' s i k cb h=>
  simp only[lQ];by_cases e:b'=b
  ·simp[e];exact .undef _
  ·simp[e];exact .pe (dR h e)
 | @mp b' cb h=>
  simp only[lQ];by_cases e:b'=b
  ·simp[e];exact .undef _
  ·simp[e];exact .mp (dR h e)
 | @rl b' cb h=>
  simp only[lQ];by_cases e:b'=b
  ·simp[e];exact .undef _
  ·simp[e];exact .rl (dR h e)
 |fm c cl es hlt hbj rv hd=>simp only[lQ];exact .fm c cl es hlt (fun hm=>hbj (cA hm)) rv ⟨hd.stamped,hd.keys,hd.kind,fun e he k hk=>(hd.rel e he k hk).unset⟩
 |el a val h1 hlt hbj hcell hrel=>simp only[lQ];exact .el a val h1 hlt (fun hm=>hbj (cA hm)) hcell fun k hk=>(hrel k hk).unset
 | @ms b' sz' lo n cb c e m h hs hn hm=>
  simp only[lQ];by_cases e':b'=b
  ·subst e';simp only[Nat.beq_refl,if_true];split
   ·rename_i hc;obtain⟨rfl,hle⟩:=hc;obtain⟨o,ho,hB⟩:=hS.blk b' _ hb;rw[h] at ho;cases ho;obtain⟨C,e2,⟨f,hC,tX⟩,hcs,hrel⟩:=hB;have hfz:=Or.imp_left And.left tX;refine .d (.sl ⟨cb,lo*sz',none⟩ c (fun i k=>C.getD ((lo+i)*sz'+k) Go.undef) (.inl rfl) hn rfl (hS.lt b' cb h) (fun hmem=> ?_) (fun i hi=>(hrel (lo+i) aa).1) (fun i hi k hk=> ?_) (fun i hi k hk=> ?_))
    ·obtain⟨i,hi,he⟩:=List.mem_iff_getElem.1 hmem;rw[List.getElem_set] at he;split at he
     ·cases he
     ·rename_i hne;have:j[i]? =some (some cb):=ai;exact hne (hS.inj _ _ _ h this)
    ·have hbound:(lo+i)*sz'+sz'<=n'*sz':=by
      have:(lo+i+1)*sz'<=n'*sz':=Nat.mul_le_mul_right _ aa;grind
     have e3:lo*sz'+i*sz'+k=(lo+i)*sz'+k:=ai;rw[cell_of hC,e3];simp[Array.getD_eq_getD_getElem?,show(lo+i)*sz'+k<C.size by omega]
    ·exact((hrel (lo+i) aa).2 k hk).unset
   ·exact .undef _
  ·simp[e'];exact .ms c e m (dR h e') hs hn hm
 | @ms0 b' sz' p h=>
  simp only[lQ];by_cases e':b'=b
  ·subst e';simp only[Nat.beq_refl,if_true];split
   ·rename_i hc;obtain⟨rfl,hle⟩:=hc;exact .d (.zero p 0 (.inl rfl) fun _=>rfl)
   ·exact .undef _
  ·simp[e'];exact .ms0 p (dR h e')
 | @mc b' sz' lo n c v h q hv ih=>
  simp only[lQ];by_cases e':b'=b
  ·simp[e'];exact .undef _
  ·simp only[lQ,sZ e',Bool.false_eq_true,if_false] at ih⊢;exact .mc ih q hv
 |op h h0 ih=>simp only[lQ];exact .op (fun hb=>by grind [lQ]) h0
 | @oY b' sz' lo cb p e m h hs hlo hm=>
  simp only[lQ];by_cases e':b'=b
  ·subst e';simp only[Nat.beq_refl,if_true];split
   ·rename_i hc;obtain⟨rfl,hle⟩:=hc;exact .d (.zero p 0 (.inl rfl) fun _=>rfl)
   ·exact .undef _
  ·simp[e'];exact .oY p e m (dR h e') hs hlo hm
def lf(b sz n':Nat)(row:Nat->List D)(x:AV):AV:=if x.avoids [b] then x else lQ b sz n' row x
theorem R.unset{x v}(h:R w j x v)(ha:x.avoids [b]=true):R w (j.set b none) x v:=by
 induction h with
 |undef v=>exact .undef v
 |iff h h0 ih=>exact .iff (fun hb=>ih hb fN) h0
 |d h=>exact .d h.unset
 |agg vs hs h ih=>exact .agg vs hs fun k hk=>ih k hk (dX fN hk)
 |cj vs hs h ih=>exact .cj vs hs fun k hk=>ih k hk (dX fN hk)
 |ptr h=>exact .ptr (dR h fN)
 |pe h=>exact .pe (dR h fN)
 |el a val hs hlt hb hcell hrel=>exact .el a val hs hlt (fun hm=>hb (cA hm)) hcell fun k hk=>(hrel k hk).unset
 |ms c e m h hs hn hm=>exact .ms c e m (dR h fN) hs hn hm
 |ms0 p h=>exact .ms0 p (dR h fN)
 |mc h q hv ih=>exact .mc (ih fN) q hv
 |op h h0 ih=>exact .op (fun hb=>ih hb rfl) h0
 |oY p e m h hs hlo hm=>exact .oY p e m (dR h fN) hs hlo hm
 |mp h=>exact .mp (dR h fN)
 |rl h=>exact .rl (dR h fN)
 |fm c cl es hlt hb rv hd=>exact .fm c cl es hlt (fun hm=>hb (cA hm)) rv ⟨hd.stamped,hd.keys,hd.kind,fun e he k hk=>(hd.rel e he k hk).unset⟩
 | @clo fn fs cs ff cc h1 h2 h3 h4 ih3 ih4=>
  have hb:cH [b] fs=true/\cH [b] cs=true:=fN;exact .clo ff cc h1 h2 (fun k hk=>ih3 k hk (dX hb.1 hk)) (fun k hk=>ih4 k hk (dX hb.2 hk))
theorem R.lf(hS:aQ w j σ)(hb:σ[b]? =some (.arr sz n' row)){x v}(h:R w j x v):R w (j.set b none) (lf b sz n' row x) v:=by
 unfold aI.lf;split
 ·rename_i ha;exact h.unset ha
 ·exact h.tY hS hb
def sJ(b sz n':Nat)(row:Nat->List D):List (Nat×AV)->List (Nat×AV)
 |[]=>[]
 |(k,v)::t=>(k,lf b sz n' row v)::sJ b sz n' row t
theorem Ff: ∀{t k av},get (sJ b sz n' row t) k=some av->∃x,get t k=some x/\av=lf b sz n' row x
 |[],k,av,h=>by grind [sJ,get]
 |(q,u)::t,k,av,h=>by
  simp only[sJ,get] at h⊢;by_cases hq:q=k
  ·simp_all
  ·simp only[sZ hq,Bool.false_eq_true,if_false] at h⊢;exact Ff h
theorem NP: ∀{t k av},(k,av)∈sJ b sz n' row t->∃x,(k,x)∈t/\av=lf b sz n' row x
 |[],k,av,h=>by grind [sJ]
 |(q,u)::t,k,av,h=>by
  simp only[sJ] at h;rcases List.mem_cons.1 h with h|h
  ·grind
  ·obtain⟨x,h1,h2⟩:=NP h;grind
def Cx(b sz n':Nat)(row:Nat->List D):aZ->aZ
 | .var cs=> .var (cs.map (lf b sz n' row))
 | .lp L st pd=> .lp { L with t:=sJ b sz n' row L.t } st pd
 |x=>x
theorem ft.unset{es cl d ks f}(h:ft w j es cl d ks f):ft w (j.set b none) es cl d ks f:=
 ⟨h.stamped,h.keys,h.kind,h.free,fun e hm k hk=>(h.rel e hm k hk).unset (sK _ _ (h.free k))⟩
theorem oe.unset{mb es cl seen left cur f}(h:oe w j mb es cl seen left cur f):oe w (j.set b none) mb es cl seen left cur f:=
 ⟨h.lt,fun hm=>h.own (cA hm),h.heap,h.stamped,h.keys,h.cur,h.free,fun e hm k hk=>(h.rel e hm k hk).unset (sK _ _ (h.free k))⟩
theorem RB.tY(hS:aQ w j σ)(hb:σ[b]? =some (.arr sz n' row)){x o}(h:RB w j x o):RB w (j.set b none) (Cx b sz n' row x) o:=by
 cases x with
 |dead=>simp[Cx,RB]
 |loc c=>
  obtain⟨h1,h2,h3,m,h4⟩:=h;exact⟨h1,h2,fun hm=>h3 (cA hm),m,h4⟩
 |tab c vs=>
  obtain⟨h1,h2,h3,e,h4,h5⟩:=h;exact⟨h1,h2,fun hm=>h3 (cA hm),e,h4,h5⟩
 |arr sz0 n0 row0=>
  cases o with
  |none=>exact h
  |some cb=>
   obtain⟨C,e,h1,h2,h3⟩:=h;exact⟨C,e,h1,h2,fun i hi=>⟨(h3 i hi).1,fun k hk=>((h3 i hi).2 k hk).unset⟩⟩
 |lp L st pd=>
  cases o with
  |none=>exact h
  |some cb=>
   obtain⟨r,h1,h2,h3,h4⟩:=h;refine⟨r,h1,h2,h3,fun k av hk=> ?_⟩;obtain⟨x,hx,rfl⟩:=NP hk;exact⟨(h4 k x hx).1,(h4 k x hx).2.lf hS hb⟩
 |mp d ks f=>
  cases o with
  |none=>exact h
  |some cb=>
   obtain⟨es,cl,h1,h2⟩:=h;exact⟨es,cl,h1,h2.unset⟩
 |GK d ks f κ q=>
  cases o with
  |none=>exact h
  |some cb=>
   obtain⟨es,cl,h1,h2,hx⟩:=h;exact⟨es,cl,h1,h2.unset,hx⟩
 |it left cur f=>
  cases o with
  |none=>exact h
  |some cb=>
   obtain⟨mb,es,cl,seen,h1,h2⟩:=h;exact⟨mb,es,cl,seen,h1,h2.unset⟩
 |var cs=>
  cases o with
  |none=>exact h
  |some cb=>
   obtain⟨C,e,h1,h2,h3⟩:=h;refine⟨C,e,h1,ai,fun k hk=> ?_⟩;simp only[List.length_map] at hk;have e1:(cs.map (lf b sz n' row)).getD k .undef=lf b sz n' row (cs.getD k .undef):=by
    grind
   rw[e1];exact(h3 k hk).lf hS hb
def GS(b sz n':Nat)(row:Nat->List D)(σ:List aZ):List aZ:=(σ.map (Cx b sz n' row)).set b .dead
theorem aQ.tY(hS:aQ w j σ)(hb:σ[b]? =some (.arr sz n' row)):aQ w (j.set b none) (GS b sz n' row σ) where
 len:=by simp[GS,hS.len]
 lt c cb h:=by
  rw[List.getElem?_set] at h;split at h
  ·all_goals grind
  ·exact hS.lt c cb h
 inj c c' cb h h':=by
  rw[List.getElem?_set] at h h';split at h
  ·all_goals grind
  ·split at h'
   ·all_goals grind
   ·exact hS.inj c c' cb h h'
 blk c x h:=by
  unfold GS at h;rw[List.getElem?_set] at h;by_cases hc:b=c
  ·subst hc;simp only[if_true,List.length_map] at h;split at h
   ·rename_i hlt;simp at h;subst h;exact⟨none,by rw[List.getElem?_set];simp[hS.len,hlt],trivial⟩
   grind
  ·simp only[hc,if_false,List.getElem?_map,Option.map_eq_some_iff] at h;obtain⟨y,hy,rfl⟩:=h;obtain⟨o,ho,hB⟩:=hS.blk c y hy;exact⟨o,ai,hB.tY hS hb⟩
end
theorem Rel.tY{j0 s j a w b sz n' row}(hr:Rel j0 s j a w)(hb:s.σ[b]? =some (.arr sz n' row)):Rel j0 ⟨s.N,sJ b sz n' row s.t,GS b sz n' row s.σ,b::s.mv⟩ (j.set b none) a w/\Ev j w (j.set b none) w:=by
 have he:Ev j w (j.set b none) w:=⟨Nat.le_refl _,fun _ _ _=>rfl,fun c _ hm=>cA hm,fun _ _=>rfl,fun _ _=>rfl,rfl,rfl,rfl,fun _ r h=>⟨r,h⟩⟩;refine⟨⟨hr.defers.mono he,hr.fC,hr.size,fun k av hk=> ?_,hr.cm.tY hb,by simpa using hr.len0,fun c hc hn=> ?_⟩,he⟩
 ·obtain⟨x,hx,rfl⟩:=Ff hk;exact⟨(hr.tmp k x hx).1,(hr.tmp k x hx).2.lf hr.cm hb⟩
 ·simp at hn;rw[List.getElem?_set];rw[if_neg (fun e=>hn.1 e.symm)];exact hr.ag c hc hn.2
end Go.aI
