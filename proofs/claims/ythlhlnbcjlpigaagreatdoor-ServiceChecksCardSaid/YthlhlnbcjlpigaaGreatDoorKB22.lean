/- Contracts and lemmas, joined out of smaller texts by a program; no conditions. -/
import Derived.Laws.Externs
import Derived.Lib.Overlaps
import Derived.Test.YthlhlnbcjlpigaaGreatDoorKB21
set_option linter.unusedVariables false
set_option linter.unusedSimpArgs false
set_option maxHeartbeats 1000000
set_option maxRecDepth 100000
namespace Go.aU
theorem Oo{w:World}{j:Js}{σ:List aC}(hS:aS w j σ){b sz lo k n':Nat}{row:Nat->List D}(h1':sz≠1)(hb:σ[b]? =some (.arr sz n' row))(hk:0<k)(hz:0<sz){v:Value}(h:R w j (.ms b sz lo k) v):
  ∃(c cb off:Nat) (e:TypeId) (m:Nat),v= .slice (some ⟨cb,off,none⟩) k c/\j[b]? =some (some cb)/\w.shape? cb=some (e,m)/\m≠0/\(∀o,w.frozen? ⟨cb,o,none⟩=false):=by
 cases h with
 | @ms _ _ _ _ cb c e m h1 h2 h3 h4=>
  refine⟨_,cb,_,e,m,rfl,h1,h2,?_,fun o=> ?_⟩
  ·have:0<(lo+c)*sz:=Nat.mul_pos (by omega) (by omega);omega
  ·obtain⟨o',ho,hB⟩:=hS.blk b _ hb;rw[h1] at ho;cases ho
   obtain⟨C,e',⟨f,hC,hfz⟩,_⟩:=hB;rcases hfz with hf|hf
   ·exact absurd hf.2 h1'
   ·simp[World.frozen?,hC,hf]
 |ms0 p h1=>omega
 |sN p e m h1 h2 h3 h4=>omega
theorem XS.overlaps {P : Program} {f : FuncId} (fn : Func) (tS tR : TypeId) (e : TypeId) (size : Nat) (hf : P.funcs[f]? = some fn) (hname : (fn.name == "runtime.NumGoroutine") = false) (hbody : fn.body.isNone = true) (hn : Extern.findNext fn = none)
  (he:Extern.find fn=some (Extern.SlicesOverlaps.overlaps #[tS,tS] #[tR])) (ht:P.underlying tS=some (.slice e)) (hz: ∀w,(Go.sizeOf e).run P w= .ok size w) {σ:List aC} {a b sz sz' lo lo' k k' n n':Nat} {row row':Nat->List D}
  (hne:a≠b) (ha:σ[a]? =some (.arr sz n row)) (hb:σ[b]? =some (.arr sz' n' row')) (hk:0<k) (hk':0<k') (hz1:1<sz) (hz1':1<sz'):XS P f [.ms a sz lo k,.ms b sz' lo' k'] σ (.d (.v (.bool false))):=by
 intro j w vs hS hrs;have h0:=hrs.2 0 (by simp);have h1:=hrs.2 1 (by simp);have hs:vs.size=2:=hrs.1;have hvs:vs= #[vs.getD 0 Go.undef,vs.getD 1 Go.undef]:=by
  apply Array.ext
  ·simp[hs]
  ·intro i hi1 hi2;rw[hs] at hi1;rcases i with _|_|i
   ·simp[Array.getD_eq_getD_getElem?,hs]
   ·simp[Array.getD_eq_getD_getElem?,hs]
   ·omega
 generalize vs.getD 0 Go.undef=v0 at h0 hvs
 generalize vs.getD 1 Go.undef=v1 at h1 hvs
 subst hvs;refine⟨.bool false,?_,.d (.v _)⟩;rw[run_callFunc_extern hf hname hbody hn he];obtain⟨c,ca,off,e1,m1,rfl,hj,h2,h3,h4⟩:=Oo hS (by omega) ha hk (by omega) (by simpa using h0);obtain⟨c',cb,off',e2,m2,rfl,hj',h2',h3',h4'⟩:=Oo hS (by omega) hb hk' (by omega) (by simpa using h1);rw[Lib.run_overlaps_apart w tS tR e ht size hz ⟨ca,off,none⟩ ⟨cb,off',none⟩ k c k' c' (fun h=>hne (hS.inj a b ca hj (by rw[hj'];simpa using h.symm))) e1 e2 m1 m2 h2 h2' h3' (h4 off) (h4 m1)];rfl
theorem run_apart{P:Program}(w:World){tS tR e:TypeId}{size:Nat}(ht:P.underlying tS=some (.slice e))(hz: ∀w,(Go.sizeOf e).run P w= .ok size w)(a b:Addr)(la ca lb cb:Nat)(hne:a.block≠b.block)
  {tA tB:TypeId} {kA kB:Nat} (hsa:w.shape? a.block=some (tA,kA)) (hsb:w.shape? b.block=some (tB,kB)) (hkA:kA≠0) (hkB:kB≠0) (hfb:w.frozen? b=false) (hfe:w.frozen? { block:=b.block,off:=kB } =false):
  (Extern.SlicesOverlaps.overlaps #[tS,tS] #[tR] #[.slice (some a) la ca,.slice (some b) lb cb]).run P w= .ok (.bool false) w:=by
 have hnb:(a.block !=b.block)=true:=by simpa using hne
 have hnb':(a.block==b.block)=false:=by simpa using hne
 have step: ∀{α β:Type} (x:Sem α) (f:α->Sem β) (v:α),x.run P w= .ok v w->(Bind.bind x f).run P w=(f v).run P w:=by
  intro α β x f v h;simp[h]
 refine(step (underlying tS) _ _ (run_underlying ht w)).trans ?_;refine(step (sizeOf e) _ _ (hz w)).trans ?_;cases kA with
 |zero=>exact absurd rfl hkA
 |succ kA=>
 cases kB with
 |zero=>exact absurd rfl hkB
 |succ kB=>
  by_cases h0:la=0\/lb=0\/size=0
  ·simp[h0]
  ·cases hfa:w.frozen? a<;>cases hfc:w.frozen? { block:=a.block,off:=kA+1 } <;>
    simp[h0,hnb,hnb',frozen,noView,viewAt,mayBeOne,stringish,shape,Sem.run,hsa,hsb,hfa,hfc,hfb,hfe]
theorem XS.overlapsD {P : Program} {f : FuncId} (fn : Func) (tS tR : TypeId) (e : TypeId) (size : Nat) (hf : P.funcs[f]? = some fn) (hname : (fn.name == "runtime.NumGoroutine") = false) (hbody : fn.body.isNone = true) (hn : Extern.findNext fn = none)
  (he:Extern.find fn=some (Extern.SlicesOverlaps.overlaps #[tS,tS] #[tR])) (ht:P.underlying tS=some (.slice e)) (hz: ∀w,(Go.sizeOf e).run P w= .ok size w) {σ:List aC} {q:Option Nat} {b sz sz' lo' k k' c n':Nat} {row row':Nat->List D}
  (hb:σ[b]? =some (.arr sz' n' row')) (hk:0<k) (hk':0<k') (hz1:1<sz) (hz1':1<sz'):XS P f [.d (.sl q sz k row),.mc b sz' lo' k' c] σ (.d (.v (.bool false))):=by
 intro j w vs hS hrs;have h0:=hrs.2 0 (by simp);have h1:=hrs.2 1 (by simp);have hs:vs.size=2:=hrs.1;have hvs:vs= #[vs.getD 0 Go.undef,vs.getD 1 Go.undef]:=by
  apply Array.ext
  ·simp[hs]
  ·intro i hi1 hi2;rw[hs] at hi1;rcases i with _|_|i
   ·simp[Array.getD_eq_getD_getElem?,hs]
   ·simp[Array.getD_eq_getD_getElem?,hs]
   ·omega
 generalize vs.getD 0 Go.undef=v0 at h0 hvs
 generalize vs.getD 1 Go.undef=v1 at h1 hvs
 subst hvs;refine⟨.bool false,?_,.d (.v _)⟩;rw[run_callFunc_extern hf hname hbody hn he];have h0:R w j (.d (.sl q sz k row)) v0:=by simpa using h0
 have h1:R w j (.mc b sz' lo' k' c) v1:=by simpa using h1
 have h1:R w j (.ms b sz' lo' k') v1:=by cases h1 with|mc h _ _=>exact h
 obtain⟨c',cb,off',e2,m2,rfl,hj',h2',h3',h4'⟩:=Oo hS (by omega) hb hk' (by omega) h1;cases h0 with
 |d h0=>
 cases h0 with
 |zero p c hcap hp=>omega
 |sl a c val hcap hle ha hlt hbj hlen hcell hrel=>
  have hsa: ∃e2 m2,w.shape? a.block=some (e2,m2)/\m2≠0:=by
   have:=hcell 0 hk 0 (by omega);simp only[World.cell?] at this;unfold World.shape?;split at this
   ·rename_i C e2 f2 hC;exact⟨e2,C.size,by simp,fun h=>by split at this<;>simp_all⟩
   ·cases this
  obtain⟨e1,m1,hsa,hm1⟩:=hsa;rw[run_apart w ht hz a ⟨cb,off',none⟩ k c k' c' (fun h=>hbj (by rw[h];exact List.mem_of_getElem? hj')) hsa h2' hm1 h3' (h4' off') (h4' m2)];rfl
theorem bslM_sound{P:Program}{w:World}{j:Js}{σ:List aC}(hS:aS w j σ){t:TypeId}{len:Nat}{parts:List (Nat×AV)}{vals:List (Nat×Value)}{K:AV->Prop}(h:dZ P t len parts K)
  (h3:parts.length=vals.length) (h4: ∀k,k<parts.length->(parts.getD k (0,.undef)).1=(vals.getD k (0,Go.undef)).1/\R w j (parts.getD k (0,.undef)).2 (vals.getD k (0,Go.undef)).2):
  ∃v w' j' sz row,(Instr.buildSlice t len vals.toArray).run P w= .ok v w'/\aS w' j' (σ++[.arr sz len row])/\R w' j' (.ms σ.length sz 0 len) v/\Ev j w j' w'/\j.length<=j'.length/\Ag j j' []/\K (.d (.sl (some len) sz len row)):=by
 unfold dZ at h;split at h
 ·rename_i e sz bytes z hsl;obtain⟨hu,i,zz,hi,hz,hsz,hby,hzz,hzs⟩:=oQ hsl;obtain⟨hle,h⟩:=h;split at h
  ·rename_i r hr;split at h
   ·rename_i ds hds;obtain⟨hdl0,hds⟩:=I9 hds;subst hsz hby hzz;simp only[Nat.ble_eq] at hle;have hrl:(rep zz.cells.toList len).length=len*i.size:=by rw[Ee];simp[hzs]
    have hini: ∀k,k<((rep zz.cells.toList len).map fun v=>AV.d (.v v)).length->R w j (((rep zz.cells.toList len).map fun v=>AV.d (.v v)).getD k .undef) ((madeCells zz.cells (len*i.size)).getD k Go.undef):=by
     intro k hk;simp only[List.length_map,hrl] at hk;have hsz:0<i.size:=by
      rcases Nat.eq_zero_or_pos i.size with hh|hh
      ·rw[hh] at hk;simp at hk
      ·exact hh
     have e1:((rep zz.cells.toList len).map fun v=>AV.d (.v v)).getD k .undef=AV.d (.v ((rep zz.cells.toList len).getD k Go.undef)):=by
      simp[List.getD_eq_getElem?_getD,show k<(rep zz.cells.toList len).length by omega]
     rw[e1,Nu _ _ _ (by simpa[hzs] using hk),IJ hk (by omega)];have e2:zz.cells.toList.getD (k%zz.cells.toList.length) Go.undef=zz.cells.getD (k%zz.cells.size) Go.undef:=by
      simp[List.getD_eq_getElem?_getD,Array.getD_eq_getD_getElem?]
     rw[e2];exact .d (.v _)
    obtain⟨C',f1,f2,f3,f4⟩:=rP (w:=w) (j:=j) (pl:=fun q=>some (q*i.size,i.size)) (C:=madeCells zz.cells (len*i.size)) (fun q x hx=>by
      simp only[List.getElem?_map,Option.map_eq_some_iff] at hx;obtain⟨q',hq',rfl⟩:=hx;obtain⟨hlt,he⟩:=List.getElem?_eq_some_iff.1 hq';simp at he;rw[he]) (by rw[size_madeCells];simp[hrl]) hini h3 h4 hr
    have hdl:ds.length=len*i.size:=by
     have:r.length=len*i.size:=by rw[f3];simp[hrl]
     rw[hdl0];exact this
    have hrun:(Instr.buildSlice t len vals.toArray).run P w= .ok (.slice (some ⟨w.heap.size,0,none⟩) len len) (w.alloc (.cells C' e)):=by
     have hgt: ¬(16777216<len*i.size):=by omega
     by_cases h0:len*i.size=0
     ·have hm:(Array.range 0).map (fun q=>(#[]:Array Value)[q%(#[]:Array Value).size]!)=madeCells zz.cells (len*i.size):=by rw[h0];simp[madeCells]
      simp only[Instr.buildSlice,Sem.run_bind,run_underlying hu,Result.andThen_ok,Go.sizeOf,typeInfo,run_program,hi,Sem.run_pure,h0,Sem.run_ite,if_true];rw[if_neg (by decide)];simp only[Result.andThen_ok,Sem.run_pure,hm,f1,newRow,Sem.run_bind,run_newObj];rfl
     ·simp only[Instr.buildSlice,Sem.run_bind,run_underlying hu,Result.andThen_ok,Go.sizeOf,typeInfo,run_program,hi,Sem.run_pure,h0,Sem.run_ite,if_false];rw[if_neg (by omega)];have hm:(Array.range (len*i.size)).map (fun q=>zz.cells[q%zz.cells.size]!)=madeCells zz.cells (len*i.size):=rfl;simp only[Result.andThen_ok,Sem.run_pure,zeroValue,typeInfo,Sem.run_bind,run_program,hi,hz,hm,f1,newRow,run_newObj];rfl
    have he0:Ev j w (j++[some w.heap.size]) (w.alloc (.cells C' e)):=pq _ _ _ _ _ (fun b hb hm=>by
     simp only[List.mem_append,List.mem_singleton,Option.some.injEq] at hm;rcases hm with hm|hm
     ·exact hm
     ·subst hm;exact absurd hb (by simp))
    have he:Ev j w j (w.alloc (.cells C' e)):=pq _ _ _ _ _ (fun _ _ h=>h);have hC:C'.size=len*i.size:=by rw[f2,f3];simp[hrl]
    obtain⟨g1,g2⟩:=hS.alloc C' e (.arr i.size len (rowsOf i.size ds)) ⟨_,e,.mk0 (heap_alloc_new _ _),by rw[hC];exact Nat.le_refl _,fun q hq=>⟨by
      have:(q+1)*i.size<=len*i.size:=Nat.mul_le_mul_right _ hq;rw[Nat.succ_mul] at this;simp[rowsOf,hdl];omega,fun k hk=>by
      have hle2:(q+1)*i.size<=len*i.size:=Nat.mul_le_mul_right _ hq;rw[Nat.succ_mul] at hle2;have hlt:q*i.size+k<r.length:=by rw[f3];simp[hrl];omega
      have:=hds hlt (f4 _ hlt);have e2:(rowsOf i.size ds q).getD k default=ds.getD (q*i.size+k) default:=by
       simp[rowsOf,List.getD_eq_getElem?_getD,hk]
      rw[e2];exact this.mono he0⟩⟩
    refine⟨_,_,_,_,_,hrun,g1,?_,g2,by simp,bZ _ _,h⟩;have hms:R (w.alloc (.cells C' e)) (j++[some w.heap.size]) (.ms σ.length i.size 0 len) (.slice (some ⟨w.heap.size,0*i.size,none⟩) len len):=by
     refine .ms _ e (len*i.size) ?_ ?_ (by omega) (by simp)
     ·rw[List.getElem?_append_right (by rw[hS.len];omega)];simp[hS.len]
     ·rw[mO (heap_alloc_new _ _),hC]
    rwa [Nat.zero_mul] at hms
   ·exact h.elim
  ·exact h.elim
 ·exact h.elim
def litK(P:Program)(o:Oper)(s:St)(K:St->Prop):Prop:=
 match o.op,o.guard with
 | .buildSlice t len ps,none=>uy true s ps.toList fun parts=>dZ P t len parts fun av=>match av with
  | .d (.sl _ sz n row)=>K ((s.after (s.σ++[.arr sz n row]) []).put o.dst (.ms s.σ.length sz 0 n))
  |_=>False
 |_,_=>False
def O6(P:Program)(all:List Oper):List Oper->Nat->St->(St->Prop)->Prop
 |[],_,s,K=>K s
 |o::os,0,s,K=>litK P o s fun s'=>bI P false all os s' K
 |o::os,i+1,s,K=>jA all s o fun gd g=>UK P false gd g o s fun s'=>O6 P all os i s' K
def RestL(P:Program)(all os:List Oper)(i:Nat)(K:St->Prop)(s:St):Prop:=O6 P all os i s K
theorem evalL_zero(P:Program)(all os:List Oper)(o:Oper)(s:St)(K:St->Prop):O6 P all (o::os) 0 s K=litK P o s (Rest P false all os K):=rfl
theorem evalL_cons(P:Program)(all os:List Oper)(i:Nat)(o:Oper)(s:St)(K:St->Prop):O6 P all (o::os) (i+1) s K=jA all s o fun gd g=>UK P false gd g o s (RestL P all os i K):=rfl
theorem RestL_mk(P:Program)(all os:List Oper)(i:Nat)(K:St->Prop)(N:Nat)(t:List (Nat×AV))(σ:List aC)(mv:List Nat):RestL P all os i K ⟨N,t,σ,mv⟩=O6 P all os i ⟨N,t,σ,mv⟩ K:=rfl
theorem aaw{P:Program}{o:Oper}{s:St}{K:St->Prop}(h:litK P o s K):Runs P o s K:=by
 unfold litK at h;split at h
 ·rename_i t len ps ho hg;obtain⟨parts,h,hl,hp⟩:=mW h;intro j0 j a w next Q hr hn
  obtain⟨v,w',j',sz,row,h1,h2,h3,h4,h5,h6,h7⟩:=bslM_sound (P:=P) (vals:=ps.toList.map fun p=>(p.1,a.eval p.2)) hr.cZ h (by simpa using hl) (fun k hk=>by
   have hk':k<ps.toList.length:=by rw[←hl];exact hk
   have:=hp k hk';have e:(ps.toList.map fun p=>(p.1,a.eval p.2)).getD k (0,Go.undef)=((ps.toList.getD k (0,.const Go.undef)).1,a.eval (ps.toList.getD k (0,.const Go.undef)).2):=by
    have hk2:k<ps.size:=by simpa using hk'
    simp[List.getD_eq_getElem?_getD,hk2]
   rw[e];exact⟨this.1,this.2 rfl j0 j a w hr⟩)
  have e:(ps.toList.map fun p=>(p.1,a.eval p.2)).toArray=ps.map fun(i,x)=>(i,a.eval x):=by
   apply Array.ext';simp
  rw[e] at h1;have hrun:(execOp a.eval o).run P w= .ok (.value v) w':=by simp only[execOp,ho];exact gW h1
  refine uM (by simp[ho]) hrun ?_;exact hn _ _ _ _ ((hr.after h4 h2 h5 h6).put o.dst h3) h4 h7
 ·exact h.elim
theorem zW{P:Program}{Q:Exit->Act->World->Prop}{all:List Oper} : ∀{os:List Oper} {i:Nat} {s:St} {K:St->Prop} {j0:J0} {j:Js} {a:Act} {w:World},O6 P all os i s K->(∀o,os[i]? =some o->o.guard=none)->Rel j0 s j a w->
  (∀s' j' a' w',Rel j0 s' j' a' w'->Ev j w j' w'->K s'->Q .normal a' w')->wpListIn (FW j0.rd) 0 P all.toArray Q os a w
 |[],i,s,K,j0,j,a,w,h,_,hr,hQ=>hQ s j a w hr (.refl _ _) h
 |o::os,0,s,K,j0,j,a,w,h,hgn,hr,hQ=>by
  have hw:Region.wanted o (yielded all.toArray a.tmps)=true:=by simp[Region.wanted,hgn o rfl]
  simp only[wpListIn,hw,if_true];exact(aaw h) j0 j a w _ _ hr fun s' j' a' w' hr' he hK=>kY hK hr' fun s'' j'' a'' w'' U3 he' hK'=>hQ s'' j'' a'' w'' U3 (he.trans he') hK'
 |o::os,i+1,s,K,j0,j,a,w,h,hgn,hr,hQ=>by
  obtain⟨gd,g,h,hgd,hw⟩:=o8 h;obtain⟨h1,h2⟩:=BP h hgd;have hw:=hw hr;simp only[wpListIn,hw];cases g with
  |true=>
   simp only[if_true];exact(h1 rfl j0 j a w _ _ hr fun s' j' a' w' hr' he hK=>zW hK (fun o ho=>hgn o ho) hr' fun s'' j'' a'' w'' U3 he' hK'=>hQ s'' j'' a'' w'' U3 (he.trans he') hK')
  |false=>
   simp only[Bool.false_eq_true,if_false];obtain⟨s',hK,hs⟩:=h2 rfl;exact⟨fun _ _=>trivial,zW hK (fun o ho=>hgn o ho) (hs j0 j a w hr) hQ⟩
theorem Zm{P:Program}{Q:Exit->St->Prop}{s:St}{id:Nat}{ops:List Oper}{y:Code}(i:Nat)(hg: ∀o,ops[i]? =some o->o.guard=none)(h: ∀K:St->Prop,(∀s',dY P y Q s'->K s')->O6 P ops ops i s K):dY P (.seq (.region id ops.toArray false) y) Q s:=by
 refine aK ?_;intro j0 j a w hr;refine wpIn_region_lit (zW (h _ fun _ h=>h) hg hr fun s' j' a' w' hr' he hq=>⟨s',j',hr',he,hq⟩)
attribute [go_sem ↓] evalL_zero evalL_cons RestL_mk litK
def fmT(b:Nat)(d:Bool)(ks:List Key)(f:Key->D)(x:AV):AV:=if x.avoids [b] then x else match x with
 | .mp _=> .fm d ks f
 |_=> .undef
def fmM(b:Nat)(d:Bool)(ks:List Key)(f:Key->D):List (Nat×AV)->List (Nat×AV)
 |[]=>[]
 |(k,v)::t=>(k,fmT b d ks f v)::fmM b d ks f t
def fmB(b:Nat)(d:Bool)(ks:List Key)(f:Key->D):aC->aC
 | .var cs=> .var (cs.map (fmT b d ks f))
 | .lp L st pd=> .lp { L with t:=fmM b d ks f L.t } st pd
 |x=>x
def fmS(b:Nat)(d:Bool)(ks:List Key)(f:Key->D)(σ:List aC):List aC:=(σ.map (fmB b d ks f)).set b .dead
section
variable {w : World} {j : Js} {σ : List aC} {b : Nat} {d : Bool} {ks : List Key} {f : Key -> D}
theorem R.fmT(hS:aS w j σ)(hb:σ[b]? =some (.mp d ks fun k=> .d (f k))){x:AV}{v:Value}(h:R w j x v):R w (j.set b none) (fmT b d ks f x) v:=by
 unfold aU.fmT;split
 ·rename_i ha;exact h.unset ha
 ·rename_i ha;split
  ·rename_i b';have e:b'=b:=by simpa[AV.avoids] using ha
   subst e;cases h with
   | @mp _ cb hj=>
    obtain⟨o,ho,hB⟩:=hS.blk b' _ hb;rw[hj] at ho;cases ho;obtain⟨es,cl,g1,g2⟩:=hB;refine .fm cb cl es (hS.lt b' cb hj) (fun hmem=> ?_) g1 ⟨g2.stamped,g2.keys,g2.kind,fun e hm k hk=>(g2.data.rel e hm k hk).unset⟩;obtain⟨i,hi,he⟩:=List.mem_iff_getElem.1 hmem;rw[List.getElem_set] at he;split at he
    ·cases he
    ·rename_i hne;have:j[i]? =some (some cb):=by rw[List.getElem?_eq_getElem (by simpa using hi)];rw[he]
     exact hne (hS.inj _ _ _ hj this)
  ·exact .undef _
theorem fmM_get: ∀{t:List (Nat×AV)} {k:Nat} {av:AV},get (fmM b d ks f t) k=some av->∃x,get t k=some x/\av=fmT b d ks f x
 |[],k,av,h=>by simp[fmM,get] at h
 |(q,u)::t,k,av,h=>by
  simp only[fmM,get] at h⊢;by_cases hq:q=k
  ·simp[hq] at h⊢;exact h.symm
  ·simp only[xO hq,Bool.false_eq_true,if_false] at h⊢;exact fmM_get h
theorem fmM_mem: ∀{t:List (Nat×AV)} {k:Nat} {av:AV},(k,av)∈fmM b d ks f t->∃x,(k,x)∈t/\av=fmT b d ks f x
 |[],k,av,h=>by simp[fmM] at h
 |(q,u)::t,k,av,h=>by
  simp only[fmM] at h;rcases List.mem_cons.1 h with h|h
  ·cases h;exact⟨u,by simp,rfl⟩
  ·obtain⟨x,h1,h2⟩:=fmM_mem h;exact⟨x,List.mem_cons_of_mem _ h1,h2⟩
theorem RB.fm(hS:aS w j σ)(hb:σ[b]? =some (.mp d ks fun k=> .d (f k))){x:aC}{o:Option Nat}(h:RB w j x o):RB w (j.set b none) (fmB b d ks f x) o:=by
 cases x with
 |dead=>simp[fmB,RB]
 |loc c=>
  obtain⟨h1,h2,h3,m,h4⟩:=h;exact⟨h1,h2,fun hm=>h3 (dG hm),m,h4⟩
 |tab c vs=>
  obtain⟨h1,h2,h3,e,h4,h5⟩:=h;exact⟨h1,h2,fun hm=>h3 (dG hm),e,h4,h5⟩
 |arr sz0 n0 row0=>
  cases o with
  |none=>exact h
  |some cb=>
   obtain⟨C,e,h1,h2,h3⟩:=h;exact⟨C,e,h1,h2,fun i hi=>⟨(h3 i hi).1,fun k hk=>((h3 i hi).2 k hk).unset⟩⟩
 |lp L st pd=>
  cases o with
  |none=>exact h
  |some cb=>
   obtain⟨r,h1,h2,h3,h4⟩:=h;refine⟨r,h1,h2,h3,fun k av hk=> ?_⟩;obtain⟨x,hx,rfl⟩:=fmM_mem hk;exact⟨(h4 k x hx).1,(h4 k x hx).2.fmT hS hb⟩
 |mp d ks f=>
  cases o with
  |none=>exact h
  |some cb=>
   obtain⟨es,cl,h1,h2⟩:=h;exact⟨es,cl,h1,h2.unset⟩
 |QH d ks f κ q=>
  cases o with
  |none=>exact h
  |some cb=>
   obtain⟨es,cl,h1,h2,hx⟩:=h;exact⟨es,cl,h1,h2.unset,hx⟩
 |it left cur f=>
  cases o with
  |none=>exact h
  |some cb=>
   obtain⟨mb,es,cl,seen,h1,h2⟩:=h;exact⟨mb,es,cl,seen,h1,h2.unset⟩
 |var cs=>
  cases o with
  |none=>exact h
  |some cb=>
   obtain⟨C,e,h1,h2,h3⟩:=h;refine⟨C,e,h1,by simpa using h2,fun k hk=> ?_⟩;simp only[List.length_map] at hk;have e1:(cs.map (fmT b d ks f)).getD k .undef=fmT b d ks f (cs.getD k .undef):=by
    simp[List.getD_eq_getElem?_getD,hk]
   rw[e1];exact(h3 k hk).fmT hS hb
theorem aS.fm(hS:aS w j σ)(hb:σ[b]? =some (.mp d ks fun k=> .d (f k))):aS w (j.set b none) (fmS b d ks f σ) where
 len:=by simp[fmS,hS.len]
 lt c cb h:=by
  rw[List.getElem?_set] at h;split at h
  ·split at h<;>simp at h
  ·exact hS.lt c cb h
 inj c c' cb h h':=by
  rw[List.getElem?_set] at h h';split at h
  ·split at h<;>simp at h
  ·split at h'
   ·split at h'<;>simp at h'
   ·exact hS.inj c c' cb h h'
 blk c x h:=by
  unfold fmS at h;rw[List.getElem?_set] at h;by_cases hc:b=c
  ·subst hc;simp only[if_true,List.length_map] at h;split at h
   ·rename_i hlt;simp at h;subst h;exact⟨none,by rw[List.getElem?_set];simp[hS.len,hlt],trivial⟩
   ·simp at h
  ·simp only[hc,if_false,List.getElem?_map,Option.map_eq_some_iff] at h;obtain⟨y,hy,rfl⟩:=h;obtain⟨o,ho,hB⟩:=hS.blk c y hy;exact⟨o,by rw[List.getElem?_set];simp[hc,ho],hB.fm hS hb⟩
end
theorem awp_fm{P:Program}{c:Code}{Q:Exit->St->Prop}{N:Nat}{t t':List (Nat×AV)}{σ σ':List aC}{mv:List Nat}(b:Nat){d:Bool}{ks:List Key}{f:Key->D}(hb:σ[b]? =some (.mp d ks fun k=> .d (f k)))(ht:fmM b d ks f t=t')(hσ:fmS b d ks f σ=σ')
  (h:dY P c Q ⟨N,t',σ',b::mv⟩):dY P c Q ⟨N,t,σ,mv⟩:=by
 refine iW (s':=⟨N,t',σ',b::mv⟩) ?_ h;intro j0 j a w hr;subst ht hσ;have he:Ev j w (j.set b none) w:=⟨Nat.le_refl _,fun _ _ _=>rfl,fun c _ hm=>dG hm,fun _ _=>rfl,fun _ _=>rfl,rfl,rfl,rfl,fun _ r h=>⟨r,h⟩⟩;refine⟨j.set b none,⟨hr.defers.mono he,hr.jw,hr.size,fun k av hk=> ?_,hr.cZ.fm hb,by simpa using hr.len0,fun c hc hn=> ?_⟩,he⟩
 ·obtain⟨x,hx,rfl⟩:=fmM_get hk;exact⟨(hr.tmp k x hx).1,(hr.tmp k x hx).2.fmT hr.cZ hb⟩
 ·simp at hn;rw[List.getElem?_set];rw[if_neg (fun e=>hn.1 e.symm)];exact hr.ag c hc hn.2
theorem fmM_id{b:Nat}{d:Bool}{ks:List Key}{f:Key->D} : ∀{t:List (Nat×AV)},(∀k av,(k,av)∈t->av.avoids [b]=true)->fmM b d ks f t=t
 |[],_=>rfl
 |(q,u)::t,h=>by
  simp only[fmM];rw[fmM_id fun k av hk=>h k av (List.mem_cons_of_mem _ hk)];simp[fmT,h q u (by simp)]
theorem sF.fm{σ:List aC}(h:sF σ)(k:Nat)(d:Bool)(ks:List Key)(f:Key->D):σ.map (fmB (σ.length+k) d ks f)=σ:=by
 have hs:=h.one k;refine(List.map_congr_left fun x hx=> ?_).trans (List.map_id _);have hx':bW [σ.length+k] x=x:=by
  obtain⟨i,hi,he⟩:=List.mem_iff_getElem.1 hx;have:=congrArg (fun l=>l[i]?) hs;simp[hi] at this;rw[←he];exact this
 cases x with
 |var cs=>
  simp only[fmB,id,aC.var.injEq];simp only[bW,aC.var.injEq] at hx';refine(List.map_congr_left fun c hc=> ?_).trans (List.map_id _);have:c.avoids [σ.length+k]=true:=by
   obtain⟨i,hi,he⟩:=List.mem_iff_getElem.1 hc;have:=congrArg (fun l=>l[i]?) hx';simp[hi] at this;rw[←he];by_cases ha:(cs[i]).avoids [σ.length+k]=true
   ·exact ha
   ·have:=this (by simpa using ha);rw[←this];rfl
  simp[fmT,this]
 |lp L st pd=>
  simp only[bW,aC.lp.injEq] at hx';have h2:cO [σ.length+k] L.t=L.t:=congrArg jo.t hx'.1;simp only[fmB,id];rw[fmM_id (BM h2)]
 |arr a c d=>rfl
 |dead=>rfl
 |loc c=>rfl
 |tab c vs=>rfl
 |mp d ks f=>rfl
 |QH d ks f κ q=>rfl
 |it left cur f=>rfl
theorem sF.fm0{σ:List aC}(h:sF σ)(d:Bool)(ks:List Key)(f:Key->D):σ.map (fmB σ.length d ks f)=σ:=h.fm 0 d ks f
attribute [go_sem] fmM fmS fmB fmT
end Go.aU
namespace Go.Proofs.YthlhlnbcjlpigaaGreatDoor
open Go.aU Go.Proofs.Tryz
variable (σ : List aC)
def subB(n:Nat)(g:Nat->Int)(m:Nat)(h:Nat->Int):Bool:= !((lst m h).any fun k=> !Eu n g k)
theorem WS(n:Nat)(g:Nat->Int)(m:Nat)(h:Nat->Int):subB n g m h=true↔∀i,i<m->Eu n g (h i)=true:=by
 unfold subB;simp only[Bool.not_eq_true',lst,List.any_map,List.any_eq_false,List.mem_range,Function.comp,Bool.not_eq_true'];exact⟨fun H i hi=>by simpa using H i hi,fun H i hi=>by simpa using H i hi⟩
noncomputable def VY(x:nJ):Bool:=decide (0<x.nb)&& !subB (jl x x.Round).length (nth (jl x x.Round)) x.nb x.b
noncomputable def G5(x:nJ):Int:=if CQ x=false then 2 else if(!lV x.u x.nu|| !lV x.b x.nb)=true then 5 else if VY x=true then 7 else if jF x=false then 11 else 0
theorem rng_no: ∀{a b c d e f g:Bool},((!a|| !b|| !c|| !d||e)|| !f|| !g)=true->(a&&b&&c&&d&& !e&&f&&g)=false:=by decide
theorem rng_yes: ∀{a b c d e f g:Bool},((!a|| !b|| !c|| !d||e)|| !f|| !g)=false->(a&&b&&c&&d&& !e&&f&&g)=true:=by decide
theorem chk_2{x:nJ}(h:CQ x=false):G5 x=2:=by unfold G5;rw[if_pos h]
theorem chk_5{x:nJ}(h:CQ x=true)(h1:(!lV x.u x.nu|| !lV x.b x.nb)=true):G5 x=5:=by unfold G5;rw[if_neg (by simp[h]),if_pos h1]
theorem chk_7{x:nJ}(h:CQ x=true)(h1:(!lV x.u x.nu|| !lV x.b x.nb)=false)(h2:VY x=true):G5 x=7:=by unfold G5;rw[if_neg (by simp[h]),if_neg (by rw[h1];decide),if_pos h2]
theorem chk_11{x:nJ}(h:CQ x=true)(h1:(!lV x.u x.nu|| !lV x.b x.nb)=false)(h2:VY x=false)(h3:jF x=false):G5 x=11:=by unfold G5;rw[if_neg (by simp[h]),if_neg (by rw[h1];decide),if_neg (by simp[h2]),if_pos h3]
theorem chk_0{x:nJ}(h:CQ x=true)(h1:(!lV x.u x.nu|| !lV x.b x.nb)=false)(h2:VY x=false)(h3:jF x=true):G5 x=0:=by unfold G5;rw[if_neg (by simp[h]),if_neg (by rw[h1];decide),if_neg (by simp[h2]),if_neg (by simp[h3])]
theorem Vx(τ:List aC)(c:Option Nat)(n:Nat)(g:Nat->Int)(k:Int)(hn:n<1000000000):ay prog 239 [.d (I k),.ptr σ.length 0] (σ++ .var [.d (SL c 1 encI n g)]::τ) (.d (B (!Eu n g k))):=by
 refine ay.bs true func239 fun hwf=> ?_;refine aW.mk (DY _ c n g k hn) (sm ?_);refine aj ?_;simp[go_sem,Eu]<;>omega
theorem zZ(c c':Option Nat)(n:Nat)(g:Nat->Int)(m:Nat)(h:Nat->Int)(hn:n<1000000000)(hm:m<1000000000):ay prog 172 [.d (SL c 1 encI n g),.d (SL c' 1 encI m h)] σ (.d (B (subB n g m h))):=by
 refine ay.bs true func172 fun hwf=> ?_;refine aW.mk (rU _ c' m h 239 [.ptr σ.length 0] (fun k=> !Eu n g k) hm (fun i hi=>Vx σ [] c n g (h i) hn)) (sm ?_);refine aj ?_;simp[go_sem,subB]<;>omega
theorem Gv(x:nJ)(hn:x.nu<1000000000)(hm:x.nb<1000000000)(hσ:σ[0]? =some (.tab 0 iR)):ay prog 116 [.agg (x.enc.map .d)] σ (.d (I (G5 x))):=by
 refine ay.bd true func116 fun hwf=> ?_;simp(disch:=first|omega|simp) [go_sem];refine aW.mk (ng _ x.ID) ?_;simp(disch:=first|omega|simp) [go_sem];refine fA.mk (jd _ x.Day 0 1048575) ?_;simp(disch:=first|omega|simp) [go_sem];refine fA.mk (jd _ x.Round 0 1024) ?_;simp(disch:=first|omega|simp) [go_sem];refine fA.mk (jd _ x.nu 1 60) ?_;simp(disch:=first|omega|simp) [go_sem];refine fA.mk (rU _ none x.nu x.u 170 [] (fun n=> !idB n) hn (fun i hi=>CZ _ (x.u i))) ?_;simp(disch:=first|omega|simp) [go_sem];refine fA.mk (jd _ x.kS 1 x.nu) ?_;simp(disch:=first|omega|simp) [go_sem];refine fA.mk (jd _ x.Accept 0 (IntKind.i64.wrap (x.kS-1))) ?_;simp(disch:=first|omega|simp) [go_sem];refine aH [1] ?_ ?_<;>intro c0 d0
 ·have hz:CQ x=false:=rng_no c0;simp[go_sem];rw[chk_2 hz];exact aj sc
 ·have hz:CQ x=true:=rng_yes c0;have hx:=(Nr x).1 hz;have hr1:=hx.r1;have hr2:=hx.r2;simp[go_sem];refine aW.mk (pF _ none x.nu x.u hn) (sm ?_);refine fA.mk (pF _ none x.nb x.b hm) (sm ?_);refine aH [1] ?_ ?_<;>intro c1 d1
  ·simp[go_sem];rw[chk_5 hz c1];exact aj sc
  ·simp[go_sem];refine T.dr 15 fun K hK=>sm ?_;refine dS.mk' _ (fun _=>Gu _ x x.Round hx hr1 hr2 (aO hσ)) (sm ?_);refine dS.mk' _ (fun _=>zZ _ none none (jl x x.Round).length (nth (jl x x.Round)) x.nb x.b (by have:=YL x x.Round;omega) hm) ?_;simp[go_sem];refine hK _ ?_;refine go true (sm ?_);refine aH [1] ?_ ?_<;>intro c2 d2
   ·simp[go_sem];rw[chk_7 hz c1 c2];exact aj sc
   ·simp[go_sem];refine aW.mk (IX _ x hn hm) (sm ?_);refine aH [] ?_ ?_<;>intro c3 d3
    ·simp[go_sem];rw[chk_11 hz c1 c2 (by simpa using c3)];exact aj sc
    ·simp[go_sem];rw[chk_0 hz c1 c2 (by simpa using c3)];exact aj sc
def bat0:nJ:=⟨0,0,0,0,0,0,0,fun _=>0,0,fun _=>0⟩
end Go.Proofs.YthlhlnbcjlpigaaGreatDoor
namespace Go.aU
theorem CS.uN{P:Program}{f:FuncId}{args args':List AV}{σ σ':List aC}{Q:AV->List aC->List Nat->Prop}(b:Nat){sz n:Nat}{row:Nat->List D}(hb:σ[b]? =some (.arr sz n row))(ha:args.map (pV b sz n row)=args')(hσ:Yj b sz n row σ=σ')
  (h:CS P f args' σ' Q):CS P f args σ fun r σ1 X=> ∃X0,X=b::X0/\Q r σ1 X0:=by
 subst ha hσ;refine⟨h.1,fun j w vs hS hr=> ?_⟩;have he:Ev j w (j.set b none) w:=⟨Nat.le_refl _,fun _ _ _=>rfl,fun c _ hm=>dG hm,fun _ _=>rfl,fun _ _=>rfl,rfl,rfl,rfl,fun _ r h=>⟨r,h⟩⟩;have hr':Rs w (j.set b none) (args.map (pV b sz n row)) vs:=by
  refine⟨by rw[List.length_map];exact hr.1,fun k hk=> ?_⟩;have hk':k<args.length:=by simpa using hk
  have h1:=(hr.2 k hk').pV hS hb;have e:(args.map (pV b sz n row)).getD k .undef=pV b sz n row (args.getD k .undef):=by
   simp[List.getD_eq_getElem?_getD,hk']
  rw[e];exact h1
 refine(h.2 (j.set b none) w vs (hS.uN hb) hr').mono ?_;rintro e w' ⟨v,r,σ1,j',X0,he1,h1,h2,h3,h4,h5,h6⟩;refine⟨v,r,σ1,j',b::X0,he1,h1,h2,he.trans h3,by simpa using h4,fun c hc hn=> ?_,X0,rfl,h6⟩;have hcb:c≠b:=fun h=>hn (by simp[h]);have hcx:c∉X0:=fun h=>hn (by simp[h]);rw[h5 c (by simpa using hc) hcx,List.getElem?_set,if_neg (fun h=>hcb h.symm)]
theorem CS.wide{P:Program}{f:FuncId}{args:List AV}{σ:List aC}{Q:AV->List aC->Prop}(Y:List Nat)(h:CS P f args σ fun r σ1 X=>(∀x∈X,x∈Y)/\Q r σ1):CS P f args σ fun r σ1 X=>X=Y/\Q r σ1:=by
 refine⟨h.1,fun j w vs hS hr=>(h.2 j w vs hS hr).mono ?_⟩;rintro e w' ⟨v,r,σ1,j',X,he1,h1,h2,h3,h4,h5,h6,h7⟩;exact⟨v,r,σ1,j',Y,he1,h1,h2,h3,h4,fun c hc hn=>h5 c hc (fun hm=>hn (h6 c hm)),rfl,h7⟩
theorem CS.narrow{P:Program}{f:FuncId}{args:List AV}{σ:List aC}{Q:AV->List aC->Prop}(h:CS P f args σ fun r σ1 X=>(∀x∈X,σ.length<=x)/\Q r σ1):CS P f args σ fun r σ1 X=>X=[]/\Q r σ1:=by
 refine⟨h.1,fun j w vs hS hr=>(h.2 j w vs hS hr).mono ?_⟩;rintro e w' ⟨v,r,σ1,j',X,he1,h1,h2,h3,h4,h5,h6,h7⟩;exact⟨v,r,σ1,j',[],he1,h1,h2,h3,h4,fun c hc _=>h5 c hc (fun hm=>by have:=h6 c hm;rw[←hS.len] at this;omega),rfl,h7⟩
theorem awp_rowsS{P:Program}{c:Code}{Q:Exit->St->Prop}{N:Nat}{t:List (Nat×AV)}{σ σ':List aC}{mv:List Nat}(b:Nat){sz n:Nat}{row:Nat->List D}(row':Nat->List D)(hb:σ[b]? =some (.arr sz n row))(hr: ∀i,i<n->(row' i).length=(row i).length/\∀k,k<sz->∀w j v,RD w j ((row i).getD k default) v->RD w j ((row' i).getD k default) v)(hσ:σ.set b (.arr sz n row')=σ')
  (h:dY P c Q ⟨N,t,σ',mv⟩):dY P c Q ⟨N,t,σ,mv⟩:=by
 refine iW (s':=⟨N,t,σ',mv⟩) ?_ h;intro j0 j a w g;subst hσ;refine⟨j,⟨g.defers,g.jw,g.size,g.tmp,⟨by simp[g.cZ.len],g.cZ.lt,g.cZ.inj,fun c x hx=> ?_⟩,g.len0,g.ag⟩,.refl _ _⟩;simp only at hx;rw[List.getElem?_set] at hx;split at hx
 ·rename_i e;subst e;split at hx
  ·simp only[Option.some.injEq] at hx;subst hx;obtain⟨o,ho,hB⟩:=g.cZ.blk b _ hb;refine⟨o,ho,?_⟩;cases o with
   |none=>exact hB
   |some cb=>
    obtain⟨C,e,g1,g2,g3⟩:=hB;exact⟨C,e,g1,g2,fun i hi=>⟨by rw[(hr i hi).1];exact(g3 i hi).1,fun k hk=>(hr i hi).2 k hk _ _ _ ((g3 i hi).2 k hk)⟩⟩
  ·simp at hx
 ·exact g.cZ.blk c x hx
theorem RD.nil{w:World}{j:Js}{v:Value}{sz:Nat}{row:Nat->List D}(h:RD w j (.v (.slice none 0 0)) v):RD w j (.sl none sz 0 row) v:=by
 cases h;exact .zero none 0 (.inl rfl) (fun _=>rfl)
end Go.aU
namespace Go.aU.App1
open Go.aU
open Go.aU.Mix (vH jG ES eu bG og zh)
def actX(P:Program)(o:Oper)(s:St)(K:AV->List aC->List Nat->Prop):Prop:=
 match o.op with
 | .call c=>(match c.callee with
  | .builtin .append=>(match c.args.toList,c.argTypes.toList with
   |[x,y],[t,t']=>arg true s x fun x=>arg true s y fun y=>CO P s.σ t t' x y K
   |_,_=>False)
  |_=>False)
 |_=>False
theorem actX_sound{P:Program}{all:List Oper}{o:Oper}{s:St}{K:AV->List aC->List Nat->Prop}(h:actX P o s K){j0:J0}{j:Js}{a:Act}{w:World}{next:Act->World->Prop}{Q:Exit->Act->World->Prop}
  (hr:Rel j0 (s.bf (looks all o)) j a w) (hn: ∀v w' r σ' j' X,aS w' j' σ'->R w' j' r v->Ev j w j' w'->Ag j j' X->j.length<=j'.length->K r σ' X->next (a.put o.dst v) w'):o.wpIn (FW j0.rd) 0 P a w next Q:=by
 have mZ:aS w j s.σ:=hr.cZ;have mem: ∀x∈o.op.operands,∀t,x= .tmp t->t∈looks all o:=fun x hx t ht=>List.mem_append.2 (.inl (rG hx ht));unfold actX at h;split at h
 ·rename_i c ho;split at h
  ·rename_i hb;split at h
   ·rename_i x y t t' hxy ht;have hx0:x∈o.op.operands:=by
     simp only[ho,Op.operands,Call.operands,Array.mem_append];right;have:x∈c.args.toList:=by rw[hxy];simp
     simpa using this
    have hy0:y∈o.op.operands:=by
     simp only[ho,Op.operands,Call.operands,Array.mem_append];right;have:y∈c.args.toList:=by rw[hxy];simp
     simpa using this
    rw[←aP (mem x hx0)] at h;obtain⟨xa,h,hx⟩:=aB h;rw[←aP (mem y hy0)] at h;obtain⟨ya,h,hy⟩:=aB h;obtain⟨v,w',j',r,σ',X,h1,h2,h3,h4,h5,h6,h7⟩:=uJ (P:=P) (ty:=o.type) mZ h (hx rfl j0 j a w hr) (hy rfl j0 j a w hr);have hrun:(execOp a.eval o).run P w= .ok (.value v) w':=by
     have e1:c.args.map a.eval= #[a.eval x,a.eval y]:=by
      have:c.args= #[x,y]:=by apply Array.ext';simpa using hxy
      rw[this];simp
     have e2:c.argTypes= #[t,t']:=by apply Array.ext';simpa using ht
     simp only[execOp,ho,resolve,hb];simp[invoke,builtin,e1,e2,h1]
    refine uM (by simp[ho]) hrun ?_;exact hn v w' r σ' j' X h2 h3 h4 h6 h5 h7
   ·exact h.elim
  ·exact h.elim
 ·exact h.elim
def RZ(X:List Nat)(t1:List (Nat×AV))(d:Tmp):List (Nat×AV)->Prop
 |[]=>True
 |(k,av)::t=>(k=d\/match get t1 k with
  |some av0=>av= .undef\/(av=av0/\av.avoids X=true)
  |none=>False)/\RZ X t1 d t
theorem RY{X:List Nat}{t1:List (Nat×AV)}{d:Tmp} : ∀{t:List (Nat×AV)},RZ X t1 d t->∀k av,get t k=some av->k≠d->∃av0,get t1 k=some av0/\(av= .undef\/(av=av0/\av.avoids X=true))
 |[],_,k,av,h,_=>by simp[get] at h
 |(q,u)::t,hl,k,av,h,hk=>by
  simp only[get] at h;split at h
  ·rename_i e;obtain rfl:=Nat.eq_of_beq_eq_true e;obtain rfl:=Option.some.inj h;rcases hl.1 with h1|h1
   ·exact absurd h1 hk
   ·split at h1
    ·rename_i av0 h2;exact⟨av0,h2,h1⟩
    ·exact h1.elim
  ·exact RY hl.2 k av h hk
structure Two where
 t1:List (Nat×AV)
 t2:List (Nat×AV)
 σ':List aC
 X:List Nat
def Two.cZ(z:Two)(s:St)(b:Bool):List aC:=if b then z.σ' else s.σ
def Two.tp(z:Two)(b:Bool):List (Nat×AV):=if b then z.t2 else z.t1
def Two.ti(z:Two)(s:St)(b:Bool):List (Nat×AV):=if b then cO z.X s.t else s.t
def Two.mv(z:Two)(s:St)(b:Bool):List Nat:=if b then s.mv++z.X else s.mv
structure InvX(s:St)(ops:List Oper)(m ia:Nat)(z:Two)(j0:J0)(listed:Array Bool)(j:Js)(a:Act)(w:World):Prop extends Core s.N (z.ti s (listed.getD ia false)) (z.tp (listed.getD ia false)) (fun _=>True) ops m j0 listed j a w where
 cZ:aS w j (z.cZ s (listed.getD ia false))
 len0:j0.js.length<=j.length
 ag:Ag j0.js j (z.mv s (listed.getD ia false))
theorem scrub_get{X:List Nat}{t:List (Nat×AV)}{k:Nat}{av:AV}(h:get (cO X t) k=some av):get t k=some av/\av.avoids X=true:=by
 induction t with
 |nil=>simp[cO,get] at h
 |cons x t ih=>
  obtain⟨q,u⟩:=x;simp only[cO] at h;split at h
  ·rename_i hu;simp only[get] at h⊢;split at h
   ·rename_i e;obtain rfl:=Option.some.inj h;rw[if_pos e];exact⟨rfl,hu⟩
   ·rename_i e;rw[if_neg e];exact ih h
  ·rw[Cj] at h;split at h
   ·cases h
   ·rename_i hq;have:=ih h;simp only[get];rw[if_neg (by simpa using hq)];exact this
section
variable {P : Program} {ops : List Oper} {m ia : Nat}
structure PureX(P:Program)(s:St)(ops:List Oper)(m ia:Nat)(z:Two)(r:AV)(sk:List Nat):Prop where
 at_: ∀b:Bool,∃xs:Nat->AV,(dF ⟨s.N,z.ti s b,z.cZ s b,z.mv s b⟩ (ops.take m) xs m).t=z.tp b/\(b=true->xs ia=r)/\
  ∀i o,i<m->ops[i]? =some o->i≠ia->(b=true->vH sk i=false)->Local P ops o ⟨s.N,(dF ⟨s.N,z.ti s b,z.cZ s b,z.mv s b⟩ (ops.take m) xs i).t,z.cZ s b,z.mv s b⟩ (xs i)
structure OwnX(P:Program)(ops:List Oper)(m ia:Nat)(s:St)(z:Two)(d:Tmp)(r:AV)(sk:List Nat):Prop where
 al: ∃oa,ops[ia]? =some oa/\actX P oa ⟨s.N,z.t1,s.σ,s.mv⟩ fun r' σ' X=>r'=r/\σ'=z.σ'/\X=z.X
 link:RZ z.X z.t1 d z.t2
 inN:d<s.N
 res:get z.t2 d=some r
theorem phaseX(hok:dW ops m=true)(hmn:m<=ops.length){d:Tmp}{sk:List Nat}(hch:eu ops m [(ia,some d)]=true)(hsk:og ops m [(ia,some d)] [sk]=true){Q:Exit->St->Prop}{j0:J0}{j1:Js}{w1:World}{s:St}{z:Two}{r:AV}
  (hW:OwnX P ops m ia s z d r sk) (hP:PureX P s ops m ia z r sk)
  (hK:bI P false ops (ops.drop m) ⟨s.N,z.t2,z.σ',s.mv++z.X⟩ (Q .normal)):
  ∀(fuel:Nat) (j:Js) (a:Act) (w:World) (listed:Array Bool),left listed ops.length=fuel->InvX s ops m ia z j0 listed j a w->Ev j1 w1 j w->wpAnyIn (FW j0.rd) 0 P .any ops.toArray (D5 j0 j1 w1 Q) fuel listed a w:=by
 obtain⟨oa,hoa0,hgd,hdst0,hlt0,hself,tK,_⟩:=bG hch (k:=0) (by simp);have hoa:ops[ia]? =some oa:=hoa0;have hlt:ia<m:=hlt0;have hdst:oa.dst=some d:=hdst0;clear hoa0 hlt0 hdst0;refine UF hok hmn (InvX s ops m ia z j0) (fun hI=>⟨_,_,_,_,hI.toCore⟩) ?_ ?_
 ·intro listed j a w hI hdone;have hia:listed.getD ia false=true:=by rw[iV hI.lsize (by omega)];exact hdone ia hlt
  have h1:=hI.cZ;have h2:=hI.ag;have hC:=hI.toCore;rw[hia] at h1 h2 hC;obtain⟨xs,hxs,_,_⟩:=hP.at_ true;exact⟨⟨s.N,z.t2,z.σ',s.mv++z.X⟩,⟨hI.defers,hI.jw,hI.size,fun k av hk=>hC.done hxs hdone hk,h1,hI.len0,h2⟩,hK⟩
 ·intro listed j a w i o next hI him ho h0 hall hn
  have hil:i<ops.length:=by omega
  have U2:i<listed.size:=by rw[hI.lsize];exact hil
  by_cases hia:i=ia
  ·
   subst hia;obtain⟨ob,hob,hact⟩:=hW.al;obtain rfl:o=oa:=by rw[ho] at hoa;exact Option.some.inj hoa
   obtain rfl:o=ob:=by rw[ho] at hob;exact Option.some.inj hob
   have hnl:listed.getD i false=false:=by rw[iV hI.lsize hil];exact h0
   have g1:=hI.cZ;have g2:=hI.ag;have hC:=hI.toCore;rw[hnl] at g1 g2 hC;obtain⟨xs,hxs,_,_⟩:=hP.at_ false;have hr:Rel j0 ((⟨s.N,z.t1,s.σ,s.mv⟩:St).bf (looks ops o)) j a w:=by
    refine⟨hI.defers,hI.jw,hI.size,fun k av hk=> ?_,g1,hI.len0,g2⟩;simp only[St.bf,iE] at hk;split at hk
    ·rename_i hkl;exact hC.late hok hmn hxs him ho hall hself tK (by simpa using hkl) hk
    ·simp at hk
   have hw:Region.wanted o (yielded ops.toArray a.tmps)=true:=by simp[Region.wanted,hgd]
   rw[if_pos hw];refine actX_sound hact hr fun v w' r' σ' j' X h6 h7 h8 h9 h10 h11=> ?_;obtain⟨rfl,rfl,rfl⟩:=h11;have mono: ∀{av:AV} {x:Value},R w j av x->av.avoids z.X=true->R w' j' av x:=fun hR ha=>hR.mono h8 hI.cZ.lt h9 ha;have hli:(listed.setIfInBounds i true).getD i false=true:=by simp[U2]
   refine hn j' v w' ⟨?_,by rw[hli];exact h6,Nat.le_trans hI.len0 h10,?_⟩ h8
   ·rw[hli];refine hC.step hok hmn him ho hall h8 (fun k av hk hne=> ?_) (fun k av hk=> ?_) (fun k av hk hgt=> ?_)
    ·obtain⟨av0,k1,k2⟩:=RY hW.link k av hk (fun h=>hne (by rw[hdst,h]));refine⟨av0,k1,fun x hx=> ?_⟩;rcases k2 with rfl|⟨rfl,k2⟩
     ·exact .undef _
     ·exact mono hx k2
    ·obtain⟨k1,k2⟩:=scrub_get (X:=z.X) (t:=s.t) hk;exact⟨av,k1,fun x h1 h2=>⟨h1,mono h2 k2⟩⟩
    ·rw[hdst] at hk;obtain rfl:=Option.some.inj hk;have hk2:get z.t2 d=some av:=hgt;rw[hW.res] at hk2;obtain rfl:=Option.some.inj hk2;exact⟨hW.inN,h7⟩
   ·rw[hli];intro b hb hn;have hn':b∉s.mv/\b∉z.X:=by simpa[Two.mv] using hn
    rw[h9 b (by have:=hI.len0;omega) hn'.2];exact g2 b hb hn'.1
  ·
   have hbe:(listed.setIfInBounds i true).getD ia false=listed.getD ia false:=by rw[getD_set_ne false hia]
   obtain⟨xs,hxs,hxa,hloc⟩:=hP.at_ (listed.getD ia false);have hns:listed.getD ia false=true->vH sk i=false:=by
    intro hl;rw[←Bool.not_eq_true];intro hs;obtain⟨ob,hob,_,hd⟩:=zh hsk (k:=0) (by simp) hs;have:=hI.toCore.far (fun e he1 he2=>hI.cl ia ob hlt hob (by rw[←iV hI.lsize (by omega)];exact hl) e he1 he2) hd;rw[iV hI.lsize hil,h0] at this;cases this
   have hL:=hloc i o him ho hia hns;have hrel:Rel j0 ((⟨s.N,(dF ⟨s.N,z.ti s (listed.getD ia false),z.cZ s (listed.getD ia false),z.mv s (listed.getD ia false)⟩ (ops.take m) xs i).t,z.cZ s (listed.getD ia false),z.mv s (listed.getD ia false)⟩:St).bf (looks ops o)) j a w:=by
    refine⟨hI.defers,hI.jw,hI.size,fun k av hk=> ?_,hI.cZ,hI.len0,hI.ag⟩;simp only[St.bf,iE] at hk;split at hk
    ·rename_i hkl;exact hI.toCore.looks hok hmn hxs him ho h0 hall (by simpa using hkl) hk
    ·simp at hk
   have hval: ∀(w':World) (v:Value),R w' j (xs i) v->∀k av,o.dst=some k->get (z.tp (listed.getD ia false)) k=some av->k<s.N/\R w' j av v:=by
    intro w' v hr k av hk hgt;rw[←hxs,kW hok hmn him ho hk him (Nat.le_refl _)] at hgt;split at hgt
    ·rename_i hlt;obtain rfl:xs i=av:=Option.some.inj hgt;exact⟨hlt,hr⟩
    ·simp at hgt
   have step: ∀(w':World) (v:Value),aS w' j (z.cZ s (listed.getD ia false))->Ev j w j w'->(∀k av,o.dst=some k->get (z.tp (listed.getD ia false)) k=some av->k<s.N/\R w' j av v)->next (a.put o.dst v) w':=by
    intro w' v mZ hev hv;have mono: ∀{av:AV} {v:Value},R w j av v->R w' j av v:=fun hR=>hR.kM hev hI.cZ.lt (.refl _ _);exact hn j v w' ⟨by rw[hbe];exact hI.toCore.step hok hmn him ho hall hev (fun k av h _=>⟨av,h,fun _=>mono⟩) (fun k av h=>⟨av,h,fun _ h1 h2=>⟨h1,mono h2⟩⟩) hv,by rw[hbe];exact mZ,hI.len0,by rw[hbe];exact hI.ag⟩ hev
   by_cases hw:Region.wanted o (yielded ops.toArray a.tmps)=true
   ·rw[if_pos hw];exact hL.run j0 j a w _ _ hrel hw fun w' v h1 h2 h3=>step w' v h1 h2 (hval w' v h3)
   ·rw[if_neg hw];exact step w Go.undef hI.cZ (.refl _ _) (hval w _ (hL.skip j0 j a w hrel (by simpa using hw)))
end
theorem awp_app{P:Program}{Q:Exit->St->Prop}{N:Nat}{t:List (Nat×AV)}{σ:List aC}{mv:List Nat}{id:Nat}{ops:List Oper}(m ia d:Nat)(r:AV)(σ':List aC)(X:List Nat)(sk:List Nat)(hm:P.follows .mixedOrders=true)(hok:(dW ops m&&Nat.ble m ops.length&&(eu ops m [(ia,some d)]&&og ops m [(ia,some d)] [sk]))=true){t1 t2:List (Nat×AV)}
  (h1: ∀K:St->Prop,(∀σ' mv',K ⟨N,t1,σ',mv'⟩)->jG P ops [(ia,.undef)] [] [] (ops.take m) 0 ⟨N,t,σ,mv⟩ K)
  (hN:d<N)
  (h2:match ql ops ia with
   |some oa=>actX P oa ⟨N,t1,σ,mv⟩ fun r0 nM X0=>r0=r/\nM=σ'/\X0=X
   |none=>False)
  (h4: ∀K:St->Prop,(∀σ' mv',K ⟨N,t2,σ',mv'⟩)->jG P ops [(ia,r)] sk (cO X t1) (ops.take m) 0 ⟨N,cO X t,σ',mv++X⟩ K)
  (h5:RZ X t1 d t2/\get t2 d=some r)
  (h3:bI P false ops (ops.drop m) ⟨N,t2,σ',mv++X⟩ (Q .normal)):dY P (.region id ops.toArray true) Q ⟨N,t,σ,mv⟩:=by
 intro j0 j a w hr;simp only[Bool.and_eq_true,Nat.ble_eq] at hok;obtain⟨⟨hok,hmn⟩,hch,hsk⟩:=hok;obtain⟨oa,hoa,_,_,hlt,_⟩:=bG hch (k:=0) (by simp);have hoa:ops[ia]? =some oa:=hoa;have hlt:ia<m:=hlt;rw[jc,hoa] at h2;have mk: ∀(b:Bool) (r0:AV) (sk0:List Nat) (t0:List (Nat×AV)),(b=true->r0=r/\sk0=sk)->(b=false->sk0=[])->(∀K:St->Prop,(∀nM mv',K ⟨N,(⟨t1,t2,σ',X⟩:Two).tp b,nM,mv'⟩)->jG P ops [(ia,r0)] sk0 t0 (ops.take m) 0 ⟨N,(⟨t1,t2,σ',X⟩:Two).ti ⟨N,t,σ,mv⟩ b,(⟨t1,t2,σ',X⟩:Two).cZ ⟨N,t,σ,mv⟩ b,(⟨t1,t2,σ',X⟩:Two).mv ⟨N,t,σ,mv⟩ b⟩ K)->
   ∃xs:Nat->AV,(dF ⟨N,(⟨t1,t2,σ',X⟩:Two).ti ⟨N,t,σ,mv⟩ b,(⟨t1,t2,σ',X⟩:Two).cZ ⟨N,t,σ,mv⟩ b,(⟨t1,t2,σ',X⟩:Two).mv ⟨N,t,σ,mv⟩ b⟩ (ops.take m) xs m).t=(⟨t1,t2,σ',X⟩:Two).tp b/\(b=true->xs ia=r)/\
    ∀i o,i<m->ops[i]? =some o->i≠ia->(b=true->vH sk i=false)->Local P ops o ⟨N,(dF ⟨N,(⟨t1,t2,σ',X⟩:Two).ti ⟨N,t,σ,mv⟩ b,(⟨t1,t2,σ',X⟩:Two).cZ ⟨N,t,σ,mv⟩ b,(⟨t1,t2,σ',X⟩:Two).mv ⟨N,t,σ,mv⟩ b⟩ (ops.take m) xs i).t,(⟨t1,t2,σ',X⟩:Two).cZ ⟨N,t,σ,mv⟩ b,(⟨t1,t2,σ',X⟩:Two).mv ⟨N,t,σ,mv⟩ b⟩ (xs i):=by
  intro b r0 sk0 t0 hb hb0 h;have h:=h (fun s'=>s'.t=(⟨t1,t2,σ',X⟩:Two).tp b) (fun _ _=>rfl);have hlen:(ops.take m).length=m:=by simp;omega
  obtain⟨xs,hK,hia,hloc⟩:=ES h;refine⟨xs,by rw[hlen] at hK;exact hK,fun hb1=>(hia ia r0 (by simp[aU.get])).trans (hb hb1).1,fun i o him ho hne hsk=> ?_⟩;have h3:=hloc i o (by rw[jU him];exact ho) (by simp[aU.get,show ¬ia=i from fun h=>hne h.symm]) (by
   rw[Nat.zero_add];cases b with
   |true=>rw[(hb rfl).2];exact hsk rfl
   |false=>rw[hb0 rfl];rfl)
  have hext:=Steps.qV ⟨N,(⟨t1,t2,σ',X⟩:Two).ti ⟨N,t,σ,mv⟩ b,(⟨t1,t2,σ',X⟩:Two).cZ ⟨N,t,σ,mv⟩ b,(⟨t1,t2,σ',X⟩:Two).mv ⟨N,t,σ,mv⟩ b⟩ ((⟨t1,t2,σ',X⟩:Two).cZ ⟨N,t,σ,mv⟩ b) (ops.take m) xs i;rw[hext] at h3;exact h3
 have hP:PureX P ⟨N,t,σ,mv⟩ ops m ia ⟨t1,t2,σ',X⟩ r sk:=⟨fun b=>by
  cases b with
  |false=>exact mk false .undef [] [] (fun h=>by cases h) (fun _=>rfl) (fun K hK=>h1 K hK)
  |true=>exact mk true r sk (cO X t1) (fun _=>⟨rfl,rfl⟩) (fun h=>by cases h) (fun K hK=>h4 K hK)⟩
 have hr':Rel j0 ⟨N,t,σ,mv⟩ j a w.drew:=hr.after (gY j w) hr.cZ.drew (Nat.le_refl _) (.refl _ []);have hfi:(Array.replicate ops.toArray.size false).getD ia false=false:=by simp[show ia<ops.length by omega]
 refine wpIn_region_any hm (phaseX hok hmn hch hsk ⟨⟨oa,hoa,h2⟩,h5.1,hN,h5.2⟩ hP h3 _ j a w.drew _ ?_ ⟨by rw[hfi];exact .start hmn hr' fun _ _ _=>trivial,by rw[hfi];exact hr'.cZ,hr'.len0,by rw[hfi];exact hr'.ag⟩ (gY j w));rw[xk];simp
theorem Zo{P:Program}{Q:Exit->St->Prop}{N:Nat}{t:List (Nat×AV)}{σ:List aC}{mv:List Nat}{id:Nat}{ops:List Oper}(m ia d:Nat)(r:AV)(σ':List aC)(X:List Nat)(sk:List Nat)(hm:P.follows .mixedOrders=true)(hok:(dW ops m&&Nat.ble m ops.length&&(eu ops m [(ia,some d)]&&og ops m [(ia,some d)] [sk]))=true){t1 t2:List (Nat×AV)}
  (h1: ∀K:St->Prop,(∀σ' mv',K ⟨N,t1,σ',mv'⟩)->jG P ops [(ia,.undef)] [] [] (ops.take m) 0 ⟨N,t,σ,mv⟩ K)
  (hN:d<N)
  (h2:match ql ops ia with
   |some oa=>actX P oa ⟨N,t1,σ,mv⟩ fun r0 nM X0=>r0=r/\nM=σ'/\X0=X
   |none=>False)
  (h4: ∀K:St->Prop,(∀σ' mv',K ⟨N,t2,σ',mv'⟩)->jG P ops [(ia,r)] sk (cO X t1) (ops.take m) 0 ⟨N,cO X t,σ',mv++X⟩ K)
  (h5:RZ X t1 d t2/\get t2 d=some r)
  (h3: ∀K:St->Prop,(∀s',Q .normal s'->K s')->bI P false ops (ops.drop m) ⟨N,t2,σ',mv++X⟩ K):dY P (.region id ops.toArray true) Q ⟨N,t,σ,mv⟩:=
 awp_app m ia d r σ' X sk hm hok h1 hN h2 h4 h5 (h3 _ fun s' h=>h)
attribute [go_sem ↓] actX
attribute [go_sem] RZ
end Go.aU.App1
namespace Go.aU.Apd
open Go.aU
def apdK(P:Program)(o:Oper)(s:St)(K:St->Prop):Prop:=
 match o.op,o.guard with
 | .call c,none=>(match c.callee with
  | .builtin .append=>(match c.args.toList,c.argTypes.toList with
   |[x,y],[t,t']=>arg true s x fun x=>arg true s y fun y=>uf P s.σ t t' x y fun av=>K (s.put o.dst av)
   |_,_=>False)
  |_=>False)
 |_,_=>False
def O7(P:Program)(all:List Oper):List Oper->Nat->St->(St->Prop)->Prop
 |[],_,s,K=>K s
 |o::os,0,s,K=>apdK P o s fun s'=>bI P false all os s' K
 |o::os,i+1,s,K=>jA all s o fun gd g=>UK P false gd g o s fun s'=>O7 P all os i s' K
def RestD(P:Program)(all os:List Oper)(i:Nat)(K:St->Prop)(s:St):Prop:=O7 P all os i s K
theorem evalD_zero(P:Program)(all os:List Oper)(o:Oper)(s:St)(K:St->Prop):O7 P all (o::os) 0 s K=apdK P o s (Rest P false all os K):=rfl
theorem evalD_cons(P:Program)(all os:List Oper)(i:Nat)(o:Oper)(s:St)(K:St->Prop):O7 P all (o::os) (i+1) s K=jA all s o fun gd g=>UK P false gd g o s (RestD P all os i K):=rfl
theorem RestD_mk(P:Program)(all os:List Oper)(i:Nat)(K:St->Prop)(N:Nat)(t:List (Nat×AV))(σ:List aC)(mv:List Nat):RestD P all os i K ⟨N,t,σ,mv⟩=O7 P all os i ⟨N,t,σ,mv⟩ K:=rfl
theorem apdK_sound{P:Program}{o:Oper}{s:St}{K:St->Prop}(h:apdK P o s K):Runs P o s K:=by
 unfold apdK at h;split at h
 ·rename_i c ho hg;split at h
  ·rename_i hb;split at h
   ·rename_i x y t t' hxy ht;obtain⟨xa,h,hx⟩:=aB h;obtain⟨ya,h,hy⟩:=aB h;intro j0 j a w next Q hr hn
    obtain⟨v,w',r,h1,h2,h3,h4,h5⟩:=DZ (P:=P) (ty:=o.type) hr.cZ h (hx rfl j0 j a w hr) (hy rfl j0 j a w hr);have hrun:(execOp a.eval o).run P w= .ok (.value v) w':=by
     have e1:c.args.map a.eval= #[a.eval x,a.eval y]:=by
      have:c.args= #[x,y]:=by apply Array.ext';simpa using hxy
      rw[this];simp
     have e2:c.argTypes= #[t,t']:=by apply Array.ext';simpa using ht
     simp only[execOp,ho,resolve,hb];simp[invoke,builtin,e1,e2,h1]
    refine uM (by simp[ho]) hrun ?_;exact hn _ _ _ _ ((hr.after h4 h2 (Nat.le_refl _) (.refl _ [])).put o.dst h3) h4 h5
   ·exact h.elim
  ·exact h.elim
 ·exact h.elim
theorem zX{P:Program}{Q:Exit->Act->World->Prop}{all:List Oper} : ∀{os:List Oper} {i:Nat} {s:St} {K:St->Prop} {j0:J0} {j:Js} {a:Act} {w:World},O7 P all os i s K->(∀o,os[i]? =some o->o.guard=none)->Rel j0 s j a w->
  (∀s' j' a' w',Rel j0 s' j' a' w'->Ev j w j' w'->K s'->Q .normal a' w')->wpListIn (FW j0.rd) 0 P all.toArray Q os a w
 |[],i,s,K,j0,j,a,w,h,_,hr,hQ=>hQ s j a w hr (.refl _ _) h
 |o::os,0,s,K,j0,j,a,w,h,hgn,hr,hQ=>by
  have hw:Region.wanted o (yielded all.toArray a.tmps)=true:=by simp[Region.wanted,hgn o rfl]
  simp only[wpListIn,hw,if_true];exact(apdK_sound h) j0 j a w _ _ hr fun s' j' a' w' hr' he hK=>kY hK hr' fun s'' j'' a'' w'' U3 he' hK'=>hQ s'' j'' a'' w'' U3 (he.trans he') hK'
 |o::os,i+1,s,K,j0,j,a,w,h,hgn,hr,hQ=>by
  obtain⟨gd,g,h,hgd,hw⟩:=o8 h;obtain⟨h1,h2⟩:=BP h hgd;have hw:=hw hr;simp only[wpListIn,hw];cases g with
  |true=>
   simp only[if_true];exact(h1 rfl j0 j a w _ _ hr fun s' j' a' w' hr' he hK=>zX hK (fun o ho=>hgn o ho) hr' fun s'' j'' a'' w'' U3 he' hK'=>hQ s'' j'' a'' w'' U3 (he.trans he') hK')
  |false=>
   simp only[Bool.false_eq_true,if_false];obtain⟨s',hK,hs⟩:=h2 rfl;exact⟨fun _ _=>trivial,zX hK (fun o ho=>hgn o ho) (hs j0 j a w hr) hQ⟩
theorem Zp{P:Program}{Q:Exit->St->Prop}{s:St}{id:Nat}{ops:List Oper}(i:Nat)(hg: ∀o,ops[i]? =some o->o.guard=none)(h: ∀K:St->Prop,(∀s',Q .normal s'->K s')->O7 P ops ops i s K):dY P (.region id ops.toArray false) Q s:=by
 intro j0 j a w hr;refine wpIn_region_lit (zX (h _ fun _ h=>h) hg hr fun s' j' a' w' hr' he hq=>⟨s',j',hr',he,hq⟩)
attribute [go_sem ↓] evalD_zero evalD_cons RestD_mk apdK
end Go.aU.Apd
namespace Go.Proofs.YthlhlnbcjlpigaaGreatDoor
open Go.aU
def jW{α:Type}(p:Nat->Bool)(f:Nat->α):Nat->List α
 |0=>[]
 |i+1=>if p i=true then jW p f i++[f i] else jW p f i
theorem RH{α:Type}(p:Nat->Bool)(f:Nat->α): ∀i,(jW p f i).length<=i
 |0=>Nat.le_refl _
 |i+1=>by
  have:=RH p f i;rw[jW];split
  ·simp;omega
  ·omega
theorem LQ{g:Nat->Int}{n:Nat}(h:lV g n=true): ∀{i j:Nat},i<j->j<n->g i<g j:=by
 intro i j;induction j with
 |zero=>intro h1;omega
 |succ j ih=>
  intro h1 h2;have h3:=(Hg g n).1 h (j+1) (by omega) h2;rw[Nat.add_sub_cancel] at h3;by_cases hj:i=j
  ·subst hj;exact h3
  ·have:=ih (by omega) (by omega);omega
theorem Jy{x:nJ}(hx:Rng x)(ha:lV x.u x.nu=true):(lst x.nu (uj x)).Nodup:=by
 unfold lst;refine List.pairwise_map.2 (List.Pairwise.imp_of_mem ?_ (List.nodup_range (n:=x.nu)));intro a b h1 h2 hne he;rw[List.mem_range] at h1 h2;have ha1:=hx.u1 a h1;have hb1:=hx.u1 b h2;unfold uj at he;rcases Nat.lt_or_gt_of_ne hne with h|h
 ·have:=LQ ha h h2;omega
 ·have:=LQ ha h h1;omega
theorem qL{α:Type}{p:Nat->Bool}{f:Nat->α}{x:α} : ∀{n:Nat},x∈jW p f n↔∃q,q<n/\p q=true/\f q=x
 |0=>by simp[jW]
 |n+1=>by
  rw[jW];constructor
  ·intro h;split at h
   ·rename_i hp;rcases List.mem_append.1 h with h|h
    ·obtain⟨q,h1,h2⟩:=qL.1 h;exact⟨q,by omega,h2⟩
    ·exact⟨n,by omega,hp,by simpa using(List.mem_singleton.1 h).symm⟩
   ·obtain⟨q,h1,h2⟩:=qL.1 h;exact⟨q,by omega,h2⟩
  ·rintro⟨q,h1,h2,h3⟩;rcases Nat.lt_or_eq_of_le (Nat.le_of_lt_succ h1) with h4|h4
   ·split
    ·exact List.mem_append.2 (.inl (qL.2 ⟨q,h4,h2,h3⟩))
    ·exact qL.2 ⟨q,h4,h2,h3⟩
   ·subst h4;rw[if_pos h2];exact List.mem_append.2 (.inr (by simp[h3]))
theorem RI{p:Nat->Bool}{f:Nat->Int}{n:Nat}(h:lV f n=true): ∀{i:Nat},i<=n->(jW p f i).Pairwise (·< ·)
 |0,_=> .nil
 |i+1,hi=>by
  have ih:=RI (p:=p) h (i:=i) (by omega);rw[jW];split
  ·refine List.pairwise_append.2 ⟨ih,List.pairwise_singleton _ _,?_⟩;intro a ha b hb;obtain⟨q,h1,h2,rfl⟩:=qL.1 ha;rw[List.mem_singleton] at hb;subst hb;exact LQ h h1 (by omega)
  ·exact ih
noncomputable def jf(ID rd:Nat)(P:List Int)(u:Nat->Nat):Nat->Nat
 |0=>0
 |i+1=>open Classical in if(u i:Int)∈P then jf ID rd P u i
  else if jf ID rd P u i=0\/Qd (keyS ID rd (u i)) (keyS ID rd (jf ID rd P u i))=true then u i else jf ID rd P u i
theorem Ze{ID rd:Nat}{P:List Int}{u:Nat->Nat}{i:Nat}(h:(u i:Int)∈P):jf ID rd P u (i+1)=jf ID rd P u i:=by
 rw[jf,if_pos h]
theorem Tn{ID rd:Nat}{P:List Int}{u:Nat->Nat}{i:Nat}(h: ¬(u i:Int)∈P)(hb:jf ID rd P u i=0\/Qd (keyS ID rd (u i)) (keyS ID rd (jf ID rd P u i))=true):jf ID rd P u (i+1)=u i:=by
 rw[jf,if_neg h,if_pos hb]
theorem Tm{ID rd:Nat}{P:List Int}{u:Nat->Nat}{i:Nat}(h: ¬(u i:Int)∈P)(hb: ¬(jf ID rd P u i=0\/Qd (keyS ID rd (u i)) (keyS ID rd (jf ID rd P u i))=true)):jf ID rd P u (i+1)=jf ID rd P u i:=by
 rw[jf,if_neg h,if_neg hb]
theorem PW{ID rd:Nat}{P:List Int}{u:Nat->Nat} : ∀{n:Nat},(∀i,i<n->1<=u i)->(∀i j,i<j->j<n->u i<u j)->
  (jf ID rd P u n=0/\∀i,i<n->(u i:Int)∈P)\/(∃j,j<n/\jf ID rd P u n=u j/\¬(u j:Int)∈P/\∀i,i<n->¬(u i:Int)∈P->¬su ID rd (u i) (u j))
 |0,_,_=> .inl ⟨rfl,fun i hi=>by omega⟩
 |n+1,h1,h2=>by
  have ih:=PW (ID:=ID) (rd:=rd) (P:=P) (u:=u) (n:=n) (fun i hi=>h1 i (by omega)) (fun i j hij hj=>h2 i j hij (by omega));by_cases hp:(u n:Int)∈P
  ·rw[Ze hp];rcases ih with⟨e,h⟩|⟨j,hj,e,hjp,h⟩
   ·left;exact⟨e,fun i hi=>by
     by_cases hin:i=n
     ·rw[hin];exact hp
     ·exact h i (by omega)⟩
   ·right;exact⟨j,by omega,e,hjp,fun i hi hip=>by
     by_cases hin:i=n
     ·rw[hin] at hip;exact absurd hp hip
     ·exact h i (by omega) hip⟩
  ·right;by_cases hb:jf ID rd P u n=0\/Qd (keyS ID rd (u n)) (keyS ID rd (jf ID rd P u n))=true
   ·rw[Tn hp hb];refine⟨n,by omega,rfl,hp,fun i hi hip=> ?_⟩;by_cases hin:i=n
    ·rw[hin];exact AQ _ _ _
    ·rcases ih with⟨e,h⟩|⟨j,hj,e,hjp,h⟩
     ·exact absurd (h i (by omega)) hip
     ·have hj1:=h1 j (by omega);rw[e] at hb;have hlt:Qd (keyS ID rd (u n)) (keyS ID rd (u j))=true:=by
       rcases hb with hb|hb
       ·omega
       ·exact hb
      intro hbad;exact h i (by omega) hip (rZ hbad (.inl hlt))
   ·rw[Tm hp hb];rcases ih with⟨e,h⟩|⟨j,hj,e,hjp,h⟩
    ·exact absurd (.inl e) hb
    ·refine⟨j,by omega,e,hjp,fun i hi hip=> ?_⟩;by_cases hin:i=n
     ·rw[hin];rw[e] at hb;intro hbad;rcases hbad with hl|⟨_,hl⟩
      ·exact hb (.inr hl)
      ·have:=h2 j n (by omega) (by omega);omega
     ·exact h i (by omega) hip
theorem bestU_next{ID rd n k:Nat}{u:Nat->Nat}(h1: ∀i,i<n->1<=u i)(h2: ∀i j,i<j->j<n->u i<u j)(hnd:(lst n u).Nodup){L:List Nat}(hL:Q9 ID rd (lst n u) L)(hk:k<L.length):
  jf ID rd ((L.take k).map fun n:Nat=>(n:Int)) u n=L[k]:=by
 have hmem: ∀x:Nat,((x:Int)∈(L.take k).map fun n:Nat=>(n:Int))↔x∈L.take k:=by
  intro x;constructor
  ·intro h;obtain⟨y,hy,he⟩:=List.mem_map.1 h;have:y=x:=by omega
   exact this▸hy
  ·intro h;exact List.mem_map.2 ⟨x,h,rfl⟩
 have hLn:L.Nodup:=hL.1.nodup_iff.2 hnd;have hkn:L[k]∉L.take k:=by
  intro h;obtain⟨i,hi,he⟩:=List.mem_iff_getElem.1 h;rw[List.length_take] at hi;rw[List.getElem_take] at he;have:=(List.getElem_inj hLn).1 he;omega
 obtain⟨q,hq,heq⟩: ∃q,q<n/\u q=L[k]:=by
  have:=hL.1.mem_iff.1 (List.getElem_mem hk);obtain⟨q,h,e⟩:=List.mem_map.1 this;exact⟨q,List.mem_range.1 h,e⟩
 rcases PW (ID:=ID) (rd:=rd) (P:=(L.take k).map fun n:Nat=>(n:Int)) h1 h2 with⟨_,h⟩|⟨j,hj,e,hjp,h⟩
 ·exact absurd ((hmem _).1 (h q hq)) (by rw[heq];exact hkn)
 ·rw[e];have hjL:u j∈L:=hL.1.mem_iff.2 (List.mem_map.2 ⟨j,List.mem_range.2 hj,rfl⟩);obtain⟨r,hr,her⟩:=List.mem_iff_getElem.1 hjL;have hrk: ¬r<k:=by
   intro hrk;apply hjp;rw[hmem,←her];exact List.mem_iff_getElem.2 ⟨r,by rw[List.length_take];omega,by rw[List.getElem_take]⟩
  by_cases hre:r=k
  ·subst hre;exact her.symm
  ·have hb1: ¬su ID rd (u j) L[k]:=by
    have:=(List.pairwise_iff_getElem.1 hL.2) k r hk hr (by omega);rw[her] at this;exact this
   have hb2: ¬su ID rd L[k] (u j):=by
    have:=h q hq (by rw[heq,hmem];exact hkn);rwa [heq] at this
   exact xP hb1 hb2
theorem draw_pick{x:nJ}(hx:Rng x)(ha:lV x.u x.nu=true)(rd:Int):
  jW (fun i=>decide (x.u i∈((Xt x.ID.toNat rd.toNat (lst x.nu (uj x))).take x.kS.toNat).map fun n:Nat=>(n:Int))) x.u x.nu=jl x rd:=by
 classical
 unfold jl;have hnd:=Jy hx ha;have hO:=IE x.ID.toNat rd.toNat (lst x.nu (uj x));have hasc:=RI (p:=fun i=>decide (x.u i∈((Xt x.ID.toNat rd.toNat (lst x.nu (uj x))).take x.kS.toNat).map fun n:Nat=>(n:Int))) ha (Nat.le_refl _);refine uQ ?_ (hasc.imp fun h=>by omega);refine(List.perm_ext_iff_of_nodup (hasc.imp fun h=>by omega) ?_).2 fun a=> ?_
 ·refine List.pairwise_map.2 (List.Pairwise.imp (R:=(·≠·)) (fun h e=>h (Int.ofNat_inj.1 e)) ?_);exact List.Pairwise.sublist (List.take_sublist _ _) (hO.1.nodup_iff.2 hnd)
 ·rw[qL];constructor
  ·rintro⟨q,h1,h2,rfl⟩;exact of_decide_eq_true h2
  ·intro h;obtain⟨y,hy,rfl⟩:=List.mem_map.1 h;have h3:=hO.1.mem_iff.1 (List.mem_of_mem_take hy);obtain⟨q,hq,e⟩:=List.mem_map.1 h3;rw[List.mem_range] at hq;have h4:=hx.u1 q hq;have e2:x.u q=(y:Int):=by unfold uj at e;omega
   exact⟨q,hq,by rw[e2];exact decide_eq_true h,e2⟩
end Go.Proofs.YthlhlnbcjlpigaaGreatDoor
namespace Go.aU
open Go
def UE:AV->Bool
 | .d _=>true
 | .agg cs=>cs.all fun c=>match c with
  | .d _=>true
  |_=>false
 |_=>false
theorem R.plain{w:World}{j:Js}{av:AV}{v:Value}(h:R w j av v)(hp:UE av=true):R w [] av v:=by
 cases h with
 |d h=>exact .d (h.less (by simp))
 |agg vs hs h=>
  refine .agg vs hs fun k hk=> ?_;have h1:=h k hk;simp only[UE,List.all_eq_true] at hp;have h2:=hp _ (List.getElem_mem hk);have e: ∀cs:List AV,∀hk:k<cs.length,cs.getD k .undef=cs[k]:=fun cs hk=>by simp[List.getD_eq_getElem?_getD,hk]
  rw[e _ hk] at h1⊢;split at h2
  ·rename_i y hy;rw[hy] at h1⊢;cases h1 with|d h1=>exact .d (h1.less (by simp))
  ·cases h2
 |_=>simp[UE] at hp
theorem ay.view{P:Program}{f:FuncId}{args args':List AV}{σ:List aC}{x:Value}(h:ay P f args [] (.d (.v x)))(ha: ∀j w vs,aS w j σ->Rs w j args' vs->Rs w [] args vs):ay P f args' σ (.d (.v x)):=by
 refine⟨h.1,fun j w vs hS hr=>(h.2 [] w vs ⟨rfl,by simp,by simp,by simp⟩ (ha j w vs hS hr)).mono fun e w'=> ?_⟩;rintro⟨v,r,σ',j',X,he,h1,h2,h3,h4,h5,rfl,rfl,rfl⟩;obtain rfl:j'=[]:=List.length_eq_zero_iff.1 h1.len;have hev:Ev j w j w':=⟨h3.size,fun b hb _=>h3.keep b hb (by simp),fun _ _ h=>h,h3.Xa,h3.uN,h3.os,h3.tape,h3.output,h3.lps⟩;refine⟨v,_,σ,j,[],he,⟨hS.len,fun b cb hb=>Nat.lt_of_lt_of_le (hS.lt b cb hb) h3.size,hS.inj,fun b y hy=> ?_⟩,kD h2▸.d (.v _),hev,Nat.le_refl _,.refl _ _,rfl,rfl,rfl⟩;obtain⟨o,ho,hB⟩:=hS.blk b y hy;exact⟨o,ho,hB.mono hev hS.lt (.refl _ _) fun cb hcb=>h3.keep cb (hS.lt b cb (by rw[ho,hcb])) (by simp)⟩
theorem view_ms{w:World}{j:Js}{σ:List aC}(hS:aS w j σ){b sz n:Nat}{row:Nat->List D}(hb:σ[b]? =some (.arr sz n row)){v:Value}(h:R w j (.ms b sz 0 n) v):R w [] (.d (.sl none sz n row)) v:=by
 have hf:=h.pV hS hb;have:R w (j.set b none) (.d (.sl none sz n row)) v:=by simpa[pV,AV.avoids,o9] using hf
 exact this.plain rfl
theorem ay.view1{P:Program}{f:FuncId}{y:AV}{σ:List aC}{x:Value}{b sz n:Nat}{row:Nat->List D}(h:ay P f [.d (.sl none sz n row),y] [] (.d (.v x)))(hy:UE y=true)(hb:σ[b]? =some (.arr sz n row)):ay P f [.ms b sz 0 n,y] σ (.d (.v x)):=
 h.view fun j w vs hS hr=>⟨hr.1,fun k hk=>by
  have:=hr.2 k (by simpa using hk);rcases k with _|_|k
  ·exact view_ms hS hb (by simpa using this)
  ·exact R.plain (by simpa using this) hy
  ·have:k+1+1<2:=hk;omega⟩
end Go.aU
namespace Go.aU
open Go.RowKit
theorem RD.none{w:World}{d:D}{v:Value}(h:RD w [] d v):RD w [none] d v:=by
 induction h with
 |v x=>exact .v x
 |sl a c val h1 h2 h3 h4 h5 h6 h7 h8 ih=>exact .sl a c val h1 h2 h3 h4 (by simp) h6 h7 ih
 |zero p c h1 h2=>exact .zero p c h1 h2
theorem RsN.cons{w:World}{x:AV}{v:Value}{xs:List AV}{vs:List Value}(h:R w [none] x v)(t:Rs w [none] xs vs.toArray):Rs w [none] (x::xs) (v::vs).toArray:=
 ⟨by have:=t.1;simpa using this,fun k hk=>by
  cases k with
  |zero=>simpa using h
  |succ k=>have:=t.2 k (by simpa using hk);simpa using this⟩
end Go.aU
