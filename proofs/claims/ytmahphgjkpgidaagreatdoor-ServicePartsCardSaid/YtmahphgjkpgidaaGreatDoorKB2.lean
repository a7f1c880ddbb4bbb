/- Contracts and lemmas, joined out of smaller texts by a program; no conditions. -/
import Derived.Test.YtmahphgjkpgidaaGreatDoorKB1
set_option linter.unusedVariables false
set_option linter.unusedSimpArgs false
namespace Go.aU
def sV:List Oper->Nat->Option Oper
 |[],_=>none
 |o::os,n=>if Nat.beq n 0 then some o else sV os (n-1)
theorem jA: ∀(l:List Oper) (n:Nat),sV l n=l[n]?
 |[],n=>by simp[sV]
 |o::os,0=>by simp[sV]
 |o::os,n+1=>by simp[sV,jA os n]
def gvA(all:List Oper)(s:St)(jx:Nat):Option AV:=
 match sV all jx with
 |some o=>match o.dst with
  |some d=>get s.t d
  |none=>none
 |none=>none
def jQ(all:List Oper)(s:St)(o:Oper)(K:Bool->Bool->Prop):Prop:=
 match o.guard with
 |none=>K false true
 |some (jx,want)=>match gvA all s jx with
  |some (.d (.v (.bool b)))=>K true (b==want)
  |some (.iff b0 (.d (.v (.bool b))))=>K true (b0&&(b==want))
  |_=>False
theorem rE{all:List Oper}{s:St}{o:Oper}{K:Bool->Bool->Prop}(h:jQ all s o K):
  ∃gd g,K gd g/\(gd=false->g=true)/\∀{j0 j a w},Rel j0 s j a w->Region.wanted o (yielded all.toArray a.tmps)=g:=by
 unfold jQ at h;split at h
 ·rename_i hg;exact⟨false,true,h,fun _=>rfl,fun _=>by simp[Region.wanted,hg]⟩
 ·rename_i jx want hg;have key: ∀av,gvA all s jx=some av->∀{j0 j a w},Rel j0 s j a w->∃d,((all[jx]?).bind (·.dst))=some d/\d<a.tmps.size/\R w j av (a.tmps.getD d Go.undef):=by
   intro av hav j0 j a w hr;unfold gvA at hav;rw[jA] at hav;split at hav
   ·rename_i o' ho';split at hav
    ·rename_i d hd;have:=hr.tmp d av hav;exact⟨d,by simp[ho',hd],by rw[hr.size];exact this.1,this.2⟩
    ·simp at hav
   ·simp at hav
  split at h
  ·rename_i b hv;refine⟨true,_,h,by simp,fun hr=> ?_⟩;rename_i _ _ a _;obtain⟨d,h1,h2,h3⟩:=key _ hv hr;have h4:=lM h3;rw[(pW h2).2] at h4;simp[Region.wanted,hg,yielded,h1,h2,h4]
  ·rename_i b0 b hv;refine⟨true,_,h,by simp,fun hr=> ?_⟩;rename_i _ _ a _;obtain⟨d,h1,h2,h3⟩:=key _ hv hr;rw[(pW h2).2] at h3;cases h3 with
   |iff hh h0=>
    cases b0 with
    |true=>
     have h4:=lM (hh rfl);simp[Region.wanted,hg,yielded,h1,h2,h4]
    |false=>
     have h4:=h0 rfl;simp[Region.wanted,hg,yielded,h1,h2,h4,Go.undef]
  ·exact h.elim
def qX(gd g:Bool)(av:AV):AV:=match gd with
 |false=>av
 |true=> .iff g av
def xY(dr gd g:Bool)(o:Oper)(s:St)(K:St->Prop)(E:(St->Prop)->Prop):Prop:=
 dr=false/\(match gd with
 |false=>E K
 |true=>(g=true->E K)/\(g=false->K (s.del o.dst)))
def dN(P:Program)(t:TypeId):Option (List Value):=
 match P.info? t with
 |some i=>match i.zero with
  |some z=>some z.cells.toList
  |none=>none
 |none=>none
def uy(P:Program)(t:TypeId)(s:St)(p v:AV)(K:St->Prop):Prop:=
 match iM P t with
 |some (_,m)=>jU (cellsOf v)=true/\(cellsOf v).length=m/\(match lY s.σ p (cellsOf v) with
  |some (side,σ')=>side/\K { s with σ:=σ' }
  |none=>False)
 |none=>False
def QY(neg:Bool)(x:AV)(K:AV->Prop):Prop:=
 match x with
 | .d (.sl _ _ n _)=> ∀b:Bool,(b=true->n=0)->K (.d (.v (.bool (b !=neg))))
 | .ms _ _ _ n=> ∀b:Bool,(b=true->n=0)->K (.d (.v (.bool (b !=neg))))
 | .d (.v (.slice none _ _))=>K (.d (.v (.bool !neg)))
 |_=>False
def dW(P:Program)(t:TypeId):Bool:=match P.underlying t with|some (.slice _)=>true|_=>false
def dF(P:Program)(gd g:Bool)(f:FuncId)(args:List AV)(s:St)(dst:Option Tmp)(K:St->Prop):Prop:= ∃r,(g=true->aA P f args s.σ r)/\K (s.put dst (qX gd g r))
def XS(P:Program)(f:FuncId)(args:List AV)(σ:List aG)(r:AV):Prop:=
 ∀j w vs,aT w j σ->Rs w j args vs->∃v,(callFunc f vs).run P w= .ok (.value v) w/\R w j r v
def aO(P:Program)(f:FuncId)(args:List AV)(s:St)(dst:Option Tmp)(K:St->Prop):Prop:=(CS P f args s.σ fun r σ' X=>K ((s.after σ' X).put dst r))\/∃r,XS P f args s.σ r/\K (s.put dst r)
theorem dF.mk{P:Program}{gd g:Bool}{f:FuncId}{args:List AV}{s:St}{dst:Option Tmp}{K:St->Prop}{r:AV}(h:aA P f args s.σ r)(hK:K (s.put dst (qX gd g r))):dF P gd g f args s dst K:=⟨r,fun _=>h,hK⟩
theorem dF.mk'{P:Program}{gd g:Bool}{f:FuncId}{args:List AV}{s:St}{dst:Option Tmp}{K:St->Prop}(r:AV)(h:g=true->aA P f args s.σ r)(hK:K (s.put dst (qX gd g r))):dF P gd g f args s dst K:=⟨r,h,hK⟩
theorem aO.mk{P:Program}{f:FuncId}{args:List AV}{s:St}{dst:Option Tmp}{K:St->Prop}{r:AV}(h:aA P f args s.σ r)(hK:K (s.put dst r)):aO P f args s dst K:= .inl (h.cs hK)
theorem aO.ext{P:Program}{f:FuncId}{args:List AV}{s:St}{dst:Option Tmp}{K:St->Prop}{r:AV}(h:XS P f args s.σ r)(hK:K (s.put dst r)):aO P f args s dst K:= .inr ⟨r,h,hK⟩
theorem aO.gen{P:Program}{f:FuncId}{args:List AV}{s:St}{dst:Option Tmp}{K:St->Prop}{Q:AV->List aG->List Nat->Prop}(h:CS P f args s.σ Q)(hK: ∀r σ' X,Q r σ' X->K ((s.after σ' X).put dst r)):aO P f args s dst K:= .inl (h.mono hK)
theorem CSg_congr{P:Program}{gd g g':Bool}{f:FuncId}{args args':List AV}{s s':St}{dst:Option Tmp}{K:St->Prop}(hg:g=g')(ha:args=args')(hs:s=s'):dF P gd g f args s dst K=dF P gd g' f args' s' dst K:=by rw[hg,ha,hs]
theorem CSk_congr{P:Program}{f:FuncId}{args args':List AV}{s s':St}{dst:Option Tmp}{K:St->Prop}(ha:args=args')(hs:s=s'):aO P f args s dst K=aO P f args' s' dst K:=by rw[ha,hs]
def YS(P:Program)(b:Nat)(args:List AV)(σ:List aG)(Q:AV->List aG->List Nat->Prop):Prop:=
 ∀(rd:Option Nat) j w vs cb,aT w j σ->Rs w j args vs->j[b]? =some (some cb)->
  ∃fn tmps assign body,(Instr.yield cb vs).run P w= .ok (.round cb fn tmps assign body) w/\RoundIn (FW rd) 0 P cb fn tmps assign body w fun e w'=>
   ∃v r σ' j' X,e= .returned v/\aT w' j' σ'/\R w' j' r v/\Ev j w j' w'/\j.length<=j'.length/\Ag j j' X/\Q r σ' X
theorem YS.mono{P:Program}{b:Nat}{args:List AV}{σ:List aG}{Q Q':AV->List aG->List Nat->Prop}(h:YS P b args σ Q)(hq: ∀r σ' X,Q r σ' X->Q' r σ' X):YS P b args σ Q':=
 fun rd j w vs cb h1 h2 h3=>by
  obtain⟨fn,tmps,as,bd,h4,h5⟩:=h rd j w vs cb h1 h2 h3;exact⟨fn,tmps,as,bd,h4,h5.mono fun _ _ ⟨v,r,σ',j',X,he,a,b,c,d,e,q⟩=>⟨v,r,σ',j',X,he,a,b,c,d,e,hq _ _ _ q⟩⟩
def YSk(P:Program)(b:Nat)(args:List AV)(s:St)(dst:Option Tmp)(K:St->Prop):Prop:=YS P b args s.σ fun r σ' X=>K ((s.after σ' X).put dst r)
def CSe(P:Program)(g:Bool)(f:FuncId)(args:List AV)(s:St)(dst:Option Tmp)(K:St->Prop):Prop:= ∃r0,(g=true->aO P f args s dst K)/\(g=false->K (s.put dst (.iff false r0)))
def fM(P:Program)(g:Bool)(f:FuncId)(args:List AV)(s:St)(dst:Option Tmp)(K:St->Prop):Prop:=dF P true g f args s dst K\/CSe P g f args s dst K
def YSe(P:Program)(g:Bool)(b:Nat)(args:List AV)(s:St)(dst:Option Tmp)(K:St->Prop):Prop:= ∃r0,(g=true->YSk P b args s dst K)/\(g=false->K (s.put dst (.iff false r0)))
theorem fM.mk{P:Program}{g:Bool}{f:FuncId}{args:List AV}{s:St}{dst:Option Tmp}{K:St->Prop}{r:AV}(h:aA P f args s.σ r)(hK:K (s.put dst (qX true g r))):fM P g f args s dst K:= .inl (dF.mk h hK)
theorem fM.mk'{P:Program}{g:Bool}{f:FuncId}{args:List AV}{s:St}{dst:Option Tmp}{K:St->Prop}(r:AV)(h:g=true->aA P f args s.σ r)(hK:K (s.put dst (qX true g r))):fM P g f args s dst K:= .inl (dF.mk' r h hK)
theorem YSk.gen{P:Program}{b:Nat}{args:List AV}{s:St}{dst:Option Tmp}{K:St->Prop}{Q:AV->List aG->List Nat->Prop}(h:YS P b args s.σ Q)(hK: ∀r σ' X,Q r σ' X->K ((s.after σ' X).put dst r)):YSk P b args s dst K:=h.mono hK
theorem CSm_congr{P:Program}{g g':Bool}{f:FuncId}{args args':List AV}{s s':St}{dst:Option Tmp}{K:St->Prop}(hg:g=g')(ha:args=args')(hs:s=s'):fM P g f args s dst K=fM P g' f args' s' dst K:=by rw[hg,ha,hs]
theorem YSk_congr{P:Program}{b:Nat}{args args':List AV}{s s':St}{dst:Option Tmp}{K:St->Prop}(ha:args=args')(hs:s=s'):YSk P b args s dst K=YSk P b args' s' dst K:=by rw[ha,hs]
theorem YSe_congr{P:Program}{g g':Bool}{b:Nat}{args args':List AV}{s s':St}{dst:Option Tmp}{K:St->Prop}(hg:g=g')(ha:args=args')(hs:s=s'):YSe P g b args s dst K=YSe P g' b args' s' dst K:=by rw[hg,ha,hs]
def JY:AV->AV
 | .d (.v (.func (.func f) a b))=> .clo (.func f) (a.toList.map fun v=> .d (.v v)) (b.toList.map fun v=> .d (.v v))
 |x=>x
theorem VK{g:Bool}{s:St}{x:Operand}{av:AV}(h:Arg g s x av):Arg g s x (JY av):=by
 unfold JY;split
 ·rename_i f a b;intro hg j0 j u w hr;have:=h hg j0 j u w hr;rw[lM this];have key: ∀(c:Array Value) (k:Nat),k<(c.toList.map fun v=>AV.d (.v v)).length->R w j ((c.toList.map fun v=>AV.d (.v v)).getD k .undef) (c.getD k Go.undef):=by
   intro c k hk;simp only[List.length_map,Array.length_toList] at hk;have e:(c.toList.map fun v=>AV.d (.v v)).getD k .undef= .d (.v (c.getD k Go.undef)):=by
    simp[List.getD_eq_getElem?_getD,Array.getD_eq_getD_getElem?,hk]
   rw[e];exact .d (.v _)
  exact .clo a b (by simp) (by simp) (key a) (key b)
 ·exact h
theorem asClo_clo(f:FuncId)(x y:List AV):JY (.clo (.func f) x y)= .clo (.func f) x y:=rfl
theorem asClo_yld(b:Nat):JY (.zL b)= .zL b:=rfl
theorem asClo_v(f:FuncId):JY (.d (.v (.func (.func f) #[] #[])))= .clo (.func f) [] []:=rfl
theorem asClo_v2(f:FuncId)(p q:Value):JY (.d (.v (.func (.func f) #[] #[p,q])))= .clo (.func f) [] [.d (.v p),.d (.v q)]:=rfl
def WY(P:Program)(dr gd g:Bool)(o:Oper)(s:St)(K:St->Prop):Prop:=
 match o.op with
 | .box t x=>xY dr gd g o s K fun K=>arg true s x fun a=>jU (cellsOf a)=true/\K ((s.newVar (cellsOf a)).put o.dst (.ptr s.σ.length 0))
 | .alloc t=>xY dr gd g o s K fun K=>match dN P t with
  |some z=>K ((s.newVar (z.map fun v=> .d (.v v))).put o.dst (.ptr s.σ.length 0))
  |none=>False
 | .store t p v=>xY dr gd g o s K fun K=>arg true s p fun p=>arg true s v fun v=>uy P t s p v fun s'=>K (s'.put o.dst .undef)
 | .buildSlice t len ps=>wU g s ps.toList fun parts=>fE P t len parts fun av=>K (s.put o.dst (qX gd g av))
 | .makeMap t r=>xY dr gd g o s K fun K=>match AQ P t with
  |some (d,_)=>(match r with
   |none=>K ((s.after (s.σ++[.mp d [] fun _=> .undef]) []).put o.dst (.mp s.σ.length))
   |some x=>arg true s x fun
    | .d (.v (.int _ _))=>K ((s.after (s.σ++[.mp d [] fun _=> .undef]) []).put o.dst (.mp s.σ.length))
    |_=>False)
  |none=>False
 | .mapUpdate t m k v=>xY dr gd g o s K fun K=>arg true s m fun m=>arg true s k fun k=>arg true s v fun v=>updA P t s.σ m k v fun σ'=>K ((s.after σ' []).put o.dst .undef)
 | .insert t m k v=>xY dr gd g o s K fun K=>arg true s m fun m=>arg true s k fun k=>arg true s v fun v=>updA P t s.σ m k v fun σ'=>K ((s.after σ' []).put o.dst .undef)
 | .mapEntry t m k=>xY dr gd g o s K fun K=>arg true s m fun m=>arg true s k fun k=>entA P t s.σ m k fun r σ'=>K ((s.after σ' []).put o.dst r)
 | .entryStore t m k v=>xY dr gd g o s K fun K=>arg true s m fun m=>arg true s k fun k=>arg true s v fun v=>estA s.σ m k v fun σ'=>K ((s.after σ' []).put o.dst .undef)
 | .range t x=>xY dr gd g o s K fun K=>arg true s x fun m=>rangeA P t s.σ m fun b σ'=>K ((s.after σ' [b]).put o.dst (.ptr b 0))
 | .next x false=>xY dr gd g o s K fun K=>arg true s x fun a=>nextA s.σ a fun r σ'=>K ((s.after σ' []).put o.dst r)
 | .makeSlice t l c=>xY dr gd g o s K fun K=>arg true s l fun
  | .d (.v (.int _ l))=>arg true s c fun
   | .d (.v (.int _ c))=>makeA P s.σ t l c fun r σ'=>K ((s.after σ' []).put o.dst r)
   |_=>False
  |_=>False
 | .convert src dst x=>(match nM P dst with
  |some e=>xY dr gd g o s K fun K=>qY P src=true/\arg true s x fun
   | .d (.v (.string b))=>K ((s.after (s.σ++[.arr 1 b.size (strRow b)]) []).put o.dst (.ms s.σ.length 1 0 b.size))
   |_=>False
  |none=>pv P g s (.convert src dst x) fun av=>K (s.put o.dst (qX gd g av)))
 | .binOp op t x y ty=>if dW P t then xY dr gd g o s K fun K=>(match op,y with
   | .eql,.const (.slice none 0 0)=>arg true s x fun a=>QY false a fun r=>K (s.put o.dst r)
   | .neq,.const (.slice none 0 0)=>arg true s x fun a=>QY true a fun r=>K (s.put o.dst r)
   |_,_=>False)
  else pv P g s (.binOp op t x y ty) fun av=>K (s.put o.dst (qX gd g av))
 | .call c=>match c.callee with
  | .builtin b=>match b with
   | .append=>(match dr with
    |true=>(match c.args.toList,c.argTypes.toList with
     |[x,y],[t,t']=>arg g s x fun x=>arg g s y fun y=>wI P s.σ t t' x y fun av=>K (s.put o.dst (qX gd g av))
     |_,_=>False)
    |false=>xY false gd g o s K fun K=>(match c.args.toList,c.argTypes.toList with
     |[x,y],[t,t']=>arg true s x fun x=>arg true s y fun y=>Eo P s.σ t t' x y fun r σ' X=>K ((s.after σ' X).put o.dst r)
     |_,_=>False))
   | .copy=>xY dr gd g o s K fun K=>(match c.args.toList,c.argTypes.toList with
    |[x,y],[t,t']=>arg true s x fun x=>arg true s y fun y=>copyA P s.σ t x y fun r σ'=>K ((s.after σ' []).put o.dst r)
    |_,_=>False)
   | .clear=>xY dr gd g o s K fun K=>(match c.args.toList,c.argTypes.toList with
    |[x],[t]=>arg true s x fun x=>XU P t s.σ x fun σ'=>K ((s.after σ' []).put o.dst (.eU []))
    |_,_=>False)
   |_=>pv P g s (.call c) fun av=>K (s.put o.dst (qX gd g av))
  | .value f=>arg g s f fun fa=>match JY fa with
   | .clo (.func fid) first captured=>args g s c.args.toList fun as=>
    (match dr with
    |true=>dF P gd g fid (first++(as++captured)) s o.dst K
    |false=>match gd with
     |true=>fM P g fid (first++(as++captured)) s o.dst K
     |false=>aO P fid (first++(as++captured)) s o.dst K)
   | .zL b=>args g s c.args.toList fun as=>
    (match dr with
    |true=>False
    |false=>match gd with
     |true=>YSe P g b as s o.dst K
     |false=>YSk P b as s o.dst K)
   |_=>False
  | .invoke _ _=>False
 |op=>pv P g s op fun av=>K (s.put o.dst (qX gd g av))
def bH(P:Program)(dr:Bool)(all:List Oper):List Oper->St->(St->Prop)->Prop
 |[],s,K=>K s
 |o::os,s,K=>jQ all s o fun gd g=>WY P dr gd g o s fun s'=>bH P dr all os s' K
def Rest(P:Program)(dr:Bool)(all os:List Oper)(K:St->Prop)(s:St):Prop:=bH P dr all os s K
theorem aay(P:Program)(dr:Bool)(all:List Oper)(s:St)(K:St->Prop):bH P dr all [] s K=K s:=rfl
theorem Xt(P:Program)(dr:Bool)(all os:List Oper)(o:Oper)(s:St)(K:St->Prop):bH P dr all (o::os) s K=jQ all s o fun gd g=>WY P dr gd g o s (Rest P dr all os K):=rfl
theorem Rest_mk(P:Program)(dr:Bool)(all os:List Oper)(K:St->Prop)(N:Nat)(t:List (Nat×AV))(σ:List aG)(mv:List Nat):Rest P dr all os K ⟨N,t,σ,mv⟩=bH P dr all os ⟨N,t,σ,mv⟩ K:=rfl
def Runs(P:Program)(o:Oper)(s:St)(K:St->Prop):Prop:=
 ∀(j0:J0) j a w (next:Act->World->Prop) (Q:Exit->Act->World->Prop),Rel j0 s j a w->(∀s' j' a' w',Rel j0 s' j' a' w'->Ev j w j' w'->K s'->next a' w')->o.wpIn (FW j0.rd) 0 P a w next Q
theorem xg{rd:Option Nat}{P:Program}{o:Oper}{a:Act}{w w':World}{next:Act->World->Prop}{Q:Exit->Act->World->Prop}{r:Next}(hd: ∀c,o.op≠.defer c)(h:(execOp a.eval o).run P w= .ok r w')(hn:o.uponIn (FW rd) 0 P a next Q (.ok r w')):o.wpIn (FW rd) 0 P a w next Q:=
 ⟨fun _ _=>trivial,by rw[Oper.semAt_eq _ _ _ hd,h];exact hn⟩
theorem Wu{P:Program}{o:Oper}{s:St}{K:St->Prop}{av:AV}{gd g:Bool}(hd: ∀c,o.op≠.defer c)(hg:g=true)(h:DN P g s o.op av)(hK:K (s.put o.dst (qX gd g av))):Runs P o s K:=by
 intro j0 j a w next Q hr hn
 obtain⟨v,h1,h2⟩:=h hg j0 j a w o rfl hr;refine xg hd h1 ?_;refine hn _ j _ w (hr.put o.dst ?_) (.refl _ _) hK;cases gd with
 |false=>exact h2
 |true=>exact .iff (fun _=>h2) (fun hf=>by rw[hg] at hf;cases hf)
theorem effG_sound{P:Program}{dr gd g:Bool}{o:Oper}{s:St}{K:St->Prop}{E:(St->Prop)->Prop}(h:xY dr gd g o s K E)(hgd:gd=false->g=true)(hE:E K->Runs P o s K):(g=true->Runs P o s K)/\(g=false->K (s.del o.dst)):=by
 unfold xY at h;obtain⟨_,h⟩:=h;cases gd with
 |false=>exact⟨fun _=>hE h,fun hf=>by rw[hgd rfl] at hf;cases hf⟩
 |true=>exact⟨fun hg=>hE (h.1 hg),h.2⟩
def Skips(o:Oper)(s:St)(K:St->Prop):Prop:= ∃s',K s'/\∀j0 j a w,Rel j0 s j a w->Rel j0 s' j (a.put o.dst Go.undef) w
theorem skips_del{o:Oper}{s:St}{K:St->Prop}(h:K (s.del o.dst)):Skips o s K:=⟨_,h,fun _ _ _ _ hr=>hr.del o.dst Go.undef⟩
theorem FK{o:Oper}{s:St}{K:St->Prop}{gd g:Bool}{av:AV}(hgd:gd=false->g=true)(hg:g=false)(h:K (s.put o.dst (qX gd g av))):Skips o s K:=by
 cases gd with
 |false=>rw[hgd rfl] at hg;cases hg
 |true=>exact⟨_,h,fun _ _ _ _ hr=>hr.put o.dst (.iff (fun ht=>by rw[hg] at ht;cases ht) (fun _=>rfl))⟩
theorem sH{P:Program}{f:FuncId}(h:dX P f=true)(args:Array Value)(w:World):(callFunc f args).run P w= .ok (.enter f args) w:=by
 unfold dX at h;split at h
 ·rename_i fn hf;simp only[Bool.and_eq_true,Bool.not_eq_true',Option.isSome_iff_ne_none,ne_eq] at h;have h1 : fn.name ≠ "runtime.NumGoroutine" := by simpa using h.2
  have h2:fn.body.isNone=false:=by
   cases hb:fn.body with
   |none=>simp[hb] at h
   |some c=>rfl
  simp[callFunc,hf,h1];intro hn;exact absurd hn h.1
 ·simp at h
theorem SV{P:Program}{w:World}{a:Act}{o:Oper}{c:Call}{f:Operand}{fid:FuncId}{ff cc:Array Value}(ho:o.op= .call c)(hc:c.callee= .value f)(hf:a.eval f= .func (.func fid) ff cc)(hen:dX P fid=true):
  (execOp a.eval o).run P w= .ok (.enter fid (ff++c.args.map a.eval++cc)) w:=by
 simp only[execOp,ho,resolve,hc,hf,Deferred.ofValue];simp[invoke,sH hen]
theorem nX{w:World}{j:Js}{xs ys:List AV}{us vs:Array Value}(h1:Rs w j xs us)(h2:Rs w j ys vs):Rs w j (xs++ys) (us++vs):=by
 refine⟨by simp[h1.1,h2.1],fun k hk=> ?_⟩;simp only[List.length_append] at hk;simp only[List.getD_eq_getElem?_getD,List.getElem?_append,Array.getD_eq_getD_getElem?,Array.getElem?_append,h1.1];by_cases hk1:k<xs.length
 ·have:=h1.2 k hk1;simp only[hk1,if_true];simpa[List.getD_eq_getElem?_getD,Array.getD_eq_getD_getElem?] using this
 ·have:=h2.2 (k-xs.length) (by omega);simp only[hk1,if_false];simpa[List.getD_eq_getElem?_getD,Array.getD_eq_getD_getElem?] using this
theorem Hw{g:Bool}(hg:g=true){s:St}{xs:List Operand}{as:List AV}(hl:as.length=xs.length)(h: ∀k,k<xs.length->Arg g s (xs.getD k (.const Go.undef)) (as.getD k .undef)){j0:J0}{j:Js}{a:Act}{w:World}(hr:Rel j0 s j a w):Rs w j as (xs.map a.eval).toArray:=by
 refine⟨by simp[hl],fun k hk=> ?_⟩;have hk':k<xs.length:=by omega
 have:=h k hk' hg j0 j a w hr;simpa[List.getD_eq_getElem?_getD,Array.getD_eq_getD_getElem?,hk'] using this
theorem UJ{P:Program}{o:Oper}{s:St}{K:St->Prop}{c:Call}{f:Operand}{fid:FuncId}{first captured as:List AV}{g:Bool}(hg:g=true)(ho:o.op= .call c)(hc:c.callee= .value f)(hf:Arg g s f (.clo (.func fid) first captured))
  (hl:as.length=c.args.toList.length) (ha: ∀k,k<c.args.toList.length->Arg g s (c.args.toList.getD k (.const Go.undef)) (as.getD k .undef))
  (gd:Bool) (h:CS P fid (first++(as++captured)) s.σ fun r σ' X=>K ((s.after σ' X).put o.dst (qX gd g r))):Runs P o s K:=by
 intro j0 j a w next Q hr hn
 have h1:=hf hg j0 j a w hr;have hen:=h.1;generalize hv:a.eval f=u at h1
 cases h1 with
 |clo ff cc h2 h3 h4 h5=>
  refine xg (by simp[ho]) (SV (P:=P) (w:=w) ho hc hv hen) ?_;refine⟨by simp[FW],Ko ?_⟩;have hrs:Rs w j (first++as++captured) (ff++c.args.map a.eval++cc):=by
   refine nX (nX ⟨h2,h4⟩ ?_) ⟨h3,h5⟩;have:=Hw hg hl ha hr;have e:(c.args.toList.map a.eval).toArray=c.args.map a.eval:=by apply Array.ext';simp
   rwa [e] at this
  rw[List.append_assoc] at hrs;refine(h.2 j w _ hr.dA hrs).mono ?_;rintro e w' ⟨v,r,σ',j',X,rfl,h6,h7,h8,h9,h10,h11⟩;refine hn _ j' _ w' ((hr.after h8 h6 h9 h10).put o.dst ?_) h8 h11;cases gd with
  |false=>exact h7
  |true=>exact .iff (fun _=>h7) (fun hf=>by rw[hg] at hf;cases hf)
theorem Qy{P:Program}{o:Oper}{s:St}{K:St->Prop}{c:Call}{f:Operand}{fid:FuncId}{first captured as:List AV}{g:Bool}(hg:g=true)(ho:o.op= .call c)(hc:c.callee= .value f)(hf:Arg g s f (.clo (.func fid) first captured))
  (hl:as.length=c.args.toList.length) (ha: ∀k,k<c.args.toList.length->Arg g s (c.args.toList.getD k (.const Go.undef)) (as.getD k .undef))
  (h:aO P fid (first++(as++captured)) s o.dst K):Runs P o s K:=by
 rcases h with h|⟨r,hx,hK⟩
 ·exact UJ hg ho hc hf hl ha false h
 ·intro j0 j a w next Q hr hn
  have h1:=hf hg j0 j a w hr;generalize hv:a.eval f=u at h1
  cases h1 with
  |clo ff cc h2 h3 h4 h5=>
   have hrs:Rs w j (first++as++captured) (ff++c.args.map a.eval++cc):=by
    refine nX (nX ⟨h2,h4⟩ ?_) ⟨h3,h5⟩;have:=Hw hg hl ha hr;have e:(c.args.toList.map a.eval).toArray=c.args.map a.eval:=by apply Array.ext';simp
    rwa [e] at this
   rw[List.append_assoc] at hrs;obtain⟨v,g1,g2⟩:=hx j w _ hr.dA hrs;have hrun:(execOp a.eval o).run P w= .ok (.value v) w:=by
    rw[Array.append_assoc] at g1;simp only[execOp,ho,resolve,hc,hv,Deferred.ofValue];simp[invoke,g1]
   refine xg (by simp[ho]) hrun ?_;exact hn _ j _ w (hr.put o.dst g2) (.refl _ _) hK
theorem yield_run{P:Program}{w w':World}{a:Act}{o:Oper}{c:Call}{f:Operand}{cb:Nat}{x:Next}(ho:o.op= .call c)(hc:c.callee= .value f)(hf:a.eval f= .func (.yield cb) #[] #[])(h:(Instr.yield cb (c.args.map a.eval)).run P w= .ok x w'):
  (execOp a.eval o).run P w= .ok x w':=by
 simp only[execOp,ho,resolve,hc,hf,Deferred.ofValue];simp[invoke,h]
theorem Qx{P:Program}{o:Oper}{s:St}{K:St->Prop}{c:Call}{f:Operand}{b:Nat}{as:List AV}{g:Bool}(hg:g=true)(ho:o.op= .call c)(hc:c.callee= .value f)(hf:Arg g s f (.zL b))
  (hl:as.length=c.args.toList.length) (ha: ∀k,k<c.args.toList.length->Arg g s (c.args.toList.getD k (.const Go.undef)) (as.getD k .undef)) (h:YSk P b as s o.dst K):Runs P o s K:=by
 intro j0 j a w next Q hr hn
 have h1:=hf hg j0 j a w hr;generalize hv:a.eval f=u at h1
 cases h1 with
 | @zL _ cb hb=>
  have hrs:=Hw hg hl ha hr;have e:(c.args.toList.map a.eval).toArray=c.args.map a.eval:=by apply Array.ext';simp
  rw[e] at hrs;obtain⟨fn,tmps,asg,bd,h2,h3⟩:=h j0.rd j w _ cb hr.dA hrs hb;refine xg (by simp[ho]) (yield_run ho hc hv h2) ?_;refine⟨by simp[FW],?_⟩;refine h3.mono ?_;rintro e w' ⟨v,r,σ',j',X,rfl,h6,h7,h8,h9,h10,h11⟩;exact hn _ j' _ w' ((hr.after h8 h6 h9 h10).put o.dst h7) h8 h11
theorem UF{o:Oper}{s:St}{K:St->Prop}{r:AV}(h:K (s.put o.dst (.iff false r))):Skips o s K:=
 ⟨_,h,fun _ _ _ _ hr=>hr.put o.dst (.iff (fun ht=>by cases ht) (fun _=>rfl))⟩
theorem S9{P:Program}{o:Oper}{g:Bool}{s:St}{t:TypeId}{len:Nat}{ps:Array (Nat×Operand)}{parts:List (Nat×AV)}{K:AV->Prop}{j0:J0}{j:Js}{a:Act}{w:World}(ho:o.op= .buildSlice t len ps)(hg:g=true)(hr:Rel j0 s j a w)
  (h:fE P t len parts K) (hl:parts.length=ps.toList.length) (hp: ∀k,k<ps.toList.length->(parts.getD k (0,.undef)).1=(ps.toList.getD k (0,.const Go.undef)).1/\Arg g s (ps.toList.getD k (0,.const Go.undef)).2 (parts.getD k (0,.undef)).2):
  ∃v w' r,(execOp a.eval o).run P w= .ok (.value v) w'/\aT w' j s.σ/\R w' j r v/\Ev j w j w'/\K r:=by
 obtain⟨v,w',r,h1,h2,h3,h4,h5⟩:=LK (P:=P) (vals:=ps.toList.map fun p=>(p.1,a.eval p.2)) hr.dA h (by simpa using hl) (fun k hk=>by
  have hk':k<ps.toList.length:=by rw[←hl];exact hk
  have:=hp k hk';have e:(ps.toList.map fun p=>(p.1,a.eval p.2)).getD k (0,Go.undef)=((ps.toList.getD k (0,.const Go.undef)).1,a.eval (ps.toList.getD k (0,.const Go.undef)).2):=by
   have hk2:k<ps.size:=by simpa using hk'
   simp[List.getD_eq_getElem?_getD,hk2]
  rw[e];exact⟨this.1,this.2 hg j0 j a w hr⟩)
 have e:(ps.toList.map fun p=>(p.1,a.eval p.2)).toArray=ps.map fun(i,x)=>(i,a.eval x):=by
  apply Array.ext';simp
 rw[e] at h1;exact⟨v,w',r,by simp only[execOp,ho];exact iI h1,h2,h3,h4,h5⟩
theorem Eb{P:Program}{gd g:Bool}{o:Oper}{s:St}{K:St->Prop}(h:WY P false gd g o s K)(hgd:gd=false->g=true):(g=true->Runs P o s K)/\(g=false->Skips o s K):=by
 have eff: ∀{E:(St->Prop)->Prop},xY false gd g o s K E->(E K->Runs P o s K)->(g=true->Runs P o s K)/\(g=false->Skips o s K):=by
  intro E he hE;have:=effG_sound (P:=P) he hgd hE;exact⟨this.1,fun hg=>skips_del (this.2 hg)⟩
 have E8: ∀{op:Op},o.op=op->pv P g s op (fun av=>K (s.put o.dst (qX gd g av)))->(g=true->Runs P o s K)/\(g=false->Skips o s K):=by
  intro op ho hp;have hd:=QI hp;obtain⟨av,h1,h2⟩:=QH hp;rw[←ho] at h2 hd;exact⟨fun hg=>Wu hd hg h2 h1,fun hg=>FK hgd hg h1⟩
 unfold WY at h;split at h
 ·
  rename_i t x ho;refine eff h fun h=> ?_;obtain⟨av,h,hx⟩:=aB h;obtain⟨hone,hK⟩:=h;intro j0 j a w next Q hr hn
  have h1:=hx rfl j0 j a w hr;obtain⟨h2,h3⟩:=Dx h1 hone;obtain⟨g1,g2,g3⟩:=hr.newVar (a.eval x).cells t h2 (fun k hk=>(h3 k hk).1);have hrun:(execOp a.eval o).run P w= .ok (.value (.pointer (some ⟨w.heap.size,0,none⟩))) (w.alloc (.cells (a.eval x).cells t)):=by
   simp[execOp,ho,Instr.box,Go.newVar,newRow]
  refine xg (by simp[ho]) hrun ?_;exact hn _ _ _ _ (g1.put o.dst g3) g2 hK
 ·
  rename_i t ho;refine eff h fun h=> ?_;split at h
  ·rename_i z hz;intro j0 j a w next Q hr hn
   have hz': ∃i zz,P.info? t=some i/\i.zero=some zz/\zz.cells.toList=z:=by
    unfold dN at hz;split at hz
    ·rename_i i hi;split at hz
     ·rename_i zz hzz;simp only[Option.some.injEq] at hz;exact⟨i,zz,hi,hzz,hz⟩
     ·simp at hz
    ·simp at hz
   obtain⟨i,zz,hi,hzz,rfl⟩:=hz';obtain⟨g1,g2,g3⟩:=hr.newVar (cs:=zz.cells.toList.map fun v=> .d (.v v)) zz.cells t (by simp) (fun k hk=>by
    simp only[List.length_map,Array.length_toList] at hk;have e1:(zz.cells.toList.map fun v=>AV.d (.v v)).getD k .undef= .d (.v (zz.cells.getD k Go.undef)):=by
     simp[List.getD_eq_getElem?_getD,Array.getD_eq_getD_getElem?,hk]
    rw[e1];exact .d (.v _))
   have hrun:(execOp a.eval o).run P w= .ok (.value (.pointer (some ⟨w.heap.size,0,none⟩))) (w.alloc (.cells zz.cells t)):=by
    simp[execOp,ho,Instr.alloc,zeroValue,typeInfo,hi,hzz,Go.newVar,newRow]
   refine xg (by simp[ho]) hrun ?_;exact hn _ _ _ _ (g1.put o.dst g3) g2 h
  ·exact h.elim
 ·
  rename_i t p v ho;refine eff h fun h=> ?_;obtain⟨pa,h,hp⟩:=aB h;obtain⟨va,h,hv⟩:=aB h;unfold uy at h;split at h
  ·rename_i agg m ht;obtain⟨hone,hlen,h⟩:=h;split at h
   ·rename_i side σ' hst;obtain⟨hside,hK⟩:=h;intro j0 j a w next Q hr hn
    obtain⟨w',h1,h2,h3⟩:=BD (P:=P) hr.dA ht (hp rfl j0 j a w hr) (hv rfl j0 j a w hr) hone hlen hst hside;have hrun:(execOp a.eval o).run P w= .ok .skip w':=by simp[execOp,ho,h1]
    refine xg (by simp[ho]) hrun ?_;have:=hr.after h3 h2 (Nat.le_refl _) (.refl _ []);exact hn _ _ _ _ (this.put o.dst (.undef _)) h3 hK
   ·exact h.elim
  ·exact h.elim
 ·
  rename_i t len ps ho;obtain⟨parts,h,hl,hp⟩:=oV h;refine⟨fun hg=> ?_,fun hg=> ?_⟩
  ·intro j0 j a w next Q hr hn
   obtain⟨v,w',r,h1,h2,h3,h4,h5⟩:=S9 (P:=P) ho hg hr h hl hp;refine xg (by simp[ho]) h1 ?_;have:=hr.after h4 h2 (Nat.le_refl _) (.refl _ []);refine hn _ _ _ _ (this.put o.dst ?_) h4 h5;cases gd with
   |false=>exact h3
   |true=>exact .iff (fun _=>h3) (fun hf=>by rw[hg] at hf;cases hf)
  ·obtain⟨av,h⟩:=SX h;exact FK hgd hg h
 ·
  rename_i t r ho;refine eff h fun h=> ?_;split at h
  ·rename_i d z ht;have fin:(K ((s.after (s.σ++[.mp d [] fun _=> .undef]) []).put o.dst (.mp s.σ.length)))->∀(hr0: ∀(a:Act) (w:World) j0 j,Rel j0 s j a w->(execOp a.eval o).run P w= .ok (.value (.map (some w.heap.size))) (w.alloc (.map #[] 0))),Runs P o s K:=by
    intro hK hrun j0 j a w next Q hr hn
    obtain⟨h1,h2,h3⟩:=Zz hr.dA d;refine xg (by simp[ho]) (hrun a w j0 j hr) ?_;exact hn _ _ _ _ ((hr.after h2 h1 (by simp) (dw _ _)).put o.dst h3) h2 hK
   obtain⟨kt,et,kd,zz,g1,g2,g3,g4,g5⟩:=ug ht;split at h
   ·exact fin h fun a w j0 j hr=>by simp[execOp,ho,Instr.makeMap]
   ·obtain⟨xa,h,hx⟩:=aB h;split at h
    ·refine fin h fun a w j0 j hr=> ?_;have h1:=lM (hx rfl j0 j a w hr);simp[execOp,ho,Instr.makeMap,h1,run_underlying g1,asInt,asIntOf,Result.andThen]
    ·exact h.elim
  ·exact h.elim
 ·
  rename_i t m k v ho;refine eff h fun h=> ?_;obtain⟨ma,h,hm⟩:=aB h;obtain⟨ka,h,hk⟩:=aB h;obtain⟨va,h,hv⟩:=aB h;intro j0 j a w next Q hr hn
  obtain⟨w',σ',h1,h2,h3,h4⟩:=Ux (P:=P) hr.dA h (hm rfl j0 j a w hr) (hk rfl j0 j a w hr) (hv rfl j0 j a w hr);have hrun:(execOp a.eval o).run P w= .ok .skip w':=by simp[execOp,ho,h1]
  refine xg (by simp[ho]) hrun ?_;exact hn _ _ _ _ ((hr.after h3 h2 (Nat.le_refl _) (.refl _ [])).put o.dst (.undef _)) h3 h4
 ·
  rename_i t m k v ho;refine eff h fun h=> ?_;obtain⟨ma,h,hm⟩:=aB h;obtain⟨ka,h,hk⟩:=aB h;obtain⟨va,h,hv⟩:=aB h;intro j0 j a w next Q hr hn
  obtain⟨w',σ',h1,h2,h3,h4⟩:=Ux (P:=P) hr.dA h (hm rfl j0 j a w hr) (hk rfl j0 j a w hr) (hv rfl j0 j a w hr);have hrun:(execOp a.eval o).run P w= .ok .skip w':=by simp[execOp,ho,h1]
  refine xg (by simp[ho]) hrun ?_;exact hn _ _ _ _ ((hr.after h3 h2 (Nat.le_refl _) (.refl _ [])).put o.dst (.undef _)) h3 h4
 ·
  rename_i t m k ho;refine eff h fun h=> ?_;obtain⟨ma,h,hm⟩:=aB h;obtain⟨ka,h,hk⟩:=aB h;intro j0 j a w next Q hr hn
  obtain⟨v,w',r,σ',h1,h2,h3,h4,h5⟩:=Vs (P:=P) hr.dA h (hm rfl j0 j a w hr) (hk rfl j0 j a w hr);have hrun:(execOp a.eval o).run P w= .ok (.value v) w':=by
   simp only[execOp,ho];exact iI h1
  refine xg (by simp[ho]) hrun ?_;exact hn _ _ _ _ ((hr.after h4 h2 (Nat.le_refl _) (.refl _ [])).put o.dst h3) h4 h5
 ·
  rename_i t m k v ho;refine eff h fun h=> ?_;obtain⟨ma,h,hm⟩:=aB h;obtain⟨ka,h,hk⟩:=aB h;obtain⟨va,h,hv⟩:=aB h;intro j0 j a w next Q hr hn
  obtain⟨w',σ',h1,h2,h3,h4⟩:=Vq (P:=P) (t:=t) hr.dA h (hm rfl j0 j a w hr) (hk rfl j0 j a w hr) (hv rfl j0 j a w hr);have hrun:(execOp a.eval o).run P w= .ok .skip w':=by simp[execOp,ho,h1]
  refine xg (by simp[ho]) hrun ?_;exact hn _ _ _ _ ((hr.after h3 h2 (Nat.le_refl _) (.refl _ [])).put o.dst (.undef _)) h3 h4
 ·
  rename_i t x ho;refine eff h fun h=> ?_;obtain⟨xa,h,hx⟩:=aB h;unfold rangeA at h;split at h
  ·rename_i b;split at h
   ·rename_i d ks f hb;split at h
    ·rename_i d' z ht;obtain⟨hd,hK⟩:=h;simp only[beq_iff_eq] at hd;subst hd;intro j0 j a w next Q hr hn
     obtain⟨w',j',h1,h2,h3,h4,h5,h6⟩:=range_run (P:=P) hr.dA hb (hx rfl j0 j a w hr) ht;have hrun:(execOp a.eval o).run P w= .ok (.value (.pointer (some ⟨w.heap.size,0,none⟩))) w':=by
      simp only[execOp,ho];exact iI h1
     refine xg (by simp[ho]) hrun ?_;exact hn _ _ _ _ ((hr.after h3 h2 h4 h5).put o.dst h6) h3 hK
    ·exact h.elim
   ·exact h.elim
  ·rename_i d ks f;split at h
   ·rename_i d' z ht;obtain⟨hd,hK⟩:=h;simp only[beq_iff_eq] at hd;subst hd;intro j0 j a w next Q hr hn
    obtain⟨w',j',h1,h2,h3,h4,h5,h6⟩:=range_runD (P:=P) hr.dA (hx rfl j0 j a w hr) ht;have hrun:(execOp a.eval o).run P w= .ok (.value (.pointer (some ⟨w.heap.size,0,none⟩))) w':=by
     simp only[execOp,ho];exact iI h1
    refine xg (by simp[ho]) hrun ?_;exact hn _ _ _ _ ((hr.after h3 h2 h4 h5).put o.dst h6) h3 hK
   ·exact h.elim
  ·exact h.elim
 ·
  rename_i x ho;refine eff h fun h=> ?_;obtain⟨xa,h,hx⟩:=aB h;unfold nextA at h;split at h
  ·rename_i b;split at h
   ·rename_i left cur f hb;intro j0 j a w next Q hr hn
    obtain⟨q,w',u,h1,h2,h3,h4,h5,h6⟩:=next_run (P:=P) hr.dA hb (hx rfl j0 j a w hr) o.type;have hrun:(execOp a.eval o).run P w= .ok (.value u) w':=by
     simp only[execOp,ho];exact iI h1
    refine xg (by simp[ho]) hrun ?_;exact hn _ _ _ _ ((hr.after h5 h4 (Nat.le_refl _) (.refl _ [])).put o.dst h6) h5 (h q h2 h3)
   ·exact h.elim
  ·exact h.elim
 ·
  rename_i t l c ho;refine eff h fun h=> ?_;obtain⟨la,h,hl⟩:=aB h;split at h
  ·obtain⟨ca,h,hc⟩:=aB h;split at h
   ·intro j0 j a w next Q hr hn
    obtain⟨v,w',j',r,σ',h1,h2,h3,h4,h5,h6,h7⟩:=make_sound (P:=P) hr.dA h;have e1:=lM (hl rfl j0 j a w hr);have e2:=lM (hc rfl j0 j a w hr);have hrun:(execOp a.eval o).run P w= .ok (.value v) w':=by
     simp only[execOp,ho,e1,e2];exact iI h1
    refine xg (by simp[ho]) hrun ?_;exact hn _ _ _ _ ((hr.after h4 h2 h5 h6).put o.dst h3) h4 h7
   ·exact h.elim
  ·exact h.elim
 ·
  rename_i src dst x ho;split at h
  ·rename_i e hbt;refine eff h fun h=> ?_;obtain⟨hst,h⟩:=h;obtain⟨xa,h,hx⟩:=aB h;split at h
   ·rename_i b;intro j0 j a w next Q hr hn
    obtain⟨v,w',h1,h2,h3,h4⟩:=Yu (P:=P) hr.dA hst hbt b;have e1:=lM (hx rfl j0 j a w hr);have hrun:(execOp a.eval o).run P w= .ok (.value v) w':=by
     simp only[execOp,ho,e1];exact iI h1
    refine xg (by simp[ho]) hrun ?_;exact hn _ _ _ _ ((hr.after h4 h2 (by simp) (dw _ _)).put o.dst h3) h4 h
   ·exact h.elim
  ·exact E8 ho h
 ·
  rename_i op t x y ty ho;split at h
  ·rename_i hsl;refine eff h fun h=> ?_;have hu: ∃e,P.underlying t=some (.slice e):=by
    unfold dW at hsl;split at hsl
    ·exact⟨_,by assumption⟩
    ·simp at hsl
   obtain⟨e,hu⟩:=hu;have aaz: ∀(w:World) (p:Option Addr) (n c:Nat),(Op.equal t (.slice p n c) (.slice none 0 0)).run P w= .ok p.isNone w:=by
    intro w p n c;show(Op.equalIn (9999+1) t _ _).run P w=_
    rw[Op.equalIn];cases p<;>simp[underlying,hu]
   have main: ∀(neg:Bool) (hop:op=if neg then .neq else .eql) (hy:y= .const (.slice none 0 0)),(arg true s x fun a=>QY neg a fun r=>K (s.put o.dst r))->Runs P o s K:=by
    intro neg hop hy h;obtain⟨xa,h,hx⟩:=aB h;intro j0 j a w next Q hr hn
    have h1:=hx rfl j0 j a w hr;have hrun: ∀(p:Option Addr) (n c:Nat),a.eval x= .slice p n c->(execOp a.eval o).run P w= .ok (.value (.bool (p.isNone !=neg))) w:=by
     intro p n c hp;subst hy;cases neg with
     |false=>
      simp only[Bool.false_eq_true,if_false] at hop;subst hop;simp only[execOp,ho,hp];have:(do eqGuard .eql t x (.const (.slice none 0 0)) (.slice p n c) (a.eval (.const (.slice none 0 0)));binOp .eql t (.slice p n c) (a.eval (.const (.slice none 0 0))):Sem Value).run P w= .ok (.bool p.isNone) w:=by
       rw[Sem.run_bind,nV (by simp) (by simp)];show(do pure (Value.bool (←Op.equal t (.slice p n c) (.slice none 0 0))):Sem Value).run P w=_
       simp[aaz]
      have:=iI this;simpa using this
     |true=>
      simp only[if_true] at hop;subst hop;simp only[execOp,ho,hp];have:(do eqGuard .neq t x (.const (.slice none 0 0)) (.slice p n c) (a.eval (.const (.slice none 0 0)));binOp .neq t (.slice p n c) (a.eval (.const (.slice none 0 0))):Sem Value).run P w= .ok (.bool !p.isNone) w:=by
       rw[Sem.run_bind,nV (by simp) (by simp)];show(do pure (Value.bool (!(←Op.equal t (.slice p n c) (.slice none 0 0)))):Sem Value).run P w=_
       simp[aaz]
      have:=iI this;simpa using this
    unfold QY at h;split at h
    ·generalize hv:a.eval x=u at h1
     cases h1 with|d h1=>
     cases h1 with
     |sl ad c val hcap hle ha hlt hb hlen hcell hrel=>
      refine xg (by simp[ho]) (hrun _ _ _ hv) ?_;exact hn _ _ _ _ (hr.put o.dst (.d (.v _))) (.refl _ _) (h false (by simp))
     |zero p c hcap hp=>
      refine xg (by simp[ho]) (hrun _ _ _ hv) ?_;exact hn _ _ _ _ (hr.put o.dst (.d (.v _))) (.refl _ _) (h p.isNone (fun _=>rfl))
    ·generalize hv:a.eval x=u at h1
     cases h1 with
     |ms c e m h1 h2 h3 h4=>
      refine xg (by simp[ho]) (hrun _ _ _ hv) ?_;exact hn _ _ _ _ (hr.put o.dst (.d (.v _))) (.refl _ _) (h false (by simp))
     |ms0 p h1=>
      refine xg (by simp[ho]) (hrun _ _ _ hv) ?_;exact hn _ _ _ _ (hr.put o.dst (.d (.v _))) (.refl _ _) (h p.isNone (fun _=>rfl))
     |vJ p e m h1 h2 h3 h4=>
      refine xg (by simp[ho]) (hrun _ _ _ hv) ?_;exact hn _ _ _ _ (hr.put o.dst (.d (.v _))) (.refl _ _) (h p.isNone (fun _=>rfl))
    ·have:=lM h1;refine xg (by simp[ho]) (hrun _ _ _ this) ?_;refine hn _ _ _ _ (hr.put o.dst (.d (.v _))) (.refl _ _) ?_;simpa using h
    ·exact h.elim
   split at h
   ·exact main false rfl rfl h
   ·exact main true rfl rfl h
   ·exact h.elim
  ·exact E8 ho h
 ·
  rename_i c ho;split at h
  ·rename_i b hb;split at h
   ·refine eff h fun h=> ?_;split at h
    ·rename_i x y t t' hxy ht;obtain⟨xa,h,hx⟩:=aB h;obtain⟨ya,h,hy⟩:=aB h;intro j0 j a w next Q hr hn
     obtain⟨v,w',j',r,σ',X,h1,h2,h3,h4,h5,h6,h7⟩:=wY (P:=P) (ty:=o.type) hr.dA h (hx rfl j0 j a w hr) (hy rfl j0 j a w hr);have hrun:(execOp a.eval o).run P w= .ok (.value v) w':=by
      have e1:c.args.map a.eval= #[a.eval x,a.eval y]:=by
       have:c.args= #[x,y]:=by apply Array.ext';simpa using hxy
       rw[this];simp
      have e2:c.argTypes= #[t,t']:=by apply Array.ext';simpa using ht
      simp only[execOp,ho,resolve,hb];simp[invoke,builtin,e1,e2,h1]
     refine xg (by simp[ho]) hrun ?_;exact hn _ _ _ _ ((hr.after h4 h2 h5 h6).put o.dst h3) h4 h7
    ·exact h.elim
   ·refine eff h fun h=> ?_;split at h
    ·rename_i x y t t' hxy ht;obtain⟨xa,h,hx⟩:=aB h;obtain⟨ya,h,hy⟩:=aB h;intro j0 j a w next Q hr hn
     obtain⟨w',k,σ',h1,h2,h3,h4⟩:=copy_sound (P:=P) (t':=t') (ty:=o.type) hr.dA h (hx rfl j0 j a w hr) (hy rfl j0 j a w hr);have hrun:(execOp a.eval o).run P w= .ok (.value (.int .i64 k)) w':=by
      have e1:c.args.map a.eval= #[a.eval x,a.eval y]:=by
       have:c.args= #[x,y]:=by apply Array.ext';simpa using hxy
       rw[this];simp
      have e2:c.argTypes= #[t,t']:=by apply Array.ext';simpa using ht
      simp only[execOp,ho,resolve,hb];simp[invoke,builtin,e1,e2,h1]
     refine xg (by simp[ho]) hrun ?_;exact hn _ _ _ _ ((hr.after h3 h2 (Nat.le_refl _) (.refl _ [])).put o.dst (.d (.v _))) h3 h4
    ·exact h.elim
   ·refine eff h fun h=> ?_;split at h
    ·rename_i x t hxy ht;obtain⟨xa,h,hx⟩:=aB h;intro j0 j a w next Q hr hn
     obtain⟨w',σ',h1,h2,h3,h4⟩:=clear_sound (P:=P) (ty:=o.type) hr.dA h (hx rfl j0 j a w hr);have hrun:(execOp a.eval o).run P w= .ok (.value (.tuple #[])) w':=by
      have e1:c.args.map a.eval= #[a.eval x]:=by
       have:c.args= #[x]:=by apply Array.ext';simpa using hxy
       rw[this];simp
      have e2:c.argTypes= #[t]:=by apply Array.ext';simpa using ht
      simp only[execOp,ho,resolve,hb];simp[invoke,builtin,e1,e2,h1]
     refine xg (by simp[ho]) hrun ?_;exact hn _ _ _ _ ((hr.after h3 h2 (Nat.le_refl _) (.refl _ [])).put o.dst (.eU #[] (Nat.le_refl _) (by simp))) h3 h4
    ·exact h.elim
   ·exact E8 ho h
  ·rename_i f hf;obtain⟨fa,h,hfa⟩:=aB h;replace hfa:=VK hfa
   revert h hfa
   generalize JY fa=fa'
   intro h hfa;split at h
   ·obtain⟨as,h,hl,ha⟩:=lq h;simp only at h;split at h
    ·rcases h with⟨r,h1,h2⟩|⟨r0,h1,h2⟩
     ·refine⟨fun hg=> ?_,fun hg=>FK hgd hg h2⟩;exact UJ hg ho hf hfa hl ha true ((h1 hg).cs h2)
     ·exact⟨fun hg=>Qy hg ho hf hfa hl ha (h1 hg),fun hg=>UF (h2 hg)⟩
    ·have hg:=hgd rfl;exact⟨fun hg=>Qy hg ho hf hfa hl ha h,fun hg'=>by rw[hg] at hg';cases hg'⟩
   ·obtain⟨as,h,hl,ha⟩:=lq h;simp only at h;split at h
    ·obtain⟨r0,h1,h2⟩:=h;exact⟨fun hg=>Qx hg ho hf hfa hl ha (h1 hg),fun hg=>UF (h2 hg)⟩
    ·have hg:=hgd rfl;exact⟨fun hg=>Qx hg ho hf hfa hl ha h,fun hg'=>by rw[hg] at hg';cases hg'⟩
   ·exact h.elim
  ·exact h.elim
 ·exact E8 rfl h
theorem mG{P:Program}{Q:Exit->Act->World->Prop}{all:List Oper} : ∀{os:List Oper} {s:St} {K:St->Prop} {j0:J0} {j:Js} {a:Act} {w:World},bH P false all os s K->Rel j0 s j a w->
  (∀s' j' a' w',Rel j0 s' j' a' w'->Ev j w j' w'->K s'->Q .normal a' w')->wpListIn (FW j0.rd) 0 P all.toArray Q os a w
 |[],s,K,j0,j,a,w,h,hr,hQ=>hQ s j a w hr (.refl _ _) h
 |o::os,s,K,j0,j,a,w,h,hr,hQ=>by
  obtain⟨gd,g,h,hgd,hw⟩:=rE h;obtain⟨h1,h2⟩:=Eb h hgd;have hw:=hw hr;simp only[wpListIn,hw];cases g with
  |true=>
   simp only[if_true];exact(h1 rfl j0 j a w _ _ hr fun s' j' a' w' hr' he hK=>mG hK hr' fun s'' j'' a'' w'' Xm he' hK'=>hQ s'' j'' a'' w'' Xm (he.trans he') hK')
  |false=>
   simp only[Bool.false_eq_true,if_false];obtain⟨s',hK,hs⟩:=h2 rfl;exact⟨fun _ _=>trivial,mG hK (hs j0 j a w hr) hQ⟩
theorem Gz{P:Program}{Q:Exit->St->Prop}{s:St}{id:Nat}{ops:List Oper}(h:bH P false ops ops s (Q .normal)):fA P (.region id ops.toArray false) Q s:=by
 intro j0 j a w hr;refine wpIn_region_lit (mG h hr fun s' j' a' w' hr' he hq=>⟨s',j',hr',he,hq⟩)
def opTmps(o:Oper):List Nat:=o.op.operands.toList.filterMap fun| .tmp t=>some t|_=>none
def gTmps(all:List Oper)(o:Oper):List Nat:=match o.guard with
 |none=>[]
 |some (jx,_)=>match all[jx]? with
  |some g=>g.dst.toList
  |none=>[]
def looks(all:List Oper)(o:Oper):List Nat:=opTmps o++gTmps all o
def bD(L:List Nat):List (Nat×AV)->List (Nat×AV)
 |[]=>[]
 |(k,v)::t=>if L.contains k then(k,v)::bD L t else bD L t
theorem iU{L:List Nat}{t:List (Nat×AV)}{k:Nat} :get (bD L t) k=if L.contains k then get t k else none:=by
 induction t with
 |nil=>simp[bD,get]
 |cons x t ih=>
  obtain⟨q,v⟩:=x;simp only[bD];by_cases hq:q=k
  ·subst hq;by_cases hc:L.contains q=true
   ·rw[if_pos hc,if_pos hc];simp[get]
   ·rw[if_neg hc,if_neg hc,ih,if_neg hc]
  ·by_cases hc:L.contains q=true
   ·rw[if_pos hc];simp only[get,zC hq,Bool.false_eq_true,if_false,ih]
   ·rw[if_neg hc];simp only[Bool.false_eq_true,if_false,ih,get,zC hq]
def St.bD(L:List Nat)(s:St):St:= { s with t:=aU.bD L s.t }
theorem val_restr{L:List Nat}{s:St}{x:Operand}(h: ∀t,x= .tmp t->t∈L):val (s.bD L) x=val s x:=by
 cases x with
 |tmp t=>simp[val,St.bD,iU,h t rfl]
 |_=>rfl
theorem aN{L:List Nat}{g:Bool}{s:St}{x:Operand}{K:AV->Prop}(h: ∀t,x= .tmp t->t∈L):arg g (s.bD L) x K=arg g s x K:=by
 simp only[arg,val_restr h]
theorem vG{L:List Nat}{g:Bool}{s:St} : ∀{xs:List Operand} {K:List AV->Prop},(∀x∈xs,∀t,x= .tmp t->t∈L)->args g (s.bD L) xs K=args g s xs K
 |[],_,_=>rfl
 |x::xs,K,h=>by
  simp only[args];rw[aN (h x (by simp))];congr 1;funext a
  exact vG fun y hy=>h y (by simp[hy])
theorem yT{L:List Nat}{g:Bool}{s:St} : ∀{xs:List (Nat×Operand)} {K:List (Nat×AV)->Prop},(∀x∈xs,∀t,x.2= .tmp t->t∈L)->wU g (s.bD L) xs K=wU g s xs K
 |[],_,_=>rfl
 |(i,x)::xs,K,h=>by
  simp only[wU];rw[aN (h (i,x) (by simp))];congr 1;funext a
  exact yT fun y hy=>h y (by simp[hy])
theorem iW{L:List Nat}{g:Bool}{s:St}{x:Option Operand}{d:Int}{K:Int->Prop}(h: ∀y,x=some y->∀t,y= .tmp t->t∈L):bnd g (s.bD L) x d K=bnd g s x d K:=by
 cases x with
 |none=>rfl
 |some x=>simp only[bnd];rw[aN (h x rfl)]
theorem uN{o:Oper}{x:Operand}{t:Nat}(hx:x∈o.op.operands)(ht:x= .tmp t):t∈opTmps o:=by
 subst ht;simp only[opTmps,List.mem_filterMap];exact⟨.tmp t,by simpa using hx,rfl⟩
set_option maxHeartbeats 1000000 in
theorem Zb{P:Program}{L:List Nat}{g:Bool}{s:St}{op:Op}{K:AV->Prop}(h: ∀x∈op.operands,∀t,x= .tmp t->t∈L):pv P g (s.bD L) op K=pv P g s op K:=by
 cases op with
 |move x=>simp only[pv];exact aN (h x (by simp[Op.operands]))
 |assign x=>simp only[pv];exact aN (h x (by simp[Op.operands]))
 |pick c x y=>
  simp only[pv];rw[aN (h c (by simp[Op.operands]))];congr 1;funext a
  split
  ·rw[aN (h x (by simp[Op.operands]))];congr 1;funext a
   split
   ·rw[aN (h y (by simp[Op.operands]))]
   ·rfl
  ·rfl
 |binOp op t x y ty=>
  simp only[pv];rw[aN (h x (by simp[Op.operands]))];congr 1;funext a
  rw[aN (h y (by simp[Op.operands]))]
 |unOp op t x=>simp only[pv];exact aN (h x (by simp[Op.operands]))
 |extract x i=>simp only[pv];exact aN (h x (by simp[Op.operands]))
 |fieldAddr t x f=>simp only[pv];split<;>first|rfl|exact aN (h x (by simp[Op.operands]))
 |field t x f=>simp only[pv];split<;>first|rfl|exact aN (h x (by simp[Op.operands]))
 |indexAddr t x y=>
  simp only[pv];rw[aN (h x (by simp[Op.operands]))];congr 1;funext a
  rw[aN (h y (by simp[Op.operands]))]
 |index t x y=>
  simp only[pv];rw[aN (h x (by simp[Op.operands]))];congr 1;funext a
  split
  ·rw[aN (h y (by simp[Op.operands]))]
  ·split
   ·rw[aN (h y (by simp[Op.operands]))]
   ·rfl
  ·rfl
 |load t x=>simp only[pv];rw[aN (h x (by simp[Op.operands]))];rfl
 |slice t x lo hi mx=>
  simp only[pv];rw[aN (h x (by simp[Op.operands]))];congr 1;funext a
  have hlo: ∀y,lo=some y->∀t,y= .tmp t->t∈L:=fun y hy=>h y (by simp[Op.operands,hy]);have hhi: ∀y,hi=some y->∀t,y= .tmp t->t∈L:=fun y hy=>h y (by simp[Op.operands,hy]);have hmx: ∀y,mx=some y->∀t,y= .tmp t->t∈L:=fun y hy=>h y (by simp[Op.operands,hy]);unfold Qo;split
  ·congr 1;rw[iW hlo];congr 1;funext l;rw[iW hhi]
  ·congr 1;rw[iW hlo];congr 1;funext l;rw[iW hhi];congr 1;funext hh
   cases mx with
   |none=>rfl
   |some m=>simp only;rw[iW hmx]
  ·congr 1;rw[iW hlo];congr 1;funext l;rw[iW hhi]
  ·congr 1;rw[iW hlo];congr 1;funext l;rw[iW hhi];congr 1;funext hh
   cases mx with
   |none=>rfl
   |some m=>simp only;rw[iW hmx]
  ·congr 1;rw[iW hlo];congr 1;funext l;rw[iW hhi]
  ·rfl
 |build t ps=>
  simp only[pv];exact yT fun x hx=>h x.2 (by simp only[Op.operands,List.mem_toArray,List.mem_map];exact⟨x,hx,rfl⟩)
 |makeFunc fn f c=>
  simp only[pv];rw[vG fun x hx=>h x (by simp only[Op.operands,Array.mem_append];exact .inl (by simpa using hx))];congr 1;funext a
  exact vG fun x hx=>h x (by simp only[Op.operands,Array.mem_append];exact .inr (by simpa using hx))
 |convert src dst x=>simp only[pv];exact aN (h x (by simp[Op.operands]))
 |nilCheck x=>simp only[pv];exact aN (h x (by simp[Op.operands]))
 |lookup t x k ok=>
  simp only[pv];rw[aN (h x (by simp[Op.operands]))];congr 1;funext a
  rw[aN (h k (by simp[Op.operands]))];rfl
 |entry x=>simp only[pv];rw[aN (h x (by simp[Op.operands]))];rfl
 |call c=>
  have hc: ∀x∈c.args.toList,∀t,x= .tmp t->t∈L:=fun x hx=>h x (by
   simp only[Op.operands,Call.operands,Array.mem_append];exact .inr (by simpa using hx))
  simp only[pv];split
  ·rename_i e1 e2 e3;rw[e2] at hc;exact aN (hc _ (by simp))
  ·rename_i e1 e2 e3;rw[e2] at hc;exact aN (hc _ (by simp))
  ·rename_i e1 e2;rw[e2] at hc;rw[aN (hc _ (by simp))];congr 1;funext a
   exact aN (hc _ (by simp))
  ·rename_i e1 e2;rw[e2] at hc;rw[aN (hc _ (by simp))];congr 1;funext a
   exact aN (hc _ (by simp))
  ·rename_i e1 e2;rw[e2] at hc;rw[aN (hc _ (by simp))];congr 1;funext a
   rw[aN (hc _ (by simp))];congr 1;funext a
   exact aN (hc _ (by simp))
  ·rename_i e1 e2;rw[e2] at hc;rw[aN (hc _ (by simp))];congr 1;funext a
   rw[aN (hc _ (by simp))];congr 1;funext a
   exact aN (hc _ (by simp))
  ·rfl
 |_=>rfl
structure Local(P:Program)(all:List Oper)(o:Oper)(s:St)(x:AV):Prop where
 run: ∀(j0:J0) j a w (next:Act->World->Prop) (Q:Exit->Act->World->Prop),Rel j0 (s.bD (looks all o)) j a w->Region.wanted o (yielded all.toArray a.tmps)=true->
  (∀w' v,aT w' j s.σ->Ev j w j w'->R w' j x v->next (a.put o.dst v) w')->o.wpIn (FW j0.rd) 0 P a w next Q
 skip: ∀j0 j a w,Rel j0 (s.bD (looks all o)) j a w->Region.wanted o (yielded all.toArray a.tmps)=false->R w j x Go.undef
theorem js_same{j j':Js}(hl:j'.length=j.length)(h:Ag j j' []):j'=j:=by
 apply List.ext_getElem?;intro b;rcases Nat.lt_or_ge b j.length with hb|hb
 ·exact h b hb (by simp)
 ·rw[List.getElem?_eq_none (by omega),List.getElem?_eq_none hb]
theorem Xo{all:List Oper}{o:Oper}{s:St}{K:Bool->Bool->Prop} :jQ all (s.bD (looks all o)) o K=jQ all s o K:=by
 unfold jQ;split
 ·rfl
 ·rename_i jx want hg;have:gvA all (s.bD (looks all o)) jx=gvA all s jx:=by
   unfold gvA;rw[jA];split
   ·rename_i g hjx;split
    ·rename_i d hd;simp only[St.bD,iU];rw[if_pos];simp[looks,gTmps,hg,hjx,hd]
    ·rfl
   ·rfl
  rw[this]
theorem IE{P:Program}{all:List Oper}{o:Oper}{s:St}{K:St->Prop}(h:jQ all s o fun gd g=>WY P true gd g o s K): ∃x,Local P all o s x/\K (s.put o.dst x):=by
 rw[←Xo] at h;obtain⟨gd,g,h,hgd,hw⟩:=rE h;have hmem: ∀x∈o.op.operands,∀t,x= .tmp t->t∈looks all o:=fun x hx t ht=>List.mem_append.2 (.inl (uN hx ht));have E8: ∀{op:Op},o.op=op->pv P g s op (fun av=>K (s.put o.dst (qX gd g av)))->∃x,Local P all o s x/\K (s.put o.dst x):=by
  intro op ho hp;have hnd: ∀c,o.op≠.defer c:=by rw[ho];exact QI hp
  rw[←ho,←Zb hmem] at hp;obtain⟨av,h1,h2⟩:=QH hp;refine⟨_,⟨fun j0 j a w next Q hr hwt hn=> ?_,fun j0 j a w hr hwf=> ?_⟩,h1⟩
  ·have hg:g=true:=by rw[←hw hr];exact hwt
   obtain⟨v,h3,h4⟩:=h2 hg j0 j a w o rfl hr;refine xg hnd h3 ?_;refine hn w v hr.dA (.refl _ _) ?_;cases gd with
   |false=>exact h4
   |true=>exact .iff (fun _=>h4) (fun hf=>by rw[hg] at hf;cases hf)
  ·have hg:g=false:=by rw[←hw hr];exact hwf
   cases gd with
   |false=>rw[hgd rfl] at hg;cases hg
   |true=>exact .iff (fun ht=>by rw[hg] at ht;cases ht) (fun _=>rfl)
 unfold WY at h;split at h;all_goals first
  |exact absurd h.1 (by simp)
  |exact E8 (by assumption) h
  |skip
 ·rename_i t len ps ho;rw[←yT (L:=looks all o) (fun x hx t ht=>hmem x.2 (by
   simp only[ho,Op.operands,List.mem_toArray,List.mem_map];exact⟨x,hx,rfl⟩) t ht)] at h
  obtain⟨parts,h,hl,hp⟩:=oV h;obtain⟨av,hK,hb⟩:=SY h;refine⟨_,⟨fun j0 j a w next Q hr hwt hn=> ?_,fun j0 j a w hr hwf=> ?_⟩,hK⟩
  ·have hg:g=true:=by rw[←hw hr];exact hwt
   obtain⟨v,w',r,h1,h2,h3,h4,rfl⟩:=S9 (P:=P) ho hg hr hb hl hp;refine xg (by simp[ho]) h1 ?_;refine hn w' v h2 h4 ?_;cases gd with
   |false=>exact h3
   |true=>exact .iff (fun _=>h3) (fun hf=>by rw[hg] at hf;cases hf)
  ·have hg:g=false:=by rw[←hw hr];exact hwf
   cases gd with
   |false=>rw[hgd rfl] at hg;cases hg
   |true=>exact .iff (fun ht=>by rw[hg] at ht;cases ht) (fun _=>rfl)
 ·rename_i src dst x ho;split at h
  ·exact absurd h.1 (by simp)
  ·exact E8 ho h
 ·rename_i op t x y ty ho;split at h
  ·exact absurd h.1 (by simp)
  ·exact E8 ho h
 ·rename_i c ho;split at h
  ·rename_i b hb;have hma: ∀x∈c.args.toList,∀t,x= .tmp t->t∈looks all o:=fun x hx=>hmem x (by
    simp only[ho,Op.operands,Call.operands,Array.mem_append];exact .inr (by simpa using hx))
   split at h
   ·dsimp only at h;split at h
    ·rename_i x y t t' e1 e2;rw[e1] at hma;rw[←aN (hma x (by simp))] at h;obtain⟨xa,h,hx⟩:=aB h;rw[←aN (hma y (by simp))] at h;obtain⟨ya,h,hy⟩:=aB h;obtain⟨av,hK,hb2⟩:=appendD_eq h;refine⟨_,⟨fun j0 j a w next Q hr hwt hn=> ?_,fun j0 j a w hr hwf=> ?_⟩,hK⟩
     ·have hg:g=true:=by rw[←hw hr];exact hwt
      have hx':=hx hg j0 j a w hr;have hy':=hy hg j0 j a w hr;obtain⟨v,w',r,h1,h2,h3,h4,rfl⟩:=FC (P:=P) (ty:=o.type) hr.dA hb2 hx' hy';have hrun:(execOp a.eval o).run P w= .ok (.value v) w':=by
       have e3:c.args.map a.eval= #[a.eval x,a.eval y]:=by
        apply Array.ext';rw[Array.toList_map,e1];rfl
       have e4:c.argTypes= #[t,t']:=by apply Array.ext';simpa using e2
       simp only[execOp,ho,resolve,hb];rw[e3];simp[invoke,builtin,e4,h1]
      refine xg (by simp[ho]) hrun ?_;refine hn w' v h2 h4 ?_;cases gd with
      |false=>exact h3
      |true=>exact .iff (fun _=>h3) (fun hf=>by rw[hg] at hf;cases hf)
     ·have hg:g=false:=by rw[←hw hr];exact hwf
      cases gd with
      |false=>rw[hgd rfl] at hg;cases hg
      |true=>exact .iff (fun ht=>by rw[hg] at ht;cases ht) (fun _=>rfl)
    ·exact h.elim
   ·exact absurd h.1 (by simp)
   ·exact absurd h.1 (by simp)
   ·exact E8 ho h
  ·rename_i f hf;have hmf: ∀t,f= .tmp t->t∈looks all o:=hmem f (by simp[ho,Op.operands,Call.operands,hf]);have hma: ∀x∈c.args.toList,∀t,x= .tmp t->t∈looks all o:=fun x hx=>hmem x (by
    simp only[ho,Op.operands,Call.operands,Array.mem_append];exact .inr (by simpa using hx))
   rw[←aN hmf] at h;obtain⟨fa,h,hfa⟩:=aB h;replace hfa:=VK hfa
   revert h hfa
   generalize JY fa=fa'
   intro h hfa;split at h
   ·rw[←vG hma] at h;obtain⟨as,h,hl,ha⟩:=lq h;obtain⟨r,h1,h2⟩:=h;refine⟨_,⟨fun j0 j a w next Q hr hwt hn=> ?_,fun j0 j a w hr hwf=> ?_⟩,h2⟩
    ·have hg:g=true:=by rw[←hw hr];exact hwt
     have hcs:=h1 hg;have hfv:=hfa hg j0 j a w hr;have hen:=hcs.1;generalize hv:a.eval f=u at hfv
     cases hfv with
     |clo ff cc g2 g3 g4 g5=>
      refine xg (by simp[ho]) (SV (P:=P) (w:=w) ho hf hv hen) ?_;refine⟨by simp[FW],Ko ?_⟩;have hrs:=nX (nX ⟨g2,g4⟩ (Hw hg hl ha hr)) ⟨g3,g5⟩;have e:(c.args.toList.map a.eval).toArray=c.args.map a.eval:=by apply Array.ext';simp
      rw[e,List.append_assoc] at hrs;refine(hcs.2 j w _ hr.dA hrs).mono ?_;rintro e w' ⟨v,r',σ',j',X,rfl,h6,h7,h8,h9,h10,rfl,rfl,rfl⟩;have hj:j'=j:=js_same (by rw[h6.len,hr.dA.len];rfl) h10;subst hj;refine hn w' v h6 h8 ?_;cases gd with
      |false=>exact h7
      |true=>exact .iff (fun _=>h7) (fun hf=>by rw[hg] at hf;cases hf)
    ·have hg:g=false:=by rw[←hw hr];exact hwf
     cases gd with
     |false=>rw[hgd rfl] at hg;cases hg
     |true=>exact .iff (fun ht=>by rw[hg] at ht;cases ht) (fun _=>rfl)
   ·obtain⟨as,h,hl,ha⟩:=lq h;exact h.elim
   ·exact h.elim
  ·exact h.elim
 ·exact E8 rfl h
def dK(s:St)(os:List Oper)(xs:Nat->AV):Nat->St
 |0=>s
 |i+1=>match os[i]? with
  |some o=>(dK s os xs i).put o.dst (xs i)
  |none=>dK s os xs i
theorem unroll{P:Program}{all:List Oper} : ∀{os:List Oper} {s:St} {K:St->Prop},bH P true all os s K->∃xs:Nat->AV,K (dK s os xs os.length)/\∀i o,os[i]? =some o->Local P all o (dK s os xs i) (xs i)
 |[],s,K,h=>⟨fun _=> .undef,h,by simp⟩
 |o::os,s,K,h=>by
  obtain⟨x,hl,h⟩:=IE h;obtain⟨xs,hK,hloc⟩:=unroll h;have hst: ∀i,dK s (o::os) (fun|0=>x|i+1=>xs i) (i+1)=dK (s.put o.dst x) os xs i:=by
   intro i;induction i with
   |zero=>rfl
   |succ i ih=>
    show(match(o::os)[i+1]? with|some o'=>(dK s (o::os) (fun|0=>x|i+1=>xs i) (i+1)).put o'.dst (xs i)|none=>dK s (o::os) (fun|0=>x|i+1=>xs i) (i+1))=_
    rw[ih];simp only[List.getElem?_cons_succ];rfl
  refine⟨fun|0=>x|i+1=>xs i,?_,fun i o' hi=> ?_⟩
  ·rw[List.length_cons,hst];exact hK
  ·cases i with
   |zero=>simp at hi;subst hi;exact hl
   |succ i=>rw[hst];exact hloc i o' (by simpa using hi)
theorem vO(s:St)(os:List Oper)(xs:Nat->AV): ∀i,(dK s os xs i).N=s.N/\(dK s os xs i).σ=s.σ/\(dK s os xs i).mv=s.mv
 |0=>⟨rfl,rfl,rfl⟩
 |i+1=>by
  have ih:=vO s os xs i;simp only[dK];split
  ·rename_i o _;simp only[St.put];split
   ·exact ih
   ·split<;>exact ih
  ·exact ih
theorem Le{s:St}{dst:Option Tmp}{x:AV}{k:Nat} :get (s.put dst x).t k=if dst=some k then(if k<s.N then some x else none) else get s.t k:=by
 cases dst with
 |none=>simp[St.put]
 |some d=>
  simp only[St.put,Option.some.injEq];by_cases hd:d<s.N
  ·rw[if_pos (by simpa using hd)];simp only[get_put];by_cases hk:d=k
   ·subst hk;simp[hd]
   ·simp[hk]
  ·rw[if_neg (by simpa using hd)];simp only[Ef];by_cases hk:d=k
   ·subst hk;simp[hd]
   ·simp[hk]
theorem Fj{s:St}{os:List Oper}{xs:Nat->AV}{k:Nat} : ∀{i:Nat},(∀p o,p<i->os[p]? =some o->o.dst≠some k)->get (dK s os xs i).t k=get s.t k
 |0,_=>rfl
 |i+1,h=>by
  simp only[dK];have ih:=Fj (s:=s) (os:=os) (xs:=xs) (k:=k) (i:=i) (fun p o hp=>h p o (by omega));split
  ·rename_i o ho;rw[Le,if_neg (h i o (by omega) ho)];exact ih
  ·exact ih
theorem Fh{s:St}{os:List Oper}{xs:Nat->AV}{k q:Nat}{oq:Oper}(hq:os[q]? =some oq)(hd:oq.dst=some k): ∀{i:Nat},q<i->(∀p o,q<p->p<i->os[p]? =some o->o.dst≠some k)->get (dK s os xs i).t k=if k<s.N then some (xs q) else none
 |i+1,hqi,h=>by
  simp only[dK];by_cases hqe:q=i
  ·subst hqe;simp only[hq];rw[Le,if_pos hd,(vO s os xs q).1]
  ·have ih:=Fh (s:=s) (xs:=xs) hq hd (i:=i) (by omega) (fun p o h1 h2=>h p o h1 (by omega));split
   ·rename_i o ho;rw[Le,if_neg (h i o (by omega) (by omega) ho)];exact ih
   ·exact ih
def Uj(o:Oper)(p:Nat):Bool:=o.after.toList.any fun e=>Nat.beq e.on p&&Region.binds .any e
def dstIs(o:Oper)(k:Nat):Bool:=match o.dst with
 |some d=>Nat.beq d k
 |none=>false
theorem Vt{o:Oper}{k:Nat} :dstIs o k=true↔o.dst=some k:=by
 unfold dstIs;split
 ·rename_i d hd;rw[hd];constructor
  ·intro h;rw[Nat.eq_of_beq_eq_true h]
  ·intro h;cases h;simp
 ·rename_i hd;rw[hd];simp
def okA(all:List Oper)(m i:Nat)(o:Oper):Bool:=
 (looks all o).all (fun k=>(List.range all.length).all fun p=>match all[p]? with
  |some op=> !dstIs op k||(if Nat.blt p i then Uj o p else if Nat.beq p i then true else Uj op i)
  |none=>true)&&
 (List.range m).all (fun p=>Nat.beq p i||(match all[p]?,o.dst with
  |some op,some d=> !dstIs op d
  |_,_=>true))
def Jm(all:List Oper)(m:Nat):Nat->Oper->Nat->Bool
 |0,o,p=>Uj o p
 |n+1,o,p=>Uj o p||(Nat.blt p m&&(List.range all.length).any fun r=>Uj o r&&(Nat.ble m r||match all[r]? with
  |some x=>Jm all m n x p
  |none=>false))
def dY(all:List Oper)(m:Nat):Bool:=
 (List.range all.length).all fun i=>match all[i]? with
  |some o=>(o.after.toList.all fun e=> !Region.binds .any e||Nat.blt e.on i)&&(if Nat.blt i m then okA all m i o else(List.range i).all (Jm all m 12 o))
  |none=>true
theorem qI{o:Oper}{p:Nat}(h:Uj o p=true): ∃e∈o.after,e.on=p/\Region.binds .any e=true:=by
 simp only[Uj,List.any_eq_true,Bool.and_eq_true] at h;obtain⟨e,h1,h2,h3⟩:=h;exact⟨e,by simpa using h1,Nat.eq_of_beq_eq_true h2,h3⟩
theorem lt_of_getElem?{α:Type}{l:List α}{i:Nat}{x:α}(h:l[i]? =some x):i<l.length:=(List.getElem?_eq_some_iff.1 h).1
section
variable {P : Program} {ops : List Oper} {m : Nat}
theorem ji(h:dY ops m=true){i:Nat}{o:Oper}(hi:ops[i]? =some o):(∀e∈o.after,Region.binds .any e=true->e.on<i)/\(i<m->okA ops m i o=true)/\(m<=i->∀p,p<i->Jm ops m 12 o p=true):=by
 simp only[dY,List.all_eq_true,List.mem_range] at h;have:=h i (lt_of_getElem? hi);simp only[hi,Bool.and_eq_true,List.all_eq_true] at this;obtain⟨h1,h2⟩:=this;refine⟨fun e he hb=> ?_,fun hm=> ?_,fun hm p hp=> ?_⟩
 ·have:=h1 e (by simpa using he);simp only[hb,Bool.not_true,Bool.false_or] at this;simpa using this
 ·rw[if_pos (by simpa using hm)] at h2;exact h2
 ·rw[if_neg (by simpa using hm)] at h2;simp only[List.all_eq_true,List.mem_range] at h2;exact h2 p hp
theorem depT_far{p:Nat}(hp:m<=p): ∀{n:Nat} {o:Oper},Jm ops m n o p=true->Uj o p=true
 |0,_,h=>h
 |n+1,o,h=>by
  simp only[Jm,Bool.or_eq_true,Bool.and_eq_true] at h;rcases h with h|h
  ·exact h
  ·have h1:p<m:=by simpa using h.1
   omega
theorem Vw{p:Nat}{L:Nat->Bool}(hB: ∀q,m<=q->q<ops.length->L q=false)(hm: ∀q oq,q<m->ops[q]? =some oq->L q=true->∀e∈oq.after,Region.binds .any e=true->L e.on=true): ∀{n:Nat} {o:Oper},Jm ops m n o p=true->(∀e∈o.after,Region.binds .any e=true->L e.on=true)->L p=true
 |0,_,h,ho=>by
  obtain⟨e,h1,h2,h3⟩:=qI h;have:=ho e h1 h3;rwa [h2] at this
 |n+1,o,h,ho=>by
  simp only[Jm,Bool.or_eq_true,Bool.and_eq_true,List.any_eq_true,List.mem_range] at h;rcases h with h|⟨h1,r,h2,h3,h4⟩
  ·obtain⟨e,h1,h2,h3⟩:=qI h;have:=ho e h1 h3;rwa [h2] at this
  ·obtain⟨e,g1,g2,g3⟩:=qI h3;have hr:=ho e g1 g3;rw[g2] at hr;rcases Nat.lt_or_ge r m with h5|h5
   ·rcases h4 with h4|h4
    ·have:m<=r:=by simpa using h4
     omega
    ·split at h4
     ·rename_i x hx;exact Vw hB hm h4 (hm r x h5 hx hr)
     ·cases h4
   ·rw[hB r h5 h2] at hr;cases hr
theorem phaseB(hok:dY ops m=true){Q:Exit->St->Prop}{j0:J0}{j1:Js}{w1:World} : ∀(d p:Nat) (s:St) (j:Js) (a:Act) (w:World) (listed:Array Bool),ops.length-p=d->m<=p->p<=ops.length->listed.size=ops.length->
  (∀k,k<ops.length->∀b,listed.getD k b=decide (k<p))->Rel j0 s j a w->Ev j1 w1 j w->bH P false ops (ops.drop p) s (Q .normal)->wpAnyIn (FW j0.rd) 0 P .any ops.toArray (FD j0 j1 w1 Q) d listed a w:=by
 intro d;induction d with
 |zero=>
  intro p s j a w listed hd hm hp hs hL hr he h;have hpe:p=ops.length:=by omega
  subst hpe;refine⟨?_,⟨s,j,hr,he,by simpa[bH] using h⟩⟩;rw[List.eq_nil_iff_forall_not_mem];intro i hi;rw[mem_ready] at hi;obtain⟨h0,o,ho,_⟩:=hi;have hlt:i<ops.length:=lt_of_getElem? (by simpa using ho);rw[hL i hlt] at h0;simp[hlt] at h0
 |succ d ih=>
  intro p s j a w listed hd hm hp hs hL hr he h;have hpl:p<ops.length:=by omega
  have hop:ops[p]? =some ops[p]:=by simp[hpl]
  have hdrop:ops.drop p=ops[p]::ops.drop (p+1):=List.drop_eq_getElem_cons hpl;rw[hdrop] at h;have hsp:=ji hok hop;have RJ:p∈Region.ready .any ops.toArray listed:=by
   rw[mem_ready];refine⟨by rw[hL p hpl];simp,ops[p],by simp[hpl],fun e he hb=> ?_⟩;have:=hsp.1 e he hb;rw[hL e.on (by omega)];simpa using this
  refine⟨fun h0=>by rw[h0] at RJ;simp at RJ,fun i hi=> ?_⟩;rw[mem_ready] at hi;obtain⟨h0,o,ho,hall⟩:=hi;have ho':ops[i]? =some o:=by simpa using ho
  have hil:i<ops.length:=lt_of_getElem? ho';have hip:i=p:=by
   rw[hL i hil] at h0;have hge:p<=i:=by simpa using h0
   rcases Nat.eq_or_lt_of_le hge with h|h
   ·exact h.symm
   ·obtain⟨e,he1,he2,he3⟩:=qI (depT_far hm ((ji hok ho').2.2 (by omega) p h));have:=hall e he1 he3;rw[he2,hL p hpl] at this;simp at this
  subst hip;have hoe:o=ops[i]:=by simpa[hpl] using ho'.symm
  subst hoe;have hset: ∀k,k<ops.length->∀b,(listed.setIfInBounds i true).getD k b=decide (k<i+1):=by
   intro k hk b;by_cases hki:i=k
   ·subst hki;simp[hs,hpl]
   ·rw[getD_set_ne b hki,hL k hk];congr 1;apply propext;omega
  obtain⟨gd,g,h,hgd,hw⟩:=rE h;obtain⟨h1,h2⟩:=Eb h hgd;have hw:=hw hr;simp only[wpOpIn,ho,hw];cases g with
  |true=>
   simp only[if_true];exact h1 rfl j0 j a w _ _ hr fun s' j' a' w' hr' he' hK=>ih (i+1) s' j' a' w' _ (by omega) (by omega) (by omega) (by simpa using hs) hset hr' (he.trans he') hK
  |false=>
   simp only[Bool.false_eq_true,if_false];obtain⟨s',hK,hs'⟩:=h2 rfl;exact⟨fun _ _=>trivial,ih (i+1) s' j _ w _ (by omega) (by omega) (by omega) (by simpa using hs) hset (hs' j0 j a w hr) he hK⟩
def left(listed:Array Bool)(n:Nat):Nat:=((List.range n).filter fun k=> !listed.getD k true).length
theorem left_set{listed:Array Bool}{n i:Nat}(hs:listed.size=n)(hi:i<n)(h0:listed.getD i true=false):left listed n=left (listed.setIfInBounds i true) n+1:=by
 unfold left;have gen: ∀l:List Nat,l.Nodup->i∈l->(l.filter fun k=> !listed.getD k true).length=(l.filter fun k=> !(listed.setIfInBounds i true).getD k true).length+1:=by
  intro l;induction l with
  |nil=>simp
  |cons x l ih=>
   intro hn hm;simp only[List.nodup_cons] at hn;by_cases hx:x=i
   ·subst hx;have hrest:(l.filter fun k=> !listed.getD k true)=l.filter fun k=> !(listed.setIfInBounds x true).getD k true:=by
     apply List.filter_congr;intro k hk;have hne:x≠k:=fun he=>hn.1 (by rw[he];exact hk);rw[getD_set_ne true hne]
    have h1:(listed.setIfInBounds x true).getD x true=true:=by
     simp[show x<listed.size by omega]
    rw[List.filter_cons_of_pos (by rw[h0];rfl),List.filter_cons_of_neg (by rw[h1];simp),hrest,List.length_cons]
   ·have hm':i∈l:=by simpa[Ne.symm hx] using hm
    have ih:=ih hn.2 hm';have hxe:(listed.setIfInBounds i true).getD x true=listed.getD x true:=getD_set_ne true (Ne.symm hx);by_cases hb:listed.getD x true=true
    ·rw[List.filter_cons_of_neg (by rw[hb];simp),List.filter_cons_of_neg (by rw[hxe,hb];simp)];exact ih
    ·have hb:listed.getD x true=false:=by simpa using hb
     rw[List.filter_cons_of_pos (by rw[hb];rfl),List.filter_cons_of_pos (by rw[hxe,hb];rfl),List.length_cons,List.length_cons,ih]
 exact gen _ List.nodup_range (by simpa using hi)
theorem Cj{i:Nat}{o:Oper}(h:okA ops m i o=true):(∀k∈looks ops o,∀p op,ops[p]? =some op->op.dst=some k->(p<i->Uj o p=true)/\(i<p->Uj op i=true))/\(∀p op d,p<m->p≠i->ops[p]? =some op->o.dst=some d->op.dst≠some d):=by
 simp only[okA,Bool.and_eq_true,List.all_eq_true,List.mem_range] at h;obtain⟨h1,h2⟩:=h;refine⟨fun k hk p op hp hd=> ?_,fun p op d hp hne hpo hd hpd=> ?_⟩
 ·have:=h1 k hk p (lt_of_getElem? hp);simp only[hp,Vt.2 hd,Bool.not_true,Bool.false_or] at this;refine⟨fun hlt=> ?_,fun hlt=> ?_⟩
  ·rw[if_pos (by simpa using hlt)] at this;exact this
  ·rw[if_neg (by simp;omega),if_neg (by simp;omega)] at this;exact this
 ·have:=h2 p hp;simp only[hpo,hd,Bool.or_eq_true] at this;rcases this with h|h
  ·exact hne (Nat.eq_of_beq_eq_true h)
  ·rw[Vt.2 hpd] at h;simp at h
theorem kR{i:Nat}(h:i<m):(ops.take m)[i]? =ops[i]? :=by rw[List.getElem?_take,if_pos h]
theorem jv{listed:Array Bool}{n q:Nat}(hs:listed.size=n)(hq:q<n):listed.getD q false=listed.getD q true:=by
 have hsz:q<listed.size:=by omega
 simp[hsz]
theorem Gj{s:St}{xs:Nat->AV}{k:Nat}{i:Nat}(him:i<=m)(hw: ¬∃q oq,q<i/\ops[q]? =some oq/\oq.dst=some k):
  get (dK s (ops.take m) xs i).t k=get s.t k:=
 Fj (fun p o h1 h2=>by
  rw[kR (by omega)] at h2;exact fun hd=>hw ⟨p,o,h1,h2,hd⟩)
theorem mF(hok:dY ops m=true)(hmn:m<=ops.length){s:St}{xs:Nat->AV}{q:Nat}{oq:Oper}{k:Nat}(hq:q<m)(hqo:ops[q]? =some oq)(Ua:oq.dst=some k){i:Nat}(hqi:q<i)(him:i<=m):
  get (dK s (ops.take m) xs i).t k=if k<s.N then some (xs q) else none:=
 Fh (oq:=oq) (by rw[kR hq];exact hqo) Ua hqi (fun p o h1 h2 h3=>by
  rw[kR (by omega)] at h3;exact(Cj ((ji hok hqo).2.1 hq)).2 p o k (by omega) (by omega) h3 Ua)
structure Core(N:Nat)(t t1:List (Nat×AV))(U:AV->Prop)(ops:List Oper)(m:Nat)(j0:J0)(listed:Array Bool)(j:Js)(a:Act)(w:World):Prop where
 defers:Marks j0.n0 w j a.defers
 jY: ∀l,j0.rd=some l->∃r,w.heap[l]? =some (.loop r)
 size:a.tmps.size=N
 lsize:listed.size=ops.length
 lB: ∀k,m<=k->k<ops.length->∀b,listed.getD k b=false
 cl: ∀q oq,q<m->ops[q]? =some oq->listed.getD q true=true->∀e∈oq.after,Region.binds .any e=true->listed.getD e.on false=true
 c1: ∀q oq k av,q<m->ops[q]? =some oq->oq.dst=some k->listed.getD q true=true->get t1 k=some av->k<N/\R w j av (a.tmps.getD k Go.undef)
 c2: ∀k av,(∀q oq,q<m->ops[q]? =some oq->oq.dst=some k->listed.getD q true=false)->get t k=some av->k<N/\U av/\R w j av (a.tmps.getD k Go.undef)
section
variable {N : Nat} {t t1 : List (Nat × AV)} {U : AV -> Prop} {j0 : J0} {listed : Array Bool} {j : Js} {a : Act} {w : World}
theorem Core.start(hmn:m<=ops.length){σ:List aG}{mv:List Nat}(hr:Rel j0 ⟨N,t,σ,mv⟩ j a w)(hU: ∀k av,get t k=some av->U av):Core N t t1 U ops m j0 (Array.replicate ops.toArray.size false) j a w:=by
 have hf: ∀k b,k<ops.length->(Array.replicate ops.toArray.size false).getD k b=false:=by
  intro k b hk;simp[hk]
 refine⟨hr.defers,hr.jY,hr.size,by simp,fun k _ hk b=>hf k b hk,fun q oq hq hqo hl=> ?_,fun q oq k av hq hqo hd hl=> ?_,fun k av _ hk=>⟨(hr.tmp k av hk).1,hU k av hk,(hr.tmp k av hk).2⟩⟩
 ·rw[hf q true (by omega)] at hl;cases hl
 ·rw[hf q true (by omega)] at hl;cases hl
theorem yZ:left (Array.replicate ops.toArray.size false) ops.length=ops.length:=by
 unfold left;have:(List.range ops.length).filter (fun k=> !(Array.replicate ops.toArray.size false).getD k true)=List.range ops.length:=by
  apply List.filter_eq_self.2;intro k hk;simp[show k<ops.length by simpa using hk]
 rw[this];simp
theorem Core.far(hC:Core N t t1 U ops m j0 listed j a w){o:Oper}(hall: ∀e∈o.after,Region.binds .any e=true->listed.getD e.on false=true){p n:Nat}(h:Jm ops m n o p=true):listed.getD p false=true:=
 Vw (L:=fun q=>listed.getD q false) (fun q h1 h2=>hC.lB q h1 h2 false) (fun q oq h1 h2 h3 e he1 he2=>hC.cl q oq h1 h2 (by
  by_cases hs:q<listed.size
  ·simpa[hs] using h3
  ·simp[hs]) e he1 he2) h hall
theorem Core.looks(hok:dY ops m=true)(hmn:m<=ops.length)(hC:Core N t t1 U ops m j0 listed j a w){σ:List aG}{mv:List Nat}{xs:Nat->AV}(hxs:(dK ⟨N,t,σ,mv⟩ (ops.take m) xs m).t=t1){i:Nat}{o:Oper}(him:i<m)(ho:ops[i]? =some o)(h0:listed.getD i true=false)
  (hall: ∀e∈o.after,Region.binds .any e=true->listed.getD e.on false=true) {k:Nat} {av:AV} (hkl:k∈looks ops o) (hk:get (dK ⟨N,t,σ,mv⟩ (ops.take m) xs i).t k=some av):k<N/\R w j av (a.tmps.getD k Go.undef):=by
 have hokA:=Cj ((ji hok ho).2.1 him);have hil:i<ops.length:=by omega
 by_cases hw: ∃q oq,q<i/\ops[q]? =some oq/\oq.dst=some k
 ·obtain⟨q,oq,hq,hqo,Ua⟩:=hw;obtain⟨e,he1,he2,he3⟩:=qI ((hokA.1 k hkl q oq hqo Ua).1 hq);have hlq:=hall e he1 he3;rw[he2,jv hC.lsize (by omega)] at hlq;rw[mF hok hmn (by omega) hqo Ua hq (by omega)] at hk;exact hC.c1 q oq k av (by omega) hqo Ua hlq (by rw[←hxs,mF hok hmn (by omega) hqo Ua (by omega) (Nat.le_refl _)];exact hk)
 ·rw[Gj (by omega) hw] at hk;have:=hC.c2 k av (fun q oq h1 h2 h3=>by
   rcases Nat.lt_trichotomy q i with h|h|h
   ·exact absurd ⟨q,oq,h,h2,h3⟩ hw
   ·subst h;exact h0
   ·obtain⟨e,he1,he2,he3⟩:=qI ((hokA.1 k hkl q oq h2 h3).2 h);by_cases hb:listed.getD q true=true
    ·have:=hC.cl q oq h1 h2 hb e he1 he3;rw[he2,jv hC.lsize hil,h0] at this;cases this
    ·simpa using hb) hk
  exact⟨this.1,this.2.2⟩
theorem Core.late(hok:dY ops m=true)(hmn:m<=ops.length)(hC:Core N t t1 U ops m j0 listed j a w){σ:List aG}{mv:List Nat}{xs:Nat->AV}(hxs:(dK ⟨N,t,σ,mv⟩ (ops.take m) xs m).t=t1){i:Nat}{o:Oper}(him:i<m)(ho:ops[i]? =some o)
  (hall: ∀e∈o.after,Region.binds .any e=true->listed.getD e.on false=true) (hself: ∀d,o.dst=some d->d∉aU.looks ops o) (wo: ∀q oq d,i<q->q<m->ops[q]? =some oq->oq.dst=some d->d∉aU.looks ops o)
  {k:Nat} {av:AV} (hkl:k∈aU.looks ops o) (hk:get t1 k=some av):k<N/\R w j av (a.tmps.getD k Go.undef):=by
 by_cases hw: ∃q oq,q<m/\ops[q]? =some oq/\oq.dst=some k
 ·obtain⟨q,oq,hq,hqo,Ua⟩:=hw;have hqi:q<i:=by
   rcases Nat.lt_trichotomy q i with h|h|h
   ·exact h
   ·subst h;rw[ho] at hqo;cases hqo;exact absurd hkl (hself _ Ua)
   ·exact absurd hkl (wo q oq k h hq hqo Ua)
  obtain⟨e,he1,he2,he3⟩:=qI (((Cj ((ji hok ho).2.1 him)).1 k hkl q oq hqo Ua).1 hqi);have hlq:=hall e he1 he3;rw[he2,jv hC.lsize (by omega)] at hlq;exact hC.c1 q oq k av hq hqo Ua hlq hk
 ·rw[←hxs,Gj (Nat.le_refl _) hw] at hk;have:=hC.c2 k av (fun q oq h1 h2 h3=>absurd ⟨q,oq,h1,h2,h3⟩ hw) hk;exact⟨this.1,this.2.2⟩
theorem Core.done(hC:Core N t t1 U ops m j0 listed j a w){σ:List aG}{mv:List Nat}{xs:Nat->AV}(hxs:(dK ⟨N,t,σ,mv⟩ (ops.take m) xs m).t=t1)(hd: ∀q,q<m->listed.getD q true=true){k:Nat}{av:AV}(hk:get t1 k=some av):k<N/\R w j av (a.tmps.getD k Go.undef):=by
 by_cases hw: ∃q oq,q<m/\ops[q]? =some oq/\oq.dst=some k
 ·obtain⟨q,oq,hq,hqo,Ua⟩:=hw;exact hC.c1 q oq k av hq hqo Ua (hd q hq) hk
 ·rw[←hxs,Gj (Nat.le_refl _) hw] at hk;have:=hC.c2 k av (fun q oq h1 h2 h3=>absurd ⟨q,oq,h1,h2,h3⟩ hw) hk;exact⟨this.1,this.2.2⟩
theorem KN{o:Oper}{v:Value}{k:Nat}(hne:o.dst≠some k):(a.put o.dst v).tmps.getD k Go.undef=a.tmps.getD k Go.undef:=by
 cases hd:o.dst with
 |none=>rfl
 |some d=>
  have hdk:d≠k:=fun h=>hne (by rw[hd,h]);simp[Act.put,Array.getD_eq_getD_getElem?,hdk]
theorem Core.step(hok:dY ops m=true)(hmn:m<=ops.length)(hC:Core N t t1 U ops m j0 listed j a w){i:Nat}{o:Oper}(him:i<m)(ho:ops[i]? =some o)
  (hall: ∀e∈o.after,Region.binds .any e=true->listed.getD e.on false=true) {t' t1':List (Nat×AV)} {j':Js} {w':World} {v:Value} (hev:Ev j w j' w')
  (tr: ∀k Tj,get t1' k=some Tj->o.dst≠some k->∃av,get t1 k=some av/\∀x,R w j av x->R w' j' Tj x)
  (tr2: ∀k Tj,get t' k=some Tj->∃av,get t k=some av/\∀x,U av->R w j av x->U Tj/\R w' j' Tj x)
  (hv: ∀k av,o.dst=some k->get t1' k=some av->k<N/\R w' j' av v):Core N t' t1' U ops m j0 (listed.setIfInBounds i true) j' (a.put o.dst v) w':=by
 have hokA:=Cj ((ji hok ho).2.1 him);have hil:i<ops.length:=by omega
 have Xl:i<listed.size:=by rw[hC.lsize];exact hil
 refine⟨?_,fun l hl=>(by obtain⟨r,hr⟩:=hC.jY l hl;exact hev.lps l r hr),?_,by simpa using hC.lsize,?_,?_,?_,?_⟩
 ·have:=hC.defers.mono hev;cases hd:o.dst<;>simpa[Act.put] using this
 ·cases hd:o.dst<;>simp[Act.put,hC.size]
 ·intro k hk1 hk2 b;rw[getD_set_ne b (by omega)];exact hC.lB k hk1 hk2 b
 ·intro q oq hq hqo hl e he1 he2;by_cases hqi:i=q
  ·subst hqi;obtain rfl:o=oq:=by rw[ho] at hqo;exact Option.some.inj hqo
   exact getD_set_true (hall e he1 he2)
  ·rw[getD_set_ne true hqi] at hl;exact getD_set_true (hC.cl q oq hq hqo hl e he1 he2)
 ·intro q oq k av hq hqo Ua hl hk;by_cases hqi:i=q
  ·subst hqi;obtain rfl:o=oq:=by rw[ho] at hqo;exact Option.some.inj hqo
   have h1:=hv k av Ua hk;simp only[Act.put,Ua];rw[ni (w:=w) (j:=j) (by rw[hC.size];exact h1.1),if_pos rfl];exact h1
  ·rw[getD_set_ne true hqi] at hl;have hne:o.dst≠some k:=fun hd=>hokA.2 q oq k hq (fun h=>hqi h.symm) hqo hd Ua;obtain⟨av0,h2,h3⟩:=tr k av hk hne;have h1:=hC.c1 q oq k av0 hq hqo Ua hl h2;rw[KN hne];exact⟨h1.1,h3 _ h1.2⟩
 ·intro k av hk hg;have hne:o.dst≠some k:=fun hd=>by
   have:=hk i o him ho hd;simp[Xl] at this
  obtain⟨av0,h2,h3⟩:=tr2 k av hg;have h1:=hC.c2 k av0 (fun q oq h1 h2 h3=>by
   have hqi:i≠q:=fun h=>by subst h;rw[ho] at h2;cases h2;exact hne h3
   have:=hk q oq h1 h2 h3;rwa [getD_set_ne true hqi] at this) h2
  rw[KN hne];exact⟨h1.1,h3 _ h1.2.1 h1.2.2⟩
end
theorem WV(hok:dY ops m=true)(hmn:m<=ops.length){Q:Exit->St->Prop}{j0:J0}{j1:Js}{w1:World}(Inv:Array Bool->Js->Act->World->Prop)
  (hB: ∀{listed j a w},Inv listed j a w->∃N t t1 U,Core N t t1 U ops m j0 listed j a w)
  (fin: ∀{listed j a w},Inv listed j a w->(∀q,q<m->listed.getD q true=true)->∃s',Rel j0 s' j a w/\bH P false ops (ops.drop m) s' (Q .normal))
  (step: ∀{listed j a w i o} {next:Act->World->Prop},Inv listed j a w->i<m->ops[i]? =some o->listed.getD i true=false->(∀e∈o.after,Region.binds .any e=true->listed.getD e.on false=true)->
   (∀j' v w',Inv (listed.setIfInBounds i true) j' (a.put o.dst v) w'->Ev j w j' w'->next (a.put o.dst v) w')->
   if Region.wanted o (yielded ops.toArray a.tmps) then o.wpIn (FW j0.rd) 0 P a w next (FD j0 j1 w1 Q) else next (a.put o.dst Go.undef) w):
  ∀(fuel:Nat) (j:Js) (a:Act) (w:World) (listed:Array Bool),left listed ops.length=fuel->Inv listed j a w->Ev j1 w1 j w->wpAnyIn (FW j0.rd) 0 P .any ops.toArray (FD j0 j1 w1 Q) fuel listed a w:=by
 intro fuel;induction fuel with
 |zero=>
  intro j a w listed hf hI he;obtain⟨_,_,_,_,hC⟩:=hB hI;have hall: ∀k,k<ops.length->listed.getD k true=true:=by
   intro k hk;by_cases hb:listed.getD k true=true
   ·exact hb
   ·have:k∈(List.range ops.length).filter fun k=> !listed.getD k true:=by
     rw[List.mem_filter];exact⟨by simpa using hk,by simpa using hb⟩
    have h0:(List.range ops.length).filter (fun k=> !listed.getD k true)=[]:=List.length_eq_zero_iff.1 hf;rw[h0] at this;simp at this
  have hme:m=ops.length:=by
   rcases Nat.lt_or_ge m ops.length with h|h
   ·have:=hall m h;rw[hC.lB m (Nat.le_refl _) h] at this;simp at this
   ·omega
  obtain⟨s',hr,hK⟩:=fin hI fun q hq=>hall q (by omega);exact phaseB hok 0 m _ j a w listed (by omega) (Nat.le_refl _) (by omega) hC.lsize (fun k hk b=>by
   have h1:=hall k hk;have hsz:k<listed.size:=by rw[hC.lsize];exact hk
   have h2:listed[k]=true:=by simpa[hsz] using h1
   simp[hsz,h2,show k<m by omega]) hr he hK
 |succ fuel ih=>
  intro j a w listed hf hI he;obtain⟨_,_,_,_,hC⟩:=hB hI;by_cases hdone: ∀q,q<m->listed.getD q true=true
  ·have hL: ∀k,k<ops.length->∀b,listed.getD k b=decide (k<m):=by
    intro k hk b;rcases Nat.lt_or_ge k m with h|h
    ·have h1:=hdone k h;have hsz:k<listed.size:=by rw[hC.lsize];exact hk
     have h2:listed[k]=true:=by simpa[hsz] using h1
     simp[hsz,h2,h]
    ·rw[hC.lB k h hk];simp;omega
   have hfuel:fuel+1=ops.length-m:=by
    rw[←hf];unfold left;have gen: ∀n,n<=ops.length->((List.range n).filter fun k=> !listed.getD k true).length=n-m:=by
     intro n;induction n with
     |zero=>simp
     |succ n ihn=>
      intro hn;rw[List.range_succ,List.filter_append,List.length_append,ihn (by omega)];have h1:=hL n (by omega) true;by_cases hnm:n<m
      ·have:(List.filter (fun k=> !listed.getD k true) [n]).length=0:=by
        rw[List.filter_cons_of_neg (by rw[h1];simp[hnm])];simp
       omega
      ·have:(List.filter (fun k=> !listed.getD k true) [n]).length=1:=by
        rw[List.filter_cons_of_pos (by rw[h1];simp;omega)];simp
       omega
    exact gen _ (Nat.le_refl _)
   obtain⟨s',hr,hK⟩:=fin hI hdone;exact phaseB hok (fuel+1) m _ j a w listed hfuel.symm (Nat.le_refl _) (by omega) hC.lsize hL hr he hK
  ·have hex: ∃q,q<m/\listed.getD q true=false/\∀p,p<q->listed.getD p true=true:=by
    have hex0: ∃q,q<m/\listed.getD q true=false:=by
     apply Classical.byContradiction;intro hne;apply hdone;intro q hq;by_cases hb:listed.getD q true=true
     ·exact hb
     ·exact absurd ⟨q,hq,by simpa using hb⟩ hne
    obtain⟨q,hq1,hq2⟩:=hex0;induction q using Nat.strongRecOn with
    |_ q ihq=>
     by_cases hall: ∀p,p<q->listed.getD p true=true
     ·exact⟨q,hq1,hq2,hall⟩
     ·have: ∃p,p<q/\listed.getD p true=false:=by
       apply Classical.byContradiction;intro hne;apply hall;intro p hp;by_cases hb:listed.getD p true=true
       ·exact hb
       ·exact absurd ⟨p,hp,by simpa using hb⟩ hne
      obtain⟨p,hp1,hp2⟩:=this;exact ihq p hp1 (by omega) hp2
   obtain⟨q0,hq0,hq0l,hq0all⟩:=hex;have hlt0:q0<ops.length:=by omega
   have RJ:q0∈Region.ready .any ops.toArray listed:=by
    rw[mem_ready];refine⟨hq0l,ops[q0],by simp[hlt0],fun e he hb=> ?_⟩;have h1:=(ji hok (i:=q0) (o:=ops[q0]) (by simp[hlt0])).1 e he hb;rw[jv hC.lsize (by omega)];exact hq0all e.on h1
   refine⟨fun h0=>by rw[h0] at RJ;simp at RJ,fun i hi=> ?_⟩;rw[mem_ready] at hi;obtain⟨h0,o,ho,hall⟩:=hi;have ho':ops[i]? =some o:=by simpa using ho
   have hil:i<ops.length:=lt_of_getElem? ho';have him:i<m:=by
    rcases Nat.lt_or_ge i m with h|h
    ·exact h
    ·have:=hC.far hall ((ji hok ho').2.2 h q0 (by omega));rw[jv hC.lsize hlt0,hq0l] at this;cases this
   have hs:=step hI him ho' h0 hall (next:=wpAnyIn (FW j0.rd) 0 P .any ops.toArray (FD j0 j1 w1 Q) fuel (listed.setIfInBounds i true)) fun j' v w' h1 h2=>
    ih j' _ w' _ (by have:=left_set hC.lsize hil h0;omega) h1 (he.trans h2)
   simp only[wpOpIn,ho];by_cases hw:Region.wanted o (yielded ops.toArray a.tmps)=true
   ·rw[if_pos hw] at hs⊢;exact hs
   ·rw[if_neg hw] at hs⊢;exact⟨fun _ _=>trivial,hs⟩
end
section
variable {P : Program} {Q : Exit -> St -> Prop} {s : St}
theorem ak{id:Nat}{ops:List Oper}{y:Code}(h: ∀K:St->Prop,(∀s',fA P y Q s'->K s')->bH P false ops ops s K):fA P (.seq (.region id ops.toArray false) y) Q s:=
 aK (Gz (h _ fun _ h=>h))
theorem aZ{id:Nat}{ops:List Oper}(h: ∀K:St->Prop,(∀s',Q .normal s'->K s')->bH P false ops ops s K):fA P (.region id ops.toArray false) Q s:=
 Gz (h _ fun _ h=>h)
end
theorem XI(b p:Bool):cond b p false=(b&&p):=by cases b<;>rfl
theorem cond_true_l(b q:Bool):cond b true q=(b||q):=by cases b<;>rfl
attribute [go_sem ↓] aay Xt Rest_mk jQ WY xY arg args pv bin un intBin strBin Qp zo loadA uy wU XY zQ lenA mW zk Ee Qo bnd QY Ou PU wI makeA fE XU PD Xw updA entA estA rangeA nextA Eo copyA capA Bq
attribute [go_sem] Rest_mk aU.get aU.put aU.del St.put St.newVar St.after cellsOf jU MF Value.oneCell' qX val ofConst isShift wQ loaded St.init Vg resA Oe lY jX gvA sV Nv PK eq1 List.drop List.take List.map List.set List.length List.getElem?_cons_zero List.getElem?_cons_succ List.headD Nat.beq_eq Nat.ble_eq Nat.blt_eq XI cond_true_l
attribute [go_sem] UM cutN msOf WQ akey Gf Zy aggD Key.str AV.free xR
attribute [congr] CSg_congr CSk_congr CSm_congr YSk_congr YSe_congr
attribute [go_sem] asClo_clo asClo_yld asClo_v asClo_v2
attribute [go_sem] List.nil_append List.cons_append List.append_nil
mutual
def AV.under(n:Nat):AV->Prop
 | .undef=>True
 | .iff b x=>b=true->x.under n
 | .d _=>True
 | .agg cs=>iG n cs
 | .eU cs=>iG n cs
 | .ptr b _=>b<n
 | .pe b _ _ _=>b<n
 | .el _=>True
 | .op _ _=>True
 | .ms b _ _ _=>b<n
 | .mc b _ _ _ _=>b<n
 | .mp b=>b<n
 | .clo _ fs cs=>iG n fs/\iG n cs
 | .zL b=>b<n
 | .fm _ _ _=>True
def iG(n:Nat):List AV->Prop
 |[]=>True
 |x::xs=>x.under n/\iG n xs
end
theorem nO{n:Nat} : ∀{cs:List AV} {k:Nat},iG n cs->k<cs.length->(cs.getD k .undef).under n
 |[],_,_,hk=>by simp at hk
 |x::xs,0,h,_=>by simp[iG] at h;simpa using h.1
 |x::xs,k+1,h,hk=>by
  simp[iG] at h;have:=nO (k:=k) h.2 (by simpa using hk);simpa using this
theorem RD.less{w:World}{j j':Js}(hs: ∀o,o∈j->o∈j'){d:D}{v:Value}(h:RD w j' d v):RD w j d v:=by
 induction h with
 |v x=>exact .v x
 |sl a c val hcap hle ha hlt hb hlen hcell hrel ih=>exact .sl a c val hcap hle ha hlt (fun hm=>hb (hs _ hm)) hlen hcell ih
 |zero p c hcap hp=>exact .zero p c hcap hp
theorem R.less{w:World}{j j':Js}(hs: ∀o,o∈j->o∈j')(ha: ∀b:Nat,b<j.length->j'[b]? =j[b]?){av:AV}{v:Value}(h:R w j' av v)(hu:av.under j.length):R w j av v:=by
 induction h with
 |undef v=>exact .undef v
 |iff h h0 ih=>exact .iff (fun hb=>ih hb (by simpa[AV.under,hb] using hu)) h0
 |d h=>exact .d (h.less hs)
 |agg vs hsz h ih=>exact .agg vs hsz fun k hk=>ih k hk (nO (by simpa[AV.under] using hu) hk)
 |eU vs hsz h ih=>exact .eU vs hsz fun k hk=>ih k hk (nO (by simpa[AV.under] using hu) hk)
 |ptr h=>exact .ptr (by rw[←ha _ (by simpa[AV.under] using hu)];exact h)
 |pe h=>exact .pe (by rw[←ha _ (by simpa[AV.under] using hu)];exact h)
 |el a val h1 hlt hb hcell hrel=>exact .el a val h1 hlt (fun hm=>hb (hs _ hm)) hcell fun k hk=>(hrel k hk).less hs
 |op h h0 ih=>exact .op (fun hb=>ih hb trivial) h0
 |ms c e m h h1 h2 h3=>exact .ms c e m (by rw[←ha _ (by simpa[AV.under] using hu)];exact h) h1 h2 h3
 |ms0 p h=>exact .ms0 p (by rw[←ha _ (by simpa[AV.under] using hu)];exact h)
 |vJ p e m h h1 h2 h3=>exact .vJ p e m (by rw[←ha _ (by simpa[AV.under] using hu)];exact h) h1 h2 h3
 |mc h q hv ih=>exact .mc (ih (by simpa[AV.under] using hu)) q hv
 |mp h=>exact .mp (by rw[←ha _ (by simpa[AV.under] using hu)];exact h)
 |zL h=>exact .zL (by rw[←ha _ (by simpa[AV.under] using hu)];exact h)
 |fm c cl es hlt hb zl hd=>exact .fm c cl es hlt (fun hm=>hb (hs _ hm)) zl ⟨hd.stamped,hd.keys,hd.kind,fun e he k hk=>(hd.rel e he k hk).less hs⟩
 | @clo fn fs cs ff cc h1 h2 h3 h4 ih3 ih4=>
  have hb:iG j.length fs/\iG j.length cs:=by simpa[AV.under] using hu
  exact .clo ff cc h1 h2 (fun k hk=>ih3 k hk (nO hb.1 hk)) (fun k hk=>ih4 k hk (nO hb.2 hk))
theorem CQ{j:Js}{b:Nat}{o:Option Nat}(h:j[b]? =some o):b<j.length:=(List.getElem?_eq_some_iff.1 h).1
theorem R.shrink{w w':World}{j j' jt:Js}(hs: ∀o,o∈jt->o∈j')(ha: ∀b:Nat,b<j.length->j'[b]? =jt[b]?){av:AV}{u:Value}(h2:R w j av u): ∀{v:Value},R w' j' av v->R w' jt av v:=by
 have key: ∀{b:Nat} {o o'},j[b]? =some o->j'[b]? =some o'->jt[b]? =some o':=fun h h'=>by rw[←ha _ (CQ h)];exact h'
 induction h2 with
 |undef v=>exact fun _=> .undef _
 |iff h h0 ih=>
  intro v h1;cases h1 with
  |iff h1 h10=>exact .iff (fun hb=>ih hb (h1 hb)) h10
 |d h=>
  intro v h1;cases h1 with|d h1=>exact .d (h1.less hs)
 |agg vs hsz h ih=>
  intro v h1;cases h1 with
  |agg vs' hsz' h'=>exact .agg vs' hsz' fun k hk=>ih k hk (h' k hk)
 |eU vs hsz h ih=>
  intro v h1;cases h1 with
  |eU vs' hsz' h'=>exact .eU vs' hsz' fun k hk=>ih k hk (h' k hk)
 |ptr h=>
  intro v h1;cases h1 with|ptr h1=>exact .ptr (key h h1)
 |pe h=>
  intro v h1;cases h1 with|pe h1=>exact .pe (key h h1)
 |el a val h1 hlt hb hcell hrel=>
  intro v h1;cases h1 with
  |el a' val' g1 g2 g3 g4 g5=>exact .el a' val' g1 g2 (fun hm=>g3 (hs _ hm)) g4 fun k hk=>(g5 k hk).less hs
 |op h h0 ih=>
  intro v h1;cases h1 with|op h1 h10=>exact .op (fun hb=>ih hb (h1 hb)) h10
 |ms c e m h _ _ _=>
  intro v h1;cases h1 with
  |ms c' e' m' g1 g2 g3 g4=>exact .ms c' e' m' (key h g1) g2 g3 g4
  |ms0 p g1=>exact .ms0 p (key h g1)
  |vJ p e' m' g1 g2 g3 g4=>exact .vJ p e' m' (key h g1) g2 g3 g4
 |ms0 p h=>
  intro v h1;cases h1 with
  |ms c' e' m' g1 g2 g3 g4=>exact .ms c' e' m' (key h g1) g2 g3 g4
  |ms0 p g1=>exact .ms0 p (key h g1)
  |vJ p e' m' g1 g2 g3 g4=>exact .vJ p e' m' (key h g1) g2 g3 g4
 |vJ p e m h _ _ _=>
  intro v h1;cases h1 with
  |ms c' e' m' g1 g2 g3 g4=>exact .ms c' e' m' (key h g1) g2 g3 g4
  |ms0 p g1=>exact .ms0 p (key h g1)
  |vJ p e' m' g1 g2 g3 g4=>exact .vJ p e' m' (key h g1) g2 g3 g4
 |mc h q hv ih=>
  intro v h1;cases h1 with|mc h1 q' hv'=>exact .mc (ih h1) q' hv'
 |mp h=>
  intro v h1;cases h1 with|mp h1=>exact .mp (key h h1)
 |zL h=>
  intro v h1;cases h1 with|zL h1=>exact .zL (key h h1)
 |fm _ _ _ _ _ _ _=>
  intro v h1;cases h1 with|fm c cl es hlt hb zl hd=>exact .fm c cl es hlt (fun hm=>hb (hs _ hm)) zl ⟨hd.stamped,hd.keys,hd.kind,fun e he k hk=>(hd.rel e he k hk).less hs⟩
 |clo ff cc h1 h2 h3 h4 ih3 ih4=>
  intro v h1;cases h1 with
  |clo ff' cc' g1 g2 g3 g4=>exact .clo ff' cc' g1 g2 (fun k hk=>ih3 k hk (g3 k hk)) (fun k hk=>ih4 k hk (g4 k hk))
def Dz(n:Nat):aG->Prop
 | .var cs=> ∀k,k<cs.length->(cs.getD k .undef).under n
 | .lp L _ _=> ∀k av,(k,av)∈L.t->av.under n
 |_=>True
theorem R.under{w:World}{j:Js}{av:AV}{v:Value}(h:R w j av v):av.under j.length:=by
 have all: ∀{cs:List AV},(∀k,k<cs.length->(cs.getD k .undef).under j.length)->iG j.length cs:=by
  intro cs;induction cs with
  |nil=>intro _;trivial
  |cons x xs ih=>
   intro hx;exact⟨by simpa using hx 0 (by simp),ih fun k hk=>by simpa using hx (k+1) (by simpa using hk)⟩
 induction h with
 |undef v=>trivial
 |iff h h0 ih=>exact ih
 |d h=>trivial
 |agg vs hsz h ih=>exact all ih
 |eU vs hsz h ih=>exact all ih
 |ptr h=>exact CQ h
 |pe h=>exact CQ h
 |el a val h1 hlt hb hcell hrel=>trivial
 |op h h0 ih=>trivial
 |ms c e m h h1 h2 h3=>exact CQ h
 |ms0 p h=>exact CQ h
 |vJ p e m h=>exact CQ h
 |mc h q hv ih=>exact ih
 |mp h=>exact CQ h
 |clo ff cc h1 h2 h3 h4 ih3 ih4=>exact⟨all ih3,all ih4⟩
 |zL h=>exact CQ h
 |fm _ _ _ _ _ _ _=>trivial
theorem yE{n:Nat}{X:List Nat}(hX: ∀b∈X,n<=b)(av:AV):av.under n->av.avoids X=true:=by
 have key: ∀b,b<n->X.contains b=false:=fun b hb=>by
  simp only[List.contains_eq_mem,decide_eq_false_iff_not];intro hm;have:=hX b hm;omega
 induction av using AV.rec (motive_2:=fun l=>iG n l->dQ X l=true) with
 |undef=>intro _;rfl
 |iff b x ih=>intro h;cases b with
  |false=>rfl
  |true=>simpa[AV.avoids] using ih (h rfl)
 |d x=>intro _;rfl
 |agg cs ih=>intro h;exact ih h
 |eU cs ih=>intro h;exact ih h
 |ptr b off=>intro h;simp only[AV.avoids,key b h];rfl
 |pe b sz i k=>intro h;simp only[AV.avoids,key b h];rfl
 |el cs=>intro _;rfl
 |op b cs=>intro _;rfl
 |ms b sz lo m=>intro h;simp only[AV.avoids,key b h];rfl
 |mc b sz lo m c=>intro h;simp only[AV.avoids,key b h];rfl
 |mp b=>intro h;simp only[AV.avoids,key b h];rfl
 |clo fn fs cs ih1 ih2=>intro h;simp only[AV.avoids,ih1 h.1,ih2 h.2];rfl
 |zL b=>intro h;simp only[AV.avoids,key b h];rfl
 |fm d ks f=>intro _;rfl
 |nil=>rfl
 |cons x xs ih1 ih2=>rename_i h;simp only[dQ,ih1 h.1,ih2 h.2];rfl
def lS(σ:List aG):Prop:= ∀X,(∀b∈X,σ.length<=b)->σ.map (bQ X)=σ
theorem R.xR{w:World}{j j':Js}(hs: ∀o,o∈j->o∈j'){av:AV}{v:Value}(h:R w j' av v):av.free=true->R w j av v:=by
 have el: ∀{cs:List AV} {k:Nat},aU.xR cs=true->k<cs.length->(cs.getD k .undef).free=true:=by
  intro cs;induction cs with
  |nil=>intro k _ hk;simp at hk
  |cons x xs ih=>
   intro k hf hk;simp only[aU.xR,Bool.and_eq_true] at hf;cases k with
   |zero=>simpa using hf.1
   |succ k=>simpa using ih hf.2 (by simpa using hk)
 induction h with
 |undef v=>exact fun _=> .undef v
 |iff h h0 ih=>exact fun hf=> .iff (fun hb=>ih hb (by simpa[AV.free,hb] using hf)) h0
 |d h=>exact fun _=> .d (h.less hs)
 |agg vs hsz h ih=>exact fun hf=> .agg vs hsz fun k hk=>ih k hk (el hf hk)
 |eU vs hsz h ih=>exact fun hf=> .eU vs hsz fun k hk=>ih k hk (el hf hk)
 |el a val h1 hlt hb hcell hrel=>exact fun _=> .el a val h1 hlt (fun hm=>hb (hs _ hm)) hcell fun k hk=>(hrel k hk).less hs
 |op h h0 ih=>exact fun _=> .op (fun hb=>ih hb rfl) h0
 |clo ff cc h1 h2 h3 h4 ih3 ih4=>
  intro hf;simp only[AV.free,Bool.and_eq_true] at hf;exact .clo ff cc h1 h2 (fun k hk=>ih3 k hk (el hf.1 hk)) (fun k hk=>ih4 k hk (el hf.2 hk))
 |ptr h=>intro hf;cases hf
 |pe h=>intro hf;cases hf
 |ms c e m h h1 h2 h3=>intro hf;cases hf
 |ms0 p h=>intro hf;cases hf
 |vJ p e m h h1 h2 h3=>intro hf;cases hf
 |mc h q hv ih=>intro hf;cases hf
 |mp h=>intro hf;cases hf
 |zL h=>intro hf;cases hf
 |fm c cl es hlt hb zl hd=>exact fun _=> .fm c cl es hlt (fun hm=>hb (hs _ hm)) zl ⟨hd.stamped,hd.keys,hd.kind,fun e he k hk=>(hd.rel e he k hk).less hs⟩
theorem jF.less{w:World}{j j':Js}(hs: ∀o,o∈j->o∈j'){es:Array MapEntry}{cl:Nat}{d:Bool}{ks:List Key}{f:Key->AV}(h:jF w j' es cl d ks f):jF w j es cl d ks f:=
 ⟨h.stamped,h.keys,h.kind,h.free,fun e hm k hk=>(h.rel e hm k hk).xR hs (h.free k)⟩
theorem vI.less{w:World}{j j':Js}(hs: ∀o,o∈j->o∈j'){mb:Nat}{es:Array MapEntry}{cl:Nat}{seen:Array Nat}{left:List Key}{cur:Option Key}{f:Key->AV}(h:vI w j' mb es cl seen left cur f):vI w j mb es cl seen left cur f:=
 ⟨h.lt,fun hm=>h.own (hs _ hm),h.heap,h.stamped,h.keys,h.cur,h.free,fun e hm k hk=>(h.rel e hm k hk).xR hs (h.free k)⟩
theorem RB.under{w:World}{j:Js}{x:aG}{o:Option Nat}(h:RB w j x o):Dz j.length x:=by
 cases x with
 |dead=>trivial
 |loc c=>trivial
 |tab c vs=>trivial
 |arr sz n row=>trivial
 |mp d ks f=>trivial
 |TT d ks f κ q=>trivial
 |it left cur f=>trivial
 |var cs=>
  cases o with
  |none=>exact h.elim
  |some cb=>
   obtain⟨C,e,h1,h2,h3⟩:=h;exact fun k hk=>(h3 k hk).under
 |lp L st pd=>
  cases o with
  |none=>exact h.elim
  |some cb=>
   obtain⟨r,h1,h2,h3,h4⟩:=h;exact fun k av hk=>(h4 k av hk).2.under
theorem aT.wf{w:World}{j:Js}{σ:List aG}(h:aT w j σ):lS σ:=by
 intro X hX;apply List.ext_getElem?;intro b;rw[List.getElem?_map];cases hb:σ[b]? with
 |none=>rfl
 |some x=>
  obtain⟨o,ho,hB⟩:=h.blk b x hb;have hu:=hB.under;rw[h.len] at hu;simp only[Option.map_some,Option.some.injEq];cases x with
  |dead=>rfl
  |loc c=>rfl
  |tab c vs=>rfl
  |arr sz n row=>rfl
  |mp d ks f=>rfl
  |TT d ks f κ q=>rfl
  |it left cur f=>rfl
  |var cs=>
   simp only[bQ,aG.var.injEq];apply List.ext_getElem?;intro k;rw[List.getElem?_map];cases hk:cs[k]? with
   |none=>rfl
   |some c=>
    have hlt:k<cs.length:=lt_of_getElem? hk;have:=hu k hlt;rw[List.getD_eq_getElem?_getD,hk] at this;simp only[Option.map_some,Option.some.injEq];rw[if_pos (yE hX c (by simpa using this))]
  |lp L st pd=>
   simp only[bQ,aG.lp.injEq,and_true];rw[KE fun k av hk=>yE hX av (hu k av hk)]
theorem lS.one{σ:List aG}(h:lS σ)(k:Nat):σ.map (bQ [σ.length+k])=σ:=h _ (by simp)
theorem lS.zero{σ:List aG}(h:lS σ):σ.map (bQ [σ.length])=σ:=h _ (by simp)
theorem RB.less{w:World}{j j':Js}(hs: ∀o,o∈j->o∈j')(ha: ∀b:Nat,b<j.length->j'[b]? =j[b]?){x:aG}{o:Option Nat}(h:RB w j' x o)(hu:Dz j.length x):RB w j x o:=by
 cases x with
 |dead=>trivial
 |loc c=>
  obtain⟨h1,h2,h3,m,h4⟩:=h;exact⟨h1,h2,fun hm=>h3 (hs _ hm),m,h4⟩
 |tab c vs=>
  obtain⟨h1,h2,h3,e,h4,h5⟩:=h;exact⟨h1,h2,fun hm=>h3 (hs _ hm),e,h4,h5⟩
 |var cs=>
  cases o with
  |none=>exact h
  |some cb=>
   obtain⟨C,e,h1,h2,h3⟩:=h;exact⟨C,e,h1,h2,fun k hk=>(h3 k hk).less hs ha (hu k hk)⟩
 |arr sz n row=>
  cases o with
  |none=>exact h
  |some cb=>
   obtain⟨C,e,h1,h2,h3⟩:=h;exact⟨C,e,h1,h2,fun i hi=>⟨(h3 i hi).1,fun k hk=>((h3 i hi).2 k hk).less hs⟩⟩
 |lp L st pd=>
  cases o with
  |none=>exact h
  |some cb=>
   obtain⟨r,h1,h2,h3,h4⟩:=h;exact⟨r,h1,h2,h3,fun k av hk=>⟨(h4 k av hk).1,(h4 k av hk).2.less hs ha (hu k av hk)⟩⟩
 |mp d ks f=>
  cases o with
  |none=>exact h
  |some cb=>
   obtain⟨es,cl,h1,h2⟩:=h;exact⟨es,cl,h1,h2.less hs⟩
 |TT d ks f κ q=>
  cases o with
  |none=>exact h
  |some cb=>
   obtain⟨es,cl,h1,h2,hx⟩:=h;exact⟨es,cl,h1,h2.less hs,hx⟩
 |it left cur f=>
  cases o with
  |none=>exact h
  |some cb=>
   obtain⟨mb,es,cl,seen,h1,h2⟩:=h;exact⟨mb,es,cl,seen,h1,h2.less hs⟩
theorem RB.shrink{w w':World}{j j' jt:Js}(hs: ∀o,o∈jt->o∈j')(ha: ∀b:Nat,b<j.length->j'[b]? =jt[b]?){x:aG}{o o':Option Nat}(h2:RB w j x o)(h:RB w' j' x o'):RB w' jt x o':=by
 cases x with
 |dead=>trivial
 |loc c=>
  obtain⟨h1,h3,h4,m,h5⟩:=h;exact⟨h1,h3,fun hm=>h4 (hs _ hm),m,h5⟩
 |tab c vs=>
  obtain⟨h1,h3,h4,e,h5,h6⟩:=h;exact⟨h1,h3,fun hm=>h4 (hs _ hm),e,h5,h6⟩
 |var cs=>
  cases o with
  |none=>exact h2.elim
  |some cb=>
  cases o' with
  |none=>exact h
  |some cb'=>
   obtain⟨C,e,h1,h2',h3⟩:=h;obtain⟨C2,e2,g1,g2,g3⟩:=h2;exact⟨C,e,h1,h2',fun k hk=>(g3 k hk).shrink hs ha (h3 k hk)⟩
 |arr sz n row=>
  cases o' with
  |none=>exact h
  |some cb=>
   obtain⟨C,e,h1,h2,h3⟩:=h;exact⟨C,e,h1,h2,fun i hi=>⟨(h3 i hi).1,fun k hk=>((h3 i hi).2 k hk).less hs⟩⟩
 |lp L st pd=>
  cases o with
  |none=>exact h2.elim
  |some cb=>
  cases o' with
  |none=>exact h
  |some cb'=>
   obtain⟨r,h1,h3,h4,h5⟩:=h;obtain⟨r2,g1,g3,g4,g5⟩:=h2;exact⟨r,h1,h3,h4,fun k av hk=>⟨(h5 k av hk).1,(g5 k av hk).2.shrink hs ha (h5 k av hk).2⟩⟩
 |mp d ks f=>
  cases o' with
  |none=>exact h
  |some cb=>
   obtain⟨es,cl,h1,h9⟩:=h;exact⟨es,cl,h1,h9.less hs⟩
 |TT d ks f κ q=>
  cases o' with
  |none=>exact h
  |some cb=>
   obtain⟨es,cl,h1,h9,hx⟩:=h;exact⟨es,cl,h1,h9.less hs,hx⟩
 |it left cur f=>
  cases o' with
  |none=>exact h
  |some cb=>
   obtain⟨mb,es,cl,seen,h1,h9⟩:=h;exact⟨mb,es,cl,seen,h1,h9.less hs⟩
structure Leaves(pY σ':List aG):Prop where
 len:σ'.length=pY.length
 blk: ∀(b:Nat) x,σ'[b]? =some x->pY[b]? =some x\/Dz pY.length x\/∃Y y,pY[b]? =some y/\x=bQ Y y
theorem Leaves.refl(σ:List aG):Leaves σ σ:=⟨rfl,fun _ _ h=> .inl h⟩
theorem aT.drop{w w':World}{j j':Js}{pY σ' g:List aG}{X:List Nat}(h0:aT w j pY)(h:aT w' j' (σ'++g))(hl:Leaves pY σ')(hag:Ag j j' X)(hle:j.length<=j'.length):
  aT w' (j'.take j.length) σ'/\(∀o,o∈j'.take j.length->o∈j')/\(∀b:Nat,b<(j'.take j.length).length->j'[b]? =(j'.take j.length)[b]?):=by
 have hlen:(j'.take j.length).length=j.length:=by simp;omega
 have hs: ∀o,o∈j'.take j.length->o∈j':=fun o ho=>List.mem_of_mem_take ho;have ha: ∀b:Nat,b<(j'.take j.length).length->j'[b]? =(j'.take j.length)[b]? :=by
  intro b hb;rw[List.getElem?_take,if_pos (by omega)]
 have hget: ∀{b:Nat} {o},(j'.take j.length)[b]? =some o->j'[b]? =some o:=by
  intro b o hb;rw[List.getElem?_take] at hb;split at hb
  ·exact hb
  ·simp at hb
 refine⟨⟨by rw[hlen,h0.len,hl.len],fun b cb hb=>h.lt b cb (hget hb),fun b b' cb hb hb'=>h.inj b b' cb (hget hb) (hget hb'),fun b x hx=> ?_⟩,hs,ha⟩;have hbl:b<σ'.length:=(List.getElem?_eq_some_iff.1 hx).1;obtain⟨o,ho,hB⟩:=h.blk b x (by rw[List.getElem?_append_left hbl];exact hx);have hbj:b<(j'.take j.length).length:=by rw[hlen,h0.len,←hl.len];exact hbl
 refine⟨o,by rw[←ha b hbj];exact ho,?_⟩;rcases hl.blk b x hx with hx0|hu|⟨Y,y,hx0,rfl⟩
 ·obtain⟨o0,ho0,hB0⟩:=h0.blk b x hx0;exact hB0.shrink hs (fun q hq=>ha q (by omega)) hB
 ·exact hB.less hs ha (by rw[hlen,h0.len];exact hu)
 ·obtain⟨o0,ho0,hB0⟩:=h0.blk b y hx0;exact(hB0.Y1 Y).shrink hs (fun q hq=>ha q (by omega)) hB
def uM(n:Nat)(X:List Nat):List Nat->Prop
 |[]=>True
 |x::xs=>(n<=x\/x∈X)/\uM n X xs
theorem Zr{n:Nat}{X:List Nat} : ∀{l:List Nat} {x:Nat},uM n X l->x∈l->n<=x\/x∈X
 |[],x,_,h=>by simp at h
 |y::ys,x,h,hx=>by
  rcases List.mem_cons.1 hx with rfl|hx
  ·exact h.1
  ·exact Zr h.2 hx
theorem Ag.uM{j j':Js}{mv X:List Nat}(h:Ag j j' mv)(hm:aU.uM j.length X mv):Ag j j' X:=fun b hb hn=>h b hb fun hmem=>by
 rcases Zr hm hmem with h1|h1
 ·omega
 ·exact hn h1
def Pq(P:Program)(fn:Func)(pY:List aG)(X:List Nat)(Q:AV->List aG->Prop)(s:St):Prop:=
 zQ P s fn.results.toList fun xs=> ∃σ' g,s.σ=σ'++g/\Leaves pY σ'/\(Oe xs).under pY.length/\uM pY.length X s.mv/\Q (Oe xs) σ'
def BO(P:Program)(fn:Func)(pY:List aG)(X:List Nat)(Q:AV->List aG->Prop):Exit->St->Prop
 | .normal,s=>Pq P fn pY X Q s
 | .ret,s=>Pq P fn pY X Q s
 |_,_=>False
theorem CS.Zm{P:Program}{f:FuncId}{fn:Func}{c:Code}{args:List AV}{σ:List aG}{Q:AV->List aG->Prop}(X:List Nat)(hen:dX P f=true)(hf:P.funcs[f]? =some fn)(hb:fn.body=some c)(hN:args.length<=fn.ntmps)
  (h:lS σ->fA P c (BO P fn σ X Q) (St.init fn.ntmps args σ)):CS P f args σ fun r σ' X'=>X'=X/\Q r σ':=by
 refine⟨hen,fun j w vs hs hr=>SS hf hb hN (h hs.wf) hs hr fun e s' hq=> ?_⟩;have fin:Pq P fn σ X Q s'->∀j' a w',Rel ⟨j,w.heap.size,none⟩ s' j' a w'->Ev j w j' w'->∃v,(results fn a.tmps).run P w'= .ok v w'/\∃v' r σ' j' X',Ending.returned v= .returned v'/\aT w' j' σ'/\R w' j' r v'/\Ev j w j' w'/\j.length<=j'.length/\Ag j j' X'/\X'=X/\Q r σ':=by
  intro hq j' a w' hrel hev;obtain⟨v,x,h1,h2,σ',g,h3,h4,h5,h6,h7⟩:=wP hrel (K:=fun x=> ∃σ' g,s'.σ=σ'++g/\Leaves σ σ'/\x.under σ.length/\uM σ.length X s'.mv/\Q x σ') hq;have o9:=hrel.dA;rw[h3] at o9;have hlen0:j.length<=j'.length:=hrel.len0;have hag:Ag j j' X:=Ag.uM hrel.ag (by show uM j.length X s'.mv;rw[hs.len];exact h6);obtain⟨g1,g2,g3⟩:=hs.drop o9 h4 hag hlen0;have hlen:(j'.take j.length).length=j.length:=by simp;omega
  refine⟨v,h1,v,x,σ',j'.take j.length,X,rfl,g1,h2.less g2 g3 (by rw[hlen,hs.len];exact h5),⟨hev.size,hev.keep,fun b hb hm=>hev.sub b hb (g2 _ hm),hev.shp,hev.sZ,hev.os,hev.tape,hev.output,hev.lps⟩,by omega,fun b hb hn=> ?_,rfl,h7⟩;rw[←g3 b (by omega)];exact hag b hb hn
 cases e with
 |normal=>exact⟨.inl rfl,fin hq⟩
 |ret=>exact⟨.inr rfl,fin hq⟩
 |exit id=>exact hq.elim
 |goto l=>exact hq.elim
 |panic c=>exact hq.elim
 |outgrown=>exact hq.elim
def Same(x y:AV):Prop:= ∀w j v,R w j x v->R w j y v
theorem Same.refl(x:AV):Same x x:=fun _ _ _ h=>h
theorem Same.trans{x y z:AV}(h:Same x y)(k:Same y z):Same x z:=fun w j v hr=>k w j v (h w j v hr)
def bC:AV->AV->Prop
 | .d (.v a),.d (.v b)=>a=b
 | .d (.sl c sz n row),.d (.sl c' sz' n' row')=>(c'=none\/c'=c)/\sz=sz'/\n=n'/\∀i,i<n->row i=row' i
 | .d (.v (.slice none 0 0)),.d (.sl c' sz' n' row')=>(c'=none\/c'=some 0)/\n'=0
 |x,y=>x=y
theorem Same.d{x y:D}(h: ∀w j v,RD w j x v->RD w j y v):Same (.d x) (.d y):=fun w j v hr=>by
 cases hr with|d hr=>exact .d (h w j v hr)
theorem RD.rows{w:World}{j:Js}{c c':Option Nat}{sz n:Nat}{row row':Nat->List D}{v:Value}(hc:c'=none\/c'=c)(hr: ∀i,i<n->row i=row' i)(h:RD w j (.sl c sz n row) v):RD w j (.sl c' sz n row') v:=by
 have hcap: ∀q:Nat,(c=none\/c=some q)->(c'=none\/c'=some q):=fun q hq=>by
  rcases hc with rfl|rfl
  ·exact .inl rfl
  ·exact hq
 cases h with
 |sl a q val h1 h2 h3 h4 h5 h6 h7 h8=>exact .sl a q val (hcap q h1) h2 h3 h4 h5 (fun i hi=>by rw[←hr i hi];exact h6 i hi) h7 (fun i hi k hk=>by rw[←hr i hi];exact h8 i hi k hk)
 |zero p q h1 h2=>exact .zero p q (hcap q h1) h2
theorem bC.same{x y:AV}(h:bC x y):Same x y:=by
 unfold bC at h;split at h
 ·subst h;exact .refl _
 ·obtain⟨h1,rfl,rfl,h4⟩:=h;exact .d fun w j v hr=>hr.rows h1 h4
 ·obtain⟨h1,rfl⟩:=h;refine .d fun w j v hr=> ?_;cases hr
  exact .zero none 0 (by rcases h1 with rfl|rfl;exact .inl rfl;exact .inr rfl) (fun _=>rfl)
 ·subst h;exact .refl _
def eu:List AV->List AV->Prop
 |[],[]=>True
 |x::xs,y::ys=>bC x y/\eu xs ys
 |_,_=>False
theorem L9: ∀{xs ys:List AV},eu xs ys->ys.length=xs.length/\∀k,k<xs.length->Same (xs.getD k .undef) (ys.getD k .undef)
 |[],[],_=>⟨rfl,by simp⟩
 |x::xs,y::ys,h=>by
  obtain⟨h1,h2⟩:=L9 h.2;refine⟨by simp[h1],fun k hk=> ?_⟩;cases k with
  |zero=>simpa using h.1.same
  |succ k=>simpa using h2 k (by simpa using hk)
def sS:AV->AV->Prop
 | .agg xs,.agg ys=>eu xs ys
 |x,y=>bC x y
theorem sS.same{x y:AV}(h:sS x y):Same x y:=by
 unfold sS at h;split at h
 ·obtain⟨h1,h2⟩:=L9 h;intro w j v hr;cases hr with
  |agg vs hs hv=>exact .agg vs (by rw[h1];exact hs) fun k hk=>h2 k (by rw[←h1];exact hk) _ _ _ (hv k (by rw[←h1];exact hk))
 ·exact h.same
def xw:List AV->List AV->Prop
 |[],[]=>True
 |x::xs,y::ys=>sS x y/\xw xs ys
 |_,_=>False
theorem FP: ∀{xs ys:List AV},xw xs ys->ys.length=xs.length/\∀k,k<xs.length->Same (xs.getD k .undef) (ys.getD k .undef)
 |[],[],_=>⟨rfl,by simp⟩
 |x::xs,y::ys,h=>by
  obtain⟨h1,h2⟩:=FP h.2;refine⟨by simp[h1],fun k hk=> ?_⟩;cases k with
  |zero=>simpa using h.1.same
  |succ k=>simpa using h2 k (by simpa using hk)
def L8:AV->AV->Prop
 | .eU xs,.eU ys=>xw xs ys
 |x,y=>sS x y
theorem L8.same{x y:AV}(h:L8 x y):Same x y:=by
 unfold L8 at h;split at h
 ·obtain⟨h1,h2⟩:=FP h;intro w j v hr;cases hr with
  |eU vs hs hv=>exact .eU vs (by rw[h1];exact hs) fun k hk=>h2 k (by rw[←h1];exact hk) _ _ _ (hv k (by rw[←h1];exact hk))
 ·exact h.same
def BN(P:Program)(fn:Func)(pY:List aG)(r:AV):Exit->St->Prop
 | .normal,s=>zQ P s fn.results.toList fun xs=>(∃g,s.σ=pY++g)/\L8 (Oe xs) r/\uM pY.length [] s.mv
 | .ret,s=>zQ P s fn.results.toList fun xs=>(∃g,s.σ=pY++g)/\L8 (Oe xs) r/\uM pY.length [] s.mv
 |_,_=>False
theorem aA.Px{P:Program}{f:FuncId}{fn:Func}{c:Code}{args:List AV}{σ:List aG}{r:AV}(hen:dX P f=true)(hf:P.funcs[f]? =some fn)(hb:fn.body=some c)(hN:args.length<=fn.ntmps)(hr:r.under σ.length)
  (h:lS σ->fA P c (BN P fn σ r) (St.init fn.ntmps args σ)):aA P f args σ r:=by
 refine⟨hen,fun j w vs hs hrs=>SS hf hb hN (h hs.wf) hs hrs fun e s' hq=> ?_⟩;have fin:(zQ P s' fn.results.toList fun xs=>(∃g,s'.σ=σ++g)/\L8 (Oe xs) r/\uM σ.length [] s'.mv)->∀j' a w',Rel ⟨j,w.heap.size,none⟩ s' j' a w'->Ev j w j' w'->∃v,(results fn a.tmps).run P w'= .ok v w'/\∃v' r' σ' j' X,Ending.returned v= .returned v'/\aT w' j' σ'/\R w' j' r' v'/\Ev j w j' w'/\j.length<=j'.length/\Ag j j' X/\(r'=r/\σ'=σ/\X=[]):=by
  intro hq j' a w' hrel hev;obtain⟨v,x,h1,h2,⟨g,h3⟩,h4,h5⟩:=wP hrel (K:=fun x=>(∃g,s'.σ=σ++g)/\L8 x r/\uM σ.length [] s'.mv) hq;have o9:=hrel.dA;rw[h3] at o9;have hlen0:j.length<=j'.length:=hrel.len0;have hag:Ag j j' []:=Ag.uM hrel.ag (by show uM j.length [] s'.mv;rw[hs.len];exact h5);obtain⟨g1,g2,g3⟩:=hs.drop o9 (.refl _) hag hlen0;have hlen:(j'.take j.length).length=j.length:=by simp;omega
  refine⟨v,h1,v,r,σ,j'.take j.length,[],rfl,g1,(h4.same _ _ _ h2).less g2 g3 (by rw[hlen,hs.len];exact hr),⟨hev.size,hev.keep,fun b hb hm=>hev.sub b hb (g2 _ hm),hev.shp,hev.sZ,hev.os,hev.tape,hev.output,hev.lps⟩,by omega,fun b hb hn=> ?_,rfl,rfl,rfl⟩;rw[←g3 b (by omega)];exact hag b hb hn
 cases e with
 |normal=>exact⟨.inl rfl,fin hq⟩
 |ret=>exact⟨.inr rfl,fin hq⟩
 |exit id=>exact hq.elim
 |goto l=>exact hq.elim
 |panic c=>exact hq.elim
 |outgrown=>exact hq.elim
theorem app_get{α:Type}(l r:List α)(k:Nat):(l++r)[l.length+k]? =r[k]? :=by
 rw[List.getElem?_append_right (by omega)];congr 1;omega
theorem app_get0{α:Type}(l r:List α):(l++r)[l.length]? =r[0]? :=app_get l r 0
theorem app_set{α:Type}(l r:List α)(k:Nat)(x:α):(l++r).set (l.length+k) x=l++r.set k x:=by
 rw[List.set_append_right _ _ (by omega)];congr 2;omega
theorem app_set0{α:Type}(l r:List α)(x:α):(l++r).set l.length x=l++r.set 0 x:=app_set l r 0 x
attribute [go_sem ↓] BN BO Pq L8 xw eu sS bC
attribute [go_sem] app_get app_get0 app_set app_set0 AV.under iG uM
structure Back(sh s' s'':St):Prop where
 N:s''.N=s'.N
 mv: ∀x∈s'.mv,x∈s''.mv
 σ: ∃g,s'.σ=s''.σ++g
 blk:Leaves sh.σ s''.σ
 t: ∀k av,get s''.t k=some av->get s'.t k=some av/\(get sh.t k=some av\/av.under sh.σ.length)
theorem Back.rel{sh s' s'':St}(h:Back sh s' s''){j0:J0}{jh j:Js}{ah a:Act}{wh w:World}(hh:Rel j0 sh jh ah wh)(hr:Rel j0 s' j a w)(hle:jh.length<=j.length): ∃j',Rel j0 s'' j' a w/\Ev j w j' w/\jh.length<=j'.length:=by
 obtain⟨g,hg⟩:=h.σ;have o9:=hr.dA;rw[hg] at o9;obtain⟨g1,g2,g3⟩:=hh.dA.drop o9 h.blk (X:=List.range jh.length) (fun b hb hn=>absurd (by simpa using hb) hn) hle;have hlen:(j.take jh.length).length=jh.length:=by simp;omega
 have he:Ev j w (j.take jh.length) w:=⟨Nat.le_refl _,fun _ _ _=>rfl,fun b _ hm=>g2 _ hm,fun _ _=>rfl,fun _ _=>rfl,rfl,rfl,rfl,fun _ r h=>⟨r,h⟩⟩;refine⟨j.take jh.length,⟨hr.defers.mono he,hr.jY,by rw[h.N];exact hr.size,fun k av hk=> ?_,g1,by rw[hlen];exact hh.len0,?_⟩,he,by omega⟩
 ·obtain⟨h1,h2⟩:=h.t k av hk;have h3:=hr.tmp k av h1;rw[h.N];refine⟨h3.1,?_⟩;rcases h2 with h2|h2
  ·exact(hh.tmp k av h2).2.shrink g2 (fun b hb=>g3 b (by omega)) h3.2
  ·exact h3.2.less g2 g3 (by rw[hlen,hh.dA.len];exact h2)
 ·intro b hb hn;rw[←g3 b (by have:=hh.len0;omega)];exact hr.ag b hb fun hm=>hn (h.mv b hm)
theorem Back.len{sh s' s'':St}(h:Back sh s' s''){j0:J0}{jh j:Js}{ah a:Act}{wh w:World}(hh:Rel j0 sh jh ah wh)(hr:Rel j0 s' j a w):jh.length<=j.length:=by
 obtain⟨g,hg⟩:=h.σ;have h1:=h.blk.len;have h2:=hh.dA.len;have h3:=hr.dA.len;rw[hg,List.length_append] at h3;omega
structure Less(s s':St):Prop where
 N:s'.N=s.N
 mv: ∀x∈s.mv,x∈s'.mv
 σ:s'.σ=s.σ
 t: ∀k av,get s'.t k=some av->get s.t k=some av
theorem Less.sub{s s':St}(h:Less s s'):Sub s s':=fun j0 j a w hr=>
 ⟨j,⟨hr.defers,hr.jY,by rw[h.N];exact hr.size,fun k av hk=>by rw[h.N];exact hr.tmp k av (h.t k av hk),by rw[h.σ];exact hr.dA,hr.len0,fun b hb hn=>hr.ag b hb fun hm=>hn (h.mv b hm)⟩,.refl _ _⟩
def Qj:List (Nat×AV)->List (Nat×AV)->Prop
 |[],_=>True
 |(k,v)::t,u=>get u k=some v/\Qj t u
def VG(th:List (Nat×AV))(n:Nat):List (Nat×AV)->List (Nat×AV)->Prop
 |[],_=>True
 |(k,v)::t,u=>get u k=some v/\(get th k=some v\/v.under n)/\VG th n t u
theorem VF: ∀{th t u:List (Nat×AV)} {n k:Nat} {av:AV},VG th n t u->get t k=some av->get u k=some av/\(get th k=some av\/av.under n)
 |_,[],u,n,k,av,_,h=>by simp[get] at h
 |th,(q,v)::t,u,n,k,av,hs,h=>by
  simp only[get] at h;by_cases hq:q=k
  ·subst hq;simp at h;subst h;exact⟨hs.1,hs.2.1⟩
  ·simp only[zC hq,Bool.false_eq_true,if_false] at h;exact VF hs.2.2 h
theorem dI{N:Nat}{th t' t'':List (Nat×AV)}{σh σ' AY:List aG}{mvh mv mv':List Nat}{Nh:Nat}(hσ: ∃g,σ'=AY++g)(hb:Leaves σh AY)(h:VG th σh.length t'' t')(hm: ∀x∈mv,x∈mv':=by simp):Back ⟨Nh,th,σh,mvh⟩ ⟨N,t',σ',mv⟩ ⟨N,t'',AY,mv'⟩:=
 ⟨rfl,hm,hσ,hb,fun k av hk=>VF h hk⟩
section
variable {P : Program} {Q : Exit -> St -> Prop} {s : St}
theorem awp_loopN{c:Code}{α:Type}(st:α->St)(ok:α->Prop)(μ:α->Nat)(x₀:α)(h0:Sub s (st x₀))(hx₀:ok x₀)
  (round: ∀x,ok x->fA P c (zM (fun s'=> ∃x',Back (st x) s' (st x')/\ok x'/\μ x'<μ x) Q) (st x)):fA P (.loop c) Q s:=by
 intro j0 j a w hr;obtain⟨j₁,hr₁,he₁⟩:=h0 j0 j a w hr;intro b k cs hro hb hfr;have key: ∀n x j₁ a w₁,μ x=n->ok x->Rel j0 (st x) j₁ a w₁->Ev j w j₁ w₁->
   ∃e a' w',FD j0 j w Q e a' w'/\ArrivesIn (Machine.fenced P (FW j0.rd)) P (lone (b.atR a (.code c:: .inLoop c::k)) cs w₁) b k cs e a' w':=by
  intro n;induction n using Nat.strongRecOn with
  |_ n ih=>
   intro x j₁ a w₁ hn hx hr he;obtain⟨e,a₁,w₂,⟨s',j₂,hr₂,he₂,hq⟩,harr⟩:=round x hx j0 j₁ a w₁ hr b (.inLoop c::k) cs hro hb hfr;cases e with
   |normal=>
    obtain⟨x',hback,hx',hlt⟩:=hq;obtain⟨j₃,hr₃,he₃,_⟩:=hback.rel hr hr₂ (hback.len hr hr₂);obtain⟨e₂,a₂,w₃,hq₂,harr₂⟩:=ih (μ x') (hn▸hlt) x' j₃ a₁ w₂ rfl hx' hr₃ ((he.trans he₂).trans he₃);exact⟨e₂,a₂,w₃,hq₂,.of_steps (StepsIn.trans harr (.one (fenced_calm hb hfr rfl) stepR_inLoop)) harr₂⟩
   |exit id=>exact⟨_,a₁,w₂,⟨s',j₂,hr₂,he.trans he₂,hq⟩,.pass (x:= .inLoop c) rfl (fun _ _=> .inl (by simp)) harr⟩
   |goto l=>exact⟨_,a₁,w₂,⟨s',j₂,hr₂,he.trans he₂,hq⟩,.pass (x:= .inLoop c) rfl (fun _ _=> .inl (by simp)) harr⟩
   |ret=>exact⟨_,a₁,w₂,⟨s',j₂,hr₂,he.trans he₂,hq⟩,.pass (x:= .inLoop c) rfl (fun _ _=> .inl (by simp)) harr⟩
   |panic ch=>exact⟨_,a₁,w₂,⟨s',j₂,hr₂,he.trans he₂,hq⟩,.pass (x:= .inLoop c) rfl (fun _ _=> .inl (by simp)) harr⟩
   |outgrown=>exact⟨_,a₁,w₂,⟨s',j₂,hr₂,he.trans he₂,hq⟩,.pass (x:= .inLoop c) rfl (fun _ _=> .inl (by simp)) harr⟩
 obtain⟨e,a',w',hq,harr⟩:=key _ x₀ j₁ a w rfl hx₀ hr₁ he₁;exact⟨e,a',w',hq,.of_steps (.one (fenced_calm hb hfr rfl) stepR_loop) harr⟩
end
def puts:List (Nat×AV)->List (Nat×AV)->List (Nat×AV)
 |t,[]=>t
 |t,(k,v)::us=>puts (aU.put t k v) us
theorem Zc: ∀{us t u:List (Nat×AV)} {k:Nat} {av:AV},Qj us u->(∀k av,get t k=some av->get u k=some av)->get (puts t us) k=some av->get u k=some av
 |[],t,u,k,av,_,ht,h=>ht k av h
 |(q,v)::us,t,u,k,av,hs,ht,h=>by
  refine Zc (t:=aU.put t q v) hs.2 (fun k' Tj h'=> ?_) h;rw[get_put] at h';split at h'
  ·rename_i hq;subst hq;cases h';exact hs.1
  ·exact ht k' Tj h'
theorem bZ{P:Program}{c:Code}{Q:Exit->St->Prop}{N:Nat}{t t':List (Nat×AV)}{σ:List aG}{mv:List Nat}(L:List Nat)(h:bD L t=t')(h':fA P c Q ⟨N,t',σ,mv⟩):fA P c Q ⟨N,t,σ,mv⟩:=by
 refine jS (s':=⟨N,t',σ,mv⟩) (Less.sub ⟨rfl,fun _ h=>h,rfl,fun k av hk=> ?_⟩) h';simp only at hk;rw[←h,iU] at hk;split at hk
 ·exact hk
 ·simp at hk
theorem dO{P:Program}{c:Code}{Q:Exit->St->Prop}{α:Type}{N:Nat}{t:List (Nat×AV)}{σ:List aG}{mv:List Nat}(upd:α->List (Nat×AV))(wZ:α->List aG)(ok:α->Prop)(μ:α->Nat)(x₀:α)(h0:Qj (upd x₀) t)(hσ:σ=wZ x₀)(hx₀:ok x₀)
  (round: ∀x,ok x->fA P c (zM (fun s'=> ∃x',Back ⟨N,puts t (upd x),wZ x,mv⟩ s' ⟨N,puts t (upd x'),wZ x',mv⟩/\ok x'/\μ x'<μ x) Q) ⟨N,puts t (upd x),wZ x,mv⟩):fA P (.loop c) Q ⟨N,t,σ,mv⟩:=
 awp_loopN (fun x=>⟨N,puts t (upd x),wZ x,mv⟩) ok μ x₀ (by subst hσ;exact Less.sub ⟨rfl,fun _ h=>h,rfl,fun k av hk=>Zc h0 (fun _ _ h=>h) hk⟩) hx₀ round
theorem zG{P:Program}{c:Code}{Q:Exit->St->Prop}{N:Nat}{t:List (Nat×AV)}{σ:List aG}{mv:List Nat}(M:List Nat)(hm: ∀x∈mv,x∈M)(h:fA P c Q ⟨N,t,σ,M⟩):fA P c Q ⟨N,t,σ,mv⟩:=
 jS (s':=⟨N,t,σ,M⟩) (Less.sub ⟨rfl,hm,rfl,fun k av hk=>hk⟩) h
def nth{α:Type}[Inhabited α](l:List α)(i:Nat):α:=l[i]?.getD default
theorem KX{α:Type}[Inhabited α]{l:List α}{i:Nat}(h:i<l.length):nth l i=l[i]:=by simp[nth,h]
abbrev SL{α:Type}(cap:Option Nat)(sz:Nat)(enc:α->List D)(n:Nat)(f:Nat->α):D:= .sl cap sz n fun i=>enc (f i)
def lst{α:Type}(n:Nat)(f:Nat->α):List α:=(List.range n).map f
theorem bT{α:Type}(n:Nat)(f:Nat->α):(lst n f).length=n:=by simp[lst]
theorem yY{α:Type}{n:Nat}{f:Nat->α}{i:Nat}(h:i<n):(lst n f)[i]? =some (f i):=by simp[lst,h]
theorem Py{α:Type}[Inhabited α](l:List α):lst l.length (nth l)=l:=by
 apply List.ext_getElem?;intro i;by_cases h:i<l.length
 ·rw[yY h,KX h];simp[h]
 ·rw[List.getElem?_eq_none (by rw[bT];omega),List.getElem?_eq_none (by omega)]
theorem thenA_ret(K:St->Prop)(Q:Exit->St->Prop)(s:St):zM K Q .ret s=Q .ret s:=rfl
theorem thenA_exit(K:St->Prop)(Q:Exit->St->Prop)(s:St)(i:Nat):zM K Q (.exit i) s=Q (.exit i) s:=rfl
theorem VY(K:St->Prop)(Q:Exit->St->Prop)(s:St):zM K Q .normal s=K s:=rfl
theorem ZY(id:Nat)(Q:Exit->St->Prop)(s:St):uQ id Q .ret s=Q .ret s:=rfl
theorem RI(id:Nat)(Q:Exit->St->Prop)(s:St):uQ id Q .normal s=Q .normal s:=rfl
theorem IX(id i:Nat)(Q:Exit->St->Prop)(s:St):uQ id Q (.exit i) s=if Nat.beq i id then Q .normal s else Q (.exit i) s:=rfl
attribute [go_sem] puts
attribute [go_sem ↓] thenA_ret thenA_exit VY ZY RI IX VG Qj
theorem cell_loop{w:World}{l:Nat}{r r':Loop}(h:w.heap[l]? =some (.loop r))(a:Addr):(w.putObj l (.loop r')).cell? a=w.cell? a:=by
 by_cases hb:a.block=l
 ·have h1:(w.putObj l (.loop r')).heap[a.block]? =some (.loop r'):=by rw[hb];exact World.putObj_heap_same (Array.getElem?_eq_some_iff.1 h).1
  have h2:w.heap[a.block]? =some (.loop r):=by rw[hb];exact h
  simp[World.cell?,h1,h2]
 ·simp[World.cell?,World.putObj_heap_other hb]
theorem Qr{w:World}{l:Nat}{r r':Loop}(h:w.heap[l]? =some (.loop r))(b:Nat):(w.putObj l (.loop r')).shape? b=w.shape? b:=by
 by_cases hb:b=l
 ·subst hb;simp[World.shape?,World.putObj_heap_same (Array.getElem?_eq_some_iff.1 h).1,h]
 ·simp[World.shape?,World.putObj_heap_other hb]
theorem aaj{w:World}{l:Nat}{r r':Loop}(h:w.heap[l]? =some (.loop r))(a:Addr):(w.putObj l (.loop r')).frozen? a=w.frozen? a:=by
 by_cases hb:a.block=l
 ·have h1:(w.putObj l (.loop r')).heap[a.block]? =some (.loop r'):=by rw[hb];exact World.putObj_heap_same (Array.getElem?_eq_some_iff.1 h).1
  have h2:w.heap[a.block]? =some (.loop r):=by rw[hb];exact h
  simp[World.frozen?,h1,h2]
 ·simp[World.frozen?,World.putObj_heap_other hb]
theorem ev_loop{j:Js}{w:World}{l:Nat}{r r':Loop}(h:w.heap[l]? =some (.loop r))(hj:some l∈j):Ev j w j (w.putObj l (.loop r')) where
 size:=by simp
 keep b _ hn:=World.putObj_heap_other fun he=>hn (he▸hj)
 sub _ _ h:=h
 shp b _:=Qr h b
 sZ a _:=aaj h a
 os:=rfl
 tape:=rfl
 output:=rfl
 lps b r'' hb:=by
  by_cases he:b=l
  ·subst he;exact⟨r',World.putObj_heap_same (Array.getElem?_eq_some_iff.1 h).1⟩
  ·exact⟨r'',by rw[World.putObj_heap_other he];exact hb⟩
theorem aT.loop{w:World}{j:Js}{σ:List aG}(hs:aT w j σ){b cb:Nat}(hb:j[b]? =some (some cb)){L:jJ}{st:LoopState}{pd:Option Code}(hx:σ[b]? =some (.lp L st pd))(st':LoopState)(pd':Option Code):
  ∃r:Loop,w.heap[cb]? =some (.loop r)/\r.state=st/\r.pending=pd/\aT (w.putObj cb (.loop { r with state:=st',pending:=pd' })) j (σ.set b (.lp L st' pd'))/\Ev j w j (w.putObj cb (.loop { r with state:=st',pending:=pd' })):=by
 obtain⟨o,ho,hB⟩:=hs.blk b _ hx;rw[hb] at ho;cases ho
 obtain⟨r,h1,h2,h3,h4⟩:=hB;have hc:=cell_loop (r':= { r with state:=st',pending:=pd' }) h1;have hsh:=Qr (r':= { r with state:=st',pending:=pd' }) h1;have hmem:some cb∈j:=List.mem_of_getElem? hb;refine⟨r,h1,h2.1,h2.2.1,⟨by simp[hs.len],fun b cb hb=>by have:=hs.lt b cb hb;simpa using this,hs.inj,fun b' y hy=> ?_⟩,ev_loop h1 hmem⟩;rw[List.getElem?_set] at hy;by_cases hbb:b=b'
 ·subst hbb;have hlt:b<σ.length:=(List.getElem?_eq_some_iff.1 hx).1;rw[if_pos rfl,if_pos hlt] at hy;cases hy
  exact⟨some cb,hb,_,World.putObj_heap_same (Array.getElem?_eq_some_iff.1 h1).1,⟨rfl,rfl,h2.2.2.1,h2.2.2.2.1,h2.2.2.2.2⟩,h3,fun k av hk=>⟨(h4 k av hk).1,(h4 k av hk).2.congr hc (by simp) hsh fun mb es cl hmb=>by rw[World.putObj_heap_other (fun e=>by subst e;rw[hmb] at h1;cases h1)];exact hmb⟩⟩
 ·rw[if_neg hbb] at hy;obtain⟨o,ho,hB⟩:=hs.blk b' y hy;refine⟨o,ho,hB.congr hc (by simp) hsh (fun cb' hcb=>World.putObj_heap_other fun he=>hbb ?_) fun mb es cl hmb=>by rw[World.putObj_heap_other (fun e=>by subst e;rw[hmb] at h1;cases h1)];exact hmb⟩;subst he;subst hcb;exact hs.inj _ _ _ hb ho
def St.QJ(s:St):List Tmp->List AV->St
 |p::ps,x::xs=>(s.put (some p) x).QJ ps xs
 |_,_=>s
theorem Rel.QJ{j0:J0}{j:Js}{w:World}{d:List Deferred} : ∀{ps:List Tmp} {xs:List AV} {us:List Value} {s:St} {tmps:Array Value},Rel j0 s j { tmps:=tmps,defers:=d } w->us.length=xs.length->(∀k,k<xs.length->R w j (xs.getD k .undef) (us.getD k Go.undef))->
  Rel j0 (s.QJ ps xs) j { tmps:=(ps.zip us).foldl (fun tm (p:Tmp×Value)=>tm.setIfInBounds p.1 p.2) tmps,defers:=d } w
 |[],xs,us,s,tmps,h,_,_=>by cases xs<;>exact h
 |p::ps,[],us,s,tmps,h,hl,_=>by
  have:us=[]:=List.length_eq_zero_iff.1 hl;subst this;simpa[St.QJ] using h
 |p::ps,x::xs,[],s,tmps,h,hl,_=>by simp at hl
 |p::ps,x::xs,u::us,s,tmps,h,hl,hx=>by
  have h1:=h.put (some p) (av:=x) (v:=u) (by simpa using hx 0 (by simp));exact Rel.QJ (ps:=ps) h1 (by simpa using hl) fun k hk=>by simpa using hx (k+1) (by simpa using hk)
def oW(b:Nat):List Nat->Prop
 |[]=>True
 |x::xs=>x≠b/\oW b xs
theorem Ec{b:Nat} : ∀{l:List Nat},oW b l->b∉l
 |[],_=>by simp
 |x::xs,h=>by
  simp only[List.mem_cons,not_or];exact⟨fun he=>h.1 he.symm,Ec h.2⟩
def Gg:Exit->Option (Option Code)
 | .normal=>some none
 | .ret=>some (some .ret)
 | .exit id=>some (some (.exit id))
 | .goto t=>some (some (.goto t))
 |_=>none
def FQ(b:Nat)(pY:List aG)(X:List Nat)(Q:AV->List aG->Prop)(e:Exit)(s:St):Prop:=
 match Gg e with
 |some jump=>match s.σ[b]? with
  |some (.lp L st pd)=> ∃σ' g,s.σ.set b (.lp L (if jump.isNone then .ready else .done) jump)=σ'++g/\Leaves pY σ'/\uM pY.length X s.mv/\oW b s.mv/\Q (.d (.v (.bool jump.isNone))) σ'
  |_=>False
 |none=>False
def LM(P:Program)(b:Nat)(body:Code)(Q:Exit->St->Prop):Exit->St->Prop
 | .normal,s=>match s.σ[b]? with
  |some (.lp L .ready pd)=>oW b s.mv/\fA P body Q { s with σ:=s.σ.set b (.lp L .busy pd) }
  |_=>False
 |_,_=>False
theorem YS.WZ{P:Program}{b:Nat}{args:List AV}{σ:List aG}{L:jJ}{pd:Option Code}{X:List Nat}{Q:AV->List aG->Prop}(hb:σ[b]? =some (.lp L .ready pd))(hargs:args.length=L.ps.size)
  (h:lS σ->fA P L.assign (LM P b L.body (FQ b σ X Q)) (St.QJ ⟨L.N,L.t,σ,[]⟩ L.ps.toList args)):YS P b args σ fun r σ' X'=>X'=X/\Q r σ':=by
 intro rd j w vs cb hs hr hcb;obtain⟨o,ho,hB⟩:=hs.blk b _ hb;rw[hcb] at ho;cases ho
 obtain⟨r,h1,⟨h2a,h2b,h2c,h2d,h2e⟩,h3,h4⟩:=hB;refine⟨r.fn,_,r.assign,r.body,run_yield h1 (by rw[hr.1,hargs,h2c]),?_⟩;refine roundIn_of_wpIn (F:=FW rd) trivial ?_;have hrel0:Rel ⟨j,w.heap.size,some cb⟩ ⟨L.N,L.t,σ,[]⟩ j { tmps:=r.tmps,defers:=[] } w:=
  ⟨.nil (Nat.le_refl _) _,fun l hl=>by cases hl;exact⟨r,h1⟩,h3,fun k av hk=>h4 k av (get_mem hk),hs,Nat.le_refl _,.refl _ _⟩
 have hrel1:=Rel.QJ (ps:=L.ps.toList) (xs:=args) (us:=vs.toList) hrel0 (by simpa using hr.1) (fun k hk=>by simpa[Array.getD_eq_getD_getElem?,List.getD_eq_getElem?_getD] using hr.2 k hk);have etm:(r.params.zip vs).foldl (fun tmps (t,a)=>tmps.setIfInBounds t a) r.tmps=(L.ps.toList.zip vs.toList).foldl (fun tm (p:Tmp×Value)=>tm.setIfInBounds p.1 p.2) r.tmps:=by
  rw[←Array.foldl_toList,Array.toList_zip,h2c]
 rw[etm,h2d,h2e];refine wpIn_mono (h hs.wf ⟨j,w.heap.size,some cb⟩ j _ w hrel1) ?_;rintro e a1 w1 ⟨s1,j1,hr1,he1,hq⟩;cases e with
 |normal=>
  simp only[LM] at hq;split at hq
  ·rename_i L1 pd1 hx1;obtain⟨hmv1,hq⟩:=hq;have hbj:b<j.length:=(List.getElem?_eq_some_iff.1 hcb).1;have hcb1:j1[b]? =some (some cb):=by rw[hr1.ag b hbj (Ec hmv1)];exact hcb
   obtain⟨r1,g1,g2,g3,g4,g5⟩:=hr1.dA.loop hcb1 hx1 .busy pd1;have erec: { r1 with state:=LoopState.busy,pending:=pd1 } = { r1 with state:=LoopState.busy } :=by rw[←g3]
   rw[erec] at g4 g5;refine⟨_,run_beginRound g1 g2,?_⟩;have hr2:Rel ⟨j,w.heap.size,some cb⟩ { s1 with σ:=s1.σ.set b (.lp L1 .busy pd1) } j1 a1 (w1.putObj cb (.loop { r1 with state:= .busy })):=by
    have:=hr1.after g5 g4 (Nat.le_refl _) (.refl _ []);exact this
   refine wpIn_mono (hq ⟨j,w.heap.size,some cb⟩ j1 a1 _ hr2) ?_;rintro e a3 w3 ⟨s3,j3,hr3,he3,hq3⟩;have hev:Ev j w j3 w3:=(he1.trans g5).trans he3;have fin: ∀jump,Gg e=some jump->∃v w',(Instr.endRound cb jump).run P w3= .ok v w'/\∃v' r σ' j' X',Ending.returned v= .returned v'/\aT w' j' σ'/\R w' j' r v'/\Ev j w j' w'/\j.length<=j'.length/\Ag j j' X'/\X'=X/\Q r σ':=by
    intro jump hj;simp only[FQ,hj] at hq3;split at hq3
    ·rename_i L3 st3 pd3 hx3;obtain⟨σ',gg,q1,q2,q3,q4,q5⟩:=hq3;have hcb3:j3[b]? =some (some cb):=by rw[hr3.ag b hbj (Ec q4)];exact hcb
     obtain⟨r3,k1,k2,k3,k4,k5⟩:=hr3.dA.loop hcb3 hx3 (if jump.isNone then .ready else .done) jump;refine⟨_,_,run_endRound jump k1,?_⟩;rw[q1] at k4;have hlen0:j.length<=j3.length:=hr3.len0;have hag:Ag j j3 X:=Ag.uM hr3.ag (by show uM j.length X s3.mv;rw[hs.len];exact q3);obtain⟨m1,m2,m3⟩:=hs.drop k4 q2 hag hlen0;have hlen:(j3.take j.length).length=j.length:=by simp;omega
     have Xn:=hev.trans k5;refine⟨_,_,σ',j3.take j.length,X,rfl,m1,.d (.v _),⟨Xn.size,Xn.keep,fun b hb hm=>Xn.sub b hb (m2 _ hm),Xn.shp,Xn.sZ,Xn.os,Xn.tape,Xn.output,Xn.lps⟩,by omega,fun b hb hn=> ?_,rfl,q5⟩;rw[←m3 b (by omega)];exact hag b hb hn
    ·exact hq3.elim
   cases e with
   |normal=>exact fin none rfl
   |ret=>exact fin (some .ret) rfl
   |exit id=>exact fin (some (.exit id)) rfl
   |goto t=>exact fin (some (.goto t)) rfl
   |panic c=>exact hq3.elim
   |outgrown=>exact hq3.elim
  ·exact hq.elim
 |exit id=>exact hq.elim
 |goto l=>exact hq.elim
 |ret=>exact hq.elim
 |panic c=>exact hq.elim
 |outgrown=>exact hq.elim
theorem Lm(j j':Js)(w:World)(o:Obj)(ho: ∀C e f,o≠.cells C e f)(hj: ∀b,b<w.heap.size->some b∈j'->some b∈j):Ev j w j' (w.alloc o) where
 size:=by simp
 keep b hb _:=bV w _ hb
 sub:=hj
 shp b hb:=by simp[World.shape?,bV w _ hb]
 sZ a _:=by
  by_cases h:a.block=w.heap.size
  ·have h1:(w.alloc o).heap[a.block]? =some o:=by rw[h];exact heap_alloc_new w _
   have h2:w.heap[a.block]? =none:=by rw[h];simp
   cases o with
   |cells C e f=>exact absurd rfl (ho C e f)
   |_=>simp[World.frozen?,h1,h2]
  ·have h1:(w.alloc o).heap[a.block]? =w.heap[a.block]? :=by
    show(w.heap.push _)[a.block]? =_
    rw[Array.getElem?_push,if_neg h]
   simp[World.frozen?,h1]
 os:=rfl
 tape:=rfl
 output:=rfl
 lps b r hb:=⟨r,by rw[bV w _ (Array.getElem?_eq_some_iff.1 hb).1];exact hb⟩
theorem aT.grow{w:World}{j:Js}{σ:List aG}(h:aT w j σ){o:Obj}(ho: ∀C e f,o≠.cells C e f):aT (w.alloc o) j σ/\Ev j w j (w.alloc o):=by
 have he:Ev j w j (w.alloc o):=Lm _ _ _ _ ho fun _ _ h=>h;refine⟨⟨h.len,fun b cb hb=>by have:=h.lt b cb hb;simp;omega,h.inj,fun b x hx=> ?_⟩,he⟩;obtain⟨q,hq,hB⟩:=h.blk b x hx;refine⟨q,hq,hB.mono he h.lt (.refl _ _) fun cb hcb=>bV w _ (h.lt b cb (by rw[hq,hcb]))⟩
theorem aT.allocO{w:World}{j:Js}{σ:List aG}(h:aT w j σ){o:Obj}(ho: ∀C e f,o≠.cells C e f)(x:aG)(hx:RB (w.alloc o) (j++[some w.heap.size]) x (some w.heap.size)):
  aT (w.alloc o) (j++[some w.heap.size]) (σ++[x])/\Ev j w (j++[some w.heap.size]) (w.alloc o):=by
 have he:Ev j w (j++[some w.heap.size]) (w.alloc o):=Lm _ _ _ _ ho fun b hb hm=>by
  simp at hm;rcases hm with hm|hm
  ·exact hm
  ·omega
 have hold: ∀b,b<j.length->(j++[some w.heap.size])[b]? =j[b]? :=fun b hb=>List.getElem?_append_left hb;have hnew:(j++[some w.heap.size])[j.length]? =some (some w.heap.size):=by simp
 have hcase: ∀{b cb:Nat},(j++[some w.heap.size])[b]? =some (some cb)->(b<j.length/\j[b]? =some (some cb))\/(b=j.length/\cb=w.heap.size):=by
  intro b cb hb;rcases Nat.lt_trichotomy b j.length with hlt|heq|hgt
  ·exact .inl ⟨hlt,by rw[←hold b hlt];exact hb⟩
  ·subst heq;rw[hnew] at hb;cases hb;exact .inr ⟨rfl,rfl⟩
  ·rw[List.getElem?_eq_none (by simp;omega)] at hb;cases hb
 refine⟨⟨by simp[h.len],fun b cb hb=> ?_,fun b b' cb hb hb'=> ?_,fun b y hy=> ?_⟩,he⟩
 ·rcases hcase hb with⟨h1,h2⟩|⟨h1,h2⟩
  ·have:=h.lt b cb h2;simp;omega
  ·simp;omega
 ·rcases hcase hb with⟨h1,h2⟩|⟨h1,h2⟩<;>rcases hcase hb' with⟨g1,g2⟩|⟨g1,g2⟩
  ·exact h.inj b b' cb h2 g2
  ·have:=h.lt b cb h2;omega
  ·have:=h.lt b' cb g2;omega
  ·omega
 ·rcases Nat.lt_trichotomy b σ.length with hlt|heq|hgt
  ·rw[List.getElem?_append_left hlt] at hy;obtain⟨q,hq,hB⟩:=h.blk b y hy;refine⟨q,by rw[hold b (by rw[h.len];exact hlt)];exact hq,hB.mono he h.lt (dw _ _) fun cb hcb=>bV w _ (h.lt b cb (by rw[hq,hcb]))⟩
  ·subst heq;simp at hy;subst hy;exact⟨some w.heap.size,by rw[←h.len];exact hnew,hx⟩
  ·rw[List.getElem?_eq_none (by simp;omega)] at hy;cases hy
theorem Oy{P:Program}{w:World}{l₀:Nat}{r₀:Loop}(h:w.heap[l₀]? =some (.loop r₀))(fn:FuncId)(tmps:Array Value)(ps:Array Tmp)(assign body:Code):
  (Instr.enterLoop fn tmps ps assign body (some l₀)).run P w= .ok (w.heap.size,[]) (w.alloc (.loop { state:= .ready,pending:=none,fn,tmps,params:=ps,assign,body,defers:=r₀.defers })):=by
 unfold Instr.enterLoop;simp only[Sem.run_bind,run_getLoop h,run_newObj_alloc,Result.andThen,Sem.run_pure]
theorem enter_loop{P:Program}{j0:J0}{s:St}{j:Js}{a:Act}{w:World}(hr:Rel j0 s j a w)(fn:FuncId)(ps:Array Tmp)(assign body:Code)(t':List (Nat×AV))(ht:Qj t' s.t):
  ∃l mark w1,(Instr.enterLoop fn a.tmps ps assign body j0.rd).run P w= .ok (l,mark) w1/\aT w1 (j++[some l]) (s.σ++[.lp ⟨s.N,t',ps,assign,body⟩ .ready none])/\Ev j w (j++[some l]) w1/\Marks j0.n0 w1 (j++[some l]) (mark++a.defers):=by
 have hmem: ∀{t':List (Nat×AV)} {k:Nat} {av:AV},Qj t' s.t->(k,av)∈t'->get s.t k=some av:=by
  intro t';induction t' with
  |nil=>intro k av _ h;simp at h
  |cons x xs ih=>
   intro k av h hm;rcases List.mem_cons.1 hm with rfl|hm
   ·exact h.1
   ·exact ih h.2 hm
 have main: ∀(w0:World) (dref:Nat),aT w0 j s.σ->Ev j w j w0->aT (w0.alloc (.loop { state:= .ready,pending:=none,fn,tmps:=a.tmps,params:=ps,assign,body,defers:=dref })) (j++[some w0.heap.size]) (s.σ++[.lp ⟨s.N,t',ps,assign,body⟩ .ready none])/\Ev j w0 (j++[some w0.heap.size]) (w0.alloc (.loop { state:= .ready,pending:=none,fn,tmps:=a.tmps,params:=ps,assign,body,defers:=dref })):=by
  intro w0 dref hs0 he0;have he1:Ev j w0 (j++[some w0.heap.size]) (w0.alloc (.loop { state:= .ready,pending:=none,fn,tmps:=a.tmps,params:=ps,assign,body,defers:=dref })):=Lm _ _ _ _ (by intro C e f h;cases h) fun b hb hm=>by
   simp at hm;rcases hm with hm|hm
   ·exact hm
   ·omega
  refine hs0.allocO (by intro C e f h;cases h) _ ⟨_,heap_alloc_new w0 _,⟨rfl,rfl,rfl,rfl,rfl⟩,hr.size,fun k av hk=> ?_⟩;have h1:=hr.tmp k av (hmem ht hk);exact⟨h1.1,(h1.2.lZ he0 hr.dA.lt (.refl _ _)).lZ he1 hs0.lt (dw _ _)⟩
 cases hrd:j0.rd with
 |none=>
  obtain⟨hs0,he0⟩:=hr.dA.grow (o:= .deferred (some [])) (by intro C e f h;cases h);obtain⟨h1,h2⟩:=main _ w.heap.size hs0 he0;simp only[World.size_alloc] at h1 h2;refine⟨w.heap.size+1,[{ target:= .collected w.heap.size,args:= #[] }],_,run_enterLoop_outer _ _ _ _ _,h1,he0.trans h2,?_⟩;have hm:=hr.defers.mono (he0.trans h2);refine⟨⟨hm.1.1,?_⟩,fun d hd=> ?_⟩
  ·show List.Pairwise _ (_::a.defers)
   refine List.pairwise_cons.2 ⟨fun d hd he=> ?_,hm.1.2⟩;obtain⟨r,g1,g2,g3,g4⟩:=hr.defers.2 d hd;have hlt:r<w.heap.size:=(Array.getElem?_eq_some_iff.1 g4).1;rw[g1] at he;cases he
   omega
  ·rcases List.mem_append.1 hd with hd|hd
   ·simp at hd;subst hd;refine⟨w.heap.size,rfl,hr.defers.1.1,fun hm=> ?_,?_⟩
    ·simp at hm;have⟨b,hb⟩:=List.getElem?_of_mem hm;have:=hr.dA.lt b _ hb;omega
    ·rw[bV _ _ (by simp)];exact heap_alloc_new w _
   ·exact hm.2 d hd
 |some l0=>
  obtain⟨r0,hr0⟩:=hr.jY l0 hrd;obtain⟨h1,h2⟩:=main w r0.defers hr.dA (.refl _ _);exact⟨w.heap.size,[],_,Oy hr0 _ _ _ _ _,h1,h2,hr.defers.mono h2⟩
def Vf(Q:Exit->St->Prop)(s:St):Option Code->Prop
 |none=>Q .normal s
 |some .ret=>Q .ret s
 |some (.exit id)=>Q (.exit id) s
 |_=>False
theorem awp_range{P:Program}{Q:Exit->St->Prop}{s:St}{g:Operand}{ps:Array Tmp}{assign body:Code}{fid:FuncId}{first captured:List AV}(hg:val s g=some (.clo (.func fid) first captured))(t':List (Nat×AV))(ht:Qj t' s.t)
  (h:CS P fid (first++(.zL s.σ.length::captured)) (s.σ++[.lp ⟨s.N,t',ps,assign,body⟩ .ready none]) fun r σ' X=> ∃AY L' st pd,σ'=AY++[.lp L' st pd]/\Leaves s.σ AY/\st≠.busy/\oW s.σ.length X/\Vf Q (s.after AY X) pd):
  fA P (.rangeFunc g ps assign body) Q s:=by
 intro j0 j a w hr;refine wpIn_rangeFunc fun fn _=> ?_;obtain⟨l,mark,w1,h1,h2,h3,h4⟩:=enter_loop (P:=P) hr fn ps assign body t' ht;have hv:=GR hr hg;generalize hgv:a.eval g=u at hv
 cases hv with
 |clo ff cc g1 g2 g3 g4=>
  refine⟨l,mark,w1,{ target:= .fn (.func fid) cc,args:=ff++ #[.func (.yield l) #[] #[]] },w1,fid,ff++ #[.func (.yield l) #[] #[]]++cc,w1,h1,?_,fun _ _=>trivial,?_,by simp[FW],?_⟩
  ·simp only[resolve,hgv,Deferred.ofValue];simp[Act.eval]
  ·simp[invoke,sH h.1]
  ·have hlen:j.length=s.σ.length:=hr.dA.len;have hjl:(j++[some l])[s.σ.length]? =some (some l):=by rw[←hlen];simp
   have hrs:Rs w1 (j++[some l]) (first++(.zL s.σ.length::captured)) (ff++ #[.func (.yield l) #[] #[]]++cc):=by
    have e1:Rs w1 (j++[some l]) first ff:=⟨g1,fun k hk=>(g3 k hk).lZ h3 hr.dA.lt (dw _ _)⟩
    have e2:Rs w1 (j++[some l]) captured cc:=⟨g2,fun k hk=>(g4 k hk).lZ h3 hr.dA.lt (dw _ _)⟩;have e3:Rs w1 (j++[some l]) [.zL s.σ.length] #[.func (.yield l) #[] #[]]:=⟨rfl,fun k hk=>by
     have:k=0:=by simpa using hk
     subst this;exact .zL hjl⟩
    have:=nX (nX e1 e3) e2;simpa using this
   refine Ko ((h.2 (j++[some l]) w1 _ h2 hrs).mono ?_);rintro e w2 ⟨v,r,σ',j2,X,rfl,k1,k2,k3,k4,k5,AY,L',st,pd,rfl,k6,k7,k8,k9⟩;have hlen2:AY.length=s.σ.length:=k6.len;have hj2:j2[s.σ.length]? =some (some l):=by
    rw[k5 _ (by simp;omega) (Ec k8)];exact hjl
   obtain⟨r2,q1,q2,q3,q4,q5⟩:=k1.loop hj2 (L:=L') (st:=st) (pd:=pd) (by rw[←hlen2];simp) .exhausted pd;have erec: { r2 with state:=LoopState.exhausted,pending:=pd } = { r2 with state:=LoopState.exhausted } :=by rw[←q3]
   rw[erec] at q4 q5;refine⟨r2.pending,_,run_endLoop q1 (by rw[q2];exact k7),?_⟩;rw[←hlen2] at q4;simp only[List.set_append_right _ _ (Nat.le_refl _),Nat.sub_self,List.set_cons_zero] at q4;have hr1:Rel j0 (s.after (s.σ++[.lp ⟨s.N,t',ps,assign,body⟩ .ready none]) []) (j++[some l]) { a with defers:=mark++a.defers } w1:=by
    have:=hr.after h3 h2 (by simp) (dw _ _);exact⟨h4,this.jY,this.size,this.tmp,this.dA,this.len0,this.ag⟩
   have hr2:=hr1.after (k3.trans q5) q4 k4 (k5:Ag _ _ X);have hback:Back s ((s.after (s.σ++[.lp ⟨s.N,t',ps,assign,body⟩ .ready none]) []).after (AY++[.lp L' .exhausted pd]) X) (s.after AY X):=by
    refine⟨?_,?_,?_,?_,fun k av hk=> ?_⟩
    ·cases X<;>rfl
    ·cases X<;>exact fun x hx=>hx
    ·cases X<;>exact⟨_,rfl⟩
    ·cases X<;>exact k6
    ·cases X with
     |nil=>exact⟨hk,.inl hk⟩
     |cons x xs=>exact⟨hk,.inl (BK hk).1⟩
   obtain⟨j3,hr3,he3,_⟩:=hback.rel hr hr2 (by have:=k4;simp at this;omega);have hev:Ev j w j3 _:=(h3.trans (k3.trans q5)).trans he3;generalize w2.putObj l (.loop { r2 with state:= .exhausted })=w4 at hr3 hev⊢
   rw[q3];cases pd with
   |none=>exact⟨_,j3,hr3,hev,k9⟩
   |some c=>
    cases c with
    |ret=>exact wpIn_ret ⟨_,j3,hr3,hev,k9⟩
    |exit id=>exact wpIn_exit ⟨_,j3,hr3,hev,k9⟩
    |_=>exact k9.elim
end Go.aU
namespace Go.aU.Steps
open Go.aU
def yV:List (Nat×Option Nat)->Nat->Bool
 |[],_=>false
 |x::xs,i=>Nat.beq x.1 i||yV xs i
def rC(is:List (Nat×Option Nat))(k:Nat):Nat:=(is.getD k (0,none)).1
def dsB(is:List (Nat×Option Nat))(k:Nat):Option Nat:=(is.getD k (0,none)).2
theorem IB{is:List (Nat×Option Nat)}{i:Nat} :yV is i=true↔∃k,k<is.length/\rC is k=i:=by
 induction is with
 |nil=>simp[yV]
 |cons x xs ih=>
  simp only[yV,Bool.or_eq_true,ih];constructor
  ·rintro(h|⟨k,h1,h2⟩)
   ·exact⟨0,by simp,by simpa[rC] using h⟩
   ·exact⟨k+1,by simpa using h1,by simpa[rC] using h2⟩
  ·rintro⟨k,h1,h2⟩;rcases k with _|k
   ·exact .inl (by simpa[rC] using h2)
   ·exact .inr ⟨k,by simpa using h1,by simpa[rC] using h2⟩
theorem uz(s:St)(σ':List aG)(os:List Oper)(xs:Nat->AV): ∀i,dK ⟨s.N,s.t,σ',s.mv⟩ os xs i=⟨s.N,(dK s os xs i).t,σ',s.mv⟩
 |0=>rfl
 |i+1=>by
  have ht:=vO s os xs i;simp only[dK,uz s σ' os xs i];cases os[i]? with
  |none=>rfl
  |some o=>
   simp only[St.put];cases o.dst with
   |none=>rfl
   |some d=>simp only[ht.1];split<;>rfl
end Go.aU.Steps
namespace Go.aU.Mix
open Go.aU
open Go.aU.Steps (yV rC dsB IB)
def J5(P:Program)(o:Oper)(s:St)(K:AV->List aG->Prop):Prop:=
 match o.op with
 | .store t p v=>arg true s p fun p=>arg true s v fun v=>uy P t s p v fun s'=>K .undef s'.σ
 | .alloc t=>(match dN P t with
  |some z=>K (.ptr s.σ.length 0) (s.σ++[.var (z.map fun v=> .d (.v v))])
  |none=>False)
 | .call c=>(match c.callee with
  | .value (.func f)=>args true s c.args.toList fun avs=>CS P f avs s.σ fun r σ' X=>X=[]/\K r σ'
  | .builtin .append=>(match c.args.toList,c.argTypes.toList with
   |[x,y],[t,t']=>arg true s x fun x=>arg true s y fun y=>Eo P s.σ t t' x y fun r σ' X=>X=[]/\K r σ'
   |_,_=>False)
  |_=>False)
 |_=>False
theorem GI{P:Program}{all:List Oper}{o:Oper}{s:St}{K:AV->List aG->Prop}(h:J5 P o s K){j0:J0}{j:Js}{a:Act}{w:World}{next:Act->World->Prop}{Q:Exit->Act->World->Prop}
  (hr:Rel j0 (s.bD (looks all o)) j a w) (hn: ∀v w' r σ' j',aT w' j' σ'->R w' j' r v->Ev j w j' w'->Ag j j' []->j.length<=j'.length->K r σ'->next (a.put o.dst v) w'):o.wpIn (FW j0.rd) 0 P a w next Q:=by
 have o9:aT w j s.σ:=hr.dA;have mem: ∀x∈o.op.operands,∀t,x= .tmp t->t∈looks all o:=fun x hx t ht=>List.mem_append.2 (.inl (uN hx ht));unfold J5 at h;split at h
 ·rename_i t p v ho;rw[←aN (mem p (by simp[ho,Op.operands]))] at h;obtain⟨pa,h,hp⟩:=aB h;rw[←aN (mem v (by simp[ho,Op.operands]))] at h;obtain⟨va,h,hv⟩:=aB h;unfold uy at h;split at h
  ·rename_i agg m ht;obtain⟨hone,hlen,h⟩:=h;split at h
   ·rename_i side σ' hst;obtain⟨hside,hK⟩:=h;obtain⟨w',h1,h2,h3⟩:=BD (P:=P) o9 ht (hp rfl j0 j a w hr) (hv rfl j0 j a w hr) hone hlen hst hside;have hrun:(execOp a.eval o).run P w= .ok .skip w':=by simp[execOp,ho,h1]
    refine xg (by simp[ho]) hrun ?_;exact hn _ w' _ σ' j h2 (.undef _) h3 (.refl _ _) (Nat.le_refl _) hK
   ·exact h.elim
  ·exact h.elim
 ·rename_i t ho;split at h
  ·rename_i z hz;unfold dN at hz;split at hz
   ·rename_i inf zn;split at hz
    ·rename_i zz hzz;have hz:zz.cells.toList=z:=Option.some.inj hz;subst hz;have hnv:=hr.newVar (cs:=zz.cells.toList.map fun v=>AV.d (.v v)) zz.cells t (by simp) (fun k hk=>by
      simp only[List.length_map,Array.length_toList] at hk;have e1:(zz.cells.toList.map fun v=>AV.d (.v v)).getD k .undef= .d (.v (zz.cells.getD k Go.undef)):=by
       simp[List.getD_eq_getElem?_getD,Array.getD_eq_getD_getElem?,hk]
      rw[e1];exact .d (.v _))
     obtain⟨g1,g2,g3⟩:=hnv;have hrun:(execOp a.eval o).run P w= .ok (.value (.pointer (some ⟨w.heap.size,0,none⟩))) (w.alloc (.cells zz.cells t)):=by
      simp[execOp,ho,Instr.alloc,zeroValue,typeInfo,zn,hzz,Go.newVar,newRow]
     refine xg (by simp[ho]) hrun ?_;exact hn _ _ _ _ _ g1.dA g3 g2 (dw j _) (by simp) h
    ·cases hz
   ·cases hz
  ·exact h.elim
 ·rename_i c ho;split at h
  ·rename_i f hcal;have hmem: ∀x∈c.args.toList,∀t,x= .tmp t->t∈looks all o:=fun x hx t ht=>List.mem_append.2 (.inl (uN (by
    simp only[ho,Op.operands,Call.operands,Array.mem_append];exact .inr (by simpa using hx)) ht))
   rw[←vG (L:=looks all o) hmem] at h;obtain⟨avs,hcs,hl,ha⟩:=lq h;have hfv:a.eval (.func f)= .func (.func f) #[] #[]:=rfl;have hen:=hcs.1;refine xg (by simp[ho]) (SV (P:=P) (w:=w) ho hcal hfv hen) ?_;refine⟨by simp[FW],Ko ?_⟩;have hrs:=Hw (g:=true) rfl hl ha hr;have e:(c.args.toList.map a.eval).toArray=c.args.map a.eval:=by apply Array.ext';simp
   rw[e] at hrs;have e2:(#[]:Array Value)++c.args.map a.eval++ #[]=c.args.map a.eval:=by simp
   rw[e2];refine(hcs.2 j w _ o9 hrs).mono ?_;rintro e w' ⟨v,r',σ',j',X,rfl,h6,h7,h8,h9,h10,rfl,h11⟩;exact hn v w' r' σ' j' h6 h7 h8 h10 h9 h11
  ·rename_i hb;split at h
   ·rename_i x y t t' hxy ht;have hx0:x∈o.op.operands:=by
     simp only[ho,Op.operands,Call.operands,Array.mem_append];right;have:x∈c.args.toList:=by rw[hxy];simp
     simpa using this
    have hy0:y∈o.op.operands:=by
     simp only[ho,Op.operands,Call.operands,Array.mem_append];right;have:y∈c.args.toList:=by rw[hxy];simp
     simpa using this
    rw[←aN (mem x hx0)] at h;obtain⟨xa,h,hx⟩:=aB h;rw[←aN (mem y hy0)] at h;obtain⟨ya,h,hy⟩:=aB h;obtain⟨v,w',j',r,σ',X,h1,h2,h3,h4,h5,h6,rfl,h7⟩:=wY (P:=P) (ty:=o.type) o9 h (hx rfl j0 j a w hr) (hy rfl j0 j a w hr);have hrun:(execOp a.eval o).run P w= .ok (.value v) w':=by
     have e1:c.args.map a.eval= #[a.eval x,a.eval y]:=by
      have:c.args= #[x,y]:=by apply Array.ext';simpa using hxy
      rw[this];simp
     have e2:c.argTypes= #[t,t']:=by apply Array.ext';simpa using ht
     simp only[execOp,ho,resolve,hb];simp[invoke,builtin,e1,e2,h1]
    refine xg (by simp[ho]) hrun ?_;exact hn v w' r σ' j' h2 h3 h4 h6 h5 h7
   ·exact h.elim
  ·exact h.elim
 ·exact h.elim
def xH:List Nat->Nat->Bool
 |[],_=>false
 |x::xs,i=>Nat.beq x i||xH xs i
theorem memN_iff{l:List Nat}{i:Nat} :xH l i=true↔i∈l:=by
 induction l with
 |nil=>simp[xH]
 |cons x xs ih=>
  simp only[xH,Bool.or_eq_true,Nat.beq_eq,ih,List.mem_cons];exact⟨fun h=>h.imp Eq.symm id,fun h=>h.imp Eq.symm id⟩
def TL:List (Nat×Option Nat)->List (AV×List aG)->List (Nat×AV)
 |x::xs,v::vs=>(x.1,v.1)::TL xs vs
 |_,_=>[]
theorem Y5{i:Nat}{r:AV} : ∀{is:List (Nat×Option Nat)} {V:List (AV×List aG)},get (TL is V) i=some r->∃k,k<is.length/\rC is k=i/\r=(V.getD k (.undef,[])).1
 |[],V,h=>by simp[TL,get] at h
 |x::xs,[],h=>by simp[TL,get] at h
 |x::xs,v::vs,h=>by
  simp only[TL,get] at h;split at h
  ·rename_i e;exact⟨0,by simp,by simpa[rC] using e,by simpa using(Option.some.inj h).symm⟩
  ·obtain⟨k,h1,h2,h3⟩:=Y5 h;exact⟨k+1,by simpa using h1,by simpa[rC] using h2,by simpa using h3⟩
theorem Y6{i:Nat} : ∀{is:List (Nat×Option Nat)} {V:List (AV×List aG)},V.length=is.length->get (TL is V) i=none->∀k,k<is.length->rC is k≠i
 |[],V,_,h,k,hk=>by simp at hk
 |x::xs,[],hl,h,k,hk=>by simp at hl
 |x::xs,v::vs,hl,h,k,hk=>by
  simp only[TL,get] at h;split at h
  ·cases h
  ·rename_i e;rcases k with _|k
   ·intro he;apply e;simpa[rC] using he
   ·have:=Y6 (by simpa using hl) h k (by simpa using hk);simpa[rC] using this
def hadM(t1:List (Nat×AV))(o:Oper):AV:=match o.dst with
 |some d=>(get t1 d).getD .undef
 |none=> .undef
def kC(P:Program)(all:List Oper)(rs:List (Nat×AV))(sk:List Nat)(t1:List (Nat×AV)):List Oper->Nat->St->(St->Prop)->Prop
 |[],_,s,K=>K s
 |o::os,i,s,K=>match get rs i with
  |some r=>kC P all rs sk t1 os (i+1) (s.put o.dst r) K
  |none=>if xH sk i then kC P all rs sk t1 os (i+1) (s.put o.dst (hadM t1 o)) K
   else jQ all s o fun gd g=>WY P true gd g o s fun s'=>kC P all rs sk t1 os (i+1) s' K
theorem GU{P:Program}{all:List Oper}{rs:List (Nat×AV)}{sk:List Nat}{t1:List (Nat×AV)} : ∀{os:List Oper} {i0:Nat} {s:St} {K:St->Prop},kC P all rs sk t1 os i0 s K->
  ∃xs:Nat->AV,K (dK s os xs os.length)/\(∀i r,get rs (i0+i)=some r->xs i=r)/\∀i o,os[i]? =some o->get rs (i0+i)=none->xH sk (i0+i)=false->Local P all o (dK s os xs i) (xs i)
 |[],i0,s,K,h=>⟨fun i=>(get rs (i0+i)).getD .undef,h,fun i r hr=>by simp[hr],by simp⟩
 |o::os,i0,s,K,h=>by
  have key: ∀x:AV,kC P all rs sk t1 os (i0+1) (s.put o.dst x) K->(∀r,get rs i0=some r->x=r)->(get rs i0=none->xH sk i0=false->Local P all o s x)->
    ∃xs:Nat->AV,K (dK s (o::os) xs (o::os).length)/\(∀i r,get rs (i0+i)=some r->xs i=r)/\∀i o',(o::os)[i]? =some o'->get rs (i0+i)=none->xH sk (i0+i)=false->Local P all o' (dK s (o::os) xs i) (xs i):=by
   intro x h hx hl;obtain⟨xs,hK,hia,hloc⟩:=GU h;have hst: ∀i,dK s (o::os) (fun|0=>x|i+1=>xs i) (i+1)=dK (s.put o.dst x) os xs i:=by
    intro i;induction i with
    |zero=>rfl
    |succ i ih=>
     show(match(o::os)[i+1]? with|some o'=>(dK s (o::os) (fun|0=>x|i+1=>xs i) (i+1)).put o'.dst (xs i)|none=>dK s (o::os) (fun|0=>x|i+1=>xs i) (i+1))=_
     rw[ih];simp only[List.getElem?_cons_succ];rfl
   refine⟨fun|0=>x|i+1=>xs i,?_,fun i r hi=> ?_,fun i o' hi h1 h2=> ?_⟩
   ·rw[List.length_cons,hst];exact hK
   ·cases i with
    |zero=>exact hx r hi
    |succ i=>exact hia i r (by rw[show i0+1+i=i0+(i+1) by omega];exact hi)
   ·cases i with
    |zero=>simp at hi;subst hi;exact hl h1 h2
    |succ i=>rw[hst];exact hloc i o' (by simpa using hi) (by rw[show i0+1+i=i0+(i+1) by omega];exact h1) (by rw[show i0+1+i=i0+(i+1) by omega];exact h2)
  simp only[kC] at h;cases hg:get rs i0 with
  |some r=>
   rw[hg] at h;exact key r h (fun r' h'=>by rw[hg] at h';exact Option.some.inj h') (fun h'=>by rw[hg] at h';cases h')
  |none=>
   rw[hg] at h;by_cases hs:xH sk i0=true
   ·simp only[hs,if_true] at h;exact key _ h (fun r' h'=>by rw[hg] at h';cases h') (fun _ h'=>by rw[hs] at h';cases h')
   ·simp only[hs,if_false,Bool.false_eq_true] at h;obtain⟨x,hl,h⟩:=IE h;exact key x h (fun r' h'=>by rw[hg] at h';cases h') (fun _ _=>hl)
def tS(σ:List aG)(V:List (AV×List aG)):Nat->List aG
 |0=>σ
 |k+1=>(V.getD k (.undef,[])).2
def skS(SK:List (List Nat)):Nat->List Nat
 |0=>[]
 |k+1=>SK.getD k []
def fG(ops:List Oper)(m:Nat)(is:List (Nat×Option Nat)):Bool:=
 (List.range is.length).all fun k=>(match ops[rC is k]? with
  |some o=>(match o.guard with
   |none=>decide (o.dst=dsB is k)&&Nat.blt (rC is k) m&&(match o.dst with
     |some d=> !(looks ops o).contains d
     |none=>true)&&((List.range m).all fun q=>Nat.ble q (rC is k)||(match ops[q]? with
    |some oq=>(match oq.dst with
     |some d=> !(looks ops o).contains d
     |none=>true)
    |none=>true))&&(Nat.beq k 0||(Jm ops m 3 o (rC is (k-1))&&Nat.blt (rC is (k-1)) (rC is k)))
   |_=>false)
  |none=>false)
theorem bI{ops:List Oper}{m:Nat}{is:List (Nat×Option Nat)}(h:fG ops m is=true){k:Nat}(hk:k<is.length): ∃o,ops[rC is k]? =some o/\o.guard=none/\o.dst=dsB is k/\rC is k<m/\(∀d,o.dst=some d->d∉looks ops o)/\
  (∀q oq d,rC is k<q->q<m->ops[q]? =some oq->oq.dst=some d->d∉looks ops o)/\(0<k->Jm ops m 3 o (rC is (k-1))=true/\rC is (k-1)<rC is k):=by
 simp only[fG,List.all_eq_true,List.mem_range] at h;have h:=h k hk;split at h
 ·rename_i o ho;split at h
  ·rename_i e1;simp only[Bool.and_eq_true,Nat.blt_eq,Nat.beq_eq,List.all_eq_true,List.mem_range,Bool.or_eq_true,Nat.ble_eq,decide_eq_true_eq] at h;obtain⟨⟨⟨⟨h1,h2⟩,h3⟩,h4⟩,h5⟩:=h;refine⟨o,ho,e1,h1,h2,fun d hd=> ?_,fun q oq d hq hqm hqo Ua hkl=> ?_,fun hk0=> ?_⟩
   ·rw[hd] at h3;simpa using h3
   ·rcases h4 q hqm with h|h
    ·omega
    ·simp only[hqo,Ua,Bool.not_eq_true',List.contains_eq_mem,decide_eq_false_iff_not] at h;exact h hkl
   ·rcases h5 with h|h
    ·omega
    ·exact h
  ·cases h
 ·cases h
theorem qL{ops:List Oper}{m:Nat}{is:List (Nat×Option Nat)}(h:fG ops m is=true): ∀{b a:Nat},a<b->b<is.length->rC is a<rC is b
 |0,a,h1,_=>by omega
 |b+1,a,h1,h2=>by
  obtain⟨_,_,_,_,_,_,_,h3⟩:=bI h h2;have h4:=(h3 (by omega)).2;simp only[Nat.add_sub_cancel] at h4;rcases Nat.lt_or_ge a b with h5|h5
  ·exact Nat.lt_trans (qL h h5 (by omega)) h4
  ·obtain rfl:a=b:=by omega
   exact h4
theorem Dw{ops:List Oper}{m:Nat}{is:List (Nat×Option Nat)}(h:fG ops m is=true){a b:Nat}(ha:a<is.length)(hb:b<is.length)(he:rC is a=rC is b):a=b:=by
 rcases Nat.lt_trichotomy a b with h1|h1|h1
 ·have:=qL h h1 hb;omega
 ·exact h1
 ·have:=qL h h1 ha;omega
structure InvM(s:St)(ops:List Oper)(m:Nat)(is:List (Nat×Option Nat))(V:List (AV×List aG))(t1:List (Nat×AV))(j0:J0)(k0:Nat)(listed:Array Bool)(j:Js)(a:Act)(w:World):Prop extends Core s.N s.t t1 (fun _=>True) ops m j0 listed j a w where
 dA:aT w j (tS s.σ V k0)
 len0:j0.js.length<=j.length
 ag:Ag j0.js j s.mv
 Rx:k0<=is.length
 done: ∀k,k<is.length->listed.getD (rC is k) true=decide (k<k0)
section
variable {P : Program} {ops : List Oper} {m : Nat} {is : List (Nat × Option Nat)} {V : List (AV × List aG)} {SK : List (List Nat)}
structure PureM(P:Program)(s:St)(ops:List Oper)(m:Nat)(is:List (Nat×Option Nat))(V:List (AV×List aG))(SK:List (List Nat))(t1:List (Nat×AV)):Prop where
 at_: ∀k,k<=is.length->∃xs:Nat->AV,(dK s (ops.take m) xs m).t=t1/\(∀i r,get (TL is V) i=some r->xs i=r)/\
  ∀i o,i<m->ops[i]? =some o->get (TL is V) i=none->xH (skS SK k) i=false->Local P ops o ⟨s.N,(dK s (ops.take m) xs i).t,tS s.σ V k,s.mv⟩ (xs i)
def qw(ops:List Oper)(m:Nat)(is:List (Nat×Option Nat))(SK:List (List Nat)):Bool:=
 Nat.beq SK.length is.length&&(List.range is.length).all fun k=>(match ops[rC is k]? with
  |some o=>(SK.getD k []).all fun i=>Nat.blt i m&&Jm ops m 3 o i
  |none=>false)
theorem BI{ops:List Oper}{m:Nat}{is:List (Nat×Option Nat)}{SK:List (List Nat)}(h:qw ops m is SK=true){k i:Nat}(hk:k<is.length)(hi:xH (SK.getD k []) i=true): ∃o,ops[rC is k]? =some o/\i<m/\Jm ops m 3 o i=true:=by
 unfold qw at h;simp only[Bool.and_eq_true,List.all_eq_true,List.mem_range] at h;have h1:=h.2 k hk;split at h1
 ·rename_i o ho;have h2:=(List.all_eq_true.1 h1) i (memN_iff.1 hi);simp only[Bool.and_eq_true,Nat.blt_eq] at h2;exact⟨o,ho,h2⟩
 ·cases h1
structure OwnM(P:Program)(ops:List Oper)(is:List (Nat×Option Nat))(V:List (AV×List aG))(s:St)(t1:List (Nat×AV)):Prop where
 len:V.length=is.length
 act: ∀k,k<is.length->∃o,ops[rC is k]? =some o/\J5 P o ⟨s.N,t1,tS s.σ V k,s.mv⟩ fun r' σ'=>r'=(V.getD k (.undef,[])).1/\σ'=(V.getD k (.undef,[])).2
theorem phaseM(hok:dY ops m=true)(hmn:m<=ops.length)(hch:fG ops m is=true)(hsk:qw ops m is SK=true){Q:Exit->St->Prop}{j0:J0}{j1:Js}{w1:World}{s:St}{t1:List (Nat×AV)}
  (hW:OwnM P ops is V s t1) (hP:PureM P s ops m is V SK t1)
  (hK:bH P false ops (ops.drop m) ⟨s.N,t1,tS s.σ V is.length,s.mv⟩ (Q .normal)):
  ∀(fuel:Nat) (j:Js) (a:Act) (w:World) (listed:Array Bool),left listed ops.length=fuel->(∃k0,InvM s ops m is V t1 j0 k0 listed j a w)->Ev j1 w1 j w->wpAnyIn (FW j0.rd) 0 P .any ops.toArray (FD j0 j1 w1 Q) fuel listed a w:=by
 refine WV hok hmn (fun listed j a w=> ∃k0,InvM s ops m is V t1 j0 k0 listed j a w) ?_ ?_ ?_
 ·rintro listed j a w ⟨k0,hI⟩;exact⟨_,_,_,_,hI.toCore⟩
 ·rintro listed j a w ⟨k0,hI⟩ hdone;obtain rfl:k0=is.length:=by
   rcases Nat.lt_or_ge k0 is.length with h|h
   ·obtain⟨_,_,_,_,h1,_⟩:=bI hch h;have h2:=hI.done k0 h;rw[hdone _ h1] at h2;simp at h2
   ·have:=hI.Rx;omega
  obtain⟨xs,hxs,_,_⟩:=hP.at_ 0 (Nat.zero_le _);exact⟨⟨s.N,t1,tS s.σ V is.length,s.mv⟩,⟨hI.defers,hI.jY,hI.size,fun k av hk=>hI.toCore.done hxs hdone hk,hI.dA,hI.len0,hI.ag⟩,hK⟩
 ·rintro listed j a w i o next ⟨k0,hI⟩ him ho h0 hall hn
  have hil:i<ops.length:=by omega
  have Xl:i<listed.size:=by rw[hI.lsize];exact hil
  have step: ∀(j':Js) (w':World) (v:Value) (k1:Nat),aT w' j' (tS s.σ V k1)->Ev j w j' w'->Ag j j' []->j.length<=j'.length->
    k1<=is.length->(∀k,k<is.length->(listed.setIfInBounds i true).getD (rC is k) true=decide (k<k1))->
    (∀k av,o.dst=some k->get t1 k=some av->k<s.N/\R w' j' av v)->next (a.put o.dst v) w':=by
   intro j' w' v k1 o9 hev hagj hlj hk1 hdn hv;have mono: ∀{av:AV} {v:Value},R w j av v->R w' j' av v:=fun hR=>hR.lZ hev hI.dA.lt hagj;refine hn j' v w' ⟨k1,hI.toCore.step hok hmn him ho hall hev (fun k av h _=>⟨av,h,fun _=>mono⟩) (fun k av h=>⟨av,h,fun _ h1 h2=>⟨h1,mono h2⟩⟩) hv,o9,Nat.le_trans hI.len0 hlj,fun b hb hn=> ?_,hk1,hdn⟩ hev;rw[hagj b (by have:=hI.len0;omega) (by simp)];exact hI.ag b hb hn
  cases hia:get (TL is V) i with
  |some r=>
   obtain⟨k,hkl,rfl,rfl⟩:=Y5 hia;obtain⟨oa,hoa,hgd,hdst,_,hself,wo,hprev⟩:=bI hch hkl;obtain rfl:o=oa:=by rw[ho] at hoa;exact Option.some.inj hoa
   obtain⟨ob,hob,hact⟩:=hW.act k hkl;obtain rfl:o=ob:=by rw[ho] at hob;exact Option.some.inj hob
   have hkk:k=k0:=by
    have h1:=hI.done k hkl;rw[h0] at h1;have h2:k0<=k:=by simpa using h1
    rcases Nat.lt_or_ge k0 k with h3|h3
    ·have h4:=hI.toCore.far hall (hprev (by omega)).1;have h5:=qL hch (a:=k-1) (b:=k) (by omega) hkl;rw[jv hI.lsize (show rC is (k-1)<ops.length by omega),hI.done (k-1) (by omega)] at h4;have:k-1<k0:=by simpa using h4
     omega
    ·omega
   subst hkk;obtain⟨xs,hxs,hxa,hloc⟩:=hP.at_ 0 (Nat.zero_le _);have hr:Rel j0 ((⟨s.N,t1,tS s.σ V k,s.mv⟩:St).bD (looks ops o)) j a w:=by
    refine⟨hI.defers,hI.jY,hI.size,fun q' av hk=> ?_,hI.dA,hI.len0,hI.ag⟩;simp only[St.bD,iU] at hk;split at hk
    ·rename_i hkl;exact hI.toCore.late hok hmn hxs him ho hall hself wo (by simpa using hkl) hk
    ·simp at hk
   have hw:Region.wanted o (yielded ops.toArray a.tmps)=true:=by simp[Region.wanted,hgd]
   rw[if_pos hw];refine GI hact hr fun v w' r' σ' j' h6 h7 h8 h9 h10 h11=> ?_;obtain⟨rfl,rfl⟩:=h11;refine step j' w' v (k+1) h6 h8 h9 h10 hkl (fun q hq=> ?_) (fun q av hq hgt=> ?_)
   ·by_cases hqk:q=k
    ·subst hqk;simp[Xl]
    ·rw[getD_set_ne true (fun h=>hqk (Dw hch hq hkl h.symm)),hI.done q hq];congr 1;apply propext;omega
   ·rw[←hxs,mF hok hmn him ho hq him (Nat.le_refl _),hxa _ _ hia] at hgt;split at hgt
    ·rename_i hlt;obtain rfl:=Option.some.inj hgt;exact⟨hlt,h7⟩
    ·simp at hgt
  |none=>
   obtain⟨xs,hxs,hxa,hloc⟩:=hP.at_ k0 hI.Rx;have hns:xH (skS SK k0) i=false:=by
    rw[←Bool.not_eq_true];intro hs;cases hk:k0 with
    |zero=>rw[hk] at hs;simp[skS,xH] at hs
    |succ k=>
     rw[hk] at hs;have hkl:k<is.length:=by have:=hI.Rx;omega
     obtain⟨ob,hob,him2,hd⟩:=BI hsk hkl hs;obtain⟨oa,hoa,_,_,hlt,_⟩:=bI hch hkl;have hl:listed.getD (rC is k) true=true:=by rw[hI.done k hkl];simp;omega
     have:=hI.toCore.far (fun e he1 he2=>hI.cl _ ob hlt hob hl e he1 he2) hd;rw[jv hI.lsize hil,h0] at this;cases this
   have hL:=hloc i o him ho hia hns;have hrel:Rel j0 ((⟨s.N,(dK s (ops.take m) xs i).t,tS s.σ V k0,s.mv⟩:St).bD (looks ops o)) j a w:=by
    refine⟨hI.defers,hI.jY,hI.size,fun k av hk=> ?_,hI.dA,hI.len0,hI.ag⟩;simp only[St.bD,iU] at hk;split at hk
    ·rename_i hkl;exact hI.toCore.looks hok hmn hxs him ho h0 hall (by simpa using hkl) hk
    ·simp at hk
   have hdn: ∀k,k<is.length->(listed.setIfInBounds i true).getD (rC is k) true=decide (k<k0):=by
    intro k hk;rw[getD_set_ne true (fun h=>Y6 hW.len hia k hk h.symm),hI.done k hk]
   have hval: ∀(w':World) (v:Value),R w' j (xs i) v->∀k av,o.dst=some k->get t1 k=some av->k<s.N/\R w' j av v:=by
    intro w' v hr k av hk hgt;rw[←hxs,mF hok hmn him ho hk him (Nat.le_refl _)] at hgt;split at hgt
    ·rename_i hlt;obtain rfl:xs i=av:=Option.some.inj hgt;exact⟨hlt,hr⟩
    ·simp at hgt
   by_cases hw:Region.wanted o (yielded ops.toArray a.tmps)=true
   ·rw[if_pos hw];exact hL.run j0 j a w _ _ hrel hw fun w' v h1 h2 h3=>step j w' v k0 h1 h2 (.refl _ _) (Nat.le_refl _) hI.Rx hdn (hval w' v h3)
   ·rw[if_neg hw];exact step j w Go.undef k0 hI.dA (.refl _ _) (.refl _ _) (Nat.le_refl _) hI.Rx hdn (hval w _ (hL.skip j0 j a w hrel (by simpa using hw)))
end
def J4(P:Program)(ops:List Oper)(N:Nat)(t1:List (Nat×AV))(mv:List Nat):List aG->List (Nat×Option Nat)->List (AV×List aG)->Prop
 |σ,x::xs,v::vs=>(match sV ops x.1 with
  |some o=>J5 P o ⟨N,t1,σ,mv⟩ fun r' σ'=>r'=v.1/\σ'=v.2
  |none=>False)/\J4 P ops N t1 mv v.2 xs vs
 |_,[],[]=>True
 |_,_,_=>False
theorem VP{P:Program}{ops:List Oper}{N:Nat}{t1:List (Nat×AV)}{mv:List Nat} : ∀{is:List (Nat×Option Nat)} {V:List (AV×List aG)} {σ:List aG},J4 P ops N t1 mv σ is V->V.length=is.length/\
  ∀k,k<is.length->∃o,ops[rC is k]? =some o/\J5 P o ⟨N,t1,tS σ V k,mv⟩ fun r' σ'=>r'=(V.getD k (.undef,[])).1/\σ'=(V.getD k (.undef,[])).2
 |[],[],σ,h=>⟨rfl,fun k hk=>by simp at hk⟩
 |[],v::vs,σ,h=>h.elim
 |x::xs,[],σ,h=>h.elim
 |x::xs,v::vs,σ,h=>by
  obtain⟨h1,h2⟩:=h;obtain⟨h3,h4⟩:=VP h2;refine⟨by simp[h3],fun k hk=> ?_⟩;rcases k with _|k
  ·rw[jA] at h1;split at h1
   ·rename_i o ho;exact⟨o,by simpa[rC] using ho,by simpa[tS] using h1⟩
   ·exact h1.elim
  ·obtain⟨o,ho,ha⟩:=h4 k (by simpa using hk);refine⟨o,by simpa[rC] using ho,?_⟩;have e:tS σ (v::vs) (k+1)=tS v.2 vs k:=by cases k<;>rfl
   rw[e];simpa using ha
def yG(P:Program)(ops:List Oper)(rs t1:List (Nat×AV))(N:Nat)(t:List (Nat×AV))(mv:List Nat)(m:Nat):List (AV×List aG)->List (List Nat)->Prop
 |v::vs,sk::sks=>(∀K:St->Prop,(∀σ' mv',K ⟨N,t1,σ',mv'⟩)->kC P ops rs sk t1 (ops.take m) 0 ⟨N,t,v.2,mv⟩ K)/\yG P ops rs t1 N t mv m vs sks
 |[],[]=>True
 |_,_=>False
theorem P6{P:Program}{ops:List Oper}{rs t1:List (Nat×AV)}{N:Nat}{t:List (Nat×AV)}{mv:List Nat}{m:Nat}{σ:List aG} : ∀{V:List (AV×List aG)} {SK:List (List Nat)},yG P ops rs t1 N t mv m V SK->∀k,k<V.length->
  ∀K:St->Prop,(∀σ' mv',K ⟨N,t1,σ',mv'⟩)->kC P ops rs (skS SK (k+1)) t1 (ops.take m) 0 ⟨N,t,tS σ V (k+1),mv⟩ K
 |[],_,_,k,hk=>by simp at hk
 |v::vs,[],h,k,hk=>h.elim
 |v::vs,sk::sks,h,k,hk=>by
  rcases k with _|k
  ·exact h.1
  ·have:=P6 (σ:=σ) h.2 k (by simpa using hk);simpa[skS,tS] using this
theorem yw{P:Program}{Q:Exit->St->Prop}{N:Nat}{t:List (Nat×AV)}{σ:List aG}{mv:List Nat}{id:Nat}{ops:List Oper}{m:Nat}{is:List (Nat×Option Nat)}{SK:List (List Nat)}{V:List (AV×List aG)}(hm:P.follows .mixedOrders=true)(hok:dY ops m=true)(hmn:m<=ops.length)(hch:fG ops m is=true)(hsk:qw ops m is SK=true){t1:List (Nat×AV)}
  (hP:PureM P ⟨N,t,σ,mv⟩ ops m is V SK t1) (hW:OwnM P ops is V ⟨N,t,σ,mv⟩ t1)
  (h3:bH P false ops (ops.drop m) ⟨N,t1,tS σ V is.length,mv⟩ (Q .normal)):fA P (.region id ops.toArray true) Q ⟨N,t,σ,mv⟩:=by
 intro j0 j a w hr;have hr':Rel j0 ⟨N,t,σ,mv⟩ j a w.drew:=hr.after (iO j w) hr.dA.drew (Nat.le_refl _) (.refl _ []);refine wpIn_region_any hm (phaseM hok hmn hch hsk hW hP h3 _ j a w.drew _ ?_ ⟨0,.start hmn hr' fun _ _ _=>trivial,hr'.dA,hr'.len0,hr'.ag,Nat.zero_le _,fun k hk=> ?_⟩ (iO j w))
 ·rw[yZ];simp
 ·obtain⟨_,_,_,_,h4,_⟩:=bI hch hk;simp[show rC is k<ops.length by omega]
theorem awp_mix{P:Program}{Q:Exit->St->Prop}{N:Nat}{t:List (Nat×AV)}{σ:List aG}{mv:List Nat}{id:Nat}{ops:List Oper}(m:Nat)(is:List (Nat×Option Nat))(SK:List (List Nat))(V:List (AV×List aG))(hm:P.follows .mixedOrders=true)(hok:(dY ops m&&Nat.ble m ops.length&&fG ops m is&&qw ops m is SK)=true){t1:List (Nat×AV)}
  (h1: ∀K:St->Prop,(∀σ' mv',K ⟨N,t1,σ',mv'⟩)->kC P ops (TL is V) [] [] (ops.take m) 0 ⟨N,t,σ,mv⟩ K)
  (h4:yG P ops (TL is V) t1 N t mv m V SK)
  (h2:J4 P ops N t1 mv σ is V)
  (h3:bH P false ops (ops.drop m) ⟨N,t1,tS σ V is.length,mv⟩ (Q .normal)):fA P (.region id ops.toArray true) Q ⟨N,t,σ,mv⟩:=by
 simp only[Bool.and_eq_true,Nat.ble_eq] at hok;obtain⟨⟨⟨hok,hmn⟩,hch⟩,hsk⟩:=hok;obtain⟨hlen,hact⟩:=VP h2;have mk: ∀(k:Nat) (t2:List (Nat×AV)),(∀K:St->Prop,(∀σ' mv',K ⟨N,t1,σ',mv'⟩)->kC P ops (TL is V) (skS SK k) t2 (ops.take m) 0 ⟨N,t,tS σ V k,mv⟩ K)->∃xs:Nat->AV,(dK ⟨N,t,σ,mv⟩ (ops.take m) xs m).t=t1/\(∀i r,get (TL is V) i=some r->xs i=r)/\
   ∀i o,i<m->ops[i]? =some o->get (TL is V) i=none->xH (skS SK k) i=false->Local P ops o ⟨N,(dK ⟨N,t,σ,mv⟩ (ops.take m) xs i).t,tS σ V k,mv⟩ (xs i):=by
  intro k t2 h;have h:=h (fun s'=>s'.t=t1) (fun _ _=>rfl);have hlen:(ops.take m).length=m:=by simp;omega
  obtain⟨xs,hK,hia,hloc⟩:=GU h;have hext:=Steps.uz ⟨N,t,σ,mv⟩ (tS σ V k) (ops.take m) xs;refine⟨xs,?_,fun i r hi=>hia i r (by simpa using hi),fun i o him ho h3 h4=> ?_⟩
  ·rw[hlen,hext] at hK;exact hK
  ·have:=hloc i o (by rw[kR him];exact ho) (by simpa using h3) (by simpa using h4);rw[hext] at this;exact this
 have hP:PureM P ⟨N,t,σ,mv⟩ ops m is V SK t1:=⟨fun k hk=>by
  rcases k with _|k
  ·exact mk 0 [] h1
  ·exact mk (k+1) t1 (P6 h4 k (by omega))⟩
 exact yw hm hok hmn hch hsk hP ⟨hlen,hact⟩ h3
theorem NV{P:Program}{Q:Exit->St->Prop}{N:Nat}{t:List (Nat×AV)}{σ:List aG}{mv:List Nat}{id:Nat}{ops:List Oper}(m:Nat)(is:List (Nat×Option Nat))(SK:List (List Nat))(V:List (AV×List aG))(hm:P.follows .mixedOrders=true)(hok:(dY ops m&&Nat.ble m ops.length&&fG ops m is&&qw ops m is SK)=true){t1:List (Nat×AV)}
  (h1: ∀K:St->Prop,(∀σ' mv',K ⟨N,t1,σ',mv'⟩)->kC P ops (TL is V) [] [] (ops.take m) 0 ⟨N,t,σ,mv⟩ K)
  (h4:yG P ops (TL is V) t1 N t mv m V SK)
  (h2:J4 P ops N t1 mv σ is V)
  (h3: ∀K:St->Prop,(∀s',Q .normal s'->K s')->bH P false ops (ops.drop m) ⟨N,t1,tS σ V is.length,mv⟩ K):fA P (.region id ops.toArray true) Q ⟨N,t,σ,mv⟩:=
 awp_mix m is SK V hm hok h1 h4 h2 (h3 _ fun s' h=>h)
theorem iC{P:Program}{Q:Exit->St->Prop}{N:Nat}{t:List (Nat×AV)}{σ:List aG}{mv:List Nat}{id:Nat}{ops:List Oper}{y:Code}(m:Nat)(is:List (Nat×Option Nat))(SK:List (List Nat))(V:List (AV×List aG))(hm:P.follows .mixedOrders=true)(hok:(dY ops m&&Nat.ble m ops.length&&fG ops m is&&qw ops m is SK)=true){t1:List (Nat×AV)}
  (h1: ∀K:St->Prop,(∀σ' mv',K ⟨N,t1,σ',mv'⟩)->kC P ops (TL is V) [] [] (ops.take m) 0 ⟨N,t,σ,mv⟩ K)
  (h4:yG P ops (TL is V) t1 N t mv m V SK)
  (h2:J4 P ops N t1 mv σ is V)
  (h3: ∀K:St->Prop,(∀s',fA P y Q s'->K s')->bH P false ops (ops.drop m) ⟨N,t1,tS σ V is.length,mv⟩ K):fA P (.seq (.region id ops.toArray true) y) Q ⟨N,t,σ,mv⟩:=
 aK (awp_mix m is SK V hm hok h1 h4 h2 (h3 _ fun s' h=>h))
theorem iR{P:Program}{ops:List Oper}{rs t1:List (Nat×AV)}{N:Nat}{t:List (Nat×AV)}{mv:List Nat}{m:Nat} :yG P ops rs t1 N t mv m [] []:=trivial
theorem bJ{P:Program}{ops:List Oper}{rs t1:List (Nat×AV)}{N:Nat}{t:List (Nat×AV)}{mv:List Nat}{m:Nat}{v:AV×List aG}{vs:List (AV×List aG)}{sk:List Nat}{sks:List (List Nat)}
  (h: ∀K:St->Prop,(∀σ' mv',K ⟨N,t1,σ',mv'⟩)->kC P ops rs sk t1 (ops.take m) 0 ⟨N,t,v.2,mv⟩ K) (h2:yG P ops rs t1 N t mv m vs sks):yG P ops rs t1 N t mv m (v::vs) (sk::sks):=⟨h,h2⟩
theorem kE{P:Program}{ops:List Oper}{N:Nat}{t1:List (Nat×AV)}{mv:List Nat}{σ:List aG} :J4 P ops N t1 mv σ [] []:=trivial
theorem bU{P:Program}{ops:List Oper}{N:Nat}{t1:List (Nat×AV)}{mv:List Nat}{σ:List aG}{x:Nat×Option Nat}{xs:List (Nat×Option Nat)}{v:AV×List aG}{vs:List (AV×List aG)}
  (h:match sV ops x.1 with
   |some o=>J5 P o ⟨N,t1,σ,mv⟩ fun r' σ'=>r'=v.1/\σ'=v.2
   |none=>False) (h2:J4 P ops N t1 mv v.2 xs vs):J4 P ops N t1 mv σ (x::xs) (v::vs):=⟨h,h2⟩
def RestM(P:Program)(all:List Oper)(rs:List (Nat×AV))(sk:List Nat)(t1:List (Nat×AV))(os:List Oper)(i:Nat)(K:St->Prop)(s:St):Prop:=kC P all rs sk t1 os i s K
theorem evalM_nil(P:Program)(all:List Oper)(rs:List (Nat×AV))(sk:List Nat)(t1:List (Nat×AV))(i:Nat)(s:St)(K:St->Prop):kC P all rs sk t1 [] i s K=K s:=rfl
theorem evalM_cons(P:Program)(all os:List Oper)(rs:List (Nat×AV))(sk:List Nat)(t1:List (Nat×AV))(i:Nat)(o:Oper)(s:St)(K:St->Prop):kC P all rs sk t1 (o::os) i s K=match get rs i with
  |some r=>RestM P all rs sk t1 os (i+1) K (s.put o.dst r)
  |none=>if xH sk i then RestM P all rs sk t1 os (i+1) K (s.put o.dst (hadM t1 o))
   else jQ all s o fun gd g=>WY P true gd g o s (RestM P all rs sk t1 os (i+1) K):=rfl
theorem RestM_mk(P:Program)(all os:List Oper)(rs:List (Nat×AV))(sk:List Nat)(t1:List (Nat×AV))(i:Nat)(K:St->Prop)(N:Nat)(t:List (Nat×AV))(σ:List aG)(mv:List Nat):RestM P all rs sk t1 os i K ⟨N,t,σ,mv⟩=kC P all rs sk t1 os i ⟨N,t,σ,mv⟩ K:=rfl
attribute [go_sem ↓] evalM_nil evalM_cons RestM_mk J5
attribute [go_sem] RestM_mk xH TL hadM tS J4 yG
end Go.aU.Mix
namespace Go.aU
open Go.aU.Mix
open Go.aU.Steps (rC dsB)
theorem awp_draw{P:Program}{Q:Exit->St->Prop}{s:St}{id:Nat}{ops:List Oper}(m:Nat)(hm:P.follows .mixedOrders=true)(hok:(dY ops m&&Nat.ble m ops.length)=true)
  (h:bH P true ops (ops.take m) s fun s'=>bH P false ops (ops.drop m) s' (Q .normal)):fA P (.region id ops.toArray true) Q s:=by
 simp only[Bool.and_eq_true,Nat.ble_eq] at hok;obtain⟨xs,hK,hloc⟩:=unroll h;have hlen:(ops.take m).length=m:=by simp;omega
 have he: ∀i,dK s (ops.take m) xs i=⟨s.N,(dK s (ops.take m) xs i).t,s.σ,s.mv⟩:=fun i=>by
  have h1:=vO s (ops.take m) xs i;cases e:dK s (ops.take m) xs i
  rw[e] at h1;simp only at h1;rw[h1.1,h1.2.1,h1.2.2]
 rw[hlen,he m] at hK;exact yw (N:=s.N) (t:=s.t) (σ:=s.σ) (mv:=s.mv) (is:=[]) (SK:=[]) (V:=[]) hm hok.1 hok.2 rfl rfl ⟨fun k hk=>⟨xs,rfl,fun i r h=>by simp[TL,aU.get] at h,fun i o hi ho _ _=>by
  obtain rfl:k=0:=by simpa using hk
  have:=hloc i o (by rw[kR hi];exact ho);rw[he i] at this;exact this⟩⟩ ⟨rfl,fun k hk=>by simp at hk⟩ hK
section
variable {P : Program} {Q : Exit -> St -> Prop} {s : St}
theorem jT{id:Nat}{ops:List Oper}{y:Code}(m:Nat)(hm:P.follows .mixedOrders=true)(hok:(dY ops m&&Nat.ble m ops.length)=true)(h: ∀K:St->Prop,(∀s',fA P y Q s'->K s')->bH P true ops (ops.take m) s (Rest P false ops (ops.drop m) K)):fA P (.seq (.region id ops.toArray true) y) Q s:=
 aK (awp_draw m hm hok (h _ fun _ h=>h))
theorem X9{id:Nat}{ops:List Oper}(m:Nat)(hm:P.follows .mixedOrders=true)(hok:(dY ops m&&Nat.ble m ops.length)=true)(h: ∀K:St->Prop,(∀s',Q .normal s'->K s')->bH P true ops (ops.take m) s (Rest P false ops (ops.drop m) K)):fA P (.region id ops.toArray true) Q s:=
 awp_draw m hm hok (h _ fun _ h=>h)
end
def ku(P:Program)(all:List Oper)(ia dJ:Nat)(r:AV):List Oper->Nat->St->(St->Prop)->Prop
 |[],_,s,K=>K s
 |o::os,i,s,K=>if Nat.beq i ia then ku P all ia dJ r os (i+1) (s.put o.dst r) K
  else if Nat.beq i dJ then ku P all ia dJ r os (i+1) s K
  else jQ all s o fun gd g=>WY P true gd g o s fun s'=>ku P all ia dJ r os (i+1) s' K
theorem VX{P:Program}{all:List Oper}{ia dJ:Nat}{r:AV} : ∀{os:List Oper} {i0:Nat} {s:St} {K:St->Prop},ku P all ia dJ r os i0 s K->
  (∀i o,os[i]? =some o->i0+i=dJ->o.dst=none)->
  ∃xs:Nat->AV,K (dK s os xs os.length)/\(∀i,xs i=if i0+i=ia then r else if i0+i=dJ then .undef else xs i)/\∀i o,os[i]? =some o->i0+i≠ia->i0+i≠dJ->Local P all o (dK s os xs i) (xs i)
 |[],i0,s,K,h,_=>⟨fun i=>if i0+i=ia then r else .undef,h,fun i=>by dsimp only;split<;>simp,by simp⟩
 |o::os,i0,s,K,h,hd=>by
  have key: ∀x:AV,ku P all ia dJ r os (i0+1) (s.put o.dst x) K->(x=if i0=ia then r else if i0=dJ then .undef else x)->(i0≠ia->i0≠dJ->Local P all o s x)->
    ∃xs:Nat->AV,K (dK s (o::os) xs (o::os).length)/\(∀i,xs i=if i0+i=ia then r else if i0+i=dJ then .undef else xs i)/\∀i o',(o::os)[i]? =some o'->i0+i≠ia->i0+i≠dJ->Local P all o' (dK s (o::os) xs i) (xs i):=by
   intro x h hx hl;obtain⟨xs,hK,hia,hloc⟩:=VX h (fun i o' hi he=>hd (i+1) o' (by simpa using hi) (by omega));have hst: ∀i,dK s (o::os) (fun|0=>x|i+1=>xs i) (i+1)=dK (s.put o.dst x) os xs i:=by
    intro i;induction i with
    |zero=>rfl
    |succ i ih=>
     show(match(o::os)[i+1]? with|some o'=>(dK s (o::os) (fun|0=>x|i+1=>xs i) (i+1)).put o'.dst (xs i)|none=>dK s (o::os) (fun|0=>x|i+1=>xs i) (i+1))=_
     rw[ih];simp only[List.getElem?_cons_succ];rfl
   refine⟨fun|0=>x|i+1=>xs i,?_,fun i=> ?_,fun i o' hi h1 h2=> ?_⟩
   ·rw[List.length_cons,hst];exact hK
   ·cases i with
    |zero=>simpa using hx
    |succ i=>have:=hia i;rw[show i0+1+i=i0+(i+1) by omega] at this;exact this
   ·cases i with
    |zero=>simp at hi;subst hi;exact hl (by simpa using h1) (by simpa using h2)
    |succ i=>rw[hst];exact hloc i o' (by simpa using hi) (by omega) (by omega)
  simp only[ku] at h;by_cases h1:i0=ia
  ·rw[if_pos (by simpa using h1)] at h;exact key _ h (by rw[if_pos h1]) (fun h2=>absurd h1 h2)
  ·rw[if_neg (by simpa using h1)] at h;by_cases h2:i0=dJ
   ·rw[if_pos (by simpa using h2)] at h;have hdn:=hd 0 o (by simp) (by simpa using h2);exact key .undef (by rw[hdn];exact h) (by rw[if_neg h1,if_pos h2]) (fun _ h3=>absurd h2 h3)
   ·rw[if_neg (by simpa using h2)] at h;obtain⟨x,hl,h⟩:=IE h;exact key x h (by rw[if_neg h1,if_neg h2]) (fun _ _=>hl)
theorem Zd{P:Program}{ops:List Oper}{m ia dJ N:Nat}{r:AV}{t t1:List (Nat×AV)}{σ σx:List aG}{mv:List Nat}(hmn:m<=ops.length)(hd: ∀o,ops[dJ]? =some o->o.dst=none)
  (h: ∀K:St->Prop,(∀σ' mv',K ⟨N,t1,σ',mv'⟩)->ku P ops ia dJ r (ops.take m) 0 ⟨N,t,σx,mv⟩ K):
  ∃xs:Nat->AV,(dK ⟨N,t,σ,mv⟩ (ops.take m) xs m).t=t1/\(∀i,xs i=if i=ia then r else if i=dJ then .undef else xs i)/\∀i o,i<m->ops[i]? =some o->i≠ia->i≠dJ->Local P ops o ⟨N,(dK ⟨N,t,σ,mv⟩ (ops.take m) xs i).t,σx,mv⟩ (xs i):=by
 have h:=h (fun s'=>s'.t=t1) (fun _ _=>rfl);have hlen:(ops.take m).length=m:=by simp;omega
 obtain⟨xs,hK,hia,hloc⟩:=VX h (fun i o hi he=>by
  have him:i<m:=by have:=lt_of_getElem? hi;omega
  rw[kR him] at hi;exact hd o (by rw[←he,Nat.zero_add];exact hi))
 have hext:=Steps.uz ⟨N,t,σ,mv⟩ σx (ops.take m) xs;refine⟨xs,?_,fun i=>by have:=hia i;rwa [Nat.zero_add] at this,fun i o him ho h3 h4=> ?_⟩
 ·rw[hlen,hext] at hK;exact hK
 ·have:=hloc i o (by rw[kR him];exact ho) (by omega) (by omega);rw[hext] at this;exact this
def acA(P:Program)(ops:List Oper)(i:Nat)(s:St)(K:AV->List aG->Prop):Prop:=
 match sV ops i with
 |some o=>J5 P o s K
 |none=>False
theorem Ht{ops:List Oper}{m:Nat}{is:List (Nat×Option Nat)}(h:fG ops m is=true):qw ops m is (is.map fun _=>[])=true:=by
 unfold qw;simp only[List.length_map,Nat.beq_refl,Bool.true_and,List.all_eq_true,List.mem_range];intro k hk;obtain⟨o,ho,_⟩:=bI h hk;rw[ho];have:(is.map fun _=>([]:List Nat)).getD k []=[]:=by simp[List.getD_eq_getElem?_getD,hk]
 rw[this];rfl
def Jk(ops:List Oper)(i:Nat):Option Nat:=match ops[i]? with|some o=>o.dst|none=>none
def lateOk(ops:List Oper)(m dJ:Nat):Bool:=fG ops m [(dJ,none)]
def ownCOk(ops:List Oper)(m ia:Nat)(_:FuncId):Bool:=fG ops m [(ia,Jk ops ia)]
theorem get1{i k:Nat}{a r:AV}(h:get [(k,a)] i=some r):i=k/\r=a:=by
 simp only[aU.get] at h;split at h
 ·rename_i e;exact⟨(by simpa using e:k=i).symm,(Option.some.inj h).symm⟩
 ·cases h
theorem get1n{i k:Nat}{a:AV}(h:get [(k,a)] i=none):i≠k:=fun e=>by
 subst e;simp[aU.get] at h
section
variable {P : Program} {Q : Exit -> St -> Prop} {N : Nat} {t : List (Nat × AV)} {σ : List aG} {mv : List Nat} {id : Nat} {ops : List Oper} {y : Code} {t1 : List (Nat × AV)} {σ2 : List aG}
theorem awp_late(m dJ:Nat)(hm:P.follows .mixedOrders=true)(hok:(dY ops m&&Nat.ble m ops.length&&lateOk ops m dJ)=true)
  (h1: ∀K:St->Prop,(∀σ' mv',K ⟨N,t1,σ',mv'⟩)->ku P ops m dJ .undef (ops.take m) 0 ⟨N,t,σ,mv⟩ K)
  (h2:acA P ops dJ ⟨N,t1,σ,mv⟩ fun r σ'=>r= .undef/\σ'=σ2)
  (h3: ∀K:St->Prop,(∀σ' mv',K ⟨N,t1,σ',mv'⟩)->ku P ops m dJ .undef (ops.take m) 0 ⟨N,t,σ2,mv⟩ K)
  (h4:bH P false ops (ops.drop m) ⟨N,t1,σ2,mv⟩ (Q .normal)):fA P (.region id ops.toArray true) Q ⟨N,t,σ,mv⟩:=by
 simp only[Bool.and_eq_true,Nat.ble_eq] at hok;obtain⟨⟨hok,hmn⟩,hch⟩:=hok;have hch:fG ops m [(dJ,none)]=true:=hch;obtain⟨o,ho,_,hd,hlt,_⟩:=bI hch (k:=0) (by simp);have hd': ∀o',ops[dJ]? =some o'->o'.dst=none:=fun o' ho'=>by
  have ho:ops[dJ]? =some o:=ho;rw[ho] at ho';cases ho';exact hd
 refine yw (is:=[(dJ,none)]) (V:=[(.undef,σ2)]) hm hok hmn hch (Ht hch) ⟨fun k hk=> ?_⟩ ⟨rfl,fun k hk=> ?_⟩ h4
 ·have hk:k=0\/k=1:=by simp at hk;omega
  have: ∃xs:Nat->AV,(dK ⟨N,t,σ,mv⟩ (ops.take m) xs m).t=t1/\(∀i,xs i=if i=m then .undef else if i=dJ then .undef else xs i)/\∀i o,i<m->ops[i]? =some o->i≠m->i≠dJ->Local P ops o ⟨N,(dK ⟨N,t,σ,mv⟩ (ops.take m) xs i).t,tS σ [(.undef,σ2)] k,mv⟩ (xs i):=by
   rcases hk with rfl|rfl
   ·exact Zd hmn hd' h1
   ·exact Zd hmn hd' h3
  obtain⟨xs,g1,g2,g3⟩:=this;refine⟨xs,g1,fun i r hr=> ?_,fun i o' hi ho' hn _=>g3 i o' hi ho' (by omega) (get1n hn)⟩;obtain⟨rfl,rfl⟩:=get1 hr;rw[g2];split;rfl;rw[if_pos rfl]
 ·obtain rfl:k=0:=by simp at hk;omega
  refine⟨o,ho,?_⟩;unfold acA at h2;rw[jA,show ops[dJ]? =some o from ho] at h2;exact h2
theorem zH(m dJ:Nat)(hm:P.follows .mixedOrders=true)(hok:(dY ops m&&Nat.ble m ops.length&&lateOk ops m dJ)=true)
  (h1: ∀K:St->Prop,(∀σ' mv',K ⟨N,t1,σ',mv'⟩)->ku P ops m dJ .undef (ops.take m) 0 ⟨N,t,σ,mv⟩ K)
  (h2:acA P ops dJ ⟨N,t1,σ,mv⟩ fun r σ'=>r= .undef/\σ'=σ2)
  (h3: ∀K:St->Prop,(∀σ' mv',K ⟨N,t1,σ',mv'⟩)->ku P ops m dJ .undef (ops.take m) 0 ⟨N,t,σ2,mv⟩ K)
  (h4: ∀K:St->Prop,(∀s',fA P y Q s'->K s')->bH P false ops (ops.drop m) ⟨N,t1,σ2,mv⟩ K):fA P (.seq (.region id ops.toArray true) y) Q ⟨N,t,σ,mv⟩:=
 aK (awp_late m dJ hm hok h1 h2 h3 (h4 _ fun s' h=>h))
theorem JX(m dJ:Nat)(hm:P.follows .mixedOrders=true)(hok:(dY ops m&&Nat.ble m ops.length&&lateOk ops m dJ)=true)
  (h1: ∀K:St->Prop,(∀σ' mv',K ⟨N,t1,σ',mv'⟩)->ku P ops m dJ .undef (ops.take m) 0 ⟨N,t,σ,mv⟩ K)
  (h2:acA P ops dJ ⟨N,t1,σ,mv⟩ fun r σ'=>r= .undef/\σ'=σ2)
  (h3: ∀K:St->Prop,(∀σ' mv',K ⟨N,t1,σ',mv'⟩)->ku P ops m dJ .undef (ops.take m) 0 ⟨N,t,σ2,mv⟩ K)
  (h4: ∀K:St->Prop,(∀s',Q .normal s'->K s')->bH P false ops (ops.drop m) ⟨N,t1,σ2,mv⟩ K):fA P (.region id ops.toArray true) Q ⟨N,t,σ,mv⟩:=
 awp_late m dJ hm hok h1 h2 h3 (h4 _ fun s' h=>h)
theorem awp_ownb(m ia:Nat)(f:FuncId)(r:AV)(blk:List aG)(hm:P.follows .mixedOrders=true)(hok:(dY ops m&&Nat.ble m ops.length&&ownCOk ops m ia f)=true)
  (h1: ∀(τ:List aG) (K:St->Prop),(∀σ' mv',K ⟨N,t1,σ',mv'⟩)->ku P ops ia m r (ops.take m) 0 ⟨N,t,σ++τ,mv⟩ K)
  (h2:acA P ops ia ⟨N,t1,σ,mv⟩ fun r' σ'=>r'=r/\σ'=σ++blk)
  (h3:bH P false ops (ops.drop m) ⟨N,t1,σ++blk,mv⟩ (Q .normal)):fA P (.region id ops.toArray true) Q ⟨N,t,σ,mv⟩:=by
 simp only[Bool.and_eq_true,Nat.ble_eq] at hok;obtain⟨⟨hok,hmn⟩,hch⟩:=hok;have hch:fG ops m [(ia,Jk ops ia)]=true:=hch;obtain⟨o,ho,_,hd,hlt,_⟩:=bI hch (k:=0) (by simp);have hmm: ∀(τ:List aG),∃xs:Nat->AV,(dK ⟨N,t,σ,mv⟩ (ops.take m) xs m).t=t1/\xs ia=r/\∀i o,i<m->ops[i]? =some o->i≠ia->Local P ops o ⟨N,(dK ⟨N,t,σ,mv⟩ (ops.take m) xs i).t,σ++τ,mv⟩ (xs i):=fun τ=>by
  have h:=h1 τ (fun s'=>s'.t=t1) (fun _ _=>rfl);have hlen:(ops.take m).length=m:=by simp;omega
  obtain⟨xs,hK,hia,hloc⟩:=VX h (fun i o hi he=>by have:=lt_of_getElem? hi;omega);have hext:=Steps.uz ⟨N,t,σ,mv⟩ (σ++τ) (ops.take m) xs;refine⟨xs,?_,by rw[hia,Nat.zero_add,if_pos rfl],fun i o him ho h3=> ?_⟩
  ·rw[hlen,hext] at hK;exact hK
  ·have:=hloc i o (by rw[kR him];exact ho) (by omega) (by omega);rw[hext] at this;exact this
 refine yw (is:=[(ia,Jk ops ia)]) (V:=[(r,σ++blk)]) hm hok hmn hch (Ht hch) ⟨fun k hk=> ?_⟩ ⟨rfl,fun k hk=> ?_⟩ h3
 ·have hk:k=0\/k=1:=by simp at hk;omega
  have: ∃τ,tS σ [(r,σ++blk)] k=σ++τ:=by
   rcases hk with rfl|rfl
   ·exact⟨[],(List.append_nil σ).symm⟩
   ·exact⟨blk,rfl⟩
  obtain⟨τ,hτ⟩:=this;obtain⟨xs,g1,g2,g3⟩:=hmm τ;refine⟨xs,g1,fun i r' hr=> ?_,fun i o' hi ho' hn _=>by
   show Local P ops o' ⟨N,_,tS σ [(r,σ++blk)] k,mv⟩ (xs i)
   rw[hτ];exact g3 i o' hi ho' (get1n hn)⟩
  obtain⟨rfl,rfl⟩:=get1 hr;exact g2
 ·obtain rfl:k=0:=by simp at hk;omega
  refine⟨o,ho,?_⟩;unfold acA at h2;rw[jA,show ops[ia]? =some o from ho] at h2;exact h2
theorem pV(m ia:Nat)(f:FuncId)(r:AV)(blk:aG)(hm:P.follows .mixedOrders=true)(hok:(dY ops m&&Nat.ble m ops.length&&ownCOk ops m ia f)=true)
  (h1: ∀(τ:List aG) (K:St->Prop),(∀σ' mv',K ⟨N,t1,σ',mv'⟩)->ku P ops ia m r (ops.take m) 0 ⟨N,t,σ++τ,mv⟩ K)
  (h2:acA P ops ia ⟨N,t1,σ,mv⟩ fun r' σ'=>r'=r/\σ'=σ++[blk])
  (h3: ∀K:St->Prop,(∀s',Q .normal s'->K s')->bH P false ops (ops.drop m) ⟨N,t1,σ++[blk],mv⟩ K):fA P (.region id ops.toArray true) Q ⟨N,t,σ,mv⟩:=
 awp_ownb m ia f r [blk] hm hok h1 h2 (h3 _ fun s' h=>h)
theorem Ownl.X8(m ia:Nat)(f:FuncId)(r:AV)(blk:List aG)(hm:P.follows .mixedOrders=true)(hok:(dY ops m&&Nat.ble m ops.length&&ownCOk ops m ia f)=true)
  (h1: ∀(τ:List aG) (K:St->Prop),(∀σ' mv',K ⟨N,t1,σ',mv'⟩)->ku P ops ia m r (ops.take m) 0 ⟨N,t,σ++τ,mv⟩ K)
  (h2:acA P ops ia ⟨N,t1,σ,mv⟩ fun r' σ'=>r'=r/\σ'=σ++blk)
  (h3: ∀K:St->Prop,(∀s',Q .normal s'->K s')->bH P false ops (ops.drop m) ⟨N,t1,σ++blk,mv⟩ K):fA P (.region id ops.toArray true) Q ⟨N,t,σ,mv⟩:=
 awp_ownb m ia f r blk hm hok h1 h2 (h3 _ fun s' h=>h)
end
def Rz(d:Option Nat)(o:Option Oper):Bool:=match o with
 |some o=>(match o.op,d with
  | .store _ (.tmp p) _,some d=>Nat.beq p d
  |_,_=>false)
 |none=>false
def Zj(ops:List Oper)(m ia dJ:Nat):List (Nat×Option Nat):=if Nat.blt dJ m then[(ia,Jk ops ia),(dJ,none)] else[(ia,Jk ops ia)]
def ownOk(ops:List Oper)(m ia dJ:Nat):Bool:=fG ops m (Zj ops m ia dJ)&&(Nat.beq dJ ops.length||(Nat.blt dJ m&&Rz (Jk ops ia) ops[dJ]?))
def ownA(P:Program)(ops:List Oper)(ia dJ:Nat)(s:St)(K:List AV->Prop):Prop:=
 match sV ops ia with
 |some oa=>(match oa.dst with
  |some d=>Nat.blt d s.N=true
  |none=>False)/\(match oa.op with
  | .alloc t=>(match dN P t with
   |some z=>(match sV ops dJ with
    |some os=>(match os.op with
     | .store t' _ v=>arg true s v fun av=>(match iM P t' with
      |some (_,m)=>jU (cellsOf av)=true/\(cellsOf av).length=m/\z.length=m/\K (cellsOf av)
      |none=>False)
     |_=>False)
    |none=>K (z.map fun v=> .d (.v v)))
   |none=>False)
  |_=>False)
 |none=>False
theorem arg_ex{g:Bool}{s:St}{x:Operand}{K:AV->Prop}(h:arg g s x K): ∃av,K av/\∀(σ':List aG) (K':AV->Prop),K' av->arg g ⟨s.N,s.t,σ',s.mv⟩ x K':=by
 have hv: ∀σ',val ⟨s.N,s.t,σ',s.mv⟩ x=val s x:=fun σ'=>by cases x<;>rfl
 unfold arg at h;split at h
 ·rename_i b y he;exact⟨y,h.2,fun σ' K' hk=>by unfold arg;rw[hv,he];exact⟨h.1,hk⟩⟩
 ·rename_i y hn he;refine⟨y,h,fun σ' K' hk=> ?_⟩;unfold arg;rw[hv,he];cases y<;>first|exact hk|exact(hn _ _ rfl).elim
 ·exact h.elim
theorem store_own{P:Program}{tt:TypeId}{N:Nat}{t1:List (Nat×AV)}{σ:List aG}{mv:List Nat}{z:List AV}{av:AV}{b:Bool}{k:Nat}(h1:iM P tt=some (b,k))(h2:jU (cellsOf av)=true)(h3:(cellsOf av).length=k)(h4:z.length=k):
  uy P tt ⟨N,t1,σ++[.var z],mv⟩ (.ptr σ.length 0) av fun s'=>(AV.undef= .undef)/\s'.σ=σ++[.var (cellsOf av)]:=by
 unfold uy;rw[h1];refine⟨h2,h3,?_⟩;have hs:lY (σ++[.var z]) (.ptr σ.length 0) (cellsOf av)=some (True,σ++[.var (cellsOf av)]):=by
  unfold lY;simp[h3,h4,jX]
 show(match lY (σ++[.var z]) (.ptr σ.length 0) (cellsOf av) with|some (side,σ')=>side/\_|none=>False)
 rw[hs];exact⟨trivial,rfl,rfl⟩
theorem get2{i a b:Nat}{x y r:AV}(h:get [(a,x),(b,y)] i=some r):(i=a/\r=x)\/(i≠a/\i=b/\r=y):=by
 simp only[aU.get] at h;split at h
 ·rename_i e;exact .inl ⟨(by simpa using e:a=i).symm,(Option.some.inj h).symm⟩
 ·rename_i e;split at h
  ·rename_i e2;exact .inr ⟨fun h9=>e (by simp[h9]),(by simpa using e2:b=i).symm,(Option.some.inj h).symm⟩
  ·cases h
theorem get2n{i a b:Nat}{x y:AV}(h:get [(a,x),(b,y)] i=none):i≠a/\i≠b:=by
 refine⟨fun e=> ?_,fun e=> ?_⟩
 ·subst e;simp[aU.get] at h
 ·subst e;simp only[aU.get] at h;split at h
  ·cases h
  ·simp at h
theorem awp_own{P:Program}{Q:Exit->St->Prop}{N:Nat}{t:List (Nat×AV)}{σ:List aG}{mv:List Nat}{id:Nat}{ops:List Oper}(m ia dJ:Nat)(hm:P.follows .mixedOrders=true)(hok:(dY ops m&&Nat.ble m ops.length&&ownOk ops m ia dJ)=true){t1:List (Nat×AV)}
  (h1: ∀(τ:List aG) (K:St->Prop),(∀σ' mv',K ⟨N,t1,σ',mv'⟩)->ku P ops ia dJ (.ptr σ.length 0) (ops.take m) 0 ⟨N,t,σ++τ,mv⟩ K)
  (h2:ownA P ops ia dJ ⟨N,t1,σ,mv⟩ fun c=>bH P false ops (ops.drop m) ⟨N,t1,σ++[.var c],mv⟩ (Q .normal)):fA P (.region id ops.toArray true) Q ⟨N,t,σ,mv⟩:=by
 simp only[Bool.and_eq_true,Nat.ble_eq] at hok;obtain⟨⟨hok,hmn⟩,hown⟩:=hok;unfold ownOk at hown;rw[Bool.and_eq_true] at hown;obtain⟨hch,hst⟩:=hown;unfold ownA at h2;rw[jA] at h2;cases hoa:ops[ia]? with
 |none=>rw[hoa] at h2;exact h2.elim
 |some oa=>
 rw[hoa] at h2;simp only at h2;obtain⟨hdN,h2⟩:=h2;cases hd:oa.dst with
 |none=>rw[hd] at hdN;exact hdN.elim
 |some d=>
 rw[hd] at hdN;have hdN:d<N:=by simpa using hdN
 have hda:Jk ops ia=some d:=by unfold Jk;rw[hoa];exact hd
 split at h2;case h_2=>exact h2.elim
 rename_i ty hop;split at h2;case h_2=>exact h2.elim
 rename_i z hz;have hgetd: ∀(ist':Nat),ist'≠ia->(∀o,ops[ist']? =some o->o.dst=none)->ia<m->(∀K:St->Prop,(∀σ' mv',K ⟨N,t1,σ',mv'⟩)->ku P ops ia ist' (.ptr σ.length 0) (ops.take m) 0 ⟨N,t,σ++[],mv⟩ K)->get t1 d=some (.ptr σ.length 0):=fun ist' hne hdn hlt h=>by
  obtain⟨xs,g1,g2,_⟩:=Zd (σ:=σ) hmn hdn h;rw[←g1,mF hok hmn hlt hoa hd hlt (Nat.le_refl _),if_pos hdN,g2 ia,if_pos rfl]
 rw[Bool.or_eq_true] at hst;by_cases hlt:dJ<m
 ·have hist:Rz (Jk ops ia) ops[dJ]? =true:=by
   rcases hst with h|h
   ·have:dJ=ops.length:=by simpa using h
    omega
   ·rw[Bool.and_eq_true] at h;exact h.2
  have hIs:Zj ops m ia dJ=[(ia,some d),(dJ,none)]:=by unfold Zj;rw[if_pos (by simpa using hlt),hda]
  rw[hIs] at hch;obtain⟨oa',hoa',_,_,hlta,_⟩:=bI hch (k:=0) (by simp);obtain⟨os,hos,_,hds,_,_,_,hdep⟩:=bI hch (k:=1) (by simp);have hne:ia<dJ:=(hdep (by decide)).2;have hos:ops[dJ]? =some os:=hos;have hlta:ia<m:=hlta;rw[jA,hos] at h2;simp only at h2;split at h2;case h_2=>exact h2.elim
  rename_i ty' p v hops;have hp:p= .tmp d:=by
   unfold Rz at hist;rw[hos,hda] at hist;simp only[hops] at hist;cases p with
   |tmp q=>simp at hist;rw[hist]
   |_=>simp at hist
  subst hp;obtain⟨av,h2,hav⟩:=arg_ex h2;split at h2;case h_2=>exact h2.elim
  rename_i bb kk hty;obtain⟨c1,c2,c3,h2⟩:=h2;have hdn: ∀o,ops[dJ]? =some o->o.dst=none:=fun o ho=>by rw[hos] at ho;cases ho;exact hds
  have hgd:=hgetd dJ (by omega) hdn hlta (fun K hK=>h1 [] K hK);obtain⟨z',hz'⟩: ∃z',z'=z.map fun v=>AV.d (.v v):=⟨_,rfl⟩;have hzl:z'.length=kk:=by rw[hz',List.length_map];exact c3
  refine yw (is:=[(ia,some d),(dJ,none)]) (V:=[(.ptr σ.length 0,σ++[.var z']),(.undef,σ++[.var (cellsOf av)])]) hm hok hmn hch (Ht hch) ⟨fun k hk=> ?_⟩ ⟨rfl,fun k hk=> ?_⟩ h2
  ·have: ∃τ,tS σ [(.ptr σ.length 0,σ++[.var z']),(.undef,σ++[.var (cellsOf av)])] k=σ++τ:=by
    have hk:k=0\/k=1\/k=2:=by simp at hk;omega
    rcases hk with rfl|rfl|rfl
    ·exact⟨[],(List.append_nil σ).symm⟩
    ·exact⟨_,rfl⟩
    ·exact⟨_,rfl⟩
   obtain⟨τ,hτ⟩:=this;obtain⟨xs,g1,g2,g3⟩:=Zd (σ:=σ) hmn hdn (h1 τ);refine⟨xs,g1,fun i r hr=> ?_,fun i o hi ho hn _=>by
    show Local P ops o ⟨N,_,tS σ _ k,mv⟩ (xs i)
    rw[hτ];exact g3 i o hi ho (get2n hn).1 (get2n hn).2⟩
   rcases get2 hr with⟨rfl,rfl⟩|⟨e1,rfl,rfl⟩
   ·rw[g2,if_pos rfl]
   ·rw[g2,if_neg e1,if_pos rfl]
  ·have hk:k=0\/k=1:=by simp at hk;omega
   rcases hk with rfl|rfl
   ·refine⟨oa,hoa,?_⟩;unfold J5;simp only[hop];rw[hz];exact⟨rfl,by rw[hz'];rfl⟩
   ·refine⟨os,hos,?_⟩;unfold J5;simp only[hops];show arg true ⟨N,t1,σ++[.var z'],mv⟩ (.tmp d) _
    unfold arg;have hvl:val ⟨N,t1,σ++[.var z'],mv⟩ (.tmp d)=some (.ptr σ.length 0):=hgd;rw[hvl];exact hav _ _ (store_own hty c1 c2 hzl)
 ·have hle:dJ=ops.length:=by
   rcases hst with h|h
   ·simpa using h
   ·rw[Bool.and_eq_true] at h;exact absurd (by simpa using h.1) hlt
  have hIs:Zj ops m ia dJ=[(ia,some d)]:=by unfold Zj;rw[if_neg (by simpa using hlt),hda]
  rw[hIs] at hch;obtain⟨oa',hoa',_,_,hlta,_⟩:=bI hch (k:=0) (by simp);have hlta:ia<m:=hlta;have hon:ops[dJ]? =none:=by rw[hle];simp
  rw[jA,hon] at h2;simp only at h2;have hdn: ∀o,ops[dJ]? =some o->o.dst=none:=fun o ho=>by rw[hon] at ho;cases ho
  refine yw (is:=[(ia,some d)]) (V:=[(.ptr σ.length 0,σ++[.var (z.map fun v=> .d (.v v))])]) hm hok hmn hch (Ht hch) ⟨fun k hk=> ?_⟩ ⟨rfl,fun k hk=> ?_⟩ h2
  ·have: ∃τ,tS σ [(.ptr σ.length 0,σ++[.var (z.map fun v=> .d (.v v))])] k=σ++τ:=by
    have hk:k=0\/k=1:=by simp at hk;omega
    rcases hk with rfl|rfl
    ·exact⟨[],(List.append_nil σ).symm⟩
    ·exact⟨_,rfl⟩
   obtain⟨τ,hτ⟩:=this;obtain⟨xs,g1,g2,g3⟩:=Zd (σ:=σ) hmn hdn (h1 τ);refine⟨xs,g1,fun i r hr=> ?_,fun i o hi ho hn _=>by
    show Local P ops o ⟨N,_,tS σ _ k,mv⟩ (xs i)
    rw[hτ];exact g3 i o hi ho (get1n hn) (by omega)⟩
   obtain⟨rfl,rfl⟩:=get1 hr;rw[g2,if_pos rfl]
  ·obtain rfl:k=0:=by simp at hk;omega
   refine⟨oa,hoa,?_⟩;unfold J5;simp only[hop];rw[hz];exact⟨rfl,rfl⟩
theorem awp_own_seq{P:Program}{Q:Exit->St->Prop}{N:Nat}{t:List (Nat×AV)}{σ:List aG}{mv:List Nat}{id:Nat}{ops:List Oper}{y:Code}(m ia dJ:Nat)(hm:P.follows .mixedOrders=true)(hok:(dY ops m&&Nat.ble m ops.length&&ownOk ops m ia dJ)=true){t1:List (Nat×AV)}
  (h1: ∀(τ:List aG) (K:St->Prop),(∀σ' mv',K ⟨N,t1,σ',mv'⟩)->ku P ops ia dJ (.ptr σ.length 0) (ops.take m) 0 ⟨N,t,σ++τ,mv⟩ K)
  (h2: ∀K:St->Prop,(∀s',fA P y Q s'->K s')->ownA P ops ia dJ ⟨N,t1,σ,mv⟩ fun c=>bH P false ops (ops.drop m) ⟨N,t1,σ++[.var c],mv⟩ K):fA P (.seq (.region id ops.toArray true) y) Q ⟨N,t,σ,mv⟩:=
 aK (awp_own m ia dJ hm hok h1 (h2 _ fun s' h=>h))
theorem bW{P:Program}{Q:Exit->St->Prop}{N:Nat}{t:List (Nat×AV)}{σ:List aG}{mv:List Nat}{id:Nat}{ops:List Oper}(m ia dJ:Nat)(hm:P.follows .mixedOrders=true)(hok:(dY ops m&&Nat.ble m ops.length&&ownOk ops m ia dJ)=true){t1:List (Nat×AV)}
  (h1: ∀(τ:List aG) (K:St->Prop),(∀σ' mv',K ⟨N,t1,σ',mv'⟩)->ku P ops ia dJ (.ptr σ.length 0) (ops.take m) 0 ⟨N,t,σ++τ,mv⟩ K)
  (h2: ∀K:St->Prop,(∀s',Q .normal s'->K s')->ownA P ops ia dJ ⟨N,t1,σ,mv⟩ fun c=>bH P false ops (ops.drop m) ⟨N,t1,σ++[.var c],mv⟩ K):fA P (.region id ops.toArray true) Q ⟨N,t,σ,mv⟩:=
 awp_own m ia dJ hm hok h1 (h2 _ fun s' h=>h)
def RestO(P:Program)(all:List Oper)(ia dJ:Nat)(r:AV)(os:List Oper)(i:Nat)(K:St->Prop)(s:St):Prop:=ku P all ia dJ r os i s K
theorem evalO_nil(P:Program)(all:List Oper)(ia dJ:Nat)(r:AV)(i:Nat)(s:St)(K:St->Prop):ku P all ia dJ r [] i s K=K s:=rfl
theorem evalO_cons(P:Program)(all os:List Oper)(ia dJ:Nat)(r:AV)(i:Nat)(o:Oper)(s:St)(K:St->Prop):ku P all ia dJ r (o::os) i s K=if Nat.beq i ia then RestO P all ia dJ r os (i+1) K (s.put o.dst r)
  else if Nat.beq i dJ then ku P all ia dJ r os (i+1) s K
  else jQ all s o fun gd g=>WY P true gd g o s (RestO P all ia dJ r os (i+1) K):=rfl
theorem RestO_mk(P:Program)(all os:List Oper)(ia dJ:Nat)(r:AV)(i:Nat)(K:St->Prop)(N:Nat)(t:List (Nat×AV))(σ:List aG)(mv:List Nat):RestO P all ia dJ r os i K ⟨N,t,σ,mv⟩=ku P all ia dJ r os i ⟨N,t,σ,mv⟩ K:=rfl
attribute [go_sem ↓] evalO_nil evalO_cons RestO_mk acA ownA
attribute [go_sem] RestO_mk
end Go.aU
namespace Go.aU
abbrev I(n:Int):D:= .v (.int .i64 n)
abbrev B(b:Bool):D:= .v (.bool b)
theorem aH{n:Int}(h1: -9223372036854775808<=n)(h2:n<=9223372036854775807):IntKind.i64.wrap n=n:=by
 rw[IntKind.wrap_i64];omega
theorem Yw{a b:Int}(h:0<=a):a.tdiv b=a/b:=Int.tdiv_eq_ediv_of_nonneg h
theorem GV{a b:Int}(h:0<=a):a.tmod b=a%b:=Int.tmod_eq_emod_of_nonneg h
theorem wrap_succ{i:Nat}(h:i<1000000000):IntKind.i64.wrap ((i:Int)+1)=((i+1:Nat):Int):=by
 rw[IntKind.wrap_i64];omega
theorem dn{i:Nat}(h:i<1000000000):IntKind.i64.wrap ((i:Int)-1)=(i:Int)-1:=by
 rw[IntKind.wrap_i64];omega
def idxFrom{α:Type}(p:α->Bool):List α->Nat->Int
 |[],_=> -1
 |x::xs,i=>if p x then i else idxFrom p xs (i+1)
theorem gX{α:Type}{n i:Nat}{f:Nat->α}(h:i<n):(lst n f).drop i=f i::(lst n f).drop (i+1):=by
 rw[List.drop_eq_getElem_cons (by rw[bT];exact h)];simp[lst]
theorem gY{α:Type}{n i:Nat}{f:Nat->α}(h:n<=i):(lst n f).drop i=[]:=by
 rw[List.drop_eq_nil_iff,bT];omega
theorem mY{α:Type}(p:α->Bool): ∀(l:List α) (i:Nat),decide (0<=idxFrom p l i)=l.any p
 |[],i=>by simp[idxFrom]
 |x::xs,i=>by
  rw[idxFrom,List.any_cons];by_cases h:p x=true
  ·simp[h]
  ·simp only[h];simpa using mY p xs (i+1)
theorem mg{α:Type}(p:α->Bool): ∀(l:List α) (i:Nat),(idxFrom p l i= -1/\∀x∈l,p x=false)\/∃q,q<l.length/\idxFrom p l i=((i+q:Nat):Int)/\∃x,l[q]? =some x/\p x=true/\∀r y,r<q->l[r]? =some y->p y=false
 |[],i=> .inl ⟨rfl,by simp⟩
 |x::xs,i=>by
  rw[idxFrom];by_cases h:p x=true
  ·refine .inr ⟨0,by simp,by simp[h],x,by simp,h,fun r y hr=>by omega⟩
  ·rw[if_neg h];have h:p x=false:=by simpa using h
   rcases mg p xs (i+1) with⟨h1,h2⟩|⟨q,h1,h2,y,h3,h4,h5⟩
   ·exact .inl ⟨h1,by simpa[h] using h2⟩
   ·refine .inr ⟨q+1,by simpa using h1,by rw[h2];congr 1;omega,y,by simpa using h3,h4,fun r z hr hz=> ?_⟩;cases r with
    |zero=>simp at hz;subst hz;exact h
    |succ r=>exact h5 r z (by omega) (by simpa using hz)
mutual
def sG(b sz n':Nat)(row:Nat->List D):AV->AV
 | .iff g x=> .iff g (sG b sz n' row x)
 | .agg cs=> .agg (O0 b sz n' row cs)
 | .eU cs=> .eU (O0 b sz n' row cs)
 | .ms b' sz' lo n=>if Nat.beq b' b then(if sz'=sz/\lo+n<=n' then .d (.sl none sz n fun i=>row (lo+i)) else .undef) else .ms b' sz' lo n
 | .clo fn fs cs=> .clo fn (O0 b sz n' row fs) (O0 b sz n' row cs)
 | .ptr b' o=>if Nat.beq b' b then .undef else .ptr b' o
 | .pe b' s i k=>if Nat.beq b' b then .undef else .pe b' s i k
 | .mc b' s l n c=>if Nat.beq b' b then .undef else .mc b' s l n c
 | .mp b'=>if Nat.beq b' b then .undef else .mp b'
 | .zL b'=>if Nat.beq b' b then .undef else .zL b'
 |x=>x
def O0(b sz n':Nat)(row:Nat->List D):List AV->List AV
 |[]=>[]
 |x::xs=>sG b sz n' row x::O0 b sz n' row xs
end
theorem je(b sz n':Nat)(row:Nat->List D): ∀cs,(O0 b sz n' row cs).length=cs.length
 |[]=>rfl
 |x::xs=>by simp[O0,je b sz n' row xs]
theorem xP(b sz n':Nat)(row:Nat->List D): ∀(cs:List AV) (k:Nat),(O0 b sz n' row cs).getD k .undef=sG b sz n' row (cs.getD k .undef)
 |[],k=>by simp[O0,sG]
 |x::xs,0=>by simp[O0]
 |x::xs,k+1=>by
  have:=xP b sz n' row xs k;simpa[O0] using this
theorem dL{j:Js}{b:Nat}{c:Nat}(h:some c∈j.set b none):some c∈j:=by
 obtain⟨i,hi,he⟩:=List.mem_iff_getElem.1 h;rw[List.getElem_set] at he;split at he
 ·cases he
 ·rw[←he];exact List.getElem_mem _
theorem RD.unset{w:World}{j:Js}{b:Nat}{d:D}{v:Value}(h:RD w j d v):RD w (j.set b none) d v:=by
 induction h with
 |v x=>exact .v x
 |sl a c val hcap hle ha hlt hb hlen hcell hrel ih=>exact .sl a c val hcap hle ha hlt (fun hm=>hb (dL hm)) hlen hcell ih
 |zero p c hcap hp=>exact .zero p c hcap hp
section
variable {w : World} {j : Js} {σ : List aG} {b sz n' : Nat} {row : Nat -> List D}
theorem gG{b':Nat}{o:Option Nat}(h:j[b']? =some o)(hne:b'≠b):(j.set b none)[b']? =some o:=by
 rw[List.getElem?_set];simp[Ne.symm hne,h]
theorem R.sZ(hS:aT w j σ)(hb:σ[b]? =some (.arr sz n' row)){x:AV}{v:Value}(h:R w j x v):R w (j.set b none) (sG b sz n' row x) v:=by
 induction h with
 |undef v=>exact .undef v
 |iff h h0 ih=>simp only[sG];exact .iff ih h0
 |d h=>simp only[sG];exact .d h.unset
 |agg vs hs h ih=>
  simp only[sG];exact .agg vs (by rw[je];exact hs) fun k hk=>by rw[xP];exact ih k (by rwa [je] at hk)
 |eU vs hs h ih=>
  simp only[sG];exact .eU vs (by rw[je];exact hs) fun k hk=>by rw[xP];exact ih k (by rwa [je] at hk)
 |clo ff cc h1 h2 h3 h4 ih3 ih4=>
  simp only[sG];exact .clo ff cc (by rw[je];exact h1) (by rw[je];exact h2) (fun k hk=>by rw[xP];exact ih3 k (by rwa [je] at hk)) (fun k hk=>by rw[xP];exact ih4 k (by rwa [je] at hk))
 | @ptr b' off cb h=>
  simp only[sG];by_cases e:b'=b
  ·simp[e];exact .undef _
  ·simp[e];exact .ptr (gG h e)
 | @pe b' s i k cb h=>
  simp only[sG];by_cases e:b'=b
  ·simp[e];exact .undef _
  ·simp[e];exact .pe (gG h e)
 | @mp b' cb h=>
  simp only[sG];by_cases e:b'=b
  ·simp[e];exact .undef _
  ·simp[e];exact .mp (gG h e)
 | @zL b' cb h=>
  simp only[sG];by_cases e:b'=b
  ·simp[e];exact .undef _
  ·simp[e];exact .zL (gG h e)
 |fm c cl es hlt hbj zl hd=>simp only[sG];exact .fm c cl es hlt (fun hm=>hbj (dL hm)) zl ⟨hd.stamped,hd.keys,hd.kind,fun e he k hk=>(hd.rel e he k hk).unset⟩
 |el a val h1 hlt hbj hcell hrel=>simp only[sG];exact .el a val h1 hlt (fun hm=>hbj (dL hm)) hcell fun k hk=>(hrel k hk).unset
 | @ms b' sz' lo n cb c e m h hs hn hm=>
  simp only[sG];by_cases e':b'=b
  ·subst e';simp only[Nat.beq_refl,if_true];split
   ·rename_i hc;obtain⟨rfl,hle⟩:=hc;obtain⟨o,ho,hB⟩:=hS.blk b' _ hb;rw[h] at ho;cases ho;obtain⟨C,e2,⟨f,hC,xK⟩,hcs,hrel⟩:=hB;have hfz:=Or.imp_left And.left xK;refine .d (.sl ⟨cb,lo*sz',none⟩ c (fun i k=>C.getD ((lo+i)*sz'+k) Go.undef) (.inl rfl) hn rfl (hS.lt b' cb h) (fun hmem=> ?_) (fun i hi=>(hrel (lo+i) (by omega)).1) (fun i hi k hk=> ?_) (fun i hi k hk=> ?_))
    ·obtain⟨i,hi,he⟩:=List.mem_iff_getElem.1 hmem;rw[List.getElem_set] at he;split at he
     ·cases he
     ·rename_i hne;have:j[i]? =some (some cb):=by rw[List.getElem?_eq_getElem (by simpa using hi)];rw[he]
      exact hne (hS.inj _ _ _ h this)
    ·have hbound:(lo+i)*sz'+sz'<=n'*sz':=by
      have:(lo+i+1)*sz'<=n'*sz':=Nat.mul_le_mul_right _ (by omega);rwa [Nat.succ_mul] at this
     have e3:lo*sz'+i*sz'+k=(lo+i)*sz'+k:=by rw[Nat.add_mul]
     rw[cell_of hC,e3];simp[Array.getD_eq_getD_getElem?,show(lo+i)*sz'+k<C.size by omega]
    ·exact((hrel (lo+i) (by omega)).2 k hk).unset
   ·exact .undef _
  ·simp[e'];exact .ms c e m (gG h e') hs hn hm
 | @ms0 b' sz' p h=>
  simp only[sG];by_cases e':b'=b
  ·subst e';simp only[Nat.beq_refl,if_true];split
   ·rename_i hc;obtain⟨rfl,hle⟩:=hc;exact .d (.zero p 0 (.inl rfl) fun _=>rfl)
   ·exact .undef _
  ·simp[e'];exact .ms0 p (gG h e')
 | @mc b' sz' lo n c v h q hv ih=>
  simp only[sG];by_cases e':b'=b
  ·simp[e'];exact .undef _
  ·simp only[sG,zC e',Bool.false_eq_true,if_false] at ih⊢;exact .mc ih q hv
 |op h h0 ih=>simp only[sG];exact .op (fun hb=>by have:=ih hb;simpa only[sG] using this) h0
 | @vJ b' sz' lo cb p e m h hs hlo hm=>
  simp only[sG];by_cases e':b'=b
  ·subst e';simp only[Nat.beq_refl,if_true];split
   ·rename_i hc;obtain⟨rfl,hle⟩:=hc;exact .d (.zero p 0 (.inl rfl) fun _=>rfl)
   ·exact .undef _
  ·simp[e'];exact .vJ p e m (gG h e') hs hlo hm
def uU(b sz n':Nat)(row:Nat->List D)(x:AV):AV:=if x.avoids [b] then x else sG b sz n' row x
theorem R.unset{x:AV}{v:Value}(h:R w j x v)(ha:x.avoids [b]=true):R w (j.set b none) x v:=by
 induction h with
 |undef v=>exact .undef v
 |iff h h0 ih=>exact .iff (fun hb=>ih hb (by simpa[AV.avoids,hb] using ha)) h0
 |d h=>exact .d h.unset
 |agg vs hs h ih=>exact .agg vs hs fun k hk=>ih k hk (gZ (by simpa[AV.avoids] using ha) hk)
 |eU vs hs h ih=>exact .eU vs hs fun k hk=>ih k hk (gZ (by simpa[AV.avoids] using ha) hk)
 |ptr h=>exact .ptr (gG h (by simpa[AV.avoids] using ha))
 |pe h=>exact .pe (gG h (by simpa[AV.avoids] using ha))
 |el a val hs hlt hb hcell hrel=>exact .el a val hs hlt (fun hm=>hb (dL hm)) hcell fun k hk=>(hrel k hk).unset
 |ms c e m h hs hn hm=>exact .ms c e m (gG h (by simpa[AV.avoids] using ha)) hs hn hm
 |ms0 p h=>exact .ms0 p (gG h (by simpa[AV.avoids] using ha))
 |mc h q hv ih=>exact .mc (ih (by simpa[AV.avoids] using ha)) q hv
 |op h h0 ih=>exact .op (fun hb=>ih hb rfl) h0
 |vJ p e m h hs hlo hm=>exact .vJ p e m (gG h (by simpa[AV.avoids] using ha)) hs hlo hm
 |mp h=>exact .mp (gG h (by simpa[AV.avoids] using ha))
 |zL h=>exact .zL (gG h (by simpa[AV.avoids] using ha))
 |fm c cl es hlt hb zl hd=>exact .fm c cl es hlt (fun hm=>hb (dL hm)) zl ⟨hd.stamped,hd.keys,hd.kind,fun e he k hk=>(hd.rel e he k hk).unset⟩
 | @clo fn fs cs ff cc h1 h2 h3 h4 ih3 ih4=>
  have hb:dQ [b] fs=true/\dQ [b] cs=true:=by simpa[AV.avoids] using ha
  exact .clo ff cc h1 h2 (fun k hk=>ih3 k hk (gZ hb.1 hk)) (fun k hk=>ih4 k hk (gZ hb.2 hk))
theorem R.uU(hS:aT w j σ)(hb:σ[b]? =some (.arr sz n' row)){x:AV}{v:Value}(h:R w j x v):R w (j.set b none) (uU b sz n' row x) v:=by
 unfold aU.uU;split
 ·rename_i ha;exact h.unset ha
 ·exact h.sZ hS hb
def Gl(b sz n':Nat)(row:Nat->List D):List (Nat×AV)->List (Nat×AV)
 |[]=>[]
 |(k,v)::t=>(k,uU b sz n' row v)::Gl b sz n' row t
theorem RP: ∀{t:List (Nat×AV)} {k:Nat} {av:AV},get (Gl b sz n' row t) k=some av->∃x,get t k=some x/\av=uU b sz n' row x
 |[],k,av,h=>by simp[Gl,get] at h
 |(q,u)::t,k,av,h=>by
  simp only[Gl,get] at h⊢;by_cases hq:q=k
  ·simp[hq] at h⊢;exact h.symm
  ·simp only[zC hq,Bool.false_eq_true,if_false] at h⊢;exact RP h
theorem aah: ∀{t:List (Nat×AV)} {k:Nat} {av:AV},(k,av)∈Gl b sz n' row t->∃x,(k,x)∈t/\av=uU b sz n' row x
 |[],k,av,h=>by simp[Gl] at h
 |(q,u)::t,k,av,h=>by
  simp only[Gl] at h;rcases List.mem_cons.1 h with h|h
  ·cases h;exact⟨u,by simp,rfl⟩
  ·obtain⟨x,h1,h2⟩:=aah h;exact⟨x,List.mem_cons_of_mem _ h1,h2⟩
def O1(b sz n':Nat)(row:Nat->List D):aG->aG
 | .var cs=> .var (cs.map (uU b sz n' row))
 | .lp L st pd=> .lp { L with t:=Gl b sz n' row L.t } st pd
 |x=>x
theorem jF.unset{es:Array MapEntry}{cl:Nat}{d:Bool}{ks:List Key}{f:Key->AV}(h:jF w j es cl d ks f):jF w (j.set b none) es cl d ks f:=
 ⟨h.stamped,h.keys,h.kind,h.free,fun e hm k hk=>(h.rel e hm k hk).unset (CY _ _ (h.free k))⟩
theorem vI.unset{mb:Nat}{es:Array MapEntry}{cl:Nat}{seen:Array Nat}{left:List Key}{cur:Option Key}{f:Key->AV}(h:vI w j mb es cl seen left cur f):vI w (j.set b none) mb es cl seen left cur f:=
 ⟨h.lt,fun hm=>h.own (dL hm),h.heap,h.stamped,h.keys,h.cur,h.free,fun e hm k hk=>(h.rel e hm k hk).unset (CY _ _ (h.free k))⟩
theorem RB.sZ(hS:aT w j σ)(hb:σ[b]? =some (.arr sz n' row)){x:aG}{o:Option Nat}(h:RB w j x o):RB w (j.set b none) (O1 b sz n' row x) o:=by
 cases x with
 |dead=>simp[O1,RB]
 |loc c=>
  obtain⟨h1,h2,h3,m,h4⟩:=h;exact⟨h1,h2,fun hm=>h3 (dL hm),m,h4⟩
 |tab c vs=>
  obtain⟨h1,h2,h3,e,h4,h5⟩:=h;exact⟨h1,h2,fun hm=>h3 (dL hm),e,h4,h5⟩
 |arr sz0 n0 row0=>
  cases o with
  |none=>exact h
  |some cb=>
   obtain⟨C,e,h1,h2,h3⟩:=h;exact⟨C,e,h1,h2,fun i hi=>⟨(h3 i hi).1,fun k hk=>((h3 i hi).2 k hk).unset⟩⟩
 |lp L st pd=>
  cases o with
  |none=>exact h
  |some cb=>
   obtain⟨r,h1,h2,h3,h4⟩:=h;refine⟨r,h1,h2,h3,fun k av hk=> ?_⟩;obtain⟨x,hx,rfl⟩:=aah hk;exact⟨(h4 k x hx).1,(h4 k x hx).2.uU hS hb⟩
 |mp d ks f=>
  cases o with
  |none=>exact h
  |some cb=>
   obtain⟨es,cl,h1,h2⟩:=h;exact⟨es,cl,h1,h2.unset⟩
 |TT d ks f κ q=>
  cases o with
  |none=>exact h
  |some cb=>
   obtain⟨es,cl,h1,h2,hx⟩:=h;exact⟨es,cl,h1,h2.unset,hx⟩
 |it left cur f=>
  cases o with
  |none=>exact h
  |some cb=>
   obtain⟨mb,es,cl,seen,h1,h2⟩:=h;exact⟨mb,es,cl,seen,h1,h2.unset⟩
 |var cs=>
  cases o with
  |none=>exact h
  |some cb=>
   obtain⟨C,e,h1,h2,h3⟩:=h;refine⟨C,e,h1,by simpa using h2,fun k hk=> ?_⟩;simp only[List.length_map] at hk;have e1:(cs.map (uU b sz n' row)).getD k .undef=uU b sz n' row (cs.getD k .undef):=by
    simp[List.getD_eq_getElem?_getD,hk]
   rw[e1];exact(h3 k hk).uU hS hb
def aag(b sz n':Nat)(row:Nat->List D)(σ:List aG):List aG:=(σ.map (O1 b sz n' row)).set b .dead
theorem aT.sZ(hS:aT w j σ)(hb:σ[b]? =some (.arr sz n' row)):aT w (j.set b none) (aag b sz n' row σ) where
 len:=by simp[aag,hS.len]
 lt c cb h:=by
  rw[List.getElem?_set] at h;split at h
  ·split at h<;>simp at h
  ·exact hS.lt c cb h
 inj c c' cb h h':=by
  rw[List.getElem?_set] at h h';split at h
  ·split at h<;>simp at h
  ·split at h'
   ·split at h'<;>simp at h'
   ·exact hS.inj c c' cb h h'
 blk c x h:=by
  unfold aag at h;rw[List.getElem?_set] at h;by_cases hc:b=c
  ·subst hc;simp only[if_true,List.length_map] at h;split at h
   ·rename_i hlt;simp at h;subst h;exact⟨none,by rw[List.getElem?_set];simp[hS.len,hlt],trivial⟩
   ·simp at h
  ·simp only[hc,if_false,List.getElem?_map,Option.map_eq_some_iff] at h;obtain⟨y,hy,rfl⟩:=h;obtain⟨o,ho,hB⟩:=hS.blk c y hy;exact⟨o,by rw[List.getElem?_set];simp[hc,ho],hB.sZ hS hb⟩
end
theorem bK{P:Program}{c:Code}{Q:Exit->St->Prop}{N:Nat}{t t':List (Nat×AV)}{σ σ':List aG}{mv:List Nat}(b:Nat){sz n':Nat}{row:Nat->List D}(hb:σ[b]? =some (.arr sz n' row))(ht:Gl b sz n' row t=t')(hσ:aag b sz n' row σ=σ')
  (h:fA P c Q ⟨N,t',σ',b::mv⟩):fA P c Q ⟨N,t,σ,mv⟩:=by
 refine jS (s':=⟨N,t',σ',b::mv⟩) ?_ h;intro j0 j a w hr;subst ht hσ;have he:Ev j w (j.set b none) w:=⟨Nat.le_refl _,fun _ _ _=>rfl,fun c _ hm=>dL hm,fun _ _=>rfl,fun _ _=>rfl,rfl,rfl,rfl,fun _ r h=>⟨r,h⟩⟩;refine⟨j.set b none,⟨hr.defers.mono he,hr.jY,hr.size,fun k av hk=> ?_,hr.dA.sZ hb,by simpa using hr.len0,fun c hc hn=> ?_⟩,he⟩
 ·obtain⟨x,hx,rfl⟩:=RP hk;exact⟨(hr.tmp k x hx).1,(hr.tmp k x hx).2.uU hr.dA hb⟩
 ·simp at hn;rw[List.getElem?_set];rw[if_neg (fun e=>hn.1 e.symm)];exact hr.ag c hc hn.2
theorem frzM_id{b sz n':Nat}{row:Nat->List D} : ∀{t:List (Nat×AV)},(∀k av,(k,av)∈t->av.avoids [b]=true)->Gl b sz n' row t=t
 |[],_=>rfl
 |(q,u)::t,h=>by
  simp only[Gl];rw[frzM_id fun k av hk=>h k av (List.mem_cons_of_mem _ hk)];simp[uU,h q u (by simp)]
theorem PL: ∀(t:List (Nat×AV)) (k:Nat),(aU.del t k).length<=t.length
 |[],k=>by simp[aU.del]
 |(q,u)::t,k=>by
  simp only[aU.del];split
  ·have:=PL t k;simp;omega
  ·have:=PL t k;simp;omega
theorem UG(X:List Nat): ∀t:List (Nat×AV),(cZ X t).length<=t.length
 |[]=>by simp[cZ]
 |(q,u)::t=>by
  have:=UG X t;simp only[cZ];split
  ·simp;omega
  ·have:=PL (cZ X t) q;simp;omega
theorem DY{X:List Nat} : ∀{t:List (Nat×AV)},cZ X t=t->∀k av,(k,av)∈t->av.avoids X=true
 |[],_,_,_,h=>by simp at h
 |(q,u)::t,h,k,av,hm=>by
  simp only[cZ] at h;split at h
  ·rename_i hu;rcases List.mem_cons.1 hm with e|e
   ·cases e;exact hu
   ·exact DY (List.cons.inj h).2 k av e
  ·have h1:=congrArg List.length h;have h2:=PL (cZ X t) q;have h3:=UG X t;simp at h1;omega
theorem lS.sZ{σ:List aG}(h:lS σ)(k sz n':Nat)(row:Nat->List D):σ.map (O1 (σ.length+k) sz n' row)=σ:=by
 have hs:=h.one k;refine(List.map_congr_left fun x hx=> ?_).trans (List.map_id _);have hx':bQ [σ.length+k] x=x:=by
  obtain⟨i,hi,he⟩:=List.mem_iff_getElem.1 hx;have:=congrArg (fun l=>l[i]?) hs;simp[hi] at this;rw[←he];exact this
 cases x with
 |var cs=>
  simp only[O1,id,aG.var.injEq];simp only[bQ,aG.var.injEq] at hx';refine(List.map_congr_left fun c hc=> ?_).trans (List.map_id _);have:c.avoids [σ.length+k]=true:=by
   obtain⟨i,hi,he⟩:=List.mem_iff_getElem.1 hc;have:=congrArg (fun l=>l[i]?) hx';simp[hi] at this;rw[←he];by_cases ha:(cs[i]).avoids [σ.length+k]=true
   ·exact ha
   ·have:=this (by simpa using ha);rw[←this];rfl
  simp[uU,this]
 |lp L st pd=>
  simp only[bQ,aG.lp.injEq] at hx';have h2:cZ [σ.length+k] L.t=L.t:=congrArg jJ.t hx'.1;simp only[O1,id];rw[frzM_id (DY h2)]
 |arr a c d=>rfl
 |dead=>rfl
 |loc c=>rfl
 |tab c vs=>rfl
 |mp d ks f=>rfl
 |TT d ks f κ q=>rfl
 |it left cur f=>rfl
theorem lS.qH{σ:List aG}(h:lS σ)(sz n':Nat)(row:Nat->List D):σ.map (O1 σ.length sz n' row)=σ:=h.sZ 0 sz n' row
theorem dG{P:Program}{c:Code}{Q:Exit->St->Prop}{N:Nat}{t t':List (Nat×AV)}{σ:List aG}{mv:List Nat}(k sz:Nat)(row:Nat->List D)(hk:get t k=some (.d (.v (.slice none 0 0))))(ht:put t k (.ms σ.length sz 0 0)=t')
  (h:fA P c Q ⟨N,t',σ++[.arr sz 0 row],mv⟩):fA P c Q ⟨N,t,σ,mv⟩:=by
 refine jS (s':=⟨N,t',σ++[.arr sz 0 row],mv⟩) ?_ h;intro j0 j a w hr;subst ht;obtain⟨h1,h2,h3⟩:=hr.dA.PZ (sz:=sz) (rows:=row) (p:=none);refine⟨j++[none],⟨hr.defers.mono h3,hr.jY,hr.size,fun q av hq=> ?_,h1,by have:=hr.len0;simp;omega,fun c hc hn=> ?_⟩,h3⟩
 ·simp only at hq;rw[get_put] at hq;split at hq
  ·rename_i e;subst e;simp only[Option.some.injEq] at hq;subst hq;have:=hr.tmp k _ hk;refine⟨this.1,?_⟩;have hv:=lM this.2;rw[hv];exact h2
  ·exact⟨(hr.tmp q av hq).1,(hr.tmp q av hq).2.lZ h3 hr.dA.lt (dw _ _)⟩
 ·have:=hr.len0;rw[List.getElem?_append_left (by omega)];exact hr.ag c hc hn
theorem VJ{P:Program}{c:Code}{Q:Exit->St->Prop}{N:Nat}{t:List (Nat×AV)}{σ σ':List aG}{mv:List Nat}(v sz:Nat)(row:Nat->List D)(hv:σ[v]? =some (.var [.d (.v (.slice none 0 0))]))(hσ:σ.set v (.var [.ms σ.length sz 0 0])++[.arr sz 0 row]=σ')
  (h:fA P c Q ⟨N,t,σ',mv⟩):fA P c Q ⟨N,t,σ,mv⟩:=by
 refine jS (s':=⟨N,t,σ',mv⟩) ?_ h;intro j0 j a w hr;subst hσ;obtain⟨h1,h2,h3⟩:=hr.dA.PZ (sz:=sz) (rows:=row) (p:=none);have hvl:v<σ.length:=(List.getElem?_eq_some_iff.1 hv).1;refine⟨j++[none],⟨hr.defers.mono h3,hr.jY,hr.size,fun q av hq=>⟨(hr.tmp q av hq).1,(hr.tmp q av hq).2.lZ h3 hr.dA.lt (dw _ _)⟩,⟨by simp[hr.dA.len],h1.lt,h1.inj,fun b x hx=> ?_⟩,by have:=hr.len0;simp;omega,fun c hc hn=> ?_⟩,h3⟩
 ·rw[←List.set_append_left _ _ hvl,List.getElem?_set] at hx;split at hx
  ·rename_i e;subst e;split at hx
   ·simp only[Option.some.injEq] at hx;subst hx;obtain⟨o,ho,hB⟩:=h1.blk v (.var [.d (.v (.slice none 0 0))]) (by rw[List.getElem?_append_left hvl];exact hv);refine⟨o,ho,?_⟩;cases o with
    |none=>exact hB
    |some cb=>
     obtain⟨C,e,g1,g2,g3⟩:=hB;refine⟨C,e,g1,g2,fun k hk=> ?_⟩;have hk0:k=0:=by simpa using hk
     subst hk0;have h0:=lM (show R w (j++[none]) (.d (.v (.slice none 0 0))) (C.getD 0 Go.undef) from g3 0 (by simp));simp only[List.getD_cons_zero];rw[h0];exact h2
   ·simp at hx
  ·exact h1.blk b x hx
 ·have:=hr.len0;rw[List.getElem?_append_left (by omega)];exact hr.ag c hc hn
theorem CS.Zl{P:Program}{f:FuncId}{fn:Func}{c:Code}{args:List AV}{σ:List aG}{Q:AV->List aG->List Nat->Prop}(hen:dX P f=true)(hf:P.funcs[f]? =some fn)(hb:fn.body=some c)(hN:args.length<=fn.ntmps)
  (h:lS σ->fA P c (DZ P fn Q) (St.init fn.ntmps args σ)):CS P f args σ Q:=
 ⟨hen,fun j w vs hs hr=>(CS.Px hen hf hb hN (h hs.wf)).2 j w vs hs hr⟩
attribute [go_sem ↓] DZ
def under1(n:Nat):aG->Prop
 | .var cs=>iG n cs
 | .arr _ _ _=>True
 | .dead=>True
 | .loc _=>True
 | .tab _ _=>True
 | .mp _ _ _=>True
 | .TT _ _ _ _ _=>True
 | .it _ _ _=>True
 | .lp L _ _=> ∀k av,(k,av)∈L.t->av.under n
def lG(n:Nat):List aG->List aG->Prop
 |[],[]=>True
 |x::xs,y::ys=>(x=y\/under1 n y)/\lG n xs ys
 |_,_=>False
theorem under1_blk{n:Nat}{y:aG}(h:under1 n y):Dz n y:=by
 cases y with
 |var cs=>exact fun k hk=>nO h hk
 |arr a b c=>trivial
 |dead=>trivial
 |loc c=>trivial
 |tab c vs=>trivial
 |mp d ks f=>trivial
 |TT d ks f κ q=>trivial
 |it left cur f=>trivial
 |lp L st pd=>exact h
theorem tK{n:Nat} : ∀{xs ys:List aG},lG n xs ys->ys.length=xs.length/\∀(k:Nat) y,ys[k]? =some y->xs[k]? =some y\/Dz n y
 |[],[],_=>⟨rfl,by simp⟩
 |x::xs,y::ys,h=>by
  obtain⟨h1,h2⟩:=tK h.2;refine⟨by simp[h1],fun k z hz=> ?_⟩;cases k with
  |zero=>
   simp only[List.getElem?_cons_zero,Option.some.injEq] at hz⊢;subst hz;rcases h.1 with e|e
   ·exact .inl e
   ·exact .inr (under1_blk e)
  |succ k=>simpa using h2 k z (by simpa using hz)
 |[],_::_,h=>h.elim
 |_::_,[],h=>h.elim
theorem au{σ xs ys:List aG}(h:lG (σ.length+xs.length) xs ys):Leaves (σ++xs) (σ++ys):=by
 obtain⟨h1,h2⟩:=tK h;refine⟨by simp[h1],fun b x hx=> ?_⟩;rw[List.getElem?_append] at hx⊢;split at hx
 ·rename_i hb;rw[if_pos hb];exact .inl hx
 ·rename_i hb;rw[if_neg hb];rcases h2 _ _ hx with e|e
  ·exact .inl e
  ·exact .inr (.inl (by simpa using e))
theorem ay(n:Nat): ∀xs:List aG,lG n xs xs=True
 |[]=>rfl
 |x::xs=>by simp[lG,ay n xs]
attribute [go_sem] lG under1 ay
theorem Qi{N:Nat}{t:List (Nat×AV)}{σ σ':List aG}{mv:List Nat}(b n':Nat){sz n:Nat}{row:Nat->List D}(row':Nat->List D)(hb:σ[b]? =some (.arr sz n row))(hn:n'<=n)(hr: ∀i,i<n'->row i=row' i)(hσ:σ.set b (.arr sz n' row')=σ'):Sub ⟨N,t,σ,mv⟩ ⟨N,t,σ',mv⟩:=by
 intro j0 j a w h;subst hσ;refine⟨j,⟨h.defers,h.jY,h.size,h.tmp,⟨by simp[h.dA.len],h.dA.lt,h.dA.inj,fun c x hx=> ?_⟩,h.len0,h.ag⟩,.refl _ _⟩;simp only at hx;rw[List.getElem?_set] at hx;split at hx
 ·rename_i e;subst e;split at hx
  ·simp only[Option.some.injEq] at hx;subst hx;obtain⟨o,ho,hB⟩:=h.dA.blk b _ hb;refine⟨o,ho,?_⟩;cases o with
   |none=>
    have:n=0:=hB;show n'=0
    omega
   |some cb=>
    obtain⟨C,e,g1,g2,g3⟩:=hB;have hm:n'*sz<=n*sz:=Nat.mul_le_mul_right _ hn;exact⟨C,e,g1,by omega,fun i hi=>by rw[←hr i hi];exact g3 i (by omega)⟩
  ·simp at hx
 ·exact h.dA.blk c x hx
theorem YH{N:Nat}{t:List (Nat×AV)}{σ σ':List aG}{mv:List Nat}(b:Nat){sz n:Nat}{row:Nat->List D}(row':Nat->List D)(hb:σ[b]? =some (.arr sz n row))(hr: ∀i,i<n->row i=row' i)(hσ:σ.set b (.arr sz n row')=σ'):Sub ⟨N,t,σ,mv⟩ ⟨N,t,σ',mv⟩:=
 Qi b n row' hb (Nat.le_refl _) hr hσ
theorem qN{P:Program}{c:Code}{Q:Exit->St->Prop}{N:Nat}{t:List (Nat×AV)}{σ σ':List aG}{mv:List Nat}(b n':Nat){sz n:Nat}{row:Nat->List D}(row':Nat->List D)(hb:σ[b]? =some (.arr sz n row))(hn:n'<=n)(hr: ∀i,i<n'->row i=row' i)(hσ:σ.set b (.arr sz n' row')=σ')
  (h:fA P c Q ⟨N,t,σ',mv⟩):fA P c Q ⟨N,t,σ,mv⟩:=jS (Qi b n' row' hb hn hr hσ) h
theorem aY{P:Program}{c:Code}{Q:Exit->St->Prop}{N:Nat}{t:List (Nat×AV)}{σ σ':List aG}{mv:List Nat}(b:Nat){sz n:Nat}{row:Nat->List D}(row':Nat->List D)(hb:σ[b]? =some (.arr sz n row))(hr: ∀i,i<n->row i=row' i)(hσ:σ.set b (.arr sz n row')=σ')
  (h:fA P c Q ⟨N,t,σ',mv⟩):fA P c Q ⟨N,t,σ,mv⟩:=jS (YH b row' hb hr hσ) h
theorem XW(row rows:Nat->List D):bf 0 row rows=rows:=by funext i;simp[bf]
attribute [go_sem] XW rep Yc qW oneD
theorem Ei{α:Type}[Inhabited α]{enc:α->List D}{l:List α}{x:α}{ds:List D}{sz:Nat}(h:ds.take sz=enc x){i:Nat}(hi:i<l.length+1):bf l.length (fun i=>enc (nth l i)) (rowsOf sz ds) i=enc (nth (l++[x]) i):=by
 unfold bf;split
 ·rename_i h1;simp[nth,List.getElem?_append_left h1]
 ·rename_i h1;have:i=l.length:=by omega
  subst this;simp[rowsOf,nth,h]
theorem Y7(sz:Nat)(ds:List D):rowsOf sz ds 0=ds.take sz:=by simp[rowsOf]
attribute [go_sem] cZ bQ Y7
attribute [go_sem] Gl aag O1 uU sG O0 AV.avoids dQ
section
variable {P : Program} {c : Code} {Q : Exit -> St -> Prop} {N : Nat} {t t' : List (Nat × AV)} {σ σ' : List aG} {mv : List Nat}
theorem awp_mc(k:Nat){b sz lo n:Nat}(hk:get t k=some (.ms b sz lo n))(h: ∀q,n<=q->fA P c Q ⟨N,put t k (.mc b sz lo n q),σ,mv⟩):fA P c Q ⟨N,t,σ,mv⟩:=by
 intro j0 j a w hr;obtain⟨hkN,hv⟩:=hr.tmp k _ hk;have key: ∃(p:Option Addr) (q:Nat),a.tmps.getD k Go.undef= .slice p n q/\n<=q:=by
  revert hv
  generalize a.tmps.getD k Go.undef=v
  intro hv;cases hv with
  |ms q e m h1 h2 h3 h4=>exact⟨_,q,rfl,h3⟩
  |ms0 p h1=>exact⟨p,0,rfl,Nat.le_refl _⟩
  |vJ p e m h1 h2 h3 h4=>exact⟨p,0,rfl,Nat.le_refl _⟩
 obtain⟨p,q,hq,hn⟩:=key;refine h q hn j0 j a w ⟨hr.defers,hr.jY,hr.size,fun k' av hk'=> ?_,hr.dA,hr.len0,hr.ag⟩;simp only at hk';rw[get_put] at hk';split at hk'
 ·rename_i e;subst e;simp only[Option.some.injEq] at hk';subst hk';exact⟨hkN,.mc hv p hq⟩
 ·exact hr.tmp k' av hk'
theorem awp_room(k:Nat){b sz lo n q n':Nat}{row:Nat->List D}(hk:get t k=some (.mc b sz lo n q))(hb:σ[b]? =some (.arr sz n' row))(hn:n'<=lo+q)(h: ∀row',(∀i,i<n'->row' i=row i)->fA P c Q ⟨N,t,σ.set b (.arr sz (lo+q) row'),mv⟩):fA P c Q ⟨N,t,σ,mv⟩:=by
 intro j0 j a w hr;obtain⟨hkN,hv⟩:=hr.tmp k _ hk;obtain⟨o,ho,hB⟩:=hr.dA.blk b _ hb;have key: ∃row',(∀i,i<n'->row' i=row i)/\RB w j (.arr sz (lo+q) row') o:=by
  revert hv
  generalize a.tmps.getD k Go.undef=v
  intro hv;cases hv with|mc hv p hp=>
  have fin: ∀cb e m,j[b]? =some (some cb)->w.shape? cb=some (e,m)->(lo+q)*sz=m->∃row',(∀i,i<n'->row' i=row i)/\RB w j (.arr sz (lo+q) row') o:=by
   intro cb e m hj hs hm;rw[hj] at ho;cases ho
   obtain⟨C,e',⟨f,hC,xK⟩,hCs,I5⟩:=hB;have hfz:=Or.imp_left And.left xK;have hm':C.size=m:=by rw[oM hC] at hs;simp at hs;exact hs.2
   refine⟨fun i=>if i<n' then row i else(List.range sz).map fun r=> .v (C.getD (i*sz+r) Go.undef),fun i hi=>by simp[hi],C,e',⟨f,hC,xK⟩,by omega,fun i hi=> ?_⟩;by_cases hin:i<n'
   ·simp only[hin,if_true];exact I5 i hin
   ·simp only[hin,if_false];refine⟨by simp,fun r hr=> ?_⟩;have e1:((List.range sz).map fun r=>D.v (C.getD (i*sz+r) Go.undef)).getD r default= .v (C.getD (i*sz+r) Go.undef):=by
     simp[List.getD_eq_getElem?_getD,hr]
    rw[e1];exact .v _
  cases hv with
  | @ms _ _ _ _ cb q' e m h1 h2 h3 h4=>cases hp;exact fin cb e m h1 h2 h4
  |ms0 p' h1=>
   cases hp
   rw[h1] at ho;cases ho
   have:n'=0:=hB;exact⟨row,fun _ _=>rfl,rfl⟩
  | @vJ _ _ _ cb p' e m h1 h2 h3 h4=>cases hp;exact fin cb e m h1 h2 (by simpa using h4)
 obtain⟨row',h1,h2⟩:=key;refine h row' h1 j0 j a w ⟨hr.defers,hr.jY,hr.size,hr.tmp,⟨by simp[hr.dA.len],hr.dA.lt,hr.dA.inj,fun b' x hx=> ?_⟩,hr.len0,hr.ag⟩;rw[List.getElem?_set] at hx;split at hx
 ·rename_i e;subst e;split at hx<;>simp at hx;subst hx;exact⟨o,ho,h2⟩
 ·exact hr.dA.blk b' x hx
theorem UW{w:World}{j:Js}(hS:aT w j σ)(b:Nat):aT w (j.set b none) ((σ.map (bQ [b])).set b .dead)/\Ev j w (j.set b none) w/\Ag j (j.set b none) [b]:=by
 have he:Ev j w (j.set b none) w:=⟨Nat.le_refl _,fun _ _ _=>rfl,fun c _ hm=>dL hm,fun _ _=>rfl,fun _ _=>rfl,rfl,rfl,rfl,fun _ r h=>⟨r,h⟩⟩;have hag:Ag j (j.set b none) [b]:=fun q hq hn=>by
  simp at hn;rw[List.getElem?_set_ne (by omega)]
 refine⟨⟨by simp[hS.len],fun q cb hq=> ?_,fun q q' cb hq hq'=> ?_,fun q y hy=> ?_⟩,he,hag⟩
 ·rw[List.getElem?_set] at hq;split at hq
  ·split at hq<;>simp at hq
  ·exact hS.lt q cb hq
 ·rw[List.getElem?_set] at hq hq';split at hq
  ·split at hq<;>simp at hq
  ·split at hq'
   ·split at hq'<;>simp at hq'
   ·exact hS.inj q q' cb hq hq'
 ·rw[List.getElem?_set] at hy;split at hy
  ·rename_i e;subst e;simp only[List.length_map] at hy;split at hy<;>simp at hy;rename_i hlt;subst hy;exact⟨none,by rw[List.getElem?_set];simp[hS.len,hlt],trivial⟩
  ·rename_i e;simp only[List.getElem?_map,Option.map_eq_some_iff] at hy;obtain⟨y',hy',rfl⟩:=hy;obtain⟨o,ho,hB⟩:=hS.blk q y' hy';exact⟨o,by rw[List.getElem?_set];simp[e,ho],hB.monoX he hS.lt hag fun _ _=>rfl⟩
theorem yx(b:Nat)(ht:cZ [b] t=t')(hσ:(σ.map (bQ [b])).set b .dead=σ')(h:fA P c Q ⟨N,t',σ',mv++[b]⟩):fA P c Q ⟨N,t,σ,mv⟩:=by
 subst ht hσ;refine jS (s':=⟨N,cZ [b] t,(σ.map (bQ [b])).set b .dead,mv++[b]⟩) ?_ h;intro j0 j a w hr;obtain⟨h1,h2,h3⟩:=UW hr.dA b;exact⟨_,hr.after h2 h1 (by simp) h3,h2⟩
theorem yA(b:Nat){sz n':Nat}{row:Nat->List D}(hb:σ[b]? =some (.arr sz n' row))(ht:Gl b sz n' row t=t')(hσ:(σ.map (bQ [b])).set b .dead=σ')(h:fA P c Q ⟨N,t',σ',mv++[b]⟩):fA P c Q ⟨N,t,σ,mv⟩:=by
 subst ht hσ;refine jS (s':=⟨N,Gl b sz n' row t,(σ.map (bQ [b])).set b .dead,mv++[b]⟩) ?_ h;intro j0 j a w hr;obtain⟨h1,h2,h3⟩:=UW hr.dA b;refine⟨_,⟨hr.defers.mono h2,hr.jY,hr.size,fun k av hk=> ?_,h1,by simpa using hr.len0,hr.ag.trans hr.len0 h3⟩,h2⟩;obtain⟨x,hx,rfl⟩:=RP hk;exact⟨(hr.tmp k x hx).1,(hr.tmp k x hx).2.uU hr.dA hb⟩
theorem En(b:Nat){d:Bool}{ks ks':List Key}{f f':Key->AV}(hb:σ[b]? =some (.mp d ks f))(hk:ks.Perm ks')(hf: ∀k∈ks,Same (f k) (f' k))(hfree: ∀k,(f' k).free=true)(hσ:σ.set b (.mp d ks' f')=σ')(h:fA P c Q ⟨N,t,σ',mv⟩):fA P c Q ⟨N,t,σ,mv⟩:=by
 subst hσ;refine jS (s':=⟨N,t,σ.set b (.mp d ks' f'),mv⟩) ?_ h;intro j0 j a w hr;obtain⟨o,ho,hB⟩:=hr.dA.blk b _ hb;cases o with
 |none=>exact hB.elim
 |some cb=>
 obtain⟨es,cl,h1,h2⟩:=hB;refine⟨j,⟨hr.defers,hr.jY,hr.size,hr.tmp,⟨by simp[hr.dA.len],hr.dA.lt,hr.dA.inj,fun b' x hx=> ?_⟩,hr.len0,hr.ag⟩,.refl _ _⟩;rw[List.getElem?_set] at hx;split at hx
 ·rename_i e;subst e;split at hx<;>simp at hx;subst hx;refine⟨some cb,ho,es,cl,h1,h2.stamped,h2.keys.trans (hk.map _),fun k hk'=>h2.kind k (hk.mem_iff.2 hk'),hfree,fun e he k hke=> ?_⟩;exact hf k (h2.mem.2 ⟨e,he,hke⟩) w j _ (h2.rel e he k hke)
 ·exact hr.dA.blk b' x hx
end
theorem Same.agg{xs ys:List AV}(hl:xs.length=ys.length)(h: ∀k,k<xs.length->Same (xs.getD k .undef) (ys.getD k .undef)):Same (.agg xs) (.agg ys):=fun w j v hr=>by
 cases hr with
 |agg vs hs hv=>exact .agg vs (by rw[hs,hl]) fun k hk=>h k (by omega) w j _ (hv k (by omega))
theorem Y0(X:List Nat)(x:aG):bQ X (bQ X x)=bQ X x:=by
 cases x with
 |var cs=>
  simp only[bQ,List.map_map,aG.var.injEq];apply List.map_congr_left;intro c _;simp only[Function.comp];split
  ·rename_i h;simp
  ·simp[AV.avoids]
 |lp L st pd=>
  simp only[bQ,aG.lp.injEq,and_true];rw[KE fun k av h=>(uG h).2]
 |_=>rfl
theorem L6(X:List Nat):bQ X∘bQ X=bQ X:=by funext x;exact Y0 X x
theorem lS.parts{σ τ:List aG}{x:aG}(h:lS (σ++x::τ))(k:Nat):σ.map (bQ [(σ++x::τ).length+k])=σ/\τ.map (bQ [(σ++x::τ).length+k])=τ:=by
 have:=h.one k;rw[List.map_append,List.map_cons] at this;obtain⟨h1,h2⟩:=List.append_inj this (by simp);simp only[List.cons.injEq] at h2;exact⟨h1,h2.2⟩
end Go.aU
